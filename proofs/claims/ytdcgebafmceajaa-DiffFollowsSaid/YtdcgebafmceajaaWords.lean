/- Words for memory: a slice that reads as a list of cells; small lemmas for the walks. -/
import Derived.WalkKit
import Derived.WalkSpells
import Derived.WalkLawsBesides
import Derived.Deep.QuietTactic
import Derived.BigQuiet
import Derived.Lib.Hide
import Derived.Below
import Derived.Laws.OwnMore
import Derived.Deep.AppendLies
import Derived.Deep.Draws
import Derived.Laws.Rows
namespace Go.Proofs.Ytdcgebafmceajaa
open Go.RowKit

theorem block_of_add (a : Addr) (n : Nat) : (a.add n).block = a.block := by unfold Addr.add; split <;> rfl
theorem add_of_add (a : Addr) (i j : Nat) : (a.add i).add j = a.add (i + j) := by
  unfold Addr.add
  by_cases hi : i = 0 <;> by_cases hj : j = 0 <;> simp [hi, hj, Nat.add_assoc]

/-- A slice value '.slice A n c' whose cells are xs, below block B. -/
def Reads (w : World) (B size : Nat) (A : Option Addr) (n : Nat) (xs : List Value) : Prop :=
  xs.length = n * size ∧ (0 < n → ∃ b off, A = some ⟨b, off, none⟩ ∧ b < B ∧ ∀ j u, xs[j]? = some u → w.cell? ⟨b, off + j, none⟩ = some u)

/-- A difference constraint. -/
structure D where
  x : Int
  y : Int
  c : Int
  deriving DecidableEq, Inhabited

def dcells (l : List D) : List Value := l.flatMap fun d => [.int .i64 d.x, .int .i64 d.y, .int .i64 d.c]
def icells (l : List Int) : List Value := l.map fun n => .int .i64 n

theorem dcells_length (l : List D) : (dcells l).length = l.length * 3 := by
  induction l with
  | nil => rfl
  | cons d l ih => simp only [dcells, List.flatMap_cons, List.length_append, List.length_cons, List.length_nil] at *; omega

theorem dcells_get (l : List D) (i : Nat) (h : i < l.length) :
    (dcells l)[i * 3]? = some (.int .i64 l[i].x) ∧ (dcells l)[i * 3 + 1]? = some (.int .i64 l[i].y) ∧ (dcells l)[i * 3 + 2]? = some (.int .i64 l[i].c) := by
  induction l generalizing i with
  | nil => simp at h
  | cons d l ih =>
    cases i with
    | zero => simp [dcells]
    | succ i =>
      have := ih i (by simpa using h)
      simp only [dcells, List.flatMap_cons, Nat.succ_mul] at *
      simp only [show ∀ k, i * 3 + 3 + k = (i * 3 + k) + 3 from fun k => by omega, List.getElem_cons_succ]
      refine ⟨?_, ?_, ?_⟩
      · simpa using this.1
      · simpa using this.2.1
      · simpa using this.2.2

/-- A slice of constraints that came in. -/
structure IsD (w : World) (B : Nat) (A : Option Addr) (n : Nat) (l : List D) : Prop where
  len : l.length = n
  cells : 0 < n → ∃ b off, A = some ⟨b, off, none⟩ ∧ b < B ∧ ∀ i (h : i < l.length),
    w.cell? ⟨b, off + i * 3, none⟩ = some (.int .i64 l[i].x) ∧ w.cell? ⟨b, off + i * 3 + 1, none⟩ = some (.int .i64 l[i].y) ∧ w.cell? ⟨b, off + i * 3 + 2, none⟩ = some (.int .i64 l[i].c)

structure IsI (w : World) (B : Nat) (A : Option Addr) (n : Nat) (l : List Int) : Prop where
  len : l.length = n
  cells : 0 < n → ∃ b off, A = some ⟨b, off, none⟩ ∧ b < B ∧ ∀ i (h : i < l.length), w.cell? ⟨b, off + i, none⟩ = some (.int .i64 l[i])

section
variable {w w' : World} {B B' n : Nat} {A : Option Addr} {l : List D} {z : List Int}
theorem IsD.keep (h : IsD w B A n l) (hk : ∀ p : Addr, p.block < B → w'.cell? p = w.cell? p) : IsD w' B A n l :=
  ⟨h.len, fun hn => by
    obtain ⟨b, off, e, hb, hc⟩ := h.cells hn
    exact ⟨b, off, e, hb, fun i hi => by
      rw [hk ⟨b, _, none⟩ hb, hk ⟨b, _, none⟩ hb, hk ⟨b, _, none⟩ hb]
      exact hc i hi⟩⟩
theorem IsI.keep (h : IsI w B A n z) (hk : ∀ p : Addr, p.block < B → w'.cell? p = w.cell? p) : IsI w' B A n z :=
  ⟨h.len, fun hn => by
    obtain ⟨b, off, e, hb, hc⟩ := h.cells hn
    exact ⟨b, off, e, hb, fun i hi => by
      rw [hk ⟨b, _, none⟩ hb]
      exact hc i hi⟩⟩
theorem IsD.below (h : IsD w B A n l) (hb : Below B w w') : IsD w' B A n l := h.keep fun _ hp => hb.cell hp
theorem IsI.below (h : IsI w B A n z) (hb : Below B w w') : IsI w' B A n z := h.keep fun _ hp => hb.cell hp
theorem IsD.more (h : IsD w B A n l) (hB : B ≤ B') : IsD w B' A n l :=
  ⟨h.len, fun hn => by
    obtain ⟨b, off, e, hb, hc⟩ := h.cells hn
    exact ⟨b, off, e, by omega, hc⟩⟩
theorem IsI.more (h : IsI w B A n z) (hB : B ≤ B') : IsI w B' A n z :=
  ⟨h.len, fun hn => by
    obtain ⟨b, off, e, hb, hc⟩ := h.cells hn
    exact ⟨b, off, e, by omega, hc⟩⟩
end

def inB (m : Nat) (d : D) : Bool := decide (0 ≤ d.x) && decide (d.x < m) && decide (0 ≤ d.y) && decide (d.y < m)
def holdB (z : List Int) (d : D) : Bool := inB z.length d && decide (z.getD d.x.toNat 0 - z.getD d.y.toNat 0 ≤ d.c)

theorem all_take_succ {α : Type} (p : α → Bool) (l : List α) (k : Nat) (h : k < l.length) : (l.take (k + 1)).all p = ((l.take k).all p && p l[k]) := by
  rw [List.take_succ_eq_append_getElem h, List.all_append]; simp
theorem all_false_of {α : Type} (p : α → Bool) (l : List α) (k : Nat) (h : k < l.length) (hp : p l[k] = false) : l.all p = false := by
  rw [List.all_eq_false]; exact ⟨l[k], List.getElem_mem h, by simp [hp]⟩
theorem getD_of_lt (l : List Int) (i : Nat) (h : i < l.length) : l.getD i 0 = l[i] := by simp [List.getD, h]
theorem inB_iff (m : Nat) (d : D) : inB m d = true ↔ (0 ≤ d.x ∧ d.x < m) ∧ 0 ≤ d.y ∧ d.y < m := by
  unfold inB; simp only [Bool.and_eq_true, decide_eq_true_eq]; omega

theorem _root_.Go.RowKit.Below.drewN {B : Nat} {a w : World} (h : Below B a w) (n : Nat) : Below B a (w.drewN n) := ⟨h.os, h.tape, h.output, h.size, h.block⟩
/-- A loop's counter stands at k, and P k holds of the world. -/
def KI (P : Nat → World → Prop) (i : Value) (wr : World) : Prop := ∃ k : Nat, i = .int .i64 k ∧ P k wr

theorem ret_bool {a b : Bool} (h : a = b) : Ending.returned (.bool a) = .returned (.bool b) := by rw [h]


end Go.Proofs.Ytdcgebafmceajaa
