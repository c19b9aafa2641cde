/- Plain: negative cycles. -/
import Derived.Test.YtdcgebafmceajaaWords
namespace Go.Proofs.Ytdcgebafmceajaa

def rngB (l : List D) (k : Int) : Bool := decide (0 ≤ k ∧ k < l.length)
def at_ (l : List D) (k : Int) : D := l.getD k.toNat default
def lnkB (l : List D) (c : List Int) (i : Nat) : Bool := decide ((at_ l (c.getD i 0)).y = (at_ l (c.getD ((i + 1) % c.length) 0)).x)
def csum (l : List D) (c : List Int) : Int := (c.map fun k => (at_ l k).c).sum
def cycB (l : List D) (c : List Int) : Bool := !c.isEmpty && c.all (rngB l) && (List.range c.length).all (lnkB l c) && decide (csum l c < 0)

theorem at_eq (l : List D) (k : Int) (h : 0 ≤ k ∧ k < l.length) : at_ l k = l[k.toNat]'(by omega) := by
  unfold at_; rw [List.getD, List.getElem?_eq_getElem (by omega)]; rfl
theorem csum_succ (l : List D) (c : List Int) (i : Nat) (h : i < c.length) : csum l (c.take (i + 1)) = csum l (c.take i) + (at_ l c[i]).c := by
  unfold csum; rw [List.take_succ_eq_append_getElem h, List.map_append, List.sum_append]; simp
theorem csum_bound (l : List D) (c : List Int) (hb : ∀ d ∈ l, -1048577 ≤ d.c ∧ d.c ≤ 1048577) : -(c.length * 1048577 : Int) ≤ csum l c ∧ csum l c ≤ c.length * 1048577 := by
  have key : ∀ k, -1048577 ≤ (at_ l k).c ∧ (at_ l k).c ≤ 1048577 := by
    intro k
    unfold at_
    rw [List.getD]
    cases h : l[k.toNat]? with
    | none => simp [default]; decide
    | some d => exact hb d (List.mem_of_getElem? h)
  unfold csum
  induction c with
  | nil => simp
  | cons a c ih =>
    have := key a
    simp only [List.map_cons, List.sum_cons, List.length_cons]
    omega
theorem range_all_succ (p : Nat → Bool) (i : Nat) : (List.range (i + 1)).all p = ((List.range i).all p && p i) := by
  rw [List.range_succ, List.all_append]; simp
theorem range_all_false (p : Nat → Bool) (n i : Nat) (h : i < n) (hp : p i = false) : (List.range n).all p = false := by
  rw [List.all_eq_false]; exact ⟨i, List.mem_range.2 h, by simp [hp]⟩
theorem cyc_no_rng (l : List D) (c : List Int) (i : Nat) (h : i < c.length) (hr : ¬ (0 ≤ c[i] ∧ c[i] < l.length)) : cycB l c = false := by
  have : c.all (rngB l) = false := all_false_of _ c i h (by simp only [rngB, decide_eq_false_iff_not]; exact hr)
  simp [cycB, this]
theorem cyc_no_lnk (l : List D) (c : List Int) (i : Nat) (h : i < c.length) (hr : lnkB l c i = false) : cycB l c = false := by
  have : (List.range c.length).all (lnkB l c) = false := range_all_false _ _ i h hr
  simp [cycB, this]
theorem cyc_end (l : List D) (c : List Int) (h0 : 0 < c.length) (h1 : c.all (rngB l) = true) (h2 : (List.range c.length).all (lnkB l c) = true) : cycB l c = decide (csum l c < 0) := by
  have : c.isEmpty = false := by cases c <;> simp_all
  simp [cycB, this, h1, h2]
theorem lnk_eq (l : List D) (c : List Int) (i j : Nat) (hi : i < c.length) (hj : j = (i + 1) % c.length) (hj' : j < c.length) :
    lnkB l c i = decide ((at_ l c[i]).y = (at_ l c[j]).x) := by
  subst hj
  unfold lnkB
  rw [getD_of_lt _ _ hi, getD_of_lt _ _ hj']
theorem at_bound (l : List D) (hb : ∀ d ∈ l, -1048577 ≤ d.c ∧ d.c ≤ 1048577) (k : Int) (h : 0 ≤ k ∧ k < l.length) : -1048577 ≤ (at_ l k).c ∧ (at_ l k).c ≤ 1048577 := by
  rw [at_eq l k h]; exact hb _ (List.getElem_mem _)
theorem IsD.at_ {w : World} {B n : Nat} {A : Option Addr} {l : List D} (h : IsD w B A n l) {b off : Nat} (hA : A = some ⟨b, off, none⟩) (k : Int) (hk : 0 ≤ k ∧ k < l.length) :
    w.cell? ⟨b, off + k.toNat * 3, none⟩ = some (.int .i64 (Ytdcgebafmceajaa.at_ l k).x) ∧ w.cell? ⟨b, off + k.toNat * 3 + 1, none⟩ = some (.int .i64 (Ytdcgebafmceajaa.at_ l k).y) ∧ w.cell? ⟨b, off + k.toNat * 3 + 2, none⟩ = some (.int .i64 (Ytdcgebafmceajaa.at_ l k).c) := by
  obtain ⟨b', off', e, _, hc⟩ := h.cells (by have := h.len; omega)
  rw [hA] at e
  injection e with e
  injection e with e1 e2
  subst e1 e2
  rw [at_eq l k hk]
  exact hc k.toNat (by omega)
theorem rng_of_all (l : List D) (c : List Int) (h : c.all (rngB l) = true) (i : Nat) (hi : i < c.length) : 0 ≤ c[i] ∧ c[i] < l.length := by
  have := List.all_eq_true.1 h c[i] (List.getElem_mem hi)
  simpa [rngB] using this
end Go.Proofs.Ytdcgebafmceajaa
