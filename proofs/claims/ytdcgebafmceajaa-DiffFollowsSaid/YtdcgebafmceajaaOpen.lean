/- Arguments that are slices of constraints or of integers, read as lists. -/
import Derived.Test.YtdcgebafmceajaaRows
import Derived.Test.YtdcgebafmceajaaWords
import Derived.ProofKit
import Derived.OpenShut
import Derived.ChangeOld
import Derived.Deep.Slices
import Derived.Deep.Fields
import Derived.ChangeSame
namespace Go.Proofs.Ytdcgebafmceajaa
open Go.ChangeShapes Go.WideShapes Go.ChangeAt Go.RowKit Go.Deep
set_option linter.unusedVariables false

theorem own : ownKnob Try.prog.godebug = none := by kernel_rfl
theorem laidOut : laidOutB Try.prog = true := by kernel_rfl

section
variable {H : Type} {enc : TypeId × Value → H} {P : Program} {w : World} {base : Nat} {spare : Nat → Bool} {held : Bool}
theorem open_slice_fields {t e : TypeId} {fs : Array Field} {fuel : Nat} {cs : List Value} {x : DataW H × List MemPlace} (ht : P.underlying t = some (.slice e)) (he : P.underlying e = some (.struct fs))
    (hone : oneCellFields P fs = true) (hC : P.cellsOf e = fs.size) (h : DataW.trod enc P w base spare held fuel t cs = some x) :
    (cs = [.slice none 0 0] ∧ x = (.nil, [])) ∨
    ∃ (a : Addr) (len cap m : Nat), cs = [.slice (some a) len cap] ∧ len ≤ cap ∧ cap ≤ maxLen ∧ m = (if spare a.block then cap else len) ∧
      ∀ i, i < m → ∃ (n : Nat),
        ∀ (j : Nat) (f : Field), fs[j]? = some f → ∃ (v : Value) (y : DataW H × List MemPlace), w.cell? (a.add (i * fs.size + j)) = some v ∧ DataW.trod enc P w base spare held n f.type [v] = some y := by
  rcases open_slice ht h with h0 | ⟨a, len, cap, m, n, D, Pl, hcs, hb, hl, hm, hmm, hx, hi⟩
  · exact .inl h0
  · refine .inr ⟨a, len, cap, m, hcs, hl, hm, hmm, fun i him => ?_⟩
    obtain ⟨cs', hc, ht'⟩ := hi i him
    rw [hC] at hc
    obtain ⟨ys, n', hn', hy, hlen, hyl, hf⟩ := DataW.trod_struct he ht'
    obtain ⟨_, hcl, hat⟩ := World.cells?_some hc
    refine ⟨n', fun j f hj => ?_⟩
    obtain ⟨ho, hk⟩ := hone_of hone j f hj
    have hjl : j < fs.size := (Array.getElem?_eq_some_iff.1 hj).1
    have hcell := hat j hjl
    have hv : cs'[j]? = some (cs'[j]'(by omega)) := List.getElem?_eq_getElem (by omega)
    have h1 := hf j f hj
    rw [ho, hk] at h1
    have hone' : (cs'.drop j).take 1 = [cs'[j]'(by omega)] := by
      rw [List.drop_eq_getElem_cons (by omega)]
      rfl
    rw [hone'] at h1
    have hys : ys[j]? = some (ys[j]'(by omega)) := List.getElem?_eq_getElem (by omega)
    refine ⟨_, _, ?_, h1.trans hys⟩
    rw [← Go.Deep.add_add, hcell, hv]
end

/-- The list whose i-th member is f i. -/
def listOf (n : Nat) (f : Nat → D) : List D := (List.range n).map f
theorem addr_none {w : World} {a : Addr} {v : Value} (h : w.cell? a = some v) : a.spot = none := by simpa using World.cell?_spot h

theorem add_mk {b off n : Nat} : (⟨b, off, none⟩ : Addr).add n = ⟨b, off + n, none⟩ := by
  unfold Addr.add; split
  · rename_i h; subst h; rfl
  · rfl

theorem open_diffs {H : Type} {enc : TypeId × Value → H} {W : World} {base fuel : Nat} {spare : Nat → Bool} {held : Bool} {A : Option Addr} {len cap : Nat} {x : DataW H × List MemPlace}
    (h : DataW.trod enc Try.prog W base spare held fuel 22 [.slice A len cap] = some x) (hsp : spare = fun _ => true) : len ≤ 9223372036854775807 ∧ ∃ l, IsD W W.heap.size A len l := by
  rcases open_slice_fields Try.underlying22 Try.underlying36 (by kernel_rfl) (by kernel_rfl) h with ⟨h0, _⟩ | ⟨a, len', cap', m, hcs, hl, hm, hmm, hi⟩
  · simp only [List.cons.injEq, Value.slice.injEq, and_true] at h0
    obtain ⟨rfl, rfl, rfl⟩ := h0
    exact ⟨by omega, [], rfl, fun h => absurd h (by omega)⟩
  · simp only [List.cons.injEq, Value.slice.injEq, and_true] at hcs
    obtain ⟨rfl, rfl, rfl⟩ := hcs
    subst hsp
    simp only [if_true] at hmm
    subst hmm
    have key : ∀ i, ∃ d : D, i < len → W.cell? (a.add (i * 3)) = some (.int .i64 d.x) ∧ W.cell? (a.add (i * 3 + 1)) = some (.int .i64 d.y) ∧ W.cell? (a.add (i * 3 + 2)) = some (.int .i64 d.c) := by
      intro i
      by_cases hil : i < len
      case neg => exact ⟨default, fun h => absurd h hil⟩
      obtain ⟨n, hf⟩ := hi i (by omega)
      obtain ⟨v0, y0, c0, t0⟩ := hf 0 _ rfl
      obtain ⟨v1, y1, c1, t1⟩ := hf 1 _ rfl
      obtain ⟨v2, y2, c2, t2⟩ := hf 2 _ rfl
      obtain ⟨a0, e0, _⟩ := DataW.trod_int Try.underlying3 t0
      obtain ⟨a1, e1, _⟩ := DataW.trod_int Try.underlying3 t1
      obtain ⟨a2, e2, _⟩ := DataW.trod_int Try.underlying3 t2
      simp only [List.cons.injEq, and_true] at e0 e1 e2
      subst e0 e1 e2
      exact ⟨⟨a0, a1, a2⟩, fun _ => ⟨c0, c1, c2⟩⟩
    obtain ⟨F, hF⟩ := Classical.axiomOfChoice key
    refine ⟨by unfold maxLen at hm; omega, listOf len F, by simp [listOf], fun h0 => ?_⟩
    have hd0 := (hF 0 h0).1
    obtain ⟨b, off, spot⟩ := a
    have hs : spot = none := by simpa [Addr.add] using addr_none hd0
    subst hs
    refine ⟨b, off, rfl, ?_, fun i hi => ?_⟩
    · have := World.block_lt_of_cell? W _ hd0
      rw [add_mk] at this
      exact this
    · simp only [listOf, List.length_map, List.length_range] at hi
      simp only [listOf, List.getElem_map, List.getElem_range]
      have := hF i hi
      simp only [add_mk, ← Nat.add_assoc] at this
      exact this

theorem open_intsI {H : Type} {enc : TypeId × Value → H} {W : World} {base fuel : Nat} {spare : Nat → Bool} {held : Bool} {A : Option Addr} {len cap : Nat} {x : DataW H × List MemPlace}
    (h : DataW.trod enc Try.prog W base spare held fuel 25 [.slice A len cap] = some x) (hsp : spare = fun _ => true) : len ≤ 9223372036854775807 ∧ ∃ l, IsI W W.heap.size A len l := by
  rcases open_ints Try.underlying25 Try.underlying3 (by kernel_rfl) h with ⟨hcs, _⟩ | ⟨a, l', c', zs, hcs, _, hl, hm, hz, _, hcell, hwz⟩
  · simp only [List.cons.injEq, Value.slice.injEq, and_true] at hcs
    obtain ⟨rfl, rfl, rfl⟩ := hcs
    exact ⟨by omega, [], rfl, fun h => absurd h (by omega)⟩
  · simp only [List.cons.injEq, Value.slice.injEq, and_true] at hcs
    obtain ⟨rfl, rfl, rfl⟩ := hcs
    subst hsp
    simp only [if_true] at hz
    refine ⟨by unfold maxLen at hm; omega, zs.take len, by simp; omega, fun h0 => ?_⟩
    have h00 := hcell 0 (by omega)
    obtain ⟨b, off, spot⟩ := a
    have hs : spot = none := by simpa [Addr.add] using addr_none h00
    subst hs
    refine ⟨b, off, rfl, ?_, fun i hi => ?_⟩
    · have := World.block_lt_of_cell? W _ h00
      rw [add_mk] at this
      exact this
    · simp only [List.length_take] at hi
      have := hcell i (by omega)
      rw [add_mk] at this
      rw [this, List.getElem_take, getD_of_lt _ _ (by omega)]
end Go.Proofs.Ytdcgebafmceajaa
