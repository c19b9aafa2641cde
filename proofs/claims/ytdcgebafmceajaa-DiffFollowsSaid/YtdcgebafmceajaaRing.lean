/- Rows of the call's own, two side by side; slices of int8 that came in. -/
import Derived.Test.YtdcgebafmceajaaOpen
import Derived.Test.YtdcgebafmceajaaREntails
namespace Go.Proofs.Ytdcgebafmceajaa
open Go.ChangeShapes Go.WideShapes Go.ChangeAt Go.RowKit Go.Deep
set_option linter.unusedVariables false

/-- A slice of int8 that came in. -/
structure IsI8 (w : World) (B : Nat) (A : Option Addr) (n : Nat) (l : List Int) : Prop where
  len : l.length = n
  bound : ∀ v ∈ l, -128 ≤ v ∧ v ≤ 127
  cells : 0 < n → ∃ b off, A = some ⟨b, off, none⟩ ∧ b < B ∧ ∀ i (h : i < l.length), w.cell? ⟨b, off + i, none⟩ = some (.int .i8 l[i])
theorem IsI8.below {w w' : World} {B n : Nat} {A : Option Addr} {l : List Int} (h : IsI8 w B A n l) (hb : Below B w w') : IsI8 w' B A n l :=
  ⟨h.len, h.bound, fun hn => by
    obtain ⟨b, off, e, hlt, hc⟩ := h.cells hn
    exact ⟨b, off, e, hlt, fun i hi => by rw [hb.cell (p := ⟨b, _, none⟩) hlt]; exact hc i hi⟩⟩

theorem open_i8s {H : Type} {enc : TypeId × Value → H} {W : World} {base fuel : Nat} {spare : Nat → Bool} {held : Bool} {A : Option Addr} {len cap : Nat} {x : DataW H × List MemPlace}
    (h : DataW.trod enc Try.prog W base spare held fuel 43 [.slice A len cap] = some x) (hsp : spare = fun _ => true) : len ≤ 9223372036854775807 ∧ ∃ l, IsI8 W W.heap.size A len l := by
  rcases open_ints Try.underlying43 Try.underlying38 (by kernel_rfl) h with ⟨hcs, _⟩ | ⟨a, l', c', zs, hcs, _, hl, hm, hz, _, hcell, hwz⟩
  · simp only [List.cons.injEq, Value.slice.injEq, and_true] at hcs
    obtain ⟨rfl, rfl, rfl⟩ := hcs
    exact ⟨by omega, [], rfl, by simp, fun h => absurd h (by omega)⟩
  · simp only [List.cons.injEq, Value.slice.injEq, and_true] at hcs
    obtain ⟨rfl, rfl, rfl⟩ := hcs
    subst hsp
    simp only [if_true] at hz
    refine ⟨by unfold maxLen at hm; omega, zs.take len, by simp; omega, fun v hv => ?_, fun h0 => ?_⟩
    · have := hwz v (List.mem_of_mem_take hv)
      exact bounds_i8 this
    · have h00 := hcell 0 (by omega)
      obtain ⟨b, off, spot⟩ := a
      have hs : spot = none := by simpa [Addr.add] using addr_none h00
      subst hs
      refine ⟨b, off, rfl, ?_, fun i hi => ?_⟩
      · have := World.block_lt_of_cell? W _ h00
        rw [add_mk] at this
        exact this
      · simp only [List.length_take] at hi
        have := hcell i (by omega)
        rw [add_mk] at this
        rw [this, List.getElem_take, getD_of_lt _ _ (by omega)]

/-- Two rows of the call's own whose element types differ lie in different blocks. -/
theorem own_ne {w : World} {b1 b2 e1 e2 s1 s2 n1 n2 : Nat} {v1 v2 : Value} {xs1 xs2 : List Value} (h1 : w.ownsRow b1 e1 s1 v1 n1 xs1) (h2 : w.ownsRow b2 e2 s2 v2 n2 xs2) (hne : e1 ≠ e2) : v1.ownBlock = none ∨ v1.ownBlock ≠ v2.ownBlock := by
  rcases h1.2 with ⟨rfl, _⟩ | ⟨g1, cap1, cur1, rfl, _, hh1, _⟩
  · exact .inl rfl
  · refine .inr ?_
    rcases h2.2 with ⟨rfl, _⟩ | ⟨g2, cap2, cur2, rfl, _, hh2, _⟩
    · simp [Value.ownBlock]
    · intro e
      have : g1 = g2 := by simpa [Value.ownBlock] using e
      subst this
      rw [hh1] at hh2
      injection hh2 with h3
      injection h3 with _ h4
      exact hne h4
/-- The other row is kept where one row grows. -/
theorem own_other {w w' : World} {b1 b2 e1 e2 s1 s2 n1 n2 : Nat} {v1 v2 : Value} {xs1 xs2 : List Value} (h1 : w.ownsRow b1 e1 s1 v1 n1 xs1) (h2 : w.ownsRow b2 e2 s2 v2 n2 xs2) (hne : e1 ≠ e2) (hg : w.grownBy w' v2.ownBlock) : w'.ownsRow b1 e1 s1 v1 n1 xs1 :=
  h1.kept hg (own_ne h1 h2 hne)
end Go.Proofs.Ytdcgebafmceajaa
