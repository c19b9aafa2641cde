/- The contract of slices.Clone at lists of constraints. -/
import Derived.Test.YtdcgebafmceajaaMem
import Derived.Test.YtdcgebafmceajaaProg
import Derived.Maps.AppendAt
namespace Go.Proofs.Ytdcgebafmceajaa
open Go.RowKit
set_option linter.unusedVariables false

theorem diff_info : (Try.prog.info? 36).map (fun i => (i.zero, i.size, i.bytes)) = some (some (.agg #[.int .i64 0, .int .i64 0, .int .i64 0]), 3, 24) := by kernel_rfl
theorem one_dcells (l : List D) : ∀ u ∈ dcells l, u.oneCell' = true := by
  intro u hu
  simp only [dcells, List.mem_flatMap, List.mem_cons, List.not_mem_nil, or_false] at hu
  obtain ⟨d, _, rfl | rfl | rfl⟩ := hu <;> rfl
theorem dcells_append (l r : List D) : dcells (l ++ r) = dcells l ++ dcells r := by simp [dcells]
theorem dcells_one (d : D) : dcells [d] = [.int .i64 d.x, .int .i64 d.y, .int .i64 d.c] := rfl
theorem dcells_at {l : List D} {j : Nat} {u : Value} (h : (dcells l)[j]? = some u) : ∃ (i k : Nat) (hi : i < l.length), j = i * 3 + k ∧ k < 3 ∧ ((k = 0 ∧ u = .int .i64 l[i].x) ∨ (k = 1 ∧ u = .int .i64 l[i].y) ∨ (k = 2 ∧ u = .int .i64 l[i].c)) := by
  have hj : j < (dcells l).length := by
    rcases Nat.lt_or_ge j (dcells l).length with h1 | h1
    · exact h1
    · rw [List.getElem?_eq_none h1] at h; cases h
  rw [dcells_length] at hj
  have hi : j / 3 < l.length := by omega
  obtain ⟨g0, g1, g2⟩ := dcells_get l (j / 3) hi
  refine ⟨j / 3, j % 3, hi, by omega, by omega, ?_⟩
  have h3 : j % 3 = 0 ∨ j % 3 = 1 ∨ j % 3 = 2 := by omega
  rcases h3 with e | e | e
  · rw [show j = j / 3 * 3 by omega, g0] at h; exact .inl ⟨e, by injection h with h; exact h.symm⟩
  · rw [show j = j / 3 * 3 + 1 by omega, g1] at h; exact .inr (.inl ⟨e, by injection h with h; exact h.symm⟩)
  · rw [show j = j / 3 * 3 + 2 by omega, g2] at h; exact .inr (.inr ⟨e, by injection h with h; exact h.symm⟩)
theorem addr_add (b off j : Nat) : (⟨b, off, none⟩ : Addr).add j = ⟨b, off + j, none⟩ := by
  unfold Addr.add; split
  · rename_i h; subst h; rfl
  · rfl
/-- What an append of such a list asks. -/
theorem IsD.news {w : World} {B n b off : Nat} {l : List D} (h : IsD w B (some ⟨b, off, none⟩) n l) : ∀ j u, (dcells l)[j]? = some u → w.cell? ((⟨b, off, none⟩ : Addr).add j) = some u := by
  intro j u hu
  obtain ⟨i, k, hi, rfl, _, hk⟩ := dcells_at hu
  obtain ⟨b', off', e, _, hc⟩ := h.cells (by have := h.len; omega)
  injection e with e
  injection e with e1 e2
  subst e1 e2
  obtain ⟨c0, c1, c2⟩ := hc i hi
  rw [addr_add]
  rcases hk with ⟨rfl, rfl⟩ | ⟨rfl, rfl⟩ | ⟨rfl, rfl⟩
  · exact c0
  · rw [← Nat.add_assoc]; exact c1
  · rw [← Nat.add_assoc]; exact c2
theorem isD_of_own {w : World} {base n : Nat} {v : Value} {l : List D} (h : w.ownsRow base 36 3 v n (dcells l)) (hn : l.length = n) : ∃ A c, v = .slice A n c ∧ IsD w w.heap.size A n l := by
  rcases h.2 with ⟨rfl, rfl⟩ | ⟨g, cap, cur, rfl, hg, hh, _⟩
  · exact ⟨none, 0, rfl, hn, fun h => absurd h (by omega)⟩
  · refine ⟨_, _, rfl, hn, fun h0 => ⟨g, 0, rfl, (h.lt g rfl).2, fun i hi => ?_⟩⟩
    obtain ⟨g0, g1, g2⟩ := dcells_get l i hi
    have k0 := h.cells (g := g) rfl _ _ g0
    have k1 := h.cells (g := g) rfl _ _ g1
    have k2 := h.cells (g := g) rfl _ _ g2
    rw [addr_add] at k0 k1 k2
    simp only [Nat.zero_add] at k0 k1 k2 ⊢
    exact ⟨k0, k1, k2⟩

/-- A value that is a row of the call's own, of constraints. -/
def OwnD (l : List D) (w : World) (e : Ending) (w' : World) : Prop := ∃ v, e = .returned v ∧ w'.ownsRow w.heap.size 36 3 v l.length (dcells l) ∧ Below w.heap.size w w'

set_option maxHeartbeats 400000 in
theorem clone_any (b off n c1 : Nat) (l : List D) (w : World) (hl : IsD w w.heap.size (some ⟨b, off, none⟩) n l) (hn : n ≤ 1000) :
    Calls Try.prog 30 #[.slice (some ⟨b, off, none⟩) n c1] w (OwnD l w) := by
  have hll := hl.len
  obtain ⟨i0, hi0, hz0, hz1, hz2⟩ := info_parts diff_info
  have he := fun (W : World) => Lib.run_eql_slice_nil (P := Try.prog) W 22 36 (some ⟨b, off, none⟩) n c1 0 0 Try.underlying22
  have hlw : IsD (w.alloc (.cells #[] 36)) w.heap.size (some ⟨b, off, none⟩) n l := hl.below ((Below.refl _ _).alloc (Nat.le_refl _) _)
  have HOWN : Hid ((w.alloc (.cells #[] 36)).ownsRow w.heap.size 36 3 (.slice (some ⟨w.heap.size, 0, none⟩) 0 0) 0 []) :=
    ⟨rfl, .inr ⟨w.heap.size, 0, #[], rfl, Nat.le_refl _, heap_alloc_new w _, Nat.le_refl _, by simp [maxLen], rfl, rfl⟩⟩
  have HNEWS := Lib.hid hlw.news
  have HLEN : Hid ((dcells l).length = n * 3) := by show _ = _; rw [dcells_length, hll]
  clear hlw
  go_enter Try.func30, Try.ntmps30
  go_wp2_with (at_builtin; go_must (refine wpList_append_own _ rfl (.tmp 5) (.tmp 6) 22 rfl w.heap.size 36 i0 _ 3 24 Try.underlying22 hi0 hz0 hz1 hz2 rfl (by decide) (.slice (some ⟨w.heap.size, 0, none⟩) 0 0) 0 [] rfl HOWN.out ⟨b, off, none⟩ n c1 (dcells l) rfl HLEN.out HNEWS.out (one_dcells l) (by simp only [maxLen]; omega) (by omega) (by simp) ?_; intro v1 w1 hown1 hg1 _; have HW1 := Lib.hid hown1; have HG1 := Lib.hid hg1; clear hown1 hg1))
  go_ret
  refine ⟨v1, rfl, ?_, ((Below.refl _ _).alloc (Nat.le_refl _) _).grown HG1.out (by simp) (by intro k hk; simp [Value.ownBlock] at hk; omega)⟩
  have := HW1.out
  rw [Nat.zero_add, List.nil_append] at this
  rw [hll]
  exact this
end Go.Proofs.Ytdcgebafmceajaa
