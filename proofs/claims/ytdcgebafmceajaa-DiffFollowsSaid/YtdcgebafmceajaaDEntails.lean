/- The contract of interleave/diff.Entails. -/
import Derived.Test.YtdcgebafmceajaaREntails
import Derived.Test.YtdcgebafmceajaaSolve
namespace Go.Proofs.Ytdcgebafmceajaa
open Go.RowKit Go.Deep
set_option linter.unusedVariables false

theorem fits_of_ok {l : List D} {n : Nat} (hok : Ok l n) (hn : n ≤ 32) : fits0 n l = true := by
  simp only [fits0, Bool.and_eq_true, decide_eq_true_eq, Bool.not_eq_true']
  refine ⟨by omega, ?_⟩
  rw [List.any_eq_false]
  intro d hd
  have := hok d hd
  simp only [outI, inI, Bool.not_eq_true', decide_eq_false_iff_not]
  omega
theorem isD_blk {w : World} {g : Nat} {d : D} (h : Blk w g 36 [.int .i64 d.x, .int .i64 d.y, .int .i64 d.c]) : IsD w w.heap.size (some ⟨g, 0, none⟩) 1 [d] := by
  refine ⟨rfl, fun _ => ⟨g, 0, rfl, h.lt, fun i hi => ?_⟩⟩
  obtain rfl : i = 0 := by simpa using hi
  exact ⟨h.cell 0, h.cell 1, h.cell 2⟩
/-- What Solve says of a system, in one bool. -/
theorem notB_of_so (l : List D) (n : Nat) {w w' : World} {e : Ending} (h : SoPost l n w e w') :
    ∃ A k c A' k' c', e = .returned (.tuple #[.slice A k c, .slice A' k' c', .bool (!notB l n)]) ∧ Below w.heap.size w w' := by
  obtain ⟨hb, h⟩ := h
  rcases h with ⟨h1, g, h2, _⟩ | ⟨h1, A, c, xs, h2, _⟩
  · have : notB l n = false := by simp [notB]; exact h1
    exact ⟨_, _, _, _, _, _, by rw [this]; exact h2, hb⟩
  · have : notB l n = true := by simpa [notB] using h1
    exact ⟨_, _, _, _, _, _, by rw [this]; exact h2, hb⟩

set_option maxRecDepth 100000 in
set_option maxHeartbeats 1600000 in
theorem dentails_any (b off n m c1 : Nat) (l : List D) (d : D) (w : World) (hl : IsD w w.heap.size (some ⟨b, off, none⟩) m l) (hm : m ≤ 900) (hm0 : 0 < m) (hn : n ≤ 32) (hok : Ok (l ++ [opp d]) n) (hap : Apart (l ++ [opp d]))
    (hd : -1048577 ≤ d.c ∧ d.c ≤ 1048576) :
    Calls Try.prog 17 #[.int .i64 n, .slice (some ⟨b, off, none⟩) m c1, .agg #[.int .i64 d.x, .int .i64 d.y, .int .i64 d.c]] w fun e w' => e = .returned (.bool (notB (l ++ [opp d]) n)) ∧ Below w.heap.size w w' := by
  have hll := hl.len
  obtain ⟨i0, hi0, hz0, hz1, hz2⟩ := info_parts diff_info
  have hok1 : Ok l n := fun e he => hok e (by simp [he])
  have hf1 := fits_of_ok hok1 hn
  have hdo := hok (opp d) (by simp)
  obtain ⟨x, y, c⟩ := d
  dsimp only [opp] at hdo hd
  have hok2 : Ok [⟨x, y, c⟩] n := by
    intro e he
    simp only [List.mem_singleton] at he
    subst he
    dsimp only
    omega
  have hf2 := fits_of_ok hok2 hn
  dsimp only at *
  have HOPP : Hid (opp ⟨x, y, c⟩ = ⟨y, x, -c - 1⟩) := rfl
  obtain ⟨hd1, hd2⟩ := hd
  have HF1 := Lib.hid hf1
  have HF2 := Lib.hid hf2
  have HOK := Lib.hid hok
  have HAP := Lib.hid hap
  clear hf1 hf2 hok1 hok2 hok hap hdo
  have B0 : Below w.heap.size w (w.alloc (.cells #[.int .i64 x, .int .i64 y, .int .i64 c] 36)) := (Below.refl _ _).alloc (Nat.le_refl _) _
  have K0 := Lib.hid (Blk.new w 36 [.int .i64 x, .int .i64 y, .int .i64 c])
  have hl0 : IsD (w.alloc (.cells #[.int .i64 x, .int .i64 y, .int .i64 c] 36)) (w.alloc (.cells #[.int .i64 x, .int .i64 y, .int .i64 c] 36)).heap.size (some ⟨b, off, none⟩) m l := (hl.below B0).more (by simp)
  go_enter Try.func17, Try.ntmps17
  go_wp2_with fail
  refine (fits_any (some ⟨b, off, none⟩) m c1 l n _ hl0 (by omega)).mono ?_
  rw [HF1.out]
  rintro e w1 ⟨rfl, hb1⟩
  have K1 : Blk w1 w.heap.size 36 [.int .i64 x, .int .i64 y, .int .i64 c] := K0.out.below hb1 (by simp)
  have k1 : w1.cell? ⟨w.heap.size, 0, none⟩ = some (.int .i64 x) := K1.cell 0
  have k2 : w1.cell? ⟨w.heap.size, 1, none⟩ = some (.int .i64 y) := K1.cell 1
  have k3 : w1.cell? ⟨w.heap.size, 2, none⟩ = some (.int .i64 c) := K1.cell 2
  have B1 : Below w.heap.size w w1 := B0.trans (hb1.mono (by simp))
  have HK1 := Lib.hid K1
  have hs1 := K1.lt
  clear K1 hb1 hl0 K0
  go_wp2_with fail
  have HE := Lib.hid (isD_blk (d := ⟨x, y, c⟩) (Blk.new w1 36 [.int .i64 x, .int .i64 y, .int .i64 c]))
  refine (fits_any (some ⟨w1.heap.size, 0, none⟩) 1 1 [⟨x, y, c⟩] n _ HE.out (by omega)).mono ?_
  rw [HF2.out]
  rintro e w2 ⟨rfl, hb2⟩
  have K2 : Blk w2 w.heap.size 36 [.int .i64 x, .int .i64 y, .int .i64 c] := (HK1.out.alloc _).below hb2 (by simp; omega)
  clear k1 k2 k3
  have k1 : w2.cell? ⟨w.heap.size, 0, none⟩ = some (.int .i64 x) := K2.cell 0
  have k2 : w2.cell? ⟨w.heap.size, 1, none⟩ = some (.int .i64 y) := K2.cell 1
  have k3 : w2.cell? ⟨w.heap.size, 2, none⟩ = some (.int .i64 c) := K2.cell 2
  have B2 : Below w.heap.size w w2 := (B1.alloc (by omega) _).trans (hb2.mono (by simp; omega))
  have hs2 := K2.lt
  clear K2 hb2 HE HK1 B1 B0
  go_wp2_with fail
  have KW := Blk.new w2 36 [.int .i64 y, .int .i64 x, .int .i64 (-c - 1)]
  have BW : Below w.heap.size w (w2.alloc (.cells #[.int .i64 y, .int .i64 x, .int .i64 (-c - 1)] 36)) := B2.alloc (by omega) _
  clear k1 k2 k3 B2
  generalize (w2.alloc (.cells #[.int .i64 y, .int .i64 x, .int .i64 (-c - 1)] 36)) = W at *
  generalize w2.heap.size = g at *
  have hgW := KW.lt
  have hBs := BW.size
  have q1 : W.cell? ⟨g, 0, none⟩ = some (.int .i64 y) := KW.cell 0
  have q2 : W.cell? ⟨g, 1, none⟩ = some (.int .i64 x) := KW.cell 1
  have q3 : W.cell? ⟨g, 2, none⟩ = some (.int .i64 (-c - 1)) := KW.cell 2
  have HLW : Hid (∀ V : World, (∀ p : Addr, p.block < W.heap.size → V.cell? p = W.cell? p) → W.heap.size ≤ V.heap.size → IsD V V.heap.size (some ⟨b, off, none⟩) m l) := fun V h1 h2 => (((hl.below BW).more hBs).keep h1).more h2
  have HBW := Lib.hid BW
  clear BW KW
  go_region_held3 (fun w' => w'.cell? ⟨g, 0, none⟩ = some (.int .i64 y) ∧ w'.cell? ⟨g, 1, none⟩ = some (.int .i64 x) ∧ w'.cell? ⟨g, 2, none⟩ = some (.int .i64 (-c - 1)))
    (first | exact kS6 | exact kS5 | exact kS4 | go_keep)
    (first
      | (go_at_call 30
         refine (clone_any b off m c1 l _ (by first | exact HLW.out _ (fun _ _ => rfl) (Nat.le_refl _) | exact HLW.out _ (fun p hp => World.cell?_alloc_lt W _ p hp) (by simp)) (by omega)).mono ?_
         rintro e w4 ⟨v4, rfl, hown4, hb4⟩
         have hs4 : W.heap.size ≤ w4.heap.size := by have := hb4.size; first | exact this | (simp at this; omega)
         have r4 : ∀ p : Addr, p.block < W.heap.size → w4.cell? p = W.cell? p := fun p hp => (hb4.cell (by first | exact hp | (simp; omega))).trans (by first | rfl | exact World.cell?_alloc_lt W _ p hp)
         have HR4 := Lib.hid r4
         have HO4 := Lib.hid hown4
         have HB4 := Lib.hid hb4
         have kS4 : w4.cell? ⟨g, 0, none⟩ = some (.int .i64 y) ∧ w4.cell? ⟨g, 1, none⟩ = some (.int .i64 x) ∧ w4.cell? ⟨g, 2, none⟩ = some (.int .i64 (-c - 1)) := ⟨(r4 _ hgW).trans q1, (r4 _ hgW).trans q2, (r4 _ hgW).trans q3⟩
         clear r4 hown4 hb4)
      | (go_at_call 14
         refine (solve_any _ n (m + 1) cap5 (l ++ [opp ⟨x, y, c⟩]) _ HD5.out (by omega) hn HOK.out HAP.out).mono ?_
         intro e w6 h6
         obtain ⟨A6, k6, c6, A7, k7, c7, rfl, hb6⟩ := notB_of_so _ n h6
         have HB6 := Lib.hid hb6
         have kS6 : w6.cell? ⟨g, 0, none⟩ = some (.int .i64 y) ∧ w6.cell? ⟨g, 1, none⟩ = some (.int .i64 x) ∧ w6.cell? ⟨g, 2, none⟩ = some (.int .i64 (-c - 1)) := ⟨(hb6.cell (show g < _ by omega)).trans kS5.1, (hb6.cell (show g < _ by omega)).trans kS5.2.1, (hb6.cell (show g < _ by omega)).trans kS5.2.2⟩
         clear h6 hb6)
      | (refine step_append_lies _ (by rfl) (.tmp 34) (.tmp 36) 22 (by rfl) W.heap.size 36 i0 _ 3 24 Try.underlying22 hi0 hz0 hz1 hz2 rfl (by omega) v4 l.length (dcells l) (by rfl) (HO4.out.alloc _) ⟨w4.heap.size, 0, none⟩ 1 1 [.int .i64 y, .int .i64 x, .int .i64 (-c - 1)] (by rfl) (by rfl) (blk_news (Blk.new w4 36 [.int .i64 y, .int .i64 x, .int .i64 (-c - 1)])) (one_three _ _ _) (by omega) (by simp only [maxLen]; omega) (by omega) (by simp; omega) (w4.heap.size + 1) (by simp) ?_
         intro g5 cap5 w5 hown5 hgrow5 hat5 hlt5
         have hs5 : w4.heap.size ≤ w5.heap.size := by have := hgrow5.size; simp at this; omega
         have HD5 : Hid (IsD w5 w5.heap.size (some ⟨g5, 0, none⟩) (m + 1) (l ++ [opp ⟨x, y, c⟩])) := isD_own (base := W.heap.size) (cap := cap5) (by rw [HOPP.out, dcells_append, dcells_one, ← hll]; exact hown5) (by simp; omega)
         have HB5 : Hid (Below W.heap.size w4 w5) := ((Below.refl _ _).alloc hs4 _).grown hgrow5 (by simp; omega) (fun k hk => (HO4.out.lt k hk).1)
         have kS5 : w5.cell? ⟨g, 0, none⟩ = some (.int .i64 y) ∧ w5.cell? ⟨g, 1, none⟩ = some (.int .i64 x) ∧ w5.cell? ⟨g, 2, none⟩ = some (.int .i64 (-c - 1)) := ⟨(HB5.out.cell hgW).trans kS4.1, (HB5.out.cell hgW).trans kS4.2.1, (HB5.out.cell hgW).trans kS4.2.2⟩
         clear hown5 hgrow5 hat5)
      | (have HO4' : w4.ownsRow (W.heap.size + 1) 36 3 v4 l.length (dcells l) := by simpa using HO4.out
         have HN4 : Blk w4 W.heap.size 36 [.int .i64 y, .int .i64 x, .int .i64 (-c - 1)] := (HB4.out.block W.heap.size (by simp)).trans (heap_alloc_new W _)
         have HS4 : W.heap.size < w4.heap.size := HN4.lt
         refine step_append_lies _ (by rfl) (.tmp 34) (.tmp 36) 22 (by rfl) (W.heap.size + 1) 36 i0 _ 3 24 Try.underlying22 hi0 hz0 hz1 hz2 rfl (by omega) v4 l.length (dcells l) (by rfl) HO4' ⟨W.heap.size, 0, none⟩ 1 1 [.int .i64 y, .int .i64 x, .int .i64 (-c - 1)] (by rfl) (by rfl) (blk_news HN4) (one_three _ _ _) (by omega) (by simp only [maxLen]; omega) (by omega) (by omega) w4.heap.size rfl ?_
         intro g5 cap5 w5 hown5 hgrow5 hat5 hlt5
         have hs5 : w4.heap.size ≤ w5.heap.size := hgrow5.size
         have HD5 : Hid (IsD w5 w5.heap.size (some ⟨g5, 0, none⟩) (m + 1) (l ++ [opp ⟨x, y, c⟩])) := isD_own (base := W.heap.size + 1) (cap := cap5) (by rw [HOPP.out, dcells_append, dcells_one, ← hll]; exact hown5) (by simp; omega)
         have HB5 : Hid (Below W.heap.size w4 w5) := (Below.refl _ _).grown hgrow5 (by omega) (fun k hk => by have := (HO4'.lt k hk).1; omega)
         have kS5 : w5.cell? ⟨g, 0, none⟩ = some (.int .i64 y) ∧ w5.cell? ⟨g, 1, none⟩ = some (.int .i64 x) ∧ w5.cell? ⟨g, 2, none⟩ = some (.int .i64 (-c - 1)) := ⟨(HB5.out.cell hgW).trans kS4.1, (HB5.out.cell hgW).trans kS4.2.1, (HB5.out.cell hgW).trans kS4.2.2⟩
         clear hown5 hgrow5 hat5))
  all_goals
    have HBF : Hid (Below w.heap.size w w6) := by
      have h4 := HB4.out
      have h5 := HB5.out.mono hBs
      have h6 := HB6.out.mono (show w.heap.size ≤ w5.heap.size by omega)
      first
        | exact ((HBW.out.drew.trans (h4.mono (by show w.heap.size ≤ W.heap.size; omega))).trans h5).trans h6
        | exact (((HBW.out.alloc hBs _).drew.trans (h4.mono (by simp; omega))).trans h5).trans h6
    go_wp2_with fail
    go_ret
    exact ⟨ret_bool (by simp), HBF.out⟩
end Go.Proofs.Ytdcgebafmceajaa
