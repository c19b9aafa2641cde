/- The contract of interleave/interleavelaw32.awake: it returns true. -/
import Derived.Test.YtdcgebafmceajaaDEntails
import Derived.Test.YtdcgebafmceajaaSame
namespace Go.Proofs.Ytdcgebafmceajaa
open Go.RowKit Go.Deep
set_option linter.unusedVariables false

def la : List D := [⟨0, 1, -1⟩]
def lb : List D := [⟨0, 1, -1⟩, ⟨1, 0, 0⟩]
def lc : List D := [⟨0, 1, -1⟩, ⟨1, 2, -1⟩]
theorem ok_la : Ok la 2 := by intro d hd; simp only [la, List.mem_singleton] at hd; subst hd; decide
theorem ap_la : Apart la := by intro d hd; simp only [la, List.mem_singleton] at hd; subst hd; decide
theorem ok_lb : Ok lb 2 := by intro d hd; simp only [lb, List.mem_cons, List.not_mem_nil, or_false] at hd; rcases hd with rfl | rfl <;> decide
theorem ap_lb : Apart lb := by intro d hd; simp only [lb, List.mem_cons, List.not_mem_nil, or_false] at hd; rcases hd with rfl | rfl <;> decide
theorem ok_lc : Ok (lc ++ [opp ⟨0, 2, -2⟩]) 3 := by intro d hd; simp only [lc, opp, List.cons_append, List.nil_append, List.mem_cons, List.not_mem_nil, or_false] at hd; rcases hd with rfl | rfl | rfl <;> decide
theorem ap_lc : Apart (lc ++ [opp ⟨0, 2, -2⟩]) := by intro d hd; simp only [lc, opp, List.cons_append, List.nil_append, List.mem_cons, List.not_mem_nil, or_false] at hd; rcases hd with rfl | rfl | rfl <;> decide
theorem low_la : (after la 2 2).low = -1 := by decide
theorem x_la : (after la 2 2).x = [-1, 0] := by decide
theorem low_lb : 0 ≤ (after lb 2 2).low := by decide
theorem not_lc : notB (lc ++ [opp ⟨0, 2, -2⟩]) 3 = true := by decide
theorem cyc_pos {l : List D} {c : List Int} (h : cycB l c = true) : 0 < c.length := by
  cases c with
  | nil => simp [cycB] at h
  | cons a c => simp

theorem isD_blks {w : World} {g : Nat} {l : List D} (h : Blk w g 36 (dcells l)) : IsD w w.heap.size (some ⟨g, 0, none⟩) l.length l := by
  refine ⟨rfl, fun _ => ⟨g, 0, rfl, h.lt, fun i hi => ?_⟩⟩
  obtain ⟨g0, g1, g2⟩ := dcells_get l i hi
  simp only [Nat.zero_add]
  exact ⟨(h.cell _).trans g0, (h.cell _).trans g1, (h.cell _).trans g2⟩

set_option maxRecDepth 100000 in
set_option maxHeartbeats 1600000 in
theorem awake_any (w : World) : Calls Try.prog 13 #[] w fun e w' => e = .returned (.bool true) ∧ Below w.heap.size w w' := by
  obtain ⟨i0, hi0, hz0, hz1, hz2⟩ := info_parts diff_info
  have K0 := Blk.new w 36 [.int .i64 0, .int .i64 1, .int .i64 (-1)]
  have HI0 := Lib.hid (isD_blk (d := ⟨0, 1, -1⟩) K0)
  have B0 : Below w.heap.size w (w.alloc (.cells #[.int .i64 0, .int .i64 1, .int .i64 (-1)] 36)) := (Below.refl _ _).alloc (Nat.le_refl _) _
  have HK0 := Lib.hid K0
  have HB0 := Lib.hid B0
  clear K0 B0
  go_enter Try.func13, Try.ntmps13
  go_wp2_with fail
  refine (solve_any (some ⟨w.heap.size, 0, none⟩) 2 1 1 la _ HI0.out (by omega) (by omega) ok_la ap_la).mono ?_
  rintro e w1 ⟨hb1, h1⟩
  rcases h1 with ⟨h1, g, rfl, hx1, hg1⟩ | ⟨h1, _⟩
  case inr => exfalso; have := low_la; omega
  have HX1 := Lib.hid hx1
  have HOWN : Hid (w1.ownsRow w.heap.size 36 3 (.slice (some ⟨w.heap.size, 0, none⟩) 1 1) 1 [.int .i64 0, .int .i64 1, .int .i64 (-1)]) :=
    ⟨rfl, .inr ⟨w.heap.size, 1, #[.int .i64 0, .int .i64 1, .int .i64 (-1)], rfl, Nat.le_refl _, HK0.out.below hb1 (by simp), by omega, by simp [maxLen], rfl, rfl⟩⟩
  have HB1 : Hid (Below w.heap.size w w1) := HB0.out.trans (hb1.mono (by simp))
  have hs1 := HB1.out.size
  have hs1' := hb1.size
  simp at hs1' hg1
  clear hb1 h1 hx1 HK0 HB0 HI0
  go_wp2_with (at_builtin; go_must (refine wpList_append_own _ rfl (.tmp 17) (.tmp 19) 22 rfl w.heap.size 36 i0 _ 3 24 Try.underlying22 hi0 hz0 hz1 hz2 rfl (by decide) (.slice (some ⟨w.heap.size, 0, none⟩) 1 1) 1 [.int .i64 0, .int .i64 1, .int .i64 (-1)] rfl (HOWN.out.alloc _) ⟨w1.heap.size, 0, none⟩ 1 1 [.int .i64 1, .int .i64 0, .int .i64 0] rfl rfl (blk_news (Blk.new w1 36 [.int .i64 1, .int .i64 0, .int .i64 0])) (one_three _ _ _) (by simp only [maxLen]; omega) (by omega) (by simp; omega) ?_; intro v2 w2 hown2 hgrow2 _; have HO2 := Lib.hid hown2; have HG2 := Lib.hid hgrow2; clear hown2 hgrow2))
  have hO2 : w2.ownsRow w.heap.size 36 3 v2 2 (dcells lb) := HO2.out
  obtain ⟨A2, c2, rfl, hI2⟩ := isD_of_own hO2 rfl
  have HB2 : Hid (Below w.heap.size w w2) := (HB1.out.alloc hs1 _).grown HG2.out (by simp; omega) (fun k hk => (HOWN.out.lt k hk).1)
  have HX2 : Hid (Blk w2 g 3 (icells (after la 2 2).x)) := (HG2.out.block g (by have := HX1.out.lt; simp; omega) (by simp [Value.ownBlock]; omega)).trans (HX1.out.alloc _)
  have hs2 := HB2.out.size
  clear hO2 HO2 HG2 HOWN HX1 HB1
  refine (solve_any A2 2 2 c2 lb _ hI2 (by omega) (by omega) ok_lb ap_lb).mono ?_
  rintro e w3 ⟨hb3, h3⟩
  rcases h3 with ⟨h3, _⟩ | ⟨h3, A3, c3, xs, rfl, hI3, hcy, hxn⟩
  case inl => exfalso; have := low_lb; omega
  have hxp := cyc_pos hcy
  have HX3 : Hid (Blk w3 g 3 (icells (after la 2 2).x)) := HX2.out.below hb3 HX2.out.lt
  have HB3 : Hid (Below w.heap.size w w3) := HB2.out.trans (hb3.mono hs2)
  have hs3 := HB3.out.size
  clear hb3 h3 hI3 hcy hI2 HX2 HB2
  have hxp' : (0 : Int) < (xs.length : Int) := by omega
  generalize xs.length = k3 at *
  go_wp2_with fail
  have HS1 : Hid (IsI (w3.alloc (.cells #[.int .i64 (-1), .int .i64 0] 3)) (w3.alloc (.cells #[.int .i64 (-1), .int .i64 0] 3)).heap.size (some ⟨g, 0, none⟩) 2 [-1, 0]) := by
    have := HX3.out
    rw [x_la] at this
    exact (this.alloc _).isI rfl
  have HS2 : Hid (IsI (w3.alloc (.cells #[.int .i64 (-1), .int .i64 0] 3)) (w3.alloc (.cells #[.int .i64 (-1), .int .i64 0] 3)).heap.size (some ⟨w3.heap.size, 0, none⟩) 2 [-1, 0]) := (Blk.new w3 3 (icells [-1, 0])).isI rfl
  refine (same_any _ _ 2 2 2 2 [-1, 0] [-1, 0] _ HS1.out HS2.out (by omega) (by omega)).mono ?_
  rintro e w4 ⟨rfl, hb4⟩
  have HB4 : Hid (Below w.heap.size w w4) := (HB3.out.alloc hs3 _).trans (hb4.mono (by simp; omega))
  have hs4 := HB4.out.size
  clear hb4 HS1 HS2 HX3 HB3
  go_wp2_with fail
  have HE : Hid (IsD (w4.alloc (.cells #[.int .i64 0, .int .i64 1, .int .i64 (-1), .int .i64 1, .int .i64 2, .int .i64 (-1)] 36)) (w4.alloc (.cells #[.int .i64 0, .int .i64 1, .int .i64 (-1), .int .i64 1, .int .i64 2, .int .i64 (-1)] 36)).heap.size (some ⟨w4.heap.size, 0, none⟩) 2 lc) := isD_blks (l := lc) (Blk.new w4 36 (dcells lc))
  refine (dentails_any w4.heap.size 0 3 2 2 lc ⟨0, 2, -2⟩ _ HE.out (by omega) (by omega) (by omega) ok_lc ap_lc (by decide)).mono ?_
  rw [not_lc]
  rintro e w5 ⟨rfl, hb5⟩
  have HB5 : Hid (Below w.heap.size w w5) := (HB4.out.alloc hs4 _).trans (hb5.mono (by simp; omega))
  clear hb5 HE HB4
  go_wp2_with fail
  go_ret
  exact ⟨rfl, HB5.out⟩
end Go.Proofs.Ytdcgebafmceajaa
