/- interleavelaw32.DiffEntails returns true for every input: Entails says what every system entails. No condition. -/
import Derived.Test.YtdcgebafmceajaaProb
namespace Go.Proofs.Ytdcgebafmceajaa.lawEntails
open Go.ChangeShapes Go.WideShapes Go.ChangeAt Go.RowKit Go.Deep
open Go.Proofs.Ytdcgebafmceajaa
set_option linter.unusedVariables false

theorem other_mod (n x y : Int) (h1 : 2 ≤ n) (h3 : 0 ≤ x) (h4 : x < n) (h5 : 0 ≤ y) : (0 ≤ (x + 1 + y % (n - 1)) % n ∧ (x + 1 + y % (n - 1)) % n < n) ∧ x ≠ (x + 1 + y % (n - 1)) % n := by
  have a3 := Int.emod_nonneg y (show n - 1 ≠ 0 by omega)
  have a4 := Int.emod_lt_of_pos y (show 0 < n - 1 by omega)
  generalize y % (n - 1) = z at *
  refine ⟨⟨Int.emod_nonneg _ (by omega), Int.emod_lt_of_pos _ (by omega)⟩, ?_⟩
  rcases (show x + 1 + z < n ∨ n ≤ x + 1 + z by omega) with h | h
  · rw [Int.emod_eq_of_lt (by omega) h]; omega
  · rw [show (x + 1 + z) % n = x + 1 + z - n by
      rw [Int.emod_def, show (x + 1 + z) / n = 1 by
        rw [Int.ediv_eq_iff_of_pos (by omega)]; omega]; omega]
    omega

set_option maxRecDepth 100000 in
set_option maxHeartbeats 1000000 in
theorem walk (A : Option Addr) (k0 c : Nat) (s0 s1 s2 px py pc : Int) (w : World) (hP : ProbIs w s0 s1 s2 A k0 c) (hx : (Lit.int .i8 px).wf = true) (hy : (Lit.int .i8 py).wf = true) (hc : (Lit.int .i8 pc).wf = true) :
    Calls Try.prog 5 #[.agg #[.int .u8 s0, .int .u8 s1, .int .u8 s2, .slice A k0 c], .int .i8 px, .int .i8 py, .int .i8 pc] w fun e w' => e = .returned (.bool true) ∧ Below w.heap.size w w' := by
  have HC := Lib.hid (Prob_sys (hP.alloc (.cells #[.int .u8 s0, .int .u8 s1, .int .u8 s2, .slice A k0 c] 32)))
  obtain ⟨hx1, hx2⟩ := bounds_i8 hx
  obtain ⟨hy1, hy2⟩ := bounds_i8 hy
  obtain ⟨hc1, hc2⟩ := bounds_i8 hc
  clear hx hy hc
  go_enter Try.func5, Try.ntmps5
  go_wp2_with fail
  refine HC.out.mono ?_
  rintro e w1 ⟨n, v, l, rfl, hn1, hn2, hl1, hl2, hsys, hown, hb1⟩
  obtain ⟨gl, cl, rfl, hgl1, hgl2⟩ := hown.form (by omega)
  have hI := isD_own hown rfl
  have B1 : Below w.heap.size w w1 := ((Below.refl _ _).alloc (Nat.le_refl _) _).trans (hb1.mono (by simp))
  have hs1 := B1.size
  have HSYS := Lib.hid hsys
  have HI := Lib.hid hI
  clear hown hb1 hI hsys HC
  have hnz : ¬ n = 0 := by omega
  go_wp2_with fail
  have hx0 := Int.emod_nonneg (px % 256) (show (n : Int) ≠ 0 by omega)
  have hx1' := Int.emod_lt_of_pos (px % 256) (show (0 : Int) < n by omega)
  have hcc : -5 ≤ wrap64 (pc.tmod 6) ∧ wrap64 (pc.tmod 6) ≤ 5 := by
    have h1 : -5 ≤ pc.tmod 6 ∧ pc.tmod 6 ≤ 5 := by
      rcases (show 0 ≤ pc ∨ pc < 0 by omega) with h | h
      · rw [Int.tmod_eq_emod_of_nonneg h]; omega
      · have h2 : pc.tmod 6 = -((-pc).tmod 6) := by rw [Int.neg_tmod]; omega
        rw [h2, Int.tmod_eq_emod_of_nonneg (by omega)]; omega
    rw [IntWalk.wrap64_in _ (by omega)]
    exact h1
  generalize px % 256 % (n : Int) = x0 at *
  generalize wrap64 (pc.tmod 6) = cc at *
  obtain ⟨hcc1, hcc2⟩ := hcc
  obtain ⟨uy, huy⟩ : ∃ uy, uy = py % 256 := ⟨_, rfl⟩
  have huy1 : 0 ≤ uy ∧ uy ≤ 255 := by omega
  have e1 : IntKind.i64.wrap (x0 + 1) = x0 + 1 := IntWalk.i64_in _ (by omega)
  have e2 : IntKind.u8.wrap py = uy := by rw [huy]; rfl
  have e3 : IntKind.i64.wrap uy = uy := IntWalk.i64_in _ (by omega)
  have e4 : IntKind.i64.wrap ((n : Int) - 1) = (n : Int) - 1 := IntWalk.i64_in _ (by omega)
  have e5 : uy.tmod ((n : Int) - 1) = uy % ((n : Int) - 1) := Int.tmod_eq_emod_of_nonneg huy1.1
  have hm0 := Int.emod_nonneg uy (show (n : Int) - 1 ≠ 0 by omega)
  have hm1 := Int.emod_lt_of_pos uy (show (0 : Int) < (n : Int) - 1 by omega)
  have HY := Lib.hid (other_mod n x0 uy (by omega) hx0 hx1' huy1.1)
  have e6 : IntKind.i64.wrap (x0 + 1 + uy % ((n : Int) - 1)) = x0 + 1 + uy % ((n : Int) - 1) := IntWalk.i64_in _ (by omega)
  have e7 : (x0 + 1 + uy % ((n : Int) - 1)).tmod (n : Int) = (x0 + 1 + uy % ((n : Int) - 1)) % (n : Int) := Int.tmod_eq_emod_of_nonneg (by omega)
  have hnz1 : ¬ (n : Int) - 1 = 0 := by omega
  have hnz2 : ¬ (n : Int) = 0 := by omega
  have KD := Lib.hid (Blk.new w1 36 [.int .i64 x0, .int .i64 0, .int .i64 cc])
  have BD : Below w.heap.size w (w1.alloc (.cells #[.int .i64 x0, .int .i64 0, .int .i64 cc] 36)) := B1.alloc hs1 _
  have HID := Lib.hid ((HI.out.below ((Below.refl w1.heap.size w1).alloc (Nat.le_refl _) (.cells #[.int .i64 x0, .int .i64 0, .int .i64 cc] 36))))
  clear huy
  generalize (w1.alloc (.cells #[.int .i64 x0, .int .i64 0, .int .i64 cc] 36)) = W at *
  generalize w1.heap.size = gd at *
  have k1 : W.cell? ⟨gd, 0, none⟩ = some (.int .i64 x0) := KD.out.cell 0
  have k2 : W.cell? ⟨gd, 1, none⟩ = some (.int .i64 0) := KD.out.cell 1
  have k3 := KD.out.frozen 1
  go_region
  go_wp2_with fail
  have KD2 := Lib.hid ((KD.out.set_ 1 (.int .i64 ((x0 + 1 + uy % ((n : Int) - 1)) % (n : Int)))).drew)
  have B2 : Below w.heap.size w (W.setCell ⟨gd, 1, none⟩ (.int .i64 ((x0 + 1 + uy % ((n : Int) - 1)) % (n : Int)))).drew := (BD.setCell (p := ⟨gd, 1, none⟩) hs1 _).drew
  have HI2 : Hid (IsD (W.setCell ⟨gd, 1, none⟩ (.int .i64 ((x0 + 1 + uy % ((n : Int) - 1)) % (n : Int)))).drew gd (some ⟨gl, 0, none⟩) l.length l) := HID.out.below ((Below.refl gd W).setCell (p := ⟨gd, 1, none⟩) (Nat.le_refl _) _).drew
  clear e1 e2 e3 e4 e5 e6 e7 k1 k2 k3 KD HID BD B1
  have hyy := HY.out
  generalize (x0 + 1 + uy % ((n : Int) - 1)) % (n : Int) = y at *
  generalize (W.setCell ⟨gd, 1, none⟩ (.int .i64 y)).drew = W2 at *
  obtain ⟨⟨hyy1, hyy2⟩, hyy3⟩ := hyy
  have hgs := KD2.out.lt
  have hs2 := B2.size
  have k1 : W2.cell? ⟨gd, 0, none⟩ = some (.int .i64 x0) := KD2.out.cell 0
  have k2 : W2.cell? ⟨gd, 1, none⟩ = some (.int .i64 y) := KD2.out.cell 1
  have k3 : W2.cell? ⟨gd, 2, none⟩ = some (.int .i64 cc) := KD2.out.cell 2
  have HOK : Hid (Ok (l ++ [opp ⟨x0, y, cc⟩]) n) := fun d hd => by
    rw [List.mem_append, List.mem_singleton] at hd
    rcases hd with hd | rfl
    · exact ok_of_sys HSYS.out d hd
    · simp only [opp]; omega
  have HAP : Hid (Apart (l ++ [opp ⟨x0, y, cc⟩])) := fun d hd => by
    rw [List.mem_append, List.mem_singleton] at hd
    rcases hd with hd | rfl
    · exact ap_of_sys HSYS.out d hd
    · exact fun e => hyy3 e.symm
  have HL : Hid (∀ V : World, Below gd W2 V → V.heap.size ≥ gd → IsD V V.heap.size (some ⟨gl, 0, none⟩) l.length l) := fun V h1 h2 => (HI2.out.below h1).more h2
  go_region_held3 (fun w' => w'.cell? ⟨gd, 0, none⟩ = some (.int .i64 x0) ∧ w'.cell? ⟨gd, 1, none⟩ = some (.int .i64 y) ∧ w'.cell? ⟨gd, 2, none⟩ = some (.int .i64 cc))
    (first | exact kS5 | exact kS4 | exact kS3 | go_keep)
    (first
      | (go_at_call 17
         refine (dentails_any gl 0 n l.length cl l ⟨x0, y, cc⟩ _ (HL.out _ ((Below.refl _ _).drew) (by show gd ≤ W2.heap.size; omega)) (by omega) (by omega) (by omega) HOK.out HAP.out ⟨by show -1048577 ≤ cc; omega, by show cc ≤ 1048576; omega⟩).mono ?_
         rintro e w3 ⟨rfl, hb3⟩
         have B3 : Below W2.heap.size W2 w3 := ((Below.refl _ _).drew).trans hb3
         have hs3 : W2.heap.size ≤ w3.heap.size := B3.size
         have kS3 : w3.cell? ⟨gd, 0, none⟩ = some (.int .i64 x0) ∧ w3.cell? ⟨gd, 1, none⟩ = some (.int .i64 y) ∧ w3.cell? ⟨gd, 2, none⟩ = some (.int .i64 cc) := ⟨(B3.cell hgs).trans k1, (B3.cell hgs).trans k2, (B3.cell hgs).trans k3⟩)
      | (go_at_call 18
         refine (rentails_any gl 0 n l.length cl l ⟨x0, y, cc⟩ _ (HL.out _ (B3.mono (by omega)) (by omega)) (by omega) (by omega) (by omega) HOK.out HAP.out ⟨by show -1048577 ≤ cc; omega, by show cc ≤ 1048576; omega⟩).mono ?_
         rintro e w4 ⟨rfl, hb4⟩
         have B4 : Below W2.heap.size W2 w4 := B3.trans (hb4.mono hs3)
         have hs4 : W2.heap.size ≤ w4.heap.size := B4.size
         have kS4 : w4.cell? ⟨gd, 0, none⟩ = some (.int .i64 x0) ∧ w4.cell? ⟨gd, 1, none⟩ = some (.int .i64 y) ∧ w4.cell? ⟨gd, 2, none⟩ = some (.int .i64 cc) := ⟨(B4.cell hgs).trans k1, (B4.cell hgs).trans k2, (B4.cell hgs).trans k3⟩)
      | (go_at_call 13
         refine (awake_any _).mono ?_
         rintro e w5 ⟨rfl, hb5⟩
         have B5 : Below W2.heap.size W2 w5 := B4.trans (hb5.mono hs4)
         have kS5 : w5.cell? ⟨gd, 0, none⟩ = some (.int .i64 x0) ∧ w5.cell? ⟨gd, 1, none⟩ = some (.int .i64 y) ∧ w5.cell? ⟨gd, 2, none⟩ = some (.int .i64 cc) := ⟨(B5.cell hgs).trans k1, (B5.cell hgs).trans k2, (B5.cell hgs).trans k3⟩))
  all_goals
    go_wp2_with fail
    go_ret
    exact ⟨by simp, B2.trans (B5.mono hs2)⟩

set_option maxRecDepth 100000 in
theorem lifted (os : Os) (started : os.Started) (H : Type) (enc : TypeId × Value → H) :
    ReturnsInHanded {} Try.checked os 5 .any (Rows.diffEntailsSpec.pre6 enc Try.prog Try.f5 Rows.diffEntailsRow.domain false) (Rows.diffEntailsSpec.post enc Try.prog Try.f5 false true false false) := by
  refine returnsInHanded_of_change (C := Try.checked) own started (by kernel_rfl) Try.func5
    (ChangeSpec.witness6 (enc := enc) (C := Try.checked) false ⟨#[], #[.agg #[.int .u8 0, .int .u8 0, .int .u8 0, .slice none 0 0], .int .i8 0, .int .i8 0, .int .i8 0], []⟩ 8 (by kernel_rfl) (by kernel_rfl) (by kernel_rfl) (by kernel_rfl)) ?_
  intro W base args ds gs before hval0 hW hcnd _
  have hval : ∀ (j : Nat) t v, Try.f5.params[j]? = some t → args[j]? = some v → Value.okWide Try.prog W .any base t v := hval0
  have hW' := hW
  obtain ⟨p, q, hA0, hV, rfl, hfz, hnd⟩ := hW
  have hA : DataW.TrodAll enc Try.prog W 0 (fun _ => true) true Try.f5.params.toList args.toList ds p := hA0
  rw [Try.params5] at hA hval
  obtain ⟨v0, vs0, d0, ds0, p0, q0, hargs, rfl, rfl, h0, r0⟩ := trodAll_cons hA
  obtain ⟨v1, vs1, d1, ds1, p1, q1, rfl, rfl, rfl, h1, r1⟩ := trodAll_cons r0
  obtain ⟨v2, vs2, d2, ds2, p2, q2, rfl, rfl, rfl, h2, r2⟩ := trodAll_cons r1
  obtain ⟨v3, vs3, d3, ds3, p3, q3, rfl, rfl, rfl, h3, r3⟩ := trodAll_cons r2
  obtain ⟨rfl, rfl, rfl⟩ := trodAll_nil r3
  obtain rfl : args = #[v0, v1, v2, v3] := by cases args; simp_all
  obtain ⟨rfl, rfl⟩ := trodVars_none hV
  have k0 := h0
  have lt0 : ∀ x ∈ p0, x.block < W.heap.size := by obtain ⟨m, hm⟩ := k0; exact DataW.trod_lt m _ _ _ hm
  obtain ⟨x0, y0, z0, A0, n0, c0, rfl, hP0⟩ := open_prob (hval 0 32 v0 rfl rfl) h0
  obtain ⟨a1, rfl, rfl, rfl, w1⟩ := open_int Try.underlying38 (hval 1 38 v1 rfl rfl) h1
  obtain ⟨a2, rfl, rfl, rfl, w2⟩ := open_int Try.underlying38 (hval 2 38 v2 rfl rfl) h2
  obtain ⟨a3, rfl, rfl, rfl, w3⟩ := open_int Try.underlying38 (hval 3 38 v3 rfl rfl) h3
  clear hA0 hval0
  refine (walk A0 n0 c0 x0 y0 z0 a1 a2 a3 W hP0 w1 w2 w3).mono fun e W' ⟨he, bel⟩ => ?_
  subst he
  exact ⟨_, rfl, _, _, _, [], _, [], hW', trodAll_mk1 (shut_bool Try.underlying4 _), (trodAll_cons_mk (Below.trod laidOut (by kernel_rfl) (of_decide_eq_true (by kernel_rfl)) k0 bel lt0) (trodAll_cons_mk (shut_int Try.underlying38 w1) (trodAll_cons_mk (shut_int Try.underlying38 w2) (trodAll_cons_mk (shut_int Try.underlying38 w3) trodAll_mk0)))), rfl, bel.frame _, fun h => by cases h⟩

theorem over : Rows.diffEntailsRow.holds Try.pinned (OpenSpec.ofChange Rows.diffEntailsSpec) :=
  OpenClaim.holds_of_wide 5 Try.f5 rfl rfl rfl rfl rfl rfl rfl ⟨rfl, rfl, rfl, rfl, rfl⟩ rfl rfl rfl rfl rfl (by kernel_rfl) Try.func5 (by kernel_rfl)
    (of_decide_eq_true (by kernel_rfl)) (by unfold Func.isWrapper; first | (rw [if_pos (by decide +kernel)]; kernel_rfl) | (rw [if_neg (by decide +kernel)]; exact ⟨rfl, rfl⟩))
    (fun os started H enc _ => lifted os started H enc)
end Go.Proofs.Ytdcgebafmceajaa.lawEntails

namespace Go.Proofs.Ytdcgebafmceajaa
theorem entails_holds : Rows.DiffEntailsSaid := lawEntails.over
#print axioms entails_holds
end Go.Proofs.Ytdcgebafmceajaa
