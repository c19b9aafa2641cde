/- interleavelaw32.DiffSystems returns true for every input: Solve is right for systems that are made of numbers, and the system stays as it is. No condition. -/
import Derived.Test.YtdcgebafmceajaaProb
import Derived.Test.YtdcgebafmceajaaRight
namespace Go.Proofs.Ytdcgebafmceajaa.lawSystems
open Go.ChangeShapes Go.WideShapes Go.ChangeAt Go.RowKit Go.Deep
open Go.Proofs.Ytdcgebafmceajaa
set_option linter.unusedVariables false

theorem neq_diff (x y c : Int) (w : World) : (binOp .neq 36 (.agg #[.int .i64 x, .int .i64 y, .int .i64 c]) (.agg #[.int .i64 x, .int .i64 y, .int .i64 c])).run Try.prog w = .ok (.bool false) w := by
  have u3 := Try.underlying3
  have a3 := Try.isAgg3
  have z3 := Try.sizeOf3
  have hS : Try.prog.underlying 36 = some (.struct (Try.prog.fieldsOf 36)) := by kernel_rfl
  have hp : Try.prog.stoodInHeld 36 = false := by kernel_rfl
  rw [run_neq_struct, show (10000 : Nat) = 9999 + 1 from rfl, run_equalIn_agg w 9999 36 _ _ hS hp]
  simp only [Program.fieldsOf, Try.underlying36]
  go_simp
theorem noGuard : Try.prog.eqGuardType Try.prog.depth 36 = false := by kernel_rfl

set_option maxRecDepth 100000 in
set_option maxHeartbeats 1000000 in
theorem walk (A : Option Addr) (k0 c : Nat) (s0 s1 s2 : Int) (w : World) (hP : ProbIs w s0 s1 s2 A k0 c) :
    Calls Try.prog 4 #[.agg #[.int .u8 s0, .int .u8 s1, .int .u8 s2, .slice A k0 c]] w fun e w' => e = .returned (.bool true) ∧ Below w.heap.size w w' := by
  have HC := Lib.hid (Prob_sys (hP.alloc (.cells #[.int .u8 s0, .int .u8 s1, .int .u8 s2, .slice A k0 c] 32)))
  obtain ⟨i0, hi0, hz0, hz1, hz2⟩ := info_parts diff_info
  go_enter Try.func4, Try.ntmps4
  go_wp2_with fail
  refine HC.out.mono ?_
  rintro e w1 ⟨n, v, l, rfl, hn1, hn2, hl1, hl2, hsys, hown, hb1⟩
  obtain ⟨gl, cl, rfl, hgl1, hgl2⟩ := hown.form (by omega)
  have hI := isD_own hown rfl
  have B1 : Below w.heap.size w w1 := ((Below.refl _ _).alloc (Nat.le_refl _) _).trans (hb1.mono (by simp))
  have hs1 := B1.size
  have HOK := Lib.hid (ok_of_sys hsys)
  have HAP := Lib.hid (ap_of_sys hsys)
  have HI := Lib.hid hI
  have HNEWS := Lib.hid hI.news
  clear hown hb1 hI hsys HC
  go_wp2_with (at_builtin; go_must (refine wpList_append_own _ rfl (.const (.slice none 0 0)) (.tmp 15) 22 rfl w1.heap.size 36 i0 _ 3 24 Try.underlying22 hi0 hz0 hz1 hz2 rfl (by decide) (.slice none 0 0) 0 [] rfl (own_nil _ _ _ _) ⟨gl, 0, none⟩ l.length cl (dcells l) rfl (dcells_length l) HNEWS.out (one_dcells l) (by simp only [maxLen]; omega) (by omega) (Nat.le_refl _) ?_; intro v2 w2 hown2 hgrow2 _; have hO2x : w2.ownsRow w1.heap.size 36 3 v2 l.length (dcells l) := (by simpa using hown2); have HO2 := Lib.hid hO2x; clear hO2x; have HB2 : Hid (Below w1.heap.size w1 w2) := (Below.refl _ _).grown hgrow2 (Nat.le_refl _) (by simp [Value.ownBlock]); clear hown2 hgrow2))
  obtain ⟨g2, c2, rfl, hg21, hg22⟩ := HO2.out.form (by omega)
  have HI2 : Hid (IsD w2 w2.heap.size (some ⟨gl, 0, none⟩) l.length l) := (HI.out.below HB2.out).more HB2.out.size
  have HW2 : Hid (IsD w2 w2.heap.size (some ⟨g2, 0, none⟩) l.length l) := isD_own HO2.out rfl
  have B2 : Below w.heap.size w w2 := B1.trans (HB2.out.mono hs1)
  have hs2 := B2.size
  clear HO2 HB2 HI HNEWS
  refine (solve_any (some ⟨gl, 0, none⟩) n l.length cl l w2 HI2.out (by omega) (by omega) HOK.out HAP.out).mono ?_
  rintro e w3 ⟨hb3, h3⟩
  have B3 : Below w.heap.size w w3 := B2.trans (hb3.mono hs2)
  have hs3 := B3.size
  have HI3 : Hid (IsD w3 w3.heap.size (some ⟨gl, 0, none⟩) l.length l) := (HI2.out.below hb3).more hb3.size
  have HW3 : Hid (IsD w3 w3.heap.size (some ⟨g2, 0, none⟩) l.length l) := (HW2.out.below hb3).more hb3.size
  clear hb3 HI2 HW2
  have HR : Hid (∃ x c4 ok, e = .returned (.tuple #[x, c4, .bool ok]) ∧ Calls Try.prog 15 #[.int .i64 n, .slice (some ⟨gl, 0, none⟩) l.length cl, x, c4, .bool ok] w3 fun e w' => e = .returned (.bool true) ∧ Below w3.heap.size w3 w') := by
    rcases h3 with ⟨h3, g, rfl, hx, _⟩ | ⟨h3, A3, c3, xs, rfl, hIx, hcy, hxn⟩
    · exact ⟨_, _, _, rfl, right_ok _ n l.length cl g l _ HI3.out (by omega) (by omega) HOK.out HAP.out h3 hx⟩
    · exact ⟨_, _, _, rfl, right_no _ A3 n l.length cl c3 l xs _ HI3.out hIx (by omega) (by omega) (by omega) HOK.out HAP.out h3 hcy⟩
  obtain ⟨x, c4, ok, rfl, hright⟩ := HR.out
  have HRR := Lib.hid hright
  clear h3 HR hright
  go_wp2_with (go_at_call 15; go_must (refine HRR.out.mono ?_; rintro e w4 ⟨rfl, hb4⟩))
  have B4 : Below w.heap.size w w4 := B3.trans (hb4.mono hs3)
  have hs4 := B4.size
  have HI4 : Hid (IsD w4 w4.heap.size (some ⟨gl, 0, none⟩) l.length l) := (HI3.out.below hb4).more hb4.size
  have HW4 : Hid (IsD w4 w4.heap.size (some ⟨g2, 0, none⟩) l.length l) := (HW3.out.below hb4).more hb4.size
  clear hb4 HI3 HW3 HRR
  go_loopw [33] (fun i wr => KI (fun j wr => j ≤ l.length ∧ Below w.heap.size w wr ∧ Below w4.heap.size w4 wr) i wr) (fun i _ => l.length - (intOf i).toNat)
  case atStart => exact ⟨0, rfl, Nat.zero_le _, B4, Below.refl _ _⟩
  case round =>
    obtain ⟨j, rfl, hj, hb, hb'⟩ := hrel
    have hbs := hb.size
    by_cases hlt : j < l.length
    · obtain ⟨b1, o1, e1, _, hc1⟩ := (HI4.out.below hb').cells (by omega)
      obtain ⟨b2, o2, e2, _, hc2⟩ := (HW4.out.below hb').cells (by omega)
      injection e1 with e1
      injection e1 with e1a e1b
      subst e1a e1b
      injection e2 with e2
      injection e2 with e2a e2b
      subst e2a e2b
      obtain ⟨p0, p1, p2⟩ := hc1 j hlt
      obtain ⟨r0, r1, r2⟩ := hc2 j hlt
      clear hc1 hc2
      simp only [Nat.zero_add] at p0 p1 p2 r0 r1 r2
      generalize l[j] = d at *
      obtain ⟨dx, dy, dc⟩ := d
      dsimp only at *
      have hneq := neq_diff dx dy dc
      have hng := noGuard
      have hj0 : (0 : Int) ≤ (j : Int) := by omega
      have hj1 : (j : Int) < (l.length : Int) := by omega
      go_wp2_with fail
      go_quiet (fail)
      go_wp2_with fail
      go_roundw
      case rel => exact ⟨j + 1, by go_num, by omega, hb.drewN _, hb'.drewN _⟩
      case measure => simp [intOf]; omega
    · go_wp2_with (go_at_call 13; go_must (refine (awake_any _).mono ?_; rintro e w5 ⟨rfl, hb5⟩))
      go_ret
      exact ⟨rfl, hb.trans (hb5.mono hbs)⟩

set_option maxRecDepth 100000 in
theorem lifted (os : Os) (started : os.Started) (H : Type) (enc : TypeId × Value → H) :
    ReturnsInHanded {} Try.checked os 4 .any (Rows.diffSystemsSpec.pre6 enc Try.prog Try.f4 Rows.diffSystemsRow.domain false) (Rows.diffSystemsSpec.post enc Try.prog Try.f4 false true false false) := by
  refine returnsInHanded_of_change (C := Try.checked) own started (by kernel_rfl) Try.func4
    (ChangeSpec.witness6 (enc := enc) (C := Try.checked) false ⟨#[], #[.agg #[.int .u8 0, .int .u8 0, .int .u8 0, .slice none 0 0]], []⟩ 8 (by kernel_rfl) (by kernel_rfl) (by kernel_rfl) (by kernel_rfl)) ?_
  intro W base args ds gs before hval0 hW hcnd _
  have hval : ∀ (j : Nat) t v, Try.f4.params[j]? = some t → args[j]? = some v → Value.okWide Try.prog W .any base t v := hval0
  have hW' := hW
  obtain ⟨p, q, hA0, hV, rfl, hfz, hnd⟩ := hW
  have hA : DataW.TrodAll enc Try.prog W 0 (fun _ => true) true Try.f4.params.toList args.toList ds p := hA0
  rw [Try.params4] at hA hval
  obtain ⟨v0, vs0, d0, ds0, p0, q0, hargs, rfl, rfl, h0, r0⟩ := trodAll_cons hA
  obtain ⟨rfl, rfl, rfl⟩ := trodAll_nil r0
  obtain rfl : args = #[v0] := by cases args; simp_all
  obtain ⟨rfl, rfl⟩ := trodVars_none hV
  have k0 := h0
  have lt0 : ∀ x ∈ p0, x.block < W.heap.size := by obtain ⟨m, hm⟩ := k0; exact DataW.trod_lt m _ _ _ hm
  obtain ⟨x0, y0, z0, A0, n0, c0, rfl, hP0⟩ := open_prob (hval 0 32 v0 rfl rfl) h0
  clear hA0 hval0
  refine (walk A0 n0 c0 x0 y0 z0 W hP0).mono fun e W' ⟨he, bel⟩ => ?_
  subst he
  exact ⟨_, rfl, _, _, _, [], _, [], hW', trodAll_mk1 (shut_bool Try.underlying4 _), (trodAll_cons_mk (Below.trod laidOut (by kernel_rfl) (of_decide_eq_true (by kernel_rfl)) k0 bel lt0) trodAll_mk0), rfl, bel.frame _, fun h => by cases h⟩

theorem over : Rows.diffSystemsRow.holds Try.pinned (OpenSpec.ofChange Rows.diffSystemsSpec) :=
  OpenClaim.holds_of_wide 4 Try.f4 rfl rfl rfl rfl rfl rfl rfl ⟨rfl, rfl, rfl, rfl, rfl⟩ rfl rfl rfl rfl rfl (by kernel_rfl) Try.func4 (by kernel_rfl)
    (of_decide_eq_true (by kernel_rfl)) (by unfold Func.isWrapper; first | (rw [if_pos (by decide +kernel)]; kernel_rfl) | (rw [if_neg (by decide +kernel)]; exact ⟨rfl, rfl⟩))
    (fun os started H enc _ => lifted os started H enc)
end Go.Proofs.Ytdcgebafmceajaa.lawSystems

namespace Go.Proofs.Ytdcgebafmceajaa
theorem systems_holds : Rows.DiffSystemsSaid := lawSystems.over
#print axioms systems_holds
end Go.Proofs.Ytdcgebafmceajaa
