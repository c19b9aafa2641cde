/- interleavelaw32.DiffGreatest returns true for every input: a solution satisfies the system, is not positive, and is above every other solution without positive values. No condition. -/
import Derived.Test.YtdcgebafmceajaaProb
import Derived.Test.YtdcgebafmceajaaHolds
import Derived.Test.YtdcgebafmceajaaHoldAll
import Derived.Test.YtdcgebafmceajaaDCycle
import Derived.Test.YtdcgebafmceajaaRight
namespace Go.Proofs.Ytdcgebafmceajaa.lawGreatest
open Go.ChangeShapes Go.WideShapes Go.ChangeAt Go.RowKit Go.Deep
open Go.Proofs.Ytdcgebafmceajaa
set_option linter.unusedVariables false

theorem all_of_sat {l : List D} {n : Nat} (hok : Ok l n) {X : List Int} (hX : X.length = n) (hs : Sat l X) : l.all (holdB X) = true := by
  rw [List.all_eq_true]
  intro d hd
  obtain ⟨i, hi, rfl⟩ := List.mem_iff_getElem.1 hd
  have h1 := hs i hi
  rw [dat_eq l i hi] at h1
  have h2 := hok l[i] (List.getElem_mem hi)
  unfold holdB
  rw [Bool.and_eq_true]
  refine ⟨(inB_iff _ _).2 (by omega), ?_⟩
  rw [decide_eq_true_eq]
  show val X _ - val X _ ≤ _
  omega
theorem sat_of_all {l : List D} {X : List Int} (h : l.all (holdB X) = true) : Sat l X := by
  intro k hk
  rw [dat_eq l k hk]
  have h1 := List.all_eq_true.1 h l[k] (List.getElem_mem hk)
  unfold holdB at h1
  rw [Bool.and_eq_true, decide_eq_true_eq] at h1
  have h2 : val X l[k].x - val X l[k].y ≤ l[k].c := h1.2
  omega
def YRel (w2 : World) (gy n : Nat) (i : Value) (wr : World) : Prop :=
  ∃ (j : Nat) (Y : List Int), i = .int .i64 j ∧ j ≤ n ∧ Y.length = n ∧ (∀ v ∈ Y, -400000010 ≤ v ∧ v ≤ 0) ∧ Blk wr gy 3 (icells Y) ∧ Touch [gy] w2 wr

set_option maxRecDepth 100000 in
set_option maxHeartbeats 1600000 in
theorem walk (A O : Option Addr) (k0 c on oc : Nat) (s0 s1 s2 : Int) (ol : List Int) (w : World) (hP : ProbIs w s0 s1 s2 A k0 c) (ho : IsI8 w w.heap.size O on ol) (hon : on ≤ 9223372036854775807) :
    Calls Try.prog 11 #[.agg #[.int .u8 s0, .int .u8 s1, .int .u8 s2, .slice A k0 c], .slice O on oc] w fun e w' => e = .returned (.bool true) ∧ Below w.heap.size w w' := by
  have HC := Lib.hid (Prob_sys (hP.alloc (.cells #[.int .u8 s0, .int .u8 s1, .int .u8 s2, .slice A k0 c] 32)))
  have hol := ho.len
  go_enter Try.func11, Try.ntmps11
  go_wp2_with fail
  refine HC.out.mono ?_
  rintro e w1 ⟨n, v, l, rfl, hn1, hn2, hl1, hl2, hsys, hown, hb1⟩
  obtain ⟨gl, cl, rfl, hgl1, hgl2⟩ := hown.form (by omega)
  have hI := isD_own hown rfl
  have B1 : Below w.heap.size w w1 := ((Below.refl _ _).alloc (Nat.le_refl _) _).trans (hb1.mono (by simp))
  have HOK := Lib.hid (ok_of_sys hsys)
  have HAP := Lib.hid (ap_of_sys hsys)
  have HI := Lib.hid hI
  have HC1 := Lib.hid (solve_any (some ⟨gl, 0, none⟩) n l.length cl l w1 hI (by omega) (by omega) HOK.out HAP.out)
  have hs1 := B1.size
  clear hown hb1 hI hsys HC
  go_wp2_with fail
  refine HC1.out.mono ?_
  rintro e w2 ⟨hb2, h2⟩
  have B2 : Below w.heap.size w w2 := B1.trans (hb2.mono hs1)
  have hs2 := B2.size
  have HI2 : Hid (IsD w2 w2.heap.size (some ⟨gl, 0, none⟩) l.length l) := (HI.out.below hb2).more hb2.size
  rcases h2 with ⟨hlow, g, rfl, hx, hg⟩ | ⟨hlow, A3, c3, xs, rfl, hIx, hcy, hxn⟩
  · have hXl := (after_len l n n).1
    have HSAT := Lib.hid (sat_after HOK.out hlow)
    have hbd := bd_after HOK.out n
    have hbd2 : ∀ v ∈ (after l n n).x, -400000000 ≤ v ∧ v ≤ 0 := fun v hv => by
      have h1 := hbd v hv
      have h2 : n * l.length ≤ 6 * 52 := Nat.mul_le_mul hn2 hl2
      omega
    have HBD := Lib.hid hbd2
    have HX := Lib.hid hx
    have HBEL : Hid (∀ Y : List Int, Sat l Y → (∀ i : Int, 0 ≤ i → i < n → val Y i ≤ 0) → ∀ i : Int, 0 ≤ i → i < n → val Y i ≤ val (after l n n).x i) := fun Y h1 h2 => below_after HOK.out h1 h2 n
    have hmk := fun W => run_make_row' (P := Try.prog) 25 3 (.int .i64 0) 8 Try.underlying25 int_info rfl .i64 .i64 n (by omega) (by omega) W
    rw [made_zero] at hmk
    have HMK := Lib.hid hmk
    clear hmk hx hlow hbd hbd2 HC1 hb2 HI
    generalize (after l n n).x = X at *
    have hgs := HX.out.lt
    have hnn : ((n : Int) != (n : Int)) = false := by simp
    have HH := Lib.hid (all_of_sat HOK.out hXl HSAT.out)
    have HR : Hid (∀ v ∈ X, -2199023255552 ≤ v ∧ v ≤ 2199023255552) := fun v hv => by have := HBD.out v hv; omega
    go_wp2_with fail
    refine (holds_any (some ⟨gl, 0, none⟩) (some ⟨g, 0, none⟩) l.length n cl n l X _ HI2.out (HX.out.isI hXl) (by omega) (by omega) HR.out).mono ?_
    rw [HH.out]
    rintro e w3 ⟨rfl, hb3⟩
    have hmk := HMK.out
    have B3 : Below w.heap.size w w3 := B2.trans (hb3.mono hs2)
    have hs3 := B3.size
    have HX3 := Lib.hid (HX.out.below hb3 hgs)
    have HI3 : Hid (IsD w3 w3.heap.size (some ⟨gl, 0, none⟩) l.length l) := (HI2.out.below hb3).more hb3.size
    clear hb3 HX HI2 hgs
    go_wp2_with fail
    clear hmk
    have HX4 := Lib.hid (HX3.out.alloc (.cells (icells (List.replicate n 0)).toArray 3))
    have HY4 := Lib.hid (Blk.new w3 3 (icells (List.replicate n 0)))
    have B4 : Below w.heap.size w (w3.alloc (.cells (icells (List.replicate n 0)).toArray 3)) := B3.alloc hs3 _
    have HI4 : Hid (IsD (w3.alloc (.cells (icells (List.replicate n 0)).toArray 3)) w3.heap.size (some ⟨gl, 0, none⟩) l.length l) := HI3.out.below ((Below.refl _ _).alloc (Nat.le_refl _) _)
    have hgy : g < w3.heap.size := HX3.out.lt
    clear HX3 HI3
    generalize (w3.alloc (.cells (icells (List.replicate n 0)).toArray 3)) = W4 at *
    generalize w3.heap.size = gy at *
    have hs4 := B4.size
    have hys := HY4.out.lt
    go_loopw [52] (fun i wr => YRel W4 gy n i wr) (fun i _ => n - (intOf i).toNat)
    case atStart => exact ⟨0, List.replicate n 0, rfl, Nat.zero_le _, by simp, fun v hv => by have := List.eq_of_mem_replicate hv; omega, HY4.out, Touch.refl _ _⟩
    case round =>
      obtain ⟨j, Y, rfl, hj, hYl, hYb, hbY, ht⟩ := hrel
      have HXw := Lib.hid (ht.blk HX4.out (by simp; omega))
      have HYb := Lib.hid hYb
      have HbY := Lib.hid hbY
      have HT := Lib.hid ht
      have hyl := hbY.lt
      have HBw : Hid (Below w.heap.size w wr) := B4.trans (ht.below hs4 (by simp; omega))
      clear hYb hbY ht
      by_cases hlt : j < n
      · have hjX : j < X.length := by omega
        have hjY : j < Y.length := by omega
        have hcx := HXw.out.icell j hjX
        have hcy := HbY.out.icell j hjY
        have hfy := HbY.out.frozen j
        have hxb := HBD.out X[j] (List.getElem_mem _)
        have hj0 : (0 : Int) ≤ (j : Int) := by omega
        have hj1 : (j : Int) < (n : Int) := by omega
        generalize X[j] = xj at *
        generalize Y[j] = yj at *
        obtain ⟨hxb1, hxb2⟩ := hxb
        by_cases hjo : j < on
        · obtain ⟨bo, oo, rfl, hbo, hco⟩ := (ho.below HBw.out).cells (by omega)
          have hco1 := hco j (by omega)
          have hov := ho.bound ol[j] (List.getElem_mem _)
          clear hco
          generalize ol[j] = ov at *
          obtain ⟨t3, ht3⟩ : ∃ t3, t3 = ov.tmod 3 := ⟨_, rfl⟩
          have ht3b : -2 ≤ t3 ∧ t3 ≤ 2 := by
            rcases (show 0 ≤ ov ∨ ov < 0 by omega) with h | h
            · rw [ht3, Int.tmod_eq_emod_of_nonneg h]; omega
            · have h2 : ov.tmod 3 = -((-ov).tmod 3) := by rw [Int.neg_tmod]; omega
              rw [ht3, h2, Int.tmod_eq_emod_of_nonneg (by omega)]; omega
          have e1 : ov.tmod 3 = t3 := ht3.symm
          have e2 : IntKind.i64.wrap t3 = t3 := IntWalk.i64_in _ (by omega)
          have e3 : IntKind.i64.wrap (xj + t3) = xj + t3 := IntWalk.i64_in _ (by omega)
          obtain ⟨mm, hmm⟩ : ∃ mm, mm = if xj + t3 < 0 then xj + t3 else 0 := ⟨_, rfl⟩
          have hmb : -400000010 ≤ mm ∧ mm ≤ 0 := by rw [hmm]; split <;> omega
          have e4 : (if xj + t3 < 0 then xj + t3 else 0) = mm := hmm.symm
          have hjo1 : (j : Int) < (on : Int) := by omega
          have hbgy : ¬ bo = gy := by omega
          have hggy : ¬ g = gy := by omega
          clear ht3 hmm
          go_wp2_with fail
          go_region
          go_wp2_with fail
          go_roundw
          case rel => exact ⟨j + 1, Y.set j mm, by go_num, by omega, by simpa using hYl, fun v hv => by rcases List.mem_or_eq_of_mem_set hv with hv | rfl; exact HYb.out v hv; exact hmb, by rw [← icells_set]; exact HbY.out.drew.set_ _ _, HT.out.drew.setCell (.inl (by simp)) _⟩
          case measure => simp [intOf]; omega
        · have hjo1 : (on : Int) ≤ (j : Int) := by omega
          go_wp2_with fail
          go_roundw
          case rel => exact ⟨j + 1, Y, by go_num, by omega, hYl, HYb.out, HbY.out, HT.out⟩
          case measure => simp [intOf]; omega
      · have HIY : Hid (IsI wr wr.heap.size (some ⟨gy, 0, none⟩) n Y) := HbY.out.isI hYl
        have HIw : Hid (IsD wr wr.heap.size (some ⟨gl, 0, none⟩) l.length l) := (HI4.out.below (HT.out.below (by omega) (by simp))).more (by omega)
        have HRY : Hid (∀ v ∈ Y, -2199023255552 ≤ v ∧ v ≤ 2199023255552) := fun v hv => by have := HYb.out v hv; omega
        have hbs := HBw.out.size
        go_wp2_with fail
        refine (holdAll_any (some ⟨gl, 0, none⟩) (some ⟨gy, 0, none⟩) l.length n cl n l Y _ HIw.out HIY.out (by omega) (by omega) HRY.out).mono ?_
        rintro e w5 ⟨rfl, hb5⟩
        have B5 := HBw.out.trans (hb5.mono hbs)
        have hs5 := B5.size
        have HX5 := Lib.hid (HXw.out.below hb5 HXw.out.lt)
        have HY5 := Lib.hid (HbY.out.below hb5 hyl)
        clear hb5
        cases hall : l.all (holdB Y) with
        | false =>
          clear hall
          go_wp2_with (go_at_call 13; go_must (refine (awake_any _).mono ?_; rintro e w6 ⟨rfl, hb6⟩))
          go_ret
          exact ⟨rfl, B5.trans (hb6.mono hs5)⟩
        | true =>
          have HLE : Hid (∀ i (h1 : i < X.length) (h2 : i < Y.length), Y[i] ≤ X[i]) := fun i h1 h2 => by
            have h3 := HBEL.out Y (sat_of_all hall) (fun q hq1 hq2 => by
              rw [val_eq Y q (by omega)]; exact (HYb.out _ (List.getElem_mem _)).2) (i : Int) (by omega) (by omega)
            rw [val_eq Y _ (by omega), val_eq X _ (by omega)] at h3
            simpa using h3
          clear hall
          go_wp2_with fail
          go_loopw [85] (fun i wr => KI (fun q wr => q ≤ n ∧ Below w.heap.size w wr ∧ Below w5.heap.size w5 wr) i wr) (fun i _ => n - (intOf i).toNat)
          case atStart => exact ⟨0, rfl, Nat.zero_le _, B5, Below.refl _ _⟩
          case round =>
            obtain ⟨q, rfl, hq, hb, hb'⟩ := hrel
            have hbs' := hb.size
            by_cases hqn : q < n
            · have h1 := (HX5.out.below hb' HX5.out.lt).icell q (by omega)
              have h2 := (HY5.out.below hb' HY5.out.lt).icell q (by omega)
              have hle := HLE.out q (by omega) (by omega)
              have hq0 : (0 : Int) ≤ (q : Int) := by omega
              have hq1 : (q : Int) < (n : Int) := by omega
              generalize (X[q]'(by omega)) = xq at *
              generalize (Y[q]'(by omega)) = yq at *
              have d1 : decide (xq < yq) = false := by simp; omega
              go_wp2_with fail
              go_quiet (fail)
              go_wp2_with fail
              go_roundw
              case rel => exact ⟨q + 1, by go_num, by omega, hb.drewN _, hb'.drewN _⟩
              case measure => simp [intOf]; omega
            · go_wp2_with (go_at_call 13; go_must (refine (awake_any _).mono ?_; rintro e w6 ⟨rfl, hb6⟩))
              go_ret
              exact ⟨rfl, hb.trans (hb6.mono hbs')⟩
  · have HC2 := Lib.hid (dcycle_any (some ⟨gl, 0, none⟩) A3 l.length xs.length cl c3 l xs w2 HI2.out hIx (by omega) (by omega) HOK.out.bounds)
    have HCY := Lib.hid hcy
    clear hb2 hlow HC1 hIx hcy
    go_wp2_with fail
    refine HC2.out.mono ?_
    rw [HCY.out]
    rintro e w3 ⟨rfl, hb3⟩
    have B3 := B2.trans (hb3.mono hs2)
    have hs3 := B3.size
    go_wp2_with (go_at_call 13; go_must (refine (awake_any _).mono ?_; rintro e w5 ⟨rfl, hb5⟩))
    go_ret
    exact ⟨rfl, B3.trans (hb5.mono hs3)⟩

set_option maxRecDepth 100000 in
theorem lifted (os : Os) (started : os.Started) (H : Type) (enc : TypeId × Value → H) :
    ReturnsInHanded {} Try.checked os 11 .any (Rows.diffGreatestSpec.pre6 enc Try.prog Try.f11 Rows.diffGreatestRow.domain false) (Rows.diffGreatestSpec.post enc Try.prog Try.f11 false true false false) := by
  refine returnsInHanded_of_change (C := Try.checked) own started (by kernel_rfl) Try.func11
    (ChangeSpec.witness6 (enc := enc) (C := Try.checked) false ⟨#[], #[.agg #[.int .u8 0, .int .u8 0, .int .u8 0, .slice none 0 0], .slice none 0 0], []⟩ 8 (by kernel_rfl) (by kernel_rfl) (by kernel_rfl) (by kernel_rfl)) ?_
  intro W base args ds gs before hval0 hW hcnd _
  have hval : ∀ (j : Nat) t v, Try.f11.params[j]? = some t → args[j]? = some v → Value.okWide Try.prog W .any base t v := hval0
  have hW' := hW
  obtain ⟨p, q, hA0, hV, rfl, hfz, hnd⟩ := hW
  have hA : DataW.TrodAll enc Try.prog W 0 (fun _ => true) true Try.f11.params.toList args.toList ds p := hA0
  rw [Try.params11] at hA hval
  obtain ⟨v0, vs0, d0, ds0, p0, q0, hargs, rfl, rfl, h0, r0⟩ := trodAll_cons hA
  obtain ⟨v1, vs1, d1, ds1, p1, q1, rfl, rfl, rfl, h1, r1⟩ := trodAll_cons r0
  obtain ⟨rfl, rfl, rfl⟩ := trodAll_nil r1
  obtain rfl : args = #[v0, v1] := by cases args; simp_all
  obtain ⟨rfl, rfl⟩ := trodVars_none hV
  have k0 := h0
  have lt0 : ∀ x ∈ p0, x.block < W.heap.size := by obtain ⟨m, hm⟩ := k0; exact DataW.trod_lt m _ _ _ hm
  obtain ⟨x0, y0, z0, A0, n0, c0, rfl, hP0⟩ := open_prob (hval 0 32 v0 rfl rfl) h0
  obtain ⟨a1, len1, cap1, rfl⟩ := okWide_slice Try.underlying43 (hval 1 43 v1 rfl rfl)
  have k1 := h1
  have lt1 : ∀ x ∈ p1, x.block < W.heap.size := by obtain ⟨m, hm⟩ := k1; exact DataW.trod_lt m _ _ _ hm
  obtain ⟨hlen1, l1, hl1⟩ : len1 ≤ 9223372036854775807 ∧ ∃ l, IsI8 W W.heap.size a1 len1 l := by
    obtain ⟨fuel, hf⟩ := h1
    exact open_i8s (by simpa [Value.cells] using hf) rfl
  clear hA0 hval0
  refine (walk A0 a1 n0 c0 len1 cap1 x0 y0 z0 l1 W hP0 hl1 hlen1).mono fun e W' ⟨he, bel⟩ => ?_
  subst he
  exact ⟨_, rfl, _, _, _, [], _, [], hW', trodAll_mk1 (shut_bool Try.underlying4 _), (trodAll_cons_mk (Below.trod laidOut (by kernel_rfl) (of_decide_eq_true (by kernel_rfl)) k0 bel lt0) (trodAll_cons_mk (Below.trod laidOut (by kernel_rfl) (of_decide_eq_true (by kernel_rfl)) k1 bel lt1) trodAll_mk0)), rfl, bel.frame _, fun h => by cases h⟩

theorem over : Rows.diffGreatestRow.holds Try.pinned (OpenSpec.ofChange Rows.diffGreatestSpec) :=
  OpenClaim.holds_of_wide 11 Try.f11 rfl rfl rfl rfl rfl rfl rfl ⟨rfl, rfl, rfl, rfl, rfl⟩ rfl rfl rfl rfl rfl (by kernel_rfl) Try.func11 (by kernel_rfl)
    (of_decide_eq_true (by kernel_rfl)) (by unfold Func.isWrapper; first | (rw [if_pos (by decide +kernel)]; kernel_rfl) | (rw [if_neg (by decide +kernel)]; exact ⟨rfl, rfl⟩))
    (fun os started H enc _ => lifted os started H enc)
end Go.Proofs.Ytdcgebafmceajaa.lawGreatest

namespace Go.Proofs.Ytdcgebafmceajaa
theorem greatest_holds : Rows.DiffGreatestSaid := lawGreatest.over
#print axioms greatest_holds
end Go.Proofs.Ytdcgebafmceajaa
