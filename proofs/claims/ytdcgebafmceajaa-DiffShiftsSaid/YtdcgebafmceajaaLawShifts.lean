/- interleavelaw32.DiffShifts returns true for every input: a constant may be added to a solution. No condition. -/
import Derived.Test.YtdcgebafmceajaaProb
import Derived.Test.YtdcgebafmceajaaHolds
namespace Go.Proofs.Ytdcgebafmceajaa.lawShifts
open Go.ChangeShapes Go.WideShapes Go.ChangeAt Go.RowKit Go.Deep
open Go.Proofs.Ytdcgebafmceajaa
set_option linter.unusedVariables false

def shifted (X : List Int) (k : Int) (j : Nat) : List Int := (X.take j).map (· + k) ++ X.drop j
theorem shifted_len (X : List Int) (k : Int) (j : Nat) : (shifted X k j).length = X.length := by simp [shifted]; omega
theorem shifted_get (X : List Int) (k : Int) (j : Nat) (h : j < X.length) : (shifted X k j)[j]'(by rw [shifted_len]; exact h) = X[j] := by
  simp only [shifted]
  rw [List.getElem_append_right (by simp; omega)]
  simp only [List.length_map, List.length_take, List.getElem_drop]
  congr 1
  omega
theorem shifted_set (X : List Int) (k : Int) (j : Nat) (h : j < X.length) : (shifted X k j).set j (X[j] + k) = shifted X k (j + 1) := by
  unfold shifted
  rw [List.set_append_right _ _ (by simp; omega), List.take_succ_eq_append_getElem h, List.map_append, List.append_assoc]
  congr 1
  rw [show j - ((X.take j).map (· + k)).length = 0 by simp; omega, List.drop_eq_getElem_cons h]
  rfl
theorem shifted_all (X : List Int) (k : Int) : shifted X k X.length = X.map (· + k) := by simp [shifted]
theorem val_map (X : List Int) (k i : Int) (h : 0 ≤ i ∧ i < X.length) : (X.map (· + k)).getD i.toNat 0 = val X i + k := by
  rw [val_eq X i h, getD_of_lt _ _ (by simp; omega)]; simp
theorem holds_of_sat {l : List D} {n : Nat} (hok : Ok l n) {X : List Int} (hX : X.length = n) (hs : Sat l X) (k : Int) : l.all (holdB (X.map (· + k))) = true := by
  rw [List.all_eq_true]
  intro d hd
  obtain ⟨i, hi, rfl⟩ := List.mem_iff_getElem.1 hd
  have h1 := hs i hi
  rw [dat_eq l i hi] at h1
  have h2 := hok l[i] (List.getElem_mem hi)
  unfold holdB
  rw [Bool.and_eq_true]
  refine ⟨(inB_iff _ _).2 (by simp; omega), ?_⟩
  rw [decide_eq_true_eq, val_map X k _ (by omega), val_map X k _ (by omega)]
  omega

set_option maxRecDepth 100000 in
set_option maxHeartbeats 1000000 in
theorem walk (A : Option Addr) (k0 c : Nat) (s0 s1 s2 kk : Int) (w : World) (hP : ProbIs w s0 s1 s2 A k0 c) (hkk : (Lit.int .i32 kk).wf = true) :
    Calls Try.prog 8 #[.agg #[.int .u8 s0, .int .u8 s1, .int .u8 s2, .slice A k0 c], .int .i32 kk] w fun e w' => e = .returned (.bool true) ∧ Below w.heap.size w w' := by
  obtain ⟨hk1, hk2⟩ := bounds_i32 hkk
  have HC := Lib.hid (Prob_sys (hP.alloc (.cells #[.int .u8 s0, .int .u8 s1, .int .u8 s2, .slice A k0 c] 32)))
  clear hkk
  go_enter Try.func8, Try.ntmps8
  go_wp2_with fail
  refine HC.out.mono ?_
  rintro e w1 ⟨n, v, l, rfl, hn1, hn2, hl1, hl2, hsys, hown, hb1⟩
  obtain ⟨Al, cl, rfl, hI⟩ := isD_of_own hown rfl
  have B1 : Below w.heap.size w w1 := ((Below.refl _ _).alloc (Nat.le_refl _) _).trans (hb1.mono (by simp))
  have hok := ok_of_sys hsys
  have hap := ap_of_sys hsys
  have HOK := Lib.hid hok
  have HI := Lib.hid hI
  have HC1 := Lib.hid (solve_any Al n l.length cl l w1 hI (by omega) (by omega) hok hap)
  have hs1 := B1.size
  clear hown hb1 hI hok hap hsys HC
  go_wp2_with fail
  refine HC1.out.mono ?_
  rintro e w2 ⟨hb2, h2⟩
  have B2 : Below w.heap.size w w2 := B1.trans (hb2.mono hs1)
  have hs2 := B2.size
  have HI2 : Hid (IsD w2 w1.heap.size Al l.length l) := HI.out.below hb2
  rcases h2 with ⟨hlow, g, rfl, hx, hg⟩ | ⟨hlow, A3, c3, xs, rfl, _⟩
  · have hXl := (after_len l n n).1
    have HSAT := Lib.hid (sat_after HOK.out hlow)
    have hbd := bd_after HOK.out n
    have hbd2 : ∀ v ∈ (after l n n).x, -400000000 ≤ v ∧ v ≤ 0 := fun v hv => by
      have h1 := hbd v hv
      have h2 : n * l.length ≤ 6 * 52 := Nat.mul_le_mul hn2 hl2
      omega
    have HBD := Lib.hid hbd2
    have HX := Lib.hid hx
    have hs12 := hb2.size
    clear hb2 hx hlow hbd hbd2 HC1
    generalize (after l n n).x = X at *
    have hgs := HX.out.lt
    go_wp2_with fail
    go_loopw [28] (fun i wr => KI (fun j wr => j ≤ n ∧ Touch [g] w2 wr ∧ Blk wr g 3 (icells (shifted X kk j))) i wr) (fun i _ => n - (intOf i).toNat)
    case atStart => exact ⟨0, rfl, Nat.zero_le _, Touch.refl _ _, by simpa [shifted] using HX.out⟩
    case round =>
      obtain ⟨j, rfl, hj, ht, hbk⟩ := hrel
      have HT := Lib.hid ht
      have HK := Lib.hid hbk
      by_cases hlt : j < n
      · have hjX : j < X.length := by omega
        have hc0 : wr.cell? ⟨g, j, none⟩ = some (.int .i64 X[j]) := by rw [hbk.icell j (by rw [shifted_len]; exact hjX), shifted_get X kk j hjX]
        have hf0 := hbk.frozen j
        have HSET := Lib.hid (shifted_set X kk j hjX)
        have hxb := HBD.out X[j] (List.getElem_mem _)
        clear ht hbk
        generalize X[j] = xj at *
        obtain ⟨hxb1, hxb2⟩ := hxb
        go_wp2_with fail
        go_roundw
        case rel => exact ⟨j + 1, by go_num, by omega, HT.out.setCell (.inl (by simp)) _, by rw [← HSET.out, ← icells_set]; exact HK.out.set_ _ _⟩
        case measure => simp [intOf]; omega
      · obtain rfl : j = n := by omega
        have hz : shifted X kk j = X.map (· + kk) := by rw [← hXl, shifted_all]
        rw [hz] at hbk
        have HZ : Hid (IsI wr wr.heap.size (some ⟨g, 0, none⟩) j (X.map (· + kk))) := hbk.isI (by simpa using hXl)
        have B3 : Below w.heap.size w wr := B2.trans (ht.below hs2 (by simp; omega))
        have HD : Hid (IsD wr wr.heap.size Al l.length l) := (HI2.out.below (ht.below hs12 (by simp; omega))).more (by have := ht.size; omega)
        have HR : Hid (∀ v ∈ X.map (· + kk), -2199023255552 ≤ v ∧ v ≤ 2199023255552) := fun v hv => by
          obtain ⟨x, hx, rfl⟩ := List.mem_map.1 hv
          have := HBD.out x hx
          omega
        have HH := Lib.hid (holds_of_sat HOK.out hXl HSAT.out kk)
        clear ht hbk hz HK HT
        have hs3 := B3.size
        go_wp2_with fail
        refine (holds_any Al (some ⟨g, 0, none⟩) l.length j cl j l _ _ HD.out HZ.out (by omega) (by omega) HR.out).mono ?_
        rw [HH.out]
        rintro e w4 ⟨rfl, hb4⟩
        have B4 := B3.trans (hb4.mono hs3)
        have hs4 := B4.size
        go_wp2_with (go_at_call 13; go_must (refine (awake_any _).mono ?_; rintro e w5 ⟨rfl, hb5⟩))
        go_ret
        exact ⟨rfl, B4.trans (hb5.mono hs4)⟩
  · clear hb2 hlow HC1
    go_wp2_with (go_at_call 13; go_must (refine (awake_any _).mono ?_; rintro e w5 ⟨rfl, hb5⟩))
    go_ret
    exact ⟨rfl, B2.trans (hb5.mono hs2)⟩

set_option maxRecDepth 100000 in
theorem lifted (os : Os) (started : os.Started) (H : Type) (enc : TypeId × Value → H) :
    ReturnsInHanded {} Try.checked os 8 .any (Rows.diffShiftsSpec.pre6 enc Try.prog Try.f8 Rows.diffShiftsRow.domain false) (Rows.diffShiftsSpec.post enc Try.prog Try.f8 false true false false) := by
  refine returnsInHanded_of_change (C := Try.checked) own started (by kernel_rfl) Try.func8
    (ChangeSpec.witness6 (enc := enc) (C := Try.checked) false ⟨#[], #[.agg #[.int .u8 0, .int .u8 0, .int .u8 0, .slice none 0 0], .int .i32 0], []⟩ 8 (by kernel_rfl) (by kernel_rfl) (by kernel_rfl) (by kernel_rfl)) ?_
  intro W base args ds gs before hval0 hW hcnd _
  have hval : ∀ (j : Nat) t v, Try.f8.params[j]? = some t → args[j]? = some v → Value.okWide Try.prog W .any base t v := hval0
  have hW' := hW
  obtain ⟨p, q, hA0, hV, rfl, hfz, hnd⟩ := hW
  have hA : DataW.TrodAll enc Try.prog W 0 (fun _ => true) true Try.f8.params.toList args.toList ds p := hA0
  rw [Try.params8] at hA hval
  obtain ⟨v0, vs0, d0, ds0, p0, q0, hargs, rfl, rfl, h0, r0⟩ := trodAll_cons hA
  obtain ⟨v1, vs1, d1, ds1, p1, q1, rfl, rfl, rfl, h1, r1⟩ := trodAll_cons r0
  obtain ⟨rfl, rfl, rfl⟩ := trodAll_nil r1
  obtain rfl : args = #[v0, v1] := by cases args; simp_all
  obtain ⟨rfl, rfl⟩ := trodVars_none hV
  have k0 := h0
  have lt0 : ∀ x ∈ p0, x.block < W.heap.size := by obtain ⟨m, hm⟩ := k0; exact DataW.trod_lt m _ _ _ hm
  obtain ⟨x0, y0, z0, A0, n0, c0, rfl, hP0⟩ := open_prob (hval 0 32 v0 rfl rfl) h0
  obtain ⟨a1, rfl, rfl, rfl, w1⟩ := open_int Try.underlying21 (hval 1 21 v1 rfl rfl) h1
  clear hA0 hval0
  refine (walk A0 n0 c0 x0 y0 z0 a1 W hP0 w1).mono fun e W' ⟨he, bel⟩ => ?_
  subst he
  exact ⟨_, rfl, _, _, _, [], _, [], hW', trodAll_mk1 (shut_bool Try.underlying4 _), (trodAll_cons_mk (Below.trod laidOut (by kernel_rfl) (of_decide_eq_true (by kernel_rfl)) k0 bel lt0) (trodAll_cons_mk (shut_int Try.underlying21 w1) trodAll_mk0)), rfl, bel.frame _, fun h => by cases h⟩

theorem over : Rows.diffShiftsRow.holds Try.pinned (OpenSpec.ofChange Rows.diffShiftsSpec) :=
  OpenClaim.holds_of_wide 8 Try.f8 rfl rfl rfl rfl rfl rfl rfl ⟨rfl, rfl, rfl, rfl, rfl⟩ rfl rfl rfl rfl rfl (by kernel_rfl) Try.func8 (by kernel_rfl)
    (of_decide_eq_true (by kernel_rfl)) (by unfold Func.isWrapper; first | (rw [if_pos (by decide +kernel)]; kernel_rfl) | (rw [if_neg (by decide +kernel)]; exact ⟨rfl, rfl⟩))
    (fun os started H enc _ => lifted os started H enc)
end Go.Proofs.Ytdcgebafmceajaa.lawShifts

namespace Go.Proofs.Ytdcgebafmceajaa
theorem shifts_holds : Rows.DiffShiftsSaid := lawShifts.over
#print axioms shifts_holds
end Go.Proofs.Ytdcgebafmceajaa
