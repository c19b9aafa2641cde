/- interleavelaw32.DiffRings returns true for every input: Cycle says which rings of constraints are negative cycles. No condition. -/
import Derived.Test.YtdcgebafmceajaaRing
import Derived.Test.YtdcgebafmceajaaAwake
import Derived.Test.YtdcgebafmceajaaDCycle
import Derived.Test.YtdcgebafmceajaaRCycle
import Derived.Test.YtdcgebafmceajaaCycleFn
namespace Go.Proofs.Ytdcgebafmceajaa.lawRings
open Go.ChangeShapes Go.WideShapes Go.ChangeAt Go.RowKit Go.Deep
open Go.Proofs.Ytdcgebafmceajaa
set_option linter.unusedVariables false

/-- What the loop has made behind k rounds. -/
def RingRel (w : World) (n : Nat) (lv cv i : Value) (wr : World) : Prop :=
  ∃ (k : Nat) (L : List D) (C : List Int), i = .int .i64 k ∧ k ≤ n ∧ L.length = k ∧ C.length = k ∧ (∀ d ∈ L, -128 ≤ d.c ∧ d.c ≤ 127) ∧
    wr.ownsRow w.heap.size 36 3 lv k (dcells L) ∧ wr.ownsRow w.heap.size 3 1 cv k (icells C) ∧ Below w.heap.size w wr

theorem icells_app (C : List Int) (x : Int) : icells (C ++ [x]) = icells C ++ [.int .i64 x] := by simp [icells]
theorem mod_nat (i n j : Nat) (hj : j = i % n) : ((i : Int)).tmod (n : Int) = (j : Int) ∧ ((i : Int)) % (n : Int) = (j : Int) := by
  subst hj
  rw [Int.tmod_eq_emod_of_nonneg (by omega)]
  exact ⟨by norm_cast, by norm_cast⟩

set_option maxRecDepth 100000 in
set_option maxHeartbeats 1600000 in
theorem rest (A : Option Addr) (len n c1 : Nat) (l : List Int) (turn : Int) (odd : Bool) (w : World) (hl : IsI8 w w.heap.size A len l) (hn2 : 2 ≤ n) (hn : n ≤ 20) (hnl : n ≤ len) (hmin : (if (20 : Int) < (len : Int) then (20 : Int) else (len : Int)) = (n : Int))
    (ht0 : 0 ≤ turn) (ht1 : turn ≤ 255) :
    Calls Try.prog 10 #[.slice A len c1, .int .u8 turn, .bool odd] w fun e w' => e = .returned (.bool true) ∧ Below w.heap.size w w' := by
  have hll := hl.len
  obtain ⟨i0, hi0, hz0, hz1, hz2⟩ := info_parts diff_info
  obtain ⟨j0, hj0, hy0, hy1, hy2⟩ := info_parts int_info
  obtain ⟨t, rfl⟩ := Int.eq_ofNat_of_zero_le ht0
  have et : IntKind.i64.wrap (t : Int) = (t : Int) := IntWalk.i64_in _ (by omega)
  go_enter Try.func10, Try.ntmps10
  go_wp2_with fail
  have hn2' : decide ((n : Int) < 2) = false := by simp; omega
  rw [hn2']
  clear hn2' hmin
  go_loopw [8, 9, 10] (fun lv cv i wr => RingRel w n lv cv i wr) (fun _ _ i _ => n - (intOf i).toNat)
  case atStart => exact ⟨0, [], [], rfl, Nat.zero_le _, rfl, rfl, by simp, own_nil _ _ _ _, own_nil _ _ _ _, Below.refl _ _⟩
  case round =>
    obtain ⟨k, L, C, rfl, hk, hL, hC, hbd, hoL, hoC, hb⟩ := hrel
    have hbs := hb.size
    have HBD := Lib.hid hbd
    have HOL := Lib.hid hoL
    have HOC := Lib.hid hoC
    clear hbd hoL hoC
    by_cases hlt : k < n
    · have hkl : k < l.length := by omega
      obtain ⟨b, off, rfl, hbb, hc⟩ := (hl.below hb).cells (by omega)
      have hc0 := hc k hkl
      have hv := hl.bound l[k] (List.getElem_mem _)
      clear hc
      generalize l[k] = v at *
      obtain ⟨hv0, hv1⟩ := hv
      obtain ⟨j, hj⟩ : ∃ j, j = (k + 1) % n := ⟨_, rfl⟩
      have hjn : j < n := by rw [hj]; exact Nat.mod_lt _ (by omega)
      obtain ⟨x, hx⟩ : ∃ x, x = (k + t) % n := ⟨_, rfl⟩
      have e1 : IntKind.i64.wrap ((k : Int) + 1) = (k : Int) + 1 := IntWalk.i64_in _ (by omega)
      have e2 := (mod_nat (k + 1) n j hj).1
      have e3 := (mod_nat (k + t) n x hx).2
      rw [show ((k + 1 : Nat) : Int) = (k : Int) + 1 by omega] at e2
      rw [show ((k + t : Nat) : Int) = (k : Int) + (t : Int) by omega] at e3
      have e4 : IntKind.i64.wrap v = v := IntWalk.i64_in _ (by omega)
      have hi1 : (0 : Int) ≤ (k : Int) := by omega
      have hi2 : (k : Int) < (len : Int) := by omega
      have hbw : b < wr.heap.size := by omega
      have hnz : ¬ n = 0 := by omega
      have hnz2 : ¬ (n : Int) = 0 := by omega
      clear hj hx
      have HOL1 := Lib.hid (HOL.out.alloc (.cells #[.int .i64 k, .int .i64 j, .int .i64 v] 36))
      have HN1 := Lib.hid (blk_news (Blk.new wr 36 [.int .i64 k, .int .i64 j, .int .i64 v]))
      go_wp2_with fail
      go_region_held3 (fun w' => w'.cell? ⟨b, off + k, none⟩ = some (.int .i8 v))
        (first | exact kS1 | go_keep)
        (first
          | (refine step_append_lies _ (by rfl) (.tmp 27) (.tmp 39) 22 (by rfl) w.heap.size 36 i0 _ 3 24 Try.underlying22 hi0 hz0 hz1 hz2 rfl (by omega) u8 k (dcells L) (by rfl) (own_drew HOL1.out) ⟨wr.heap.size, 0, none⟩ 1 1 [.int .i64 k, .int .i64 j, .int .i64 v] (by rfl) (by rfl) HN1.out (one_three _ _ _) (by omega) (by simp only [maxLen]; omega) (by omega) (by simp; omega) (wr.heap.size + 1) (by simp) ?_
             intro g cap w1 hown1 hgrow1 hat1 hlt1
             have HB1 : Hid (Below w.heap.size w w1) := (hb.alloc hbs _).drew.grown hgrow1 (by simp; omega) (fun q hq => (HOL.out.lt q hq).1)
             have HC1 : Hid (w1.ownsRow w.heap.size 3 1 u9 k (icells C)) := own_other (own_drew (HOC.out.alloc _)) (own_drew HOL1.out) (by decide) hgrow1
             have HL1 := Lib.hid hown1
             have kS1 : w1.cell? ⟨b, off + k, none⟩ = some (.int .i8 v) := (HB1.out.cell hbb).trans ((hb.cell hbb).symm.trans hc0)
             clear hown1 hgrow1 hat1))
      have hs1 := HB1.out.size
      have HL1' : Hid (w1.ownsRow w.heap.size 36 3 (.slice (some ⟨g, 0, none⟩) (k + 1) cap) (k + 1) (dcells (L ++ [⟨k, j, v⟩]))) := by
        show w1.ownsRow _ _ _ _ _ _
        rw [dcells_append, dcells_one]
        exact HL1.out
      have HC2 := Lib.hid (HC1.out.alloc (.cells #[.int .i64 x] 3))
      clear HL1 HOL1 HN1 HOL HOC
      go_wp2_with (at_builtin; go_must (refine wpList_append_own _ rfl (.tmp 41) (.tmp 48) 25 rfl w.heap.size 3 j0 (.int .i64 0) 1 8 Try.underlying25 hj0 hy0 hy1 hy2 rfl (by decide) u9 k (icells C) rfl HC2.out ⟨w1.heap.size, 0, none⟩ 1 1 [.int .i64 x] rfl rfl (news_one w1 (.int .i64 x) 3) (one_int x) (by simp only [maxLen]; omega) (by omega) (by simp; omega) ?_; intro v2 w2 hown2 hgrow2 _; have HB2 : Hid (Below w.heap.size w w2) := (HB1.out.alloc hs1 _).grown hgrow2 (by simp; omega) (fun q hq => (HC2.out.lt q hq).1); have HL2 : Hid (w2.ownsRow w.heap.size 36 3 (.slice (some ⟨g, 0, none⟩) (k + 1) cap) (k + 1) (dcells (L ++ [⟨k, j, v⟩]))) := own_other (HL1'.out.alloc _) HC2.out (by decide) hgrow2; have HO2 := Lib.hid hown2; clear hown2 hgrow2))
      go_roundw
      case rel =>
        refine ⟨k + 1, L ++ [⟨k, j, v⟩], C ++ [(x : Int)], by go_num, by omega, by simp; omega, by simp; omega, ?_, HL2.out, ?_, HB2.out⟩
        · intro d hd
          rw [List.mem_append, List.mem_singleton] at hd
          rcases hd with hd | rfl
          · exact HBD.out d hd
          · dsimp only; omega
        · have := HO2.out
          rw [icells_app]
          exact this
      case measure => simp [intOf]; omega
    · obtain rfl : k = n := by omega
      have HBD2 : Hid (∀ d ∈ L, -1048577 ≤ d.c ∧ d.c ≤ 1048577) := fun d hd => by have := HBD.out d hd; omega
      cases odd with
      | false =>
        obtain ⟨A8, c8, rfl, hI8⟩ := isD_of_own HOL.out hL
        obtain ⟨A9, c9, rfl, hI9⟩ := isI_of_own HOC.out hC
        have H8 := Lib.hid hI8
        have H9 := Lib.hid hI9
        clear hI8 hI9 HOL HOC
        go_wp2_with fail
        refine (dcycle_any A8 A9 k k c8 c9 L C _ H8.out H9.out (by omega) (by omega) HBD2.out).mono ?_
        rintro e w3 ⟨rfl, hb3⟩
        have hb4 := hb.trans (hb3.mono hbs)
        have hs4 := hb4.size
        have H8' : Hid (IsD w3 w3.heap.size A8 k L) := (H8.out.below hb3).more hb3.size
        have H9' : Hid (IsI w3 w3.heap.size A9 k C) := (H9.out.below hb3).more hb3.size
        clear hb3 H8 H9
        go_wp2_with fail
        refine (rcycle_any A8 A9 k k c8 c9 L C _ H8'.out H9'.out (by omega) (by omega) HBD2.out).mono ?_
        rintro e w5 ⟨rfl, hb5⟩
        have hb6 := hb4.trans (hb5.mono hs4)
        have hs6 := hb6.size
        clear hb5 H8' H9'
        go_wp2_with (go_at_call 13; go_must (refine (awake_any _).mono ?_; rintro e w7 ⟨rfl, hb7⟩))
        go_ret
        exact ⟨by simp, hb6.trans (hb7.mono hs6)⟩
      | true =>
        obtain ⟨A8, c8, rfl, hI8⟩ := isD_of_own HOL.out hL
        obtain ⟨g, c9, rfl, hg1, hg2⟩ := HOC.out.form (by omega)
        obtain ⟨j, hj⟩ : ∃ j, j = t % k := ⟨_, rfl⟩
        have hjn : j < k := by rw [hj]; exact Nat.mod_lt _ (by omega)
        obtain ⟨x, hx⟩ : ∃ x, x = (j + 1) % k := ⟨_, rfl⟩
        have hxn : x < k := by rw [hx]; exact Nat.mod_lt _ (by omega)
        have e2 := (mod_nat t k j hj).2
        have e3 := (mod_nat (j + 1) k x hx).2
        rw [show ((j + 1 : Nat) : Int) = (j : Int) + 1 by omega] at e3
        have hcx : wr.cell? ⟨g, x, none⟩ = some (.int .i64 (C[x]'(by omega))) := (HOC.out.cellAt x (by omega)).trans (icells_get C x (by omega))
        have hcj : wr.cell? ⟨g, j, none⟩ = some (.int .i64 (C[j]'(by omega))) := (HOC.out.cellAt j (by omega)).trans (icells_get C j (by omega))
        have hfj := HOC.out.frozenAt j
        generalize (C[x]'(by omega)) = vx at *
        generalize (C[j]'(by omega)) = vj at *
        have hj0 : (0 : Int) ≤ (j : Int) := by omega
        have hj1 : (j : Int) < (k : Int) := by omega
        have hx0 : (0 : Int) ≤ (x : Int) := by omega
        have hx1 : (x : Int) < (k : Int) := by omega
        have h3 : (t : Int) % 3 = 0 ∨ (t : Int) % 3 = 1 ∨ (t : Int) % 3 = 2 := by omega
        clear hj hx hI8
        have HST : Hid (∀ (o : Obj) (u : Int), ((wr.setCell ⟨g, j, none⟩ (.int .i64 u)).alloc o).ownsRow w.heap.size 3 1 (.slice (some ⟨g, 0, none⟩) k c9) k (icells (C.set j u)) ∧ ((wr.setCell ⟨g, j, none⟩ (.int .i64 u)).alloc o).ownsRow w.heap.size 36 3 (.slice A8 k c8) k (dcells L) ∧ Below w.heap.size w ((wr.setCell ⟨g, j, none⟩ (.int .i64 u)).alloc o)) := by
          intro o u
          have h := HOC.out.stored j (.int .i64 u)
          rw [icells_set] at h
          exact ⟨h.1.alloc o, (own_other HOL.out HOC.out (by decide) h.2).alloc o, (hb.setCell hg1 _).alloc (by simpa [World.setCell] using hbs) o⟩
        clear HOL HOC
        rcases h3 with e5 | e5 | e5
        · go_wp2_with fail
          obtain ⟨q1, q2, q3⟩ := HST.out (.cells #[.int .i64 k, .int .i64 (-1), .int .i64 vx] 3) (k : Int)
          obtain ⟨A8', c8', e8, hI8⟩ := isD_of_own q2 hL
          obtain ⟨A9, c9', e9, hI9⟩ := isI_of_own q1 (by simpa using hC)
          injection e8 with e8a e8b e8c
          injection e9 with e9a e9b e9c
          subst e8a e9a e8c e9c
          have H8 := Lib.hid hI8
          have H9 := Lib.hid hI9
          have qs := q3.size
          clear q1 q2 hI8 hI9
          refine (dcycle_any A8 (some ⟨g, 0, none⟩) k k c8 c9 L _ _ H8.out H9.out (by omega) (by omega) HBD2.out).mono ?_
          rintro e w3 ⟨rfl, hb3⟩
          have hb4 := q3.trans (hb3.mono qs)
          have hs4 := hb4.size
          have H8' : Hid (IsD w3 w3.heap.size A8 k L) := (H8.out.below hb3).more hb3.size
          have H9' := Lib.hid ((H9.out.below hb3).more hb3.size)
          clear hb3 H8 H9 q3 qs hcx hfj
          go_wp2_with fail
          refine (rcycle_any A8 (some ⟨g, 0, none⟩) k k c8 c9 L _ _ H8'.out H9'.out (by omega) (by omega) HBD2.out).mono ?_
          rintro e w5 ⟨rfl, hb5⟩
          have hb6 := hb4.trans (hb5.mono hs4)
          have hs6 := hb6.size
          clear hb5 H8' H9'
          go_wp2_with (go_at_call 13; go_must (refine (awake_any _).mono ?_; rintro e w7 ⟨rfl, hb7⟩))
          go_ret
          exact ⟨by simp, hb6.trans (hb7.mono hs6)⟩
        · go_wp2_with fail
          obtain ⟨q1, q2, q3⟩ := HST.out (.cells #[.int .i64 k, .int .i64 (-1), .int .i64 vx] 3) (-1)
          obtain ⟨A8', c8', e8, hI8⟩ := isD_of_own q2 hL
          obtain ⟨A9, c9', e9, hI9⟩ := isI_of_own q1 (by simpa using hC)
          injection e8 with e8a e8b e8c
          injection e9 with e9a e9b e9c
          subst e8a e9a e8c e9c
          have H8 := Lib.hid hI8
          have H9 := Lib.hid hI9
          have qs := q3.size
          clear q1 q2 hI8 hI9
          refine (dcycle_any A8 (some ⟨g, 0, none⟩) k k c8 c9 L _ _ H8.out H9.out (by omega) (by omega) HBD2.out).mono ?_
          rintro e w3 ⟨rfl, hb3⟩
          have hb4 := q3.trans (hb3.mono qs)
          have hs4 := hb4.size
          have H8' : Hid (IsD w3 w3.heap.size A8 k L) := (H8.out.below hb3).more hb3.size
          have H9' := Lib.hid ((H9.out.below hb3).more hb3.size)
          clear hb3 H8 H9 q3 qs hcx hfj
          go_wp2_with fail
          refine (rcycle_any A8 (some ⟨g, 0, none⟩) k k c8 c9 L _ _ H8'.out H9'.out (by omega) (by omega) HBD2.out).mono ?_
          rintro e w5 ⟨rfl, hb5⟩
          have hb6 := hb4.trans (hb5.mono hs4)
          have hs6 := hb6.size
          clear hb5 H8' H9'
          go_wp2_with (go_at_call 13; go_must (refine (awake_any _).mono ?_; rintro e w7 ⟨rfl, hb7⟩))
          go_ret
          exact ⟨by simp, hb6.trans (hb7.mono hs6)⟩
        · go_wp2_with fail
          obtain ⟨q1, q2, q3⟩ := HST.out (.cells #[.int .i64 k, .int .i64 (-1), .int .i64 vx] 3) vx
          obtain ⟨A8', c8', e8, hI8⟩ := isD_of_own q2 hL
          obtain ⟨A9, c9', e9, hI9⟩ := isI_of_own q1 (by simpa using hC)
          injection e8 with e8a e8b e8c
          injection e9 with e9a e9b e9c
          subst e8a e9a e8c e9c
          have H8 := Lib.hid hI8
          have H9 := Lib.hid hI9
          have qs := q3.size
          clear q1 q2 hI8 hI9
          refine (dcycle_any A8 (some ⟨g, 0, none⟩) k k c8 c9 L _ _ H8.out H9.out (by omega) (by omega) HBD2.out).mono ?_
          rintro e w3 ⟨rfl, hb3⟩
          have hb4 := q3.trans (hb3.mono qs)
          have hs4 := hb4.size
          have H8' : Hid (IsD w3 w3.heap.size A8 k L) := (H8.out.below hb3).more hb3.size
          have H9' := Lib.hid ((H9.out.below hb3).more hb3.size)
          clear hb3 H8 H9 q3 qs hcx hfj
          go_wp2_with fail
          refine (rcycle_any A8 (some ⟨g, 0, none⟩) k k c8 c9 L _ _ H8'.out H9'.out (by omega) (by omega) HBD2.out).mono ?_
          rintro e w5 ⟨rfl, hb5⟩
          have hb6 := hb4.trans (hb5.mono hs4)
          have hs6 := hb6.size
          clear hb5 H8' H9'
          go_wp2_with (go_at_call 13; go_must (refine (awake_any _).mono ?_; rintro e w7 ⟨rfl, hb7⟩))
          go_ret
          exact ⟨by simp, hb6.trans (hb7.mono hs6)⟩

set_option maxHeartbeats 400000 in
theorem few (A : Option Addr) (len c1 : Nat) (turn : Int) (odd : Bool) (w : World) (hn : len < 2) :
    Calls Try.prog 10 #[.slice A len c1, .int .u8 turn, .bool odd] w fun e w' => e = .returned (.bool true) ∧ Below w.heap.size w w' := by
  have hmin : (if (20 : Int) < (len : Int) then (20 : Int) else (len : Int)) = (len : Int) := if_neg (by omega)
  have hl2 : (len : Int) < 2 := by omega
  have HC := Lib.hid (dcycle_any none none 0 0 0 0 [] [] w ⟨rfl, fun h => absurd h (by omega)⟩ ⟨rfl, fun h => absurd h (by omega)⟩ (by omega) (by omega) (by simp))
  have HE : Hid (cycB [] [] = false) := rfl
  go_enter Try.func10, Try.ntmps10
  go_wp2_with fail
  refine HC.out.mono ?_
  rw [HE.out]
  rintro e w1 ⟨rfl, hb1⟩
  go_wp2_with (go_at_call 13; go_must (refine (awake_any _).mono ?_; rintro e w7 ⟨rfl, hb7⟩))
  go_ret
  exact ⟨rfl, hb1.trans (hb7.mono hb1.size)⟩

theorem walk (A : Option Addr) (len c1 : Nat) (l : List Int) (turn : Int) (odd : Bool) (w : World) (hl : IsI8 w w.heap.size A len l) (ht : (Lit.int .u8 turn).wf = true) :
    Calls Try.prog 10 #[.slice A len c1, .int .u8 turn, .bool odd] w fun e w' => e = .returned (.bool true) ∧ Below w.heap.size w w' := by
  have hb := bounds_u8 ht
  by_cases h1 : len < 2
  · exact few A len c1 turn odd w h1
  · by_cases h2 : 20 < len
    · exact rest A len 20 c1 l turn odd w hl (by omega) (by omega) (by omega) (by rw [if_pos (by omega)]; rfl) hb.1 hb.2
    · exact rest A len len c1 l turn odd w hl (by omega) (by omega) (by omega) (if_neg (by omega)) hb.1 hb.2

set_option maxRecDepth 100000 in
theorem lifted (os : Os) (started : os.Started) (H : Type) (enc : TypeId × Value → H) :
    ReturnsInHanded {} Try.checked os 10 .any (Rows.diffRingsSpec.pre6 enc Try.prog Try.f10 Rows.diffRingsRow.domain false) (Rows.diffRingsSpec.post enc Try.prog Try.f10 false true false false) := by
  refine returnsInHanded_of_change (C := Try.checked) own started (by kernel_rfl) Try.func10
    (ChangeSpec.witness6 (enc := enc) (C := Try.checked) false ⟨#[], #[.slice none 0 0, .int .u8 0, .bool false], []⟩ 8 (by kernel_rfl) (by kernel_rfl) (by kernel_rfl) (by kernel_rfl)) ?_
  intro W base args ds gs before hval0 hW hcnd _
  have hval : ∀ (j : Nat) t v, Try.f10.params[j]? = some t → args[j]? = some v → Value.okWide Try.prog W .any base t v := hval0
  have hW' := hW
  obtain ⟨p, q, hA0, hV, rfl, hfz, hnd⟩ := hW
  have hA : DataW.TrodAll enc Try.prog W 0 (fun _ => true) true Try.f10.params.toList args.toList ds p := hA0
  rw [Try.params10] at hA hval
  obtain ⟨v0, vs0, d0, ds0, p0, q0, hargs, rfl, rfl, h0, r0⟩ := trodAll_cons hA
  obtain ⟨v1, vs1, d1, ds1, p1, q1, rfl, rfl, rfl, h1, r1⟩ := trodAll_cons r0
  obtain ⟨v2, vs2, d2, ds2, p2, q2, rfl, rfl, rfl, h2, r2⟩ := trodAll_cons r1
  obtain ⟨rfl, rfl, rfl⟩ := trodAll_nil r2
  obtain rfl : args = #[v0, v1, v2] := by cases args; simp_all
  obtain ⟨rfl, rfl⟩ := trodVars_none hV
  obtain ⟨a0, len0, cap0, rfl⟩ := okWide_slice Try.underlying43 (hval 0 43 v0 rfl rfl)
  have k0 := h0
  have lt0 : ∀ x ∈ p0, x.block < W.heap.size := by obtain ⟨m, hm⟩ := k0; exact DataW.trod_lt m _ _ _ hm
  obtain ⟨hlen0, l0, hl0⟩ : len0 ≤ 9223372036854775807 ∧ ∃ l, IsI8 W W.heap.size a0 len0 l := by
    obtain ⟨fuel, hf⟩ := h0
    exact open_i8s (by simpa [Value.cells] using hf) rfl
  obtain ⟨a1, rfl, rfl, rfl, w1⟩ := open_int Try.underlying5 (hval 1 5 v1 rfl rfl) h1
  obtain ⟨a2, rfl, rfl, rfl⟩ := open_bool Try.underlying4 (hval 2 4 v2 rfl rfl) h2
  clear hA0 hval0
  refine (walk a0 len0 cap0 l0 a1 a2 W hl0 w1).mono fun e W' ⟨he, bel⟩ => ?_
  subst he
  exact ⟨_, rfl, _, _, _, [], _, [], hW', trodAll_mk1 (shut_bool Try.underlying4 _), (trodAll_cons_mk (Below.trod laidOut (by kernel_rfl) (of_decide_eq_true (by kernel_rfl)) k0 bel lt0) (trodAll_cons_mk (shut_int Try.underlying5 w1) (trodAll_cons_mk (shut_bool Try.underlying4 a2) trodAll_mk0))), rfl, bel.frame _, fun h => by cases h⟩

theorem over : Rows.diffRingsRow.holds Try.pinned (OpenSpec.ofChange Rows.diffRingsSpec) :=
  OpenClaim.holds_of_wide 10 Try.f10 rfl rfl rfl rfl rfl rfl rfl ⟨rfl, rfl, rfl, rfl, rfl⟩ rfl rfl rfl rfl rfl (by kernel_rfl) Try.func10 (by kernel_rfl)
    (of_decide_eq_true (by kernel_rfl)) (by unfold Func.isWrapper; first | (rw [if_pos (by decide +kernel)]; kernel_rfl) | (rw [if_neg (by decide +kernel)]; exact ⟨rfl, rfl⟩))
    (fun os started H enc _ => lifted os started H enc)
end Go.Proofs.Ytdcgebafmceajaa.lawRings

namespace Go.Proofs.Ytdcgebafmceajaa
theorem rings_holds : Rows.DiffRingsSaid := lawRings.over
#print axioms rings_holds
end Go.Proofs.Ytdcgebafmceajaa
