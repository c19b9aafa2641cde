/- interleavelaw32.DiffCycles returns true for every input: Cycle says which lists of indices are negative cycles. No condition. -/
import Derived.Test.YtdcgebafmceajaaOpen
import Derived.Test.YtdcgebafmceajaaAwake
import Derived.Test.YtdcgebafmceajaaDCycle
import Derived.Test.YtdcgebafmceajaaRCycle
namespace Go.Proofs.Ytdcgebafmceajaa.lawCycles
open Go.ChangeShapes Go.WideShapes Go.ChangeAt Go.RowKit Go.Deep
open Go.Proofs.Ytdcgebafmceajaa
set_option linter.unusedVariables false

set_option maxHeartbeats 1000000 in
theorem walk (A B : Option Addr) (n m c1 c2 : Nat) (l : List D) (z : List Int) (w : World) (hl : IsD w w.heap.size A n l) (hz : IsI w w.heap.size B m z) (hn : n ≤ 9223372036854775807) (hm : m ≤ 9223372036854775807) :
    Calls Try.prog 9 #[.slice A n c1, .slice B m c2] w fun e w' => e = .returned (.bool true) ∧ Below w.heap.size w w' := by
  have hll := hl.len
  have hzl := hz.len
  by_cases hn2 : n ≤ 200
  · by_cases hm2 : m ≤ 200
    · go_enter Try.func9, Try.ntmps9
      go_wp2_with fail
      go_loopw [18] (fun i wr => KI (fun k wr => k ≤ n ∧ Below w.heap.size w wr ∧ ∀ d ∈ l.take k, -1048577 ≤ d.c ∧ d.c ≤ 1048577) i wr) (fun i _ => n - (intOf i).toNat)
      case atStart => exact ⟨0, rfl, Nat.zero_le _, Below.refl _ _, by simp⟩
      case round =>
        obtain ⟨k, rfl, hk, hb, hv⟩ := hrel
        have hbs := hb.size
        have HV := Lib.hid hv
        clear hv
        by_cases hlt : k < n
        · have hkl : k < l.length := by omega
          obtain ⟨b, off, rfl, hbb, hc⟩ := (hl.below hb).cells (by omega)
          obtain ⟨hc0, hc1, hc2⟩ := hc k hkl
          clear hc
          have HS : Hid (l.take (k + 1) = l.take k ++ [l[k]]) := List.take_succ_eq_append_getElem hkl
          generalize l[k] = d at *
          obtain ⟨dx, dy, dc⟩ := d
          dsimp only at *
          go_wp2_with (go_at_call 13; go_must (refine (awake_any _).mono ?_; rintro e w2 ⟨rfl, hb2⟩))
          all_goals first
            | (go_ret; exact ⟨rfl, (hb.alloc hbs _).trans (hb2.mono (by simp; omega))⟩)
            | (go_roundw
               case rel => exact ⟨k + 1, by go_num, by omega, hb.alloc hbs _, by
                rw [HS.out]
                intro u hu
                rw [List.mem_append, List.mem_singleton] at hu
                rcases hu with hu | rfl
                · exact HV.out u hu
                · dsimp only; omega⟩
               case measure => simp [intOf]; omega)
        · have HR : Hid (∀ d ∈ l, -1048577 ≤ d.c ∧ d.c ≤ 1048577) := by
            have := HV.out
            rw [List.take_of_length_le (by omega)] at this
            exact this
          clear HV
          have HL : Hid (IsD _ _ A n l) := (hl.below hb).more hbs
          have HZ : Hid (IsI _ _ B m z) := (hz.below hb).more hbs
          go_wp2_with fail
          refine (dcycle_any A B n m c1 c2 l z _ HL.out HZ.out (by omega) (by omega) HR.out).mono ?_
          rintro e w2 ⟨rfl, hb2⟩
          have hb3 := hb.trans (hb2.mono hbs)
          have hs3 := hb3.size
          have HL2 : Hid (IsD _ _ A n l) := (hl.below hb3).more hs3
          have HZ2 : Hid (IsI _ _ B m z) := (hz.below hb3).more hs3
          clear hb2 HL HZ
          go_wp2_with fail
          refine (rcycle_any A B n m c1 c2 l z _ HL2.out HZ2.out (by omega) (by omega) HR.out).mono ?_
          rintro e w4 ⟨rfl, hb4⟩
          have hb5 := hb3.trans (hb4.mono hs3)
          have hs5 := hb5.size
          clear hb4 hb3 HL2 HZ2
          go_wp2_with (go_at_call 13; go_must (refine (awake_any _).mono ?_; rintro e w6 ⟨rfl, hb6⟩))
          go_ret
          exact ⟨by simp, hb5.trans (hb6.mono hs5)⟩
    · have h200 : (200 : Int) < (m : Int) := by omega
      go_enter Try.func9, Try.ntmps9
      go_wp2_with (go_at_call 13; go_must (refine (awake_any _).mono ?_; rintro e w2 ⟨rfl, hb2⟩))
      go_ret
      exact ⟨rfl, hb2⟩
  · have h200 : (200 : Int) < (n : Int) := by omega
    go_enter Try.func9, Try.ntmps9
    go_wp2_with (go_at_call 13; go_must (refine (awake_any _).mono ?_; rintro e w2 ⟨rfl, hb2⟩))
    go_ret
    exact ⟨rfl, hb2⟩

set_option maxRecDepth 100000 in
theorem lifted (os : Os) (started : os.Started) (H : Type) (enc : TypeId × Value → H) :
    ReturnsInHanded {} Try.checked os 9 .any (Rows.diffCyclesSpec.pre6 enc Try.prog Try.f9 Rows.diffCyclesRow.domain false) (Rows.diffCyclesSpec.post enc Try.prog Try.f9 false true false false) := by
  refine returnsInHanded_of_change (C := Try.checked) own started (by kernel_rfl) Try.func9
    (ChangeSpec.witness6 (enc := enc) (C := Try.checked) false ⟨#[], #[.slice none 0 0, .slice none 0 0], []⟩ 8 (by kernel_rfl) (by kernel_rfl) (by kernel_rfl) (by kernel_rfl)) ?_
  intro W base args ds gs before hval0 hW hcnd _
  have hval : ∀ (j : Nat) t v, Try.f9.params[j]? = some t → args[j]? = some v → Value.okWide Try.prog W .any base t v := hval0
  have hW' := hW
  obtain ⟨p, q, hA0, hV, rfl, hfz, hnd⟩ := hW
  have hA : DataW.TrodAll enc Try.prog W 0 (fun _ => true) true Try.f9.params.toList args.toList ds p := hA0
  rw [Try.params9] at hA hval
  obtain ⟨v0, vs0, d0, ds0, p0, q0, hargs, rfl, rfl, h0, r0⟩ := trodAll_cons hA
  obtain ⟨v1, vs1, d1, ds1, p1, q1, rfl, rfl, rfl, h1, r1⟩ := trodAll_cons r0
  obtain ⟨rfl, rfl, rfl⟩ := trodAll_nil r1
  obtain rfl : args = #[v0, v1] := by cases args; simp_all
  obtain ⟨rfl, rfl⟩ := trodVars_none hV
  obtain ⟨a0, len0, cap0, rfl⟩ := okWide_slice Try.underlying22 (hval 0 22 v0 rfl rfl)
  have k0 := h0
  have lt0 : ∀ x ∈ p0, x.block < W.heap.size := by obtain ⟨m, hm⟩ := k0; exact DataW.trod_lt m _ _ _ hm
  obtain ⟨hlen0, l0, hl0⟩ : len0 ≤ 9223372036854775807 ∧ ∃ l, IsD W W.heap.size a0 len0 l := by
    obtain ⟨fuel, hf⟩ := h0
    exact open_diffs (by simpa [Value.cells] using hf) rfl
  obtain ⟨a1, len1, cap1, rfl⟩ := okWide_slice Try.underlying25 (hval 1 25 v1 rfl rfl)
  have k1 := h1
  have lt1 : ∀ x ∈ p1, x.block < W.heap.size := by obtain ⟨m, hm⟩ := k1; exact DataW.trod_lt m _ _ _ hm
  obtain ⟨hlen1, l1, hl1⟩ : len1 ≤ 9223372036854775807 ∧ ∃ l, IsI W W.heap.size a1 len1 l := by
    obtain ⟨fuel, hf⟩ := h1
    exact open_intsI (by simpa [Value.cells] using hf) rfl
  clear hA0 hval0
  refine (walk a0 a1 len0 len1 cap0 cap1 l0 l1 W hl0 hl1 hlen0 hlen1).mono fun e W' ⟨he, bel⟩ => ?_
  subst he
  exact ⟨_, rfl, _, _, _, [], _, [], hW', trodAll_mk1 (shut_bool Try.underlying4 _), (trodAll_cons_mk (Below.trod laidOut (by kernel_rfl) (of_decide_eq_true (by kernel_rfl)) k0 bel lt0) (trodAll_cons_mk (Below.trod laidOut (by kernel_rfl) (of_decide_eq_true (by kernel_rfl)) k1 bel lt1) trodAll_mk0)), rfl, bel.frame _, fun h => by cases h⟩

theorem over : Rows.diffCyclesRow.holds Try.pinned (OpenSpec.ofChange Rows.diffCyclesSpec) :=
  OpenClaim.holds_of_wide 9 Try.f9 rfl rfl rfl rfl rfl rfl rfl ⟨rfl, rfl, rfl, rfl, rfl⟩ rfl rfl rfl rfl rfl (by kernel_rfl) Try.func9 (by kernel_rfl)
    (of_decide_eq_true (by kernel_rfl)) (by unfold Func.isWrapper; first | (rw [if_pos (by decide +kernel)]; kernel_rfl) | (rw [if_neg (by decide +kernel)]; exact ⟨rfl, rfl⟩))
    (fun os started H enc _ => lifted os started H enc)
end Go.Proofs.Ytdcgebafmceajaa.lawCycles

namespace Go.Proofs.Ytdcgebafmceajaa
theorem cycles_holds : Rows.DiffCyclesSaid := lawCycles.over
#print axioms cycles_holds
end Go.Proofs.Ytdcgebafmceajaa
