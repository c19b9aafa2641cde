/- interleavelaw32.DiffSolves returns true for every input: Solve gives the greatest solution of every system, or a negative cycle. No condition. -/
import Derived.Test.YtdcgebafmceajaaOpen
import Derived.Test.YtdcgebafmceajaaAwake
import Derived.Test.YtdcgebafmceajaaRight
import Derived.Test.YtdcgebafmceajaaFit
namespace Go.Proofs.Ytdcgebafmceajaa.solves
open Go.ChangeShapes Go.WideShapes Go.ChangeAt Go.RowKit Go.Deep
open Go.Proofs.Ytdcgebafmceajaa
set_option linter.unusedVariables false

theorem ok_of_fits {n : Int} {l : List D} (h : fitsB n l = true) : ∃ k : Nat, n = k ∧ k ≤ 32 ∧ Ok l k ∧ Apart l := by
  simp only [fitsB, Bool.and_eq_true, decide_eq_true_eq, List.all_eq_true] at h
  obtain ⟨h1, h2⟩ := h
  obtain ⟨k, rfl⟩ := Int.eq_ofNat_of_zero_le h1.1
  refine ⟨k, rfl, by omega, fun d hd => ?_, fun d hd => ?_⟩
  · have := (fitB_iff _ _).1 (h2 d hd); omega
  · have := (fitB_iff _ _).1 (h2 d hd); exact this.2.2.1

set_option maxHeartbeats 1000000 in
theorem walk (A : Option Addr) (m c1 : Nat) (ints : Int) (l : List D) (w : World) (hl : IsD w w.heap.size A m l) (hm : m ≤ 9223372036854775807) :
    Calls Try.prog 3 #[.int .i64 ints, .slice A m c1] w fun e w' => e = .returned (.bool true) ∧ Below w.heap.size w w' := by
  by_cases hm2 : m ≤ 200
  · have HF := Lib.hid (fitDiffs_any A m c1 ints l w hl (by omega))
    cases hfit : fitsB ints l with
    | false =>
      have HFF := Lib.hid hfit
      clear hfit
      go_enter Try.func3, Try.ntmps3
      go_wp2_with fail
      refine HF.out.mono ?_
      rw [HFF.out]
      rintro e w1 ⟨rfl, hb1⟩
      go_wp2_with (go_at_call 13; go_must (refine (awake_any _).mono ?_; rintro e w2 ⟨rfl, hb2⟩))
      go_ret
      exact ⟨rfl, hb1.trans (hb2.mono hb1.size)⟩
    | true =>
      have HFF := Lib.hid hfit
      obtain ⟨n, rfl, hn, hok, hap⟩ := ok_of_fits hfit
      have HOK := Lib.hid hok
      have HAP := Lib.hid hap
      have HL := Lib.hid hl
      clear hfit hok hap hl
      go_enter Try.func3, Try.ntmps3
      go_wp2_with fail
      refine HF.out.mono ?_
      rw [HFF.out]
      rintro e w1 ⟨rfl, hb1⟩
      have HL1 : Hid (IsD w1 w1.heap.size A m l) := (HL.out.below hb1).more hb1.size
      go_wp2_with fail
      refine (solve_any A n m c1 l _ HL1.out (by omega) hn HOK.out HAP.out).mono ?_
      rintro e w2 ⟨hb2, h2⟩
      have B2 : Below w.heap.size w w2 := hb1.trans (hb2.mono hb1.size)
      have HL2 : Hid (IsD w2 w2.heap.size A m l) := (HL1.out.below hb2).more hb2.size
      clear hb1 hb2 HF
      rcases h2 with ⟨h2, g, rfl, hx, _⟩ | ⟨h2, A3, c3, xs, rfl, hI, hcy, hxn⟩
      · have HC := Lib.hid (right_ok A n m c1 g l _ HL2.out (by omega) hn HOK.out HAP.out h2 hx)
        clear h2 hx
        go_wp2_with (first | (go_at_call 13; go_must (refine (awake_any _).mono ?_; rintro e w4 ⟨rfl, hb4⟩)) | (go_at_call 15; go_must (refine HC.out.mono ?_; rintro e w3 ⟨rfl, hb3⟩)))
        go_ret
        exact ⟨rfl, (B2.trans (hb3.mono B2.size)).trans (hb4.mono (Nat.le_trans B2.size hb3.size))⟩
      · have HC := Lib.hid (right_no A A3 n m c1 c3 l xs _ HL2.out hI (by omega) hn (by omega) HOK.out HAP.out h2 hcy)
        clear h2 hI hcy
        go_wp2_with (first | (go_at_call 13; go_must (refine (awake_any _).mono ?_; rintro e w4 ⟨rfl, hb4⟩)) | (go_at_call 15; go_must (refine HC.out.mono ?_; rintro e w3 ⟨rfl, hb3⟩)))
        go_ret
        exact ⟨rfl, (B2.trans (hb3.mono B2.size)).trans (hb4.mono (Nat.le_trans B2.size hb3.size))⟩
  · have h200 : (200 : Int) < (m : Int) := by omega
    go_enter Try.func3, Try.ntmps3
    go_wp2_with (go_at_call 13; go_must (refine (awake_any _).mono ?_; rintro e w2 ⟨rfl, hb2⟩))
    go_ret
    exact ⟨rfl, hb2⟩

set_option maxRecDepth 100000 in
theorem lifted (os : Os) (started : os.Started) (H : Type) (enc : TypeId × Value → H) :
    ReturnsInHanded {} Try.checked os 3 .any (Rows.diffSolvesSpec.pre6 enc Try.prog Try.f3 Rows.diffSolvesRow.domain false) (Rows.diffSolvesSpec.post enc Try.prog Try.f3 false true false false) := by
  refine returnsInHanded_of_change (C := Try.checked) own started (by kernel_rfl) Try.func3
    (ChangeSpec.witness6 (enc := enc) (C := Try.checked) false ⟨#[], #[.int .i64 0, .slice none 0 0], []⟩ 8 (by kernel_rfl) (by kernel_rfl) (by kernel_rfl) (by kernel_rfl)) ?_
  intro W base args ds gs before hval0 hW hcnd _
  have hval : ∀ (j : Nat) t v, Try.f3.params[j]? = some t → args[j]? = some v → Value.okWide Try.prog W .any base t v := hval0
  have hW' := hW
  obtain ⟨p, q, hA0, hV, rfl, hfz, hnd⟩ := hW
  have hA : DataW.TrodAll enc Try.prog W 0 (fun _ => true) true Try.f3.params.toList args.toList ds p := hA0
  rw [Try.params3] at hA hval
  obtain ⟨v0, vs0, d0, ds0, p0, q0, hargs, rfl, rfl, h0, r0⟩ := trodAll_cons hA
  obtain ⟨v1, vs1, d1, ds1, p1, q1, rfl, rfl, rfl, h1, r1⟩ := trodAll_cons r0
  obtain ⟨rfl, rfl, rfl⟩ := trodAll_nil r1
  obtain rfl : args = #[v0, v1] := by cases args; simp_all
  obtain ⟨rfl, rfl⟩ := trodVars_none hV
  obtain ⟨a0, rfl, rfl, rfl, w0⟩ := open_int Try.underlying3 (hval 0 3 v0 rfl rfl) h0
  obtain ⟨a1, len1, cap1, rfl⟩ := okWide_slice Try.underlying22 (hval 1 22 v1 rfl rfl)
  have k1 := h1
  have lt1 : ∀ x ∈ p1, x.block < W.heap.size := by obtain ⟨m, hm⟩ := k1; exact DataW.trod_lt m _ _ _ hm
  obtain ⟨hlen, l, hl⟩ : len1 ≤ 9223372036854775807 ∧ ∃ l, IsD W W.heap.size a1 len1 l := by
    obtain ⟨fuel, hf⟩ := h1
    exact open_diffs (by simpa [Value.cells] using hf) rfl
  clear hA0 hval0
  refine (walk a1 len1 cap1 a0 l W hl hlen).mono fun e W' ⟨he, bel⟩ => ?_
  subst he
  exact ⟨_, rfl, _, _, _, [], _, [], hW', trodAll_mk1 (shut_bool Try.underlying4 _), (trodAll_cons_mk (shut_int Try.underlying3 w0) (trodAll_cons_mk (Below.trod laidOut (by kernel_rfl) (of_decide_eq_true (by kernel_rfl)) k1 bel lt1) trodAll_mk0)), rfl, bel.frame _, fun h => by cases h⟩

theorem over : Rows.diffSolvesRow.holds Try.pinned (OpenSpec.ofChange Rows.diffSolvesSpec) :=
  OpenClaim.holds_of_wide 3 Try.f3 rfl rfl rfl rfl rfl rfl rfl ⟨rfl, rfl, rfl, rfl, rfl⟩ rfl rfl rfl rfl rfl (by kernel_rfl) Try.func3 (by kernel_rfl)
    (of_decide_eq_true (by kernel_rfl)) (by unfold Func.isWrapper; first | (rw [if_pos (by decide +kernel)]; kernel_rfl) | (rw [if_neg (by decide +kernel)]; exact ⟨rfl, rfl⟩))
    (fun os started H enc _ => lifted os started H enc)
end Go.Proofs.Ytdcgebafmceajaa.solves

namespace Go.Proofs.Ytdcgebafmceajaa
theorem solves_holds : Rows.DiffSolvesSaid := solves.over
#print axioms solves_holds
end Go.Proofs.Ytdcgebafmceajaa
