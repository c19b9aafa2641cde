/- The contract of interleave/interleaveref31.Cycle. -/
import Derived.Test.YtdcgebafmceajaaProg
import Derived.Test.YtdcgebafmceajaaCyc
namespace Go.Proofs.Ytdcgebafmceajaa
open Go.RowKit

/-- A loop's counter stands at k, a sum stands at S k, and P k holds of the world. -/
def KSr (P : Nat → World → Prop) (S : Nat → Int) (s i : Value) (wr : World) : Prop := ∃ k : Nat, i = .int .i64 k ∧ s = .int .i64 (S k) ∧ P k wr

set_option maxHeartbeats 1000000 in
theorem rcycle_any (A B : Option Addr) (n m c1 c2 : Nat) (l : List D) (c : List Int) (w : World) (hl : IsD w w.heap.size A n l) (hc : IsI w w.heap.size B m c)
    (hn : n ≤ 1000) (hm : m ≤ 1000) (hbd : ∀ d ∈ l, -1048577 ≤ d.c ∧ d.c ≤ 1048577) :
    Calls Try.prog 22 #[.slice A n c1, .slice B m c2] w fun e w' => e = .returned (.bool (cycB l c)) ∧ Below w.heap.size w w' := by
  have hll := hl.len
  have hcl := hc.len
  have HBD := Lib.hid hbd
  clear hbd
  go_enter Try.func22, Try.ntmps22
  go_wp2
  go_loopw [5, 11] (fun s i wr => KSr (fun k wr => k ≤ m ∧ Below w.heap.size w wr ∧ (c.take k).all (rngB l) = true ∧ (List.range k).all (lnkB l c) = true) (fun k => csum l (c.take k)) s i wr) (fun _ i _ => m - (intOf i).toNat)
  case atStart => exact ⟨0, rfl, rfl, Nat.zero_le _, Below.refl _ _, rfl, rfl⟩
  case round =>
    obtain ⟨i, rfl, rfl, hi, hb, ha, ha2⟩ := hrel
    have HA := Lib.hid ha
    have HA2 := Lib.hid ha2
    clear ha ha2
    have hbs := hb.size
    by_cases hlt : i < m
    · have hic : i < c.length := by omega
      obtain ⟨j, hj⟩ : ∃ j, j = (i + 1) % m := ⟨_, rfl⟩
      have hjm : j < m := by rw [hj]; exact Nat.mod_lt _ (by omega)
      have hjc : j < c.length := by omega
      obtain ⟨b, off, rfl, hbb, hcc⟩ := (hc.below hb).cells (by omega)
      have hc0 := hcc i hic
      have hc9 := hcc j hjc
      clear hcc
      have HC := Lib.hid (csum_succ l c i hic)
      have HL := Lib.hid (lnk_eq l c i j hic (by rw [hj, hcl]) hjc)
      have hsb := csum_bound l (c.take i) HBD.out
      have hlen : (c.take i).length = i := by simp; omega
      rw [hlen] at hsb
      clear hlen
      have HN := Lib.hid (cyc_no_lnk l c i hic)
      have HS := Lib.hid (range_all_succ (lnkB l c) i)
      have HS1 := Lib.hid (all_take_succ (rngB l) c i hic)
      have HF := Lib.hid (cyc_no_rng l c i hic)
      have HF2 := Lib.hid (cyc_no_rng l c j hjc)
      have HI : Hid (rngB l c[i] = decide (0 ≤ c[i] ∧ c[i] < l.length)) := rfl
      have HBA := Lib.hid (at_bound l HBD.out c[i])
      have HD1 : Hid (∀ b2 off2, A = some ⟨b2, off2, none⟩ → _) := fun b2 off2 e => (hl.below hb).at_ (b := b2) (off := off2) e c[i]
      have HD2 : Hid (∀ b2 off2, A = some ⟨b2, off2, none⟩ → _) := fun b2 off2 e => (hl.below hb).at_ (b := b2) (off := off2) e c[j]
      have e1 : IntKind.i64.wrap ((i : Int) + 1) = (i : Int) + 1 := IntWalk.i64_in _ (by omega)
      have e2 : ((i : Int) + 1).tmod (m : Int) = (j : Int) := by
        rw [hj, Int.tmod_eq_emod_of_nonneg (by omega)]; norm_cast
      have e3 : ((i : Int) + 1) % (m : Int) = (j : Int) := by
        rw [hj]; norm_cast
      have HJ := Lib.hid hj
      clear hj
      generalize c[i] = ki at *
      generalize c[j] = kj at *
      by_cases q1 : 0 ≤ ki ∧ ki < n
      · obtain ⟨q1, q2⟩ := q1
        obtain ⟨b2, off2, rfl, hbb2, -⟩ := (hl.below hb).cells (by omega)
        have hd1 := HD1.out b2 off2 rfl (by omega)
        have hcb := HBA.out (by omega)
        have HR : Hid (rngB l ki = true) := by show _ = _; rw [HI.out]; simp; omega
        by_cases q3 : 0 ≤ kj ∧ kj < n
        · obtain ⟨q3, q4⟩ := q3
          have hd2 := HD2.out b2 off2 rfl (by omega)
          generalize at_ l ki = d1 at *
          generalize at_ l kj = d2 at *
          obtain ⟨x1, y1, z1⟩ := d1
          obtain ⟨x2, y2, z2⟩ := d2
          dsimp only at *
          obtain ⟨_, hd1y, hd1c⟩ := hd1
          obtain ⟨hd2x, _, _⟩ := hd2
          have HSM : Hid (csum l (c.take (i + 1)) = csum l (c.take i) + z1) := HC.out
          generalize csum l (c.take i) = sm at *
          have p1 : decide (kj < 0) = false := by simp; omega
          have p2 : decide ((n : Int) ≤ kj) = false := by simp; omega
          by_cases hyx : y1 = x2
          · have g : (y1 != x2) = false := by simpa using hyx
            have HX : Hid (lnkB l c i = true) := by show _ = _; rw [HL.out]; simpa using hyx
            clear hyx
            go_wp2
            go_quiet (fail)
            go_wp2
            go_roundw
            case rel => exact ⟨i + 1, by go_num, by simp only [HSM.out], by omega, hb.drewN _, by rw [HS1.out, HR.out, HA.out]; rfl, by rw [HS.out, HX.out, HA2.out]; rfl⟩
            case measure => simp [intOf]; omega
          · have g : (y1 != x2) = true := by simpa using hyx
            have HX : Hid (cycB l c = false) := HN.out (by rw [HL.out]; simpa using hyx)
            clear hyx
            go_wp2
            go_quiet (fail)
            go_wp2
            go_ret
            exact ⟨ret_bool HX.out.symm, hb.drewN _⟩
        · have HX : Hid (cycB l c = false) := HF2.out (by omega)
          by_cases q5 : kj < 0
          · have p1 : decide (kj < 0) = true := by simp; omega
            go_wp2
            go_quiet (fail)
            go_wp2
            go_ret
            exact ⟨ret_bool HX.out.symm, hb.drewN _⟩
          · have p1 : decide (kj < 0) = false := by simp; omega
            have p2 : decide ((n : Int) ≤ kj) = true := by simp; omega
            have p3 : (n : Int) ≤ kj := by omega
            clear q3
            go_wp2
            go_quiet (fail)
            go_wp2
            go_ret
            exact ⟨ret_bool HX.out.symm, hb.drewN _⟩
      · have HX : Hid (cycB l c = false) := HF.out (by omega)
        go_wp2
        all_goals first
          | (go_ret; exact ⟨ret_bool HX.out.symm, hb⟩)
          | (exfalso; omega)
    · by_cases hm0 : m = 0
      · have HX : Hid (cycB l c = false) := by
          show _ = _
          have : c = [] := List.eq_nil_of_length_eq_zero (by omega)
          subst this
          rfl
        have g0 : decide ((0:Int) < (m : Int)) = false := by simp; omega
        have g1 : (m : Int) ≤ 0 := by omega
        go_wp2
        go_ret
        exact ⟨ret_bool HX.out.symm, hb⟩
      · have HX : Hid (cycB l c = decide (csum l (c.take i) < 0)) := by
          have h1 := HA.out
          have h2 := HA2.out
          rw [show i = c.length by omega] at h1 h2 ⊢
          rw [List.take_of_length_le (by omega)] at h1 ⊢
          exact cyc_end l c (by omega) h1 h2
        have g1 : (0:Int) < m := by omega
        go_wp2
        go_ret
        exact ⟨ret_bool HX.out.symm, hb⟩
end Go.Proofs.Ytdcgebafmceajaa
