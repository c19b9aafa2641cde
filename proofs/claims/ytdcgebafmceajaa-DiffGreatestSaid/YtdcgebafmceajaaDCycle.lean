/- The contract of interleave/diff.Cycle. -/
import Derived.Test.YtdcgebafmceajaaProg
import Derived.Test.YtdcgebafmceajaaCyc
namespace Go.Proofs.Ytdcgebafmceajaa
open Go.RowKit

/-- A loop's counter stands at k, a sum stands at S k, and P k holds of the world. -/
def KS (P : Nat → World → Prop) (S : Nat → Int) (s i : Value) (wr : World) : Prop := ∃ k : Nat, i = .int .i64 k ∧ s = .int .i64 (S k) ∧ P k wr

set_option maxHeartbeats 1000000 in
theorem dcycle_any (A B : Option Addr) (n m c1 c2 : Nat) (l : List D) (c : List Int) (w : World) (hl : IsD w w.heap.size A n l) (hc : IsI w w.heap.size B m c)
    (hn : n ≤ 1000) (hm : m ≤ 1000) (hbd : ∀ d ∈ l, -1048577 ≤ d.c ∧ d.c ≤ 1048577) :
    Calls Try.prog 21 #[.slice A n c1, .slice B m c2] w fun e w' => e = .returned (.bool (cycB l c)) ∧ Below w.heap.size w w' := by
  have hll := hl.len
  have hcl := hc.len
  have HBD := Lib.hid hbd
  clear hbd
  by_cases hm0 : m = 0
  · subst hm0
    have HE : Hid (cycB l c = false) := by
      show _ = _
      have : c = [] := List.eq_nil_of_length_eq_zero hcl
      subst this
      rfl
    go_enter Try.func21, Try.ntmps21
    go_wp2
    go_ret
    exact ⟨ret_bool HE.out.symm, Below.refl _ _⟩
  · have g0 : ((m : Int) == 0) = false := by simp; omega
    go_enter Try.func21, Try.ntmps21
    go_wp2
    go_loopw [15] (fun i wr => KI (fun k wr => k ≤ m ∧ Below w.heap.size w wr ∧ (c.take k).all (rngB l) = true) i wr) (fun i _ => m - (intOf i).toNat)
    case atStart => exact ⟨0, rfl, Nat.zero_le _, Below.refl _ _, rfl⟩
    case round =>
      obtain ⟨k, rfl, hk, hb, ha⟩ := hrel
      have HA := Lib.hid ha
      clear ha
      have hbs := hb.size
      by_cases hlt : k < m
      · have hkl : k < c.length := by omega
        obtain ⟨b, off, rfl, hbb, hcc⟩ := (hc.below hb).cells (by omega)
        have hc0 := hcc k hkl
        have HS := Lib.hid (all_take_succ (rngB l) c k hkl)
        have HF := Lib.hid (cyc_no_rng l c k hkl)
        have HI : Hid (rngB l c[k] = decide (0 ≤ c[k] ∧ c[k] < l.length)) := rfl
        clear hcc
        generalize c[k] = d at *
        by_cases hin : 0 ≤ d ∧ d < n
        · obtain ⟨h1, h2⟩ := hin
          have HX : Hid (rngB l d = true) := by show _ = _; rw [HI.out]; simp; omega
          go_wp2
          all_goals first
            | (go_roundw
               case rel => exact ⟨k + 1, by go_num, by omega, hb, by rw [HS.out, HX.out, HA.out]; rfl⟩
               case measure => simp [intOf]; omega)
            | (exfalso; omega)
        · have HX : Hid (cycB l c = false) := HF.out (by omega)
          go_wp2
          all_goals first
            | (go_ret; exact ⟨ret_bool HX.out.symm, hb⟩)
            | (exfalso; omega)
      · have HALL : Hid (c.all (rngB l) = true) := by
          have := HA.out
          rw [List.take_of_length_le (by omega)] at this
          exact this
        clear HA
        go_wp2
        go_loopw [7, 30] (fun s i wr => KS (fun k wr => k ≤ m ∧ Below w.heap.size w wr ∧ (List.range k).all (lnkB l c) = true) (fun k => csum l (c.take k)) s i wr) (fun _ i _ => m - (intOf i).toNat)
        case atStart => exact ⟨0, rfl, rfl, Nat.zero_le _, hb, rfl⟩
        case round =>
          obtain ⟨i, rfl, rfl, hi, hb', ha'⟩ := hrel
          have HA := Lib.hid ha'
          clear ha' hlt hk hbs hb
          have hb := hb'
          clear hb'
          have hbs := hb.size
          by_cases hlt : i < m
          · have hic : i < c.length := by omega
            obtain ⟨j, hj⟩ : ∃ j, j = (i + 1) % m := ⟨_, rfl⟩
            have hjm : j < m := by rw [hj]; exact Nat.mod_lt _ (by omega)
            have hjc : j < c.length := by omega
            obtain ⟨b, off, rfl, hbb, hcc⟩ := (hc.below hb).cells (by omega)
            have hc0 := hcc i hic
            have hc9 := hcc j hjc
            clear hcc
            have HC := Lib.hid (csum_succ l c i hic)
            obtain ⟨q1, q2⟩ := rng_of_all l c HALL.out i hic
            obtain ⟨q3, q4⟩ := rng_of_all l c HALL.out j hjc
            have HL := Lib.hid (lnk_eq l c i j hic (by rw [hj, hcl]) hjc)
            have hsb := csum_bound l (c.take i) HBD.out
            have hlen : (c.take i).length = i := by simp; omega
            rw [hlen] at hsb
            clear hlen
            have HN := Lib.hid (cyc_no_lnk l c i hic)
            have HS := Lib.hid (range_all_succ (lnkB l c) i)
            obtain ⟨b2, off2, rfl, hbb2, -⟩ := (hl.below hb).cells (by omega)
            have hd1 := (hl.below hb).at_ rfl c[i] ⟨q1, q2⟩
            have hd2 := (hl.below hb).at_ rfl c[j] ⟨q3, q4⟩
            have hcb := at_bound l HBD.out c[i] ⟨q1, q2⟩
            generalize c[i] = ki at *
            generalize c[j] = kj at *
            generalize at_ l ki = d1 at *
            generalize at_ l kj = d2 at *
            obtain ⟨x1, y1, z1⟩ := d1
            obtain ⟨x2, y2, z2⟩ := d2
            dsimp only at *
            obtain ⟨_, hd1y, hd1c⟩ := hd1
            obtain ⟨hd2x, _, _⟩ := hd2
            have HSM : Hid (csum l (c.take (i + 1)) = csum l (c.take i) + z1) := HC.out
            generalize csum l (c.take i) = sm at *
            have e1 : IntKind.i64.wrap ((i : Int) + 1) = (i : Int) + 1 := IntWalk.i64_in _ (by omega)
            have e2 : ((i : Int) + 1).tmod (m : Int) = (j : Int) := by
              rw [hj, Int.tmod_eq_emod_of_nonneg (by omega)]; norm_cast
            have e3 : ((i : Int) + 1) % (m : Int) = (j : Int) := by
              rw [hj]; norm_cast
            have HJ := Lib.hid hj
            clear hj
            by_cases hyx : y1 = x2
            · have g : (y1 != x2) = false := by simpa using hyx
              have HX : Hid (lnkB l c i = true) := by show _ = _; rw [HL.out]; simpa using hyx
              clear hyx
              go_wp2
              go_quiet (fail)
              go_wp2
              go_roundw
              case rel => exact ⟨i + 1, by go_num, by simp only [HSM.out], by omega, hb.drewN _, by rw [HS.out, HX.out, HA.out]; rfl⟩
              case measure => simp [intOf]; omega
            · have g : (y1 != x2) = true := by simpa using hyx
              have HX : Hid (cycB l c = false) := HN.out (by rw [HL.out]; simpa using hyx)
              clear hyx
              go_wp2
              go_quiet (fail)
              go_wp2
              go_ret
              exact ⟨ret_bool HX.out.symm, hb.drewN _⟩
          · have HX : Hid (cycB l c = decide (csum l (c.take i) < 0)) := by
              have h1 := HA.out
              rw [show i = c.length by omega] at h1 ⊢
              rw [List.take_of_length_le (by omega)]
              exact cyc_end l c (by omega) HALL.out h1
            go_wp2
            go_ret
            exact ⟨ret_bool HX.out.symm, hb⟩
end Go.Proofs.Ytdcgebafmceajaa
