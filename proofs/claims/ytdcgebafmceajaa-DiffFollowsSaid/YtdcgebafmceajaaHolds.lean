/- The contract of interleave/diff.Holds: it says whether all constraints hold. -/
import Derived.Test.YtdcgebafmceajaaProg
import Derived.Test.YtdcgebafmceajaaWords
namespace Go.Proofs.Ytdcgebafmceajaa
open Go.RowKit

set_option maxHeartbeats 400000 in
theorem holds_any (A B : Option Addr) (n m c1 c2 : Nat) (l : List D) (z : List Int) (w : World) (hl : IsD w w.heap.size A n l) (hz : IsI w w.heap.size B m z)
    (hn : n ≤ 1000) (hm : m ≤ 1000) (hr : ∀ v ∈ z, -2199023255552 ≤ v ∧ v ≤ 2199023255552) :
    Calls Try.prog 19 #[.slice A n c1, .slice B m c2] w fun e w' => e = .returned (.bool (l.all (holdB z))) ∧ Below w.heap.size w w' := by
  have hll := hl.len
  have hzl := hz.len
  have HR := Lib.hid hr
  clear hr
  go_enter Try.func19, Try.ntmps19
  go_wp2
  go_loopw [9] (fun i wr => KI (fun k wr => k ≤ n ∧ Below w.heap.size w wr ∧ (l.take k).all (holdB z) = true) i wr) (fun i _ => n - (intOf i).toNat)
  case atStart => exact ⟨0, rfl, Nat.zero_le _, Below.refl _ _, rfl⟩
  case round =>
    obtain ⟨k, rfl, hk, hb, ha⟩ := hrel
    have HA := Lib.hid ha
    clear ha
    have hbs := hb.size
    by_cases hlt : k < n
    · have hkl : k < l.length := by omega
      obtain ⟨b, off, rfl, hbb, hc⟩ := (hl.below hb).cells (by omega)
      obtain ⟨hc0, hc1, hc2⟩ := hc k hkl
      have HS := Lib.hid (all_take_succ (holdB z) l k hkl)
      have HF := Lib.hid (all_false_of (holdB z) l k hkl)
      have HI := Lib.hid (inB_iff z.length l[k])
      have HD : Hid (holdB z l[k] = (inB z.length l[k] && decide (z.getD l[k].x.toNat 0 - z.getD l[k].y.toNat 0 ≤ l[k].c))) := rfl
      clear hc
      generalize l[k] = d at *
      obtain ⟨dx, dy, dc⟩ := d
      dsimp only at *
      by_cases hin : (0 ≤ dx ∧ dx < m) ∧ 0 ≤ dy ∧ dy < m
      · obtain ⟨⟨h1, h2⟩, h3, h4⟩ := hin
        obtain ⟨b2, off2, rfl, hbb2, hz2⟩ := (hz.below hb).cells (by omega)
        have hz3 := hz2 dx.toNat (by omega)
        have hz4 := hz2 dy.toNat (by omega)
        have r3 := HR.out z[dx.toNat] (List.getElem_mem _)
        have r4 := HR.out z[dy.toNat] (List.getElem_mem _)
        clear hz2
        have hb2s : b2 < wr.heap.size := by omega
        have HX : Hid (holdB z ⟨dx, dy, dc⟩ = decide (z[dx.toNat] - z[dy.toNat] ≤ dc)) := by
          show _ = _
          rw [HD.out, getD_of_lt _ _ (by omega), getD_of_lt _ _ (by omega), HI.out.2 (by omega), Bool.true_and]
        generalize z[dx.toNat] = zx at *
        generalize z[dy.toNat] = zy at *
        go_wp2
        go_quiet (fail)
        go_wp2
        · go_ret
          refine ⟨ret_bool ?_, ((hb.alloc hbs _).drewN _)⟩
          exact (HF.out (by rw [HX.out]; simp; omega)).symm
        · go_roundw
          case rel => exact ⟨k + 1, by go_num, by omega, ((hb.alloc hbs _).drewN _), by rw [HS.out, HX.out, HA.out]; simp; omega⟩
          case measure => simp [intOf]; omega
      · have HX : Hid (l.all (holdB z) = false) := HF.out (by
          rw [HD.out]
          have : ¬ inB z.length ⟨dx, dy, dc⟩ = true := by rw [HI.out]; omega
          simp [this])
        go_wp2
        all_goals first
          | (go_ret; exact ⟨ret_bool HX.out.symm, hb.alloc hbs _⟩)
          | (exfalso; omega)
    · go_wp2
      go_ret
      refine ⟨?_, hb⟩
      have := HA.out
      rw [List.take_of_length_le (by omega)] at this
      rw [this]
      rfl
end Go.Proofs.Ytdcgebafmceajaa
