/- The contract of interleave/interleaveref31.Same: two lists of integers are the same. -/
import Derived.Test.YtdcgebafmceajaaProg
import Derived.Test.YtdcgebafmceajaaWords
namespace Go.Proofs.Ytdcgebafmceajaa
open Go.RowKit

theorem take_succ_eq {l r : List Int} {k : Nat} (h : k < l.length) (h' : k < r.length) (he : l.take k = r.take k) (hx : l[k] = r[k]) : l.take (k + 1) = r.take (k + 1) := by
  rw [List.take_succ_eq_append_getElem h, List.take_succ_eq_append_getElem h', he, hx]

set_option maxHeartbeats 400000 in
theorem same_any (A B : Option Addr) (n m c1 c2 : Nat) (l r : List Int) (w : World) (hl : IsI w w.heap.size A n l) (hr : IsI w w.heap.size B m r)
    (hn : n ≤ 1000) (hm : m ≤ 1000) :
    Calls Try.prog 23 #[.slice A n c1, .slice B m c2] w fun e w' => e = .returned (.bool (decide (l = r))) ∧ Below w.heap.size w w' := by
  have hll := hl.len
  have hrl := hr.len
  by_cases hnm : n = m
  · subst hnm
    go_enter Try.func23, Try.ntmps23
    go_wp2
    go_loopw [13] (fun i wr => KI (fun k wr => k ≤ n ∧ Below w.heap.size w wr ∧ l.take k = r.take k) i wr) (fun i _ => n - (intOf i).toNat)
    case atStart => exact ⟨0, rfl, Nat.zero_le _, Below.refl _ _, rfl⟩
    case round =>
      obtain ⟨k, rfl, hk, hb, ha⟩ := hrel
      have HA := Lib.hid ha
      clear ha
      have hbs := hb.size
      by_cases hlt : k < n
      · have hkl : k < l.length := by omega
        have hkr : k < r.length := by omega
        obtain ⟨b, off, rfl, hbb, hc⟩ := (hl.below hb).cells (by omega)
        have hc0 := hc k hkl
        obtain ⟨b2, off2, rfl, hbb2, hc2⟩ := (hr.below hb).cells (by omega)
        have hc3 := hc2 k hkr
        clear hc hc2
        have HT : Hid (l[k] = r[k] → l.take (k + 1) = r.take (k + 1)) := fun hx => take_succ_eq hkl hkr HA.out hx
        have HF : Hid (l[k] ≠ r[k] → decide (l = r) = false) := fun hx => by
          simp only [decide_eq_false_iff_not]
          intro e
          subst e
          exact hx rfl
        generalize l[k] = x at *
        generalize r[k] = y at *
        by_cases hxy : x = y
        · subst hxy
          have g : (x != x) = false := by simp
          go_wp2
          go_quiet (fail)
          go_wp2
          go_roundw
          case rel => exact ⟨k + 1, by go_num, by omega, hb.drewN _, HT.out (by first | rfl | trivial)⟩
          case measure => simp [intOf]; omega
        · have g : (x != y) = true := by simpa using hxy
          have HX := Lib.hid (HF.out hxy)
          clear hxy
          go_wp2
          go_quiet (fail)
          go_wp2
          go_ret
          exact ⟨ret_bool HX.out.symm, hb.drewN _⟩
      · go_wp2
        go_ret
        refine ⟨?_, hb⟩
        have := HA.out
        rw [List.take_of_length_le (by omega), List.take_of_length_le (by omega)] at this
        rw [this]
        simp
  · have g : ((n : Int) != (m : Int)) = true := by simp; omega
    have HF : Hid (decide (l = r) = false) := by
      show _ = _
      simp only [decide_eq_false_iff_not]
      intro e
      subst e
      omega
    go_enter Try.func23, Try.ntmps23
    go_wp2
    go_ret
    exact ⟨ret_bool HF.out.symm, Below.refl _ _⟩
end Go.Proofs.Ytdcgebafmceajaa
