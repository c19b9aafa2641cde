/- The contract of interleave/interleaveref31.FitDiffs. -/
import Derived.Test.YtdcgebafmceajaaProg
import Derived.Test.YtdcgebafmceajaaWords
namespace Go.Proofs.Ytdcgebafmceajaa
open Go.RowKit

def fitB (ints : Int) (d : D) : Bool :=
  decide (0 ≤ d.x) && decide (d.x < ints) && decide (0 ≤ d.y) && decide (d.y < ints) && decide (d.x ≠ d.y) && decide (-1048577 ≤ d.c) && decide (d.c ≤ 1048577)
theorem fitB_iff (m : Int) (d : D) : fitB m d = true ↔ (0 ≤ d.x ∧ d.x < m) ∧ (0 ≤ d.y ∧ d.y < m) ∧ d.x ≠ d.y ∧ -1048577 ≤ d.c ∧ d.c ≤ 1048577 := by
  unfold fitB; simp only [Bool.and_eq_true, decide_eq_true_eq]; omega

def fitsB (ints : Int) (l : List D) : Bool := decide (0 ≤ ints ∧ ints ≤ 32) && l.all (fitB ints)

set_option maxHeartbeats 1000000 in
theorem fitDiffs_any (A : Option Addr) (n c1 : Nat) (ints : Int) (l : List D) (w : World) (hl : IsD w w.heap.size A n l) (hn : n ≤ 1000) :
    Calls Try.prog 12 #[.int .i64 ints, .slice A n c1] w fun e w' => e = .returned (.bool (fitsB ints l)) ∧ Below w.heap.size w w' := by
  have hll := hl.len
  by_cases h0 : 0 ≤ ints ∧ ints ≤ 32
  · obtain ⟨h1, h2⟩ := h0
    have HE : Hid (decide (0 ≤ ints ∧ ints ≤ 32) = true) := by show _ = _; simp; omega
    go_enter Try.func12, Try.ntmps12
    go_wp2
    go_loopw [20] (fun i wr => KI (fun k wr => k ≤ n ∧ Below w.heap.size w wr ∧ (l.take k).all (fitB ints) = true) i wr) (fun i _ => n - (intOf i).toNat)
    case atStart => exact ⟨0, rfl, Nat.zero_le _, Below.refl _ _, rfl⟩
    case round =>
      obtain ⟨k, rfl, hk, hb, ha⟩ := hrel
      have HA := Lib.hid ha
      clear ha
      have hbs := hb.size
      by_cases hlt : k < n
      · have hkl : k < l.length := by omega
        obtain ⟨b, off, rfl, hbb, hc⟩ := (hl.below hb).cells (by omega)
        obtain ⟨hc0, hc1, hc2⟩ := hc k hkl
        have HS := Lib.hid (all_take_succ (fitB ints) l k hkl)
        have HF := Lib.hid (all_false_of (fitB ints) l k hkl)
        have HI := Lib.hid (fitB_iff ints l[k])
        clear hc
        generalize l[k] = d at *
        obtain ⟨dx, dy, dc⟩ := d
        dsimp only at *
        by_cases hin : (0 ≤ dx ∧ dx < ints) ∧ (0 ≤ dy ∧ dy < ints) ∧ dx ≠ dy ∧ -1048577 ≤ dc ∧ dc ≤ 1048577
        · have HX := Lib.hid (HI.out.2 hin)
          obtain ⟨⟨g1, g2⟩, ⟨g3, g4⟩, g5, g6, g7⟩ := hin
          have g8 : (dx == dy) = false := by simpa using g5
          clear g5
          go_wp2
          all_goals first
            | (go_roundw
               case rel => exact ⟨k + 1, by go_num, by omega, (hb.alloc hbs _), by rw [HS.out, HX.out, HA.out]; rfl⟩
               case measure => simp [intOf]; omega)
            | (exfalso; omega)
        · have HX : Hid (l.all (fitB ints) = false) := HF.out (by
            have : ¬ fitB ints ⟨dx, dy, dc⟩ = true := by rw [HI.out]; exact hin
            simp [this])
          have HN := Lib.hid hin
          clear hin
          by_cases g5 : dx = dy
          · have g8 : (dx == dy) = true := by simpa using g5
            clear g5
            go_wp2
            all_goals first
              | (go_ret; exact ⟨ret_bool (by simp [fitsB, HX.out]), hb.alloc hbs _⟩)
          · have g8 : (dx == dy) = false := by simpa using g5
            have HG := Lib.hid g5
            clear g5
            go_wp2
            all_goals first
              | (go_ret; exact ⟨ret_bool (by simp [fitsB, HX.out]), hb.alloc hbs _⟩)
              | (exfalso; have := HN.out; have := HG.out; omega)
      · go_wp2
        go_ret
        refine ⟨?_, hb⟩
        have := HA.out
        rw [List.take_of_length_le (by omega)] at this
        rw [fitsB, this, HE.out]
        rfl
  · have HE : Hid (decide (0 ≤ ints ∧ ints ≤ 32) = false) := by show _ = _; simp; omega
    by_cases h1 : ints < 0
    · go_enter Try.func12, Try.ntmps12
      go_wp2
      go_ret
      exact ⟨ret_bool (by simp [fitsB, HE.out]), Below.refl _ _⟩
    · have h2 : 32 < ints := by omega
      go_enter Try.func12, Try.ntmps12
      go_wp2
      go_ret
      exact ⟨ret_bool (by simp [fitsB, HE.out]), Below.refl _ _⟩
end Go.Proofs.Ytdcgebafmceajaa
