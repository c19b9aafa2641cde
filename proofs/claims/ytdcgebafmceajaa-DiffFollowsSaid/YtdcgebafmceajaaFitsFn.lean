/- The contracts of interleave/diff.fits and of what it calls. -/
import Derived.Test.YtdcgebafmceajaaProg
import Derived.Test.YtdcgebafmceajaaMem
namespace Go.Proofs.Ytdcgebafmceajaa
open Go.RowKit

def inI (ints : Int) (d : D) : Bool := decide ((0 ≤ d.x ∧ d.x < ints) ∧ 0 ≤ d.y ∧ d.y < ints)
def outI (ints : Int) (d : D) : Bool := !inI ints d

set_option maxHeartbeats 400000 in
theorem fits1_any (ints x y c : Int) (g : Nat) (w : World) (hg : w.cell? ⟨g, 0, none⟩ = some (.int .i64 ints)) (hgs : g < w.heap.size) :
    Calls Try.prog 32 #[.agg #[.int .i64 x, .int .i64 y, .int .i64 c], .pointer (some ⟨g, 0, none⟩)] w fun e w' => e = .returned (.bool (outI ints ⟨x, y, c⟩)) ∧ Below w.heap.size w w' := by
  by_cases hin : (0 ≤ x ∧ x < ints) ∧ 0 ≤ y ∧ y < ints
  · have HX : Hid (outI ints ⟨x, y, c⟩ = false) := by show _ = _; simp [outI, inI, hin]
    obtain ⟨⟨h1, h2⟩, h3, h4⟩ := hin
    go_enter Try.func32, Try.ntmps32
    go_wp2
    all_goals first
      | (go_ret; exact ⟨ret_bool (by rewrite [HX.out]; first | rfl | (simp; done) | (simp; omega)), (Below.refl _ _).alloc (Nat.le_refl _) _⟩)
      | (exfalso; omega)
  · have HX : Hid (outI ints ⟨x, y, c⟩ = true) := by show _ = _; simp only [outI, inI]; simp; omega
    go_enter Try.func32, Try.ntmps32
    go_wp2
    all_goals first
      | (go_ret; exact ⟨ret_bool (by rewrite [HX.out]; first | rfl | (simp; done) | (simp; omega)), (Below.refl _ _).alloc (Nat.le_refl _) _⟩)
      | (exfalso; omega)

/-- It returns an index if p is true somewhere, else -1. -/
def IdxOf (p : D → Bool) (l : List D) (w : World) (e : Ending) (w' : World) : Prop :=
  ∃ v : Int, e = .returned (.int .i64 v) ∧ decide (0 ≤ v) = l.any p ∧ Below w.heap.size w w'

theorem any_take_succ (p : D → Bool) (l : List D) (k : Nat) (h : k < l.length) : (l.take (k + 1)).any p = ((l.take k).any p || p l[k]) := by
  rw [List.take_succ_eq_append_getElem h, List.any_append]; simp

set_option maxHeartbeats 400000 in
theorem indexFunc_any (A : Option Addr) (n c1 : Nat) (l : List D) (ints : Int) (g : Nat) (w : World) (hl : IsD w w.heap.size A n l) (hn : n ≤ 1000)
    (hg : w.cell? ⟨g, 0, none⟩ = some (.int .i64 ints)) (hgs : g < w.heap.size) :
    Calls Try.prog 34 #[.slice A n c1, .func (.func 32) #[] #[.pointer (some ⟨g, 0, none⟩)]] w (IdxOf (outI ints) l w) := by
  have hll := hl.len
  go_enter Try.func34, Try.ntmps34
  go_wp2_with fail
  go_loopw [8] (fun i wr => KI (fun k wr => k ≤ n ∧ Below w.heap.size w wr ∧ (l.take k).any (outI ints) = false) i wr) (fun i _ => n - (intOf i).toNat)
  case atStart => exact ⟨0, rfl, Nat.zero_le _, Below.refl _ _, rfl⟩
  case round =>
    obtain ⟨k, rfl, hk, hb, ha⟩ := hrel
    have HA := Lib.hid ha
    clear ha
    have hbs := hb.size
    have hgr : wr.cell? ⟨g, 0, none⟩ = some (.int .i64 ints) := (hb.cell (p := ⟨g, 0, none⟩) hgs).trans hg
    have hgs' : g < wr.heap.size := by omega
    by_cases hlt : k < n
    · have hkl : k < l.length := by omega
      obtain ⟨b, off, rfl, hbb, hc⟩ := (hl.below hb).cells (by omega)
      obtain ⟨hc0, hc1, hc2⟩ := hc k hkl
      have HS := Lib.hid (any_take_succ (outI ints) l k hkl)
      have HT : Hid (outI ints l[k] = true → l.any (outI ints) = true) := fun h => List.any_eq_true.2 ⟨_, List.getElem_mem hkl, h⟩
      clear hc
      generalize l[k] = d at *
      obtain ⟨dx, dy, dc⟩ := d
      dsimp only at *
      go_wp2_with (go_at_call 32; refine (fits1_any ints dx dy dc g _ hgr hgs').mono ?_; rintro e w1 ⟨rfl, hb1⟩)
      · go_ret
        exact ⟨k, rfl, by rw [HT.out ‹_›]; simp, hb.trans (hb1.mono hbs)⟩
      · go_roundw
        case rel => exact ⟨k + 1, by go_num, by omega, hb.trans (hb1.mono hbs), by rw [HS.out, HA.out]; simp_all⟩
        case measure => simp [intOf]; omega
    · go_wp2_with fail
      go_ret
      refine ⟨-1, rfl, ?_, hb⟩
      have := HA.out
      rw [List.take_of_length_le (by omega)] at this
      rw [this]
      rfl

set_option maxHeartbeats 400000 in
theorem containsFunc_any (A : Option Addr) (n c1 : Nat) (l : List D) (ints : Int) (g : Nat) (w : World) (hl : IsD w w.heap.size A n l) (hn : n ≤ 1000)
    (hg : w.cell? ⟨g, 0, none⟩ = some (.int .i64 ints)) (hgs : g < w.heap.size) :
    Calls Try.prog 31 #[.slice A n c1, .func (.func 32) #[] #[.pointer (some ⟨g, 0, none⟩)]] w fun e w' => e = .returned (.bool (l.any (outI ints))) ∧ Below w.heap.size w w' := by
  go_enter Try.func31, Try.ntmps31
  go_wp2_with (go_at_call 34; refine (indexFunc_any A n c1 l ints g _ hl hn hg hgs).mono ?_; rintro e w1 ⟨v, rfl, hv, hb1⟩; have HV := Lib.hid hv; clear hv)
  go_ret
  exact ⟨ret_bool HV.out, hb1⟩

def fits0 (ints : Int) (l : List D) : Bool := decide (0 ≤ ints ∧ ints ≤ 32) && !l.any (outI ints)

set_option maxHeartbeats 400000 in
theorem fits_any (A : Option Addr) (n c1 : Nat) (l : List D) (ints : Int) (w : World) (hl : IsD w w.heap.size A n l) (hn : n ≤ 1000) :
    Calls Try.prog 24 #[.int .i64 ints, .slice A n c1] w fun e w' => e = .returned (.bool (fits0 ints l)) ∧ Below w.heap.size w w' := by
  by_cases h0 : 0 ≤ ints ∧ ints ≤ 32
  · have HE : Hid (fits0 ints l = !l.any (outI ints)) := by show _ = _; simp [fits0, h0]
    obtain ⟨h1, h2⟩ := h0
    have hl' : IsD (w.alloc (.cells #[.int .i64 ints] 3)) (w.heap.size + 1) A n l := (hl.below ((Below.refl _ _).alloc (Nat.le_refl _) _)).more (by omega)
    go_enter Try.func24, Try.ntmps24
    go_wp2_with (go_at_call 31; refine (containsFunc_any A n c1 l ints w.heap.size _ (by simpa using hl') hn (by simp) (by simp)).mono ?_; rintro e w1 ⟨rfl, hb1⟩)
    go_ret
    exact ⟨ret_bool HE.out.symm, ((Below.refl _ _).alloc (Nat.le_refl _) _).trans (hb1.mono (by simp))⟩
  · have HE : Hid (fits0 ints l = false) := by show _ = _; simp [fits0, h0]
    by_cases h1 : ints < 0
    · go_enter Try.func24, Try.ntmps24
      go_wp2_with fail
      go_ret
      exact ⟨ret_bool HE.out.symm, (Below.refl _ _).alloc (Nat.le_refl _) _⟩
    · have h2 : 32 < ints := by omega
      go_enter Try.func24, Try.ntmps24
      go_wp2_with fail
      go_ret
      exact ⟨ret_bool HE.out.symm, (Below.refl _ _).alloc (Nat.le_refl _) _⟩
end Go.Proofs.Ytdcgebafmceajaa
