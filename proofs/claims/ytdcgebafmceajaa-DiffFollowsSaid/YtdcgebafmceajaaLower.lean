/- The contract of the closure 'lower' of interleave/diff.Solve. -/
import Derived.Test.YtdcgebafmceajaaGreatest
namespace Go.Proofs.Ytdcgebafmceajaa
open Go.RowKit Go.Deep
set_option linter.unusedVariables false

def LowPost (l : List D) (k : Nat) (s : St) (bx br : Nat) (w : World) (e : Ending) (w' : World) : Prop :=
  e = .returned (.bool (asks l k s)) ∧ Touch [bx, br] w w' ∧ Blk w' bx 3 (icells (step l k s).x) ∧ Blk w' br 3 (icells (step l k s).r)

theorem Blk.vcell {w : World} {g : Nat} {t : TypeId} {x : List Int} (h : Blk w g t (icells x)) (i : Int) (hi : 0 ≤ i ∧ i < x.length) : w.cell? ⟨g, i.toNat, none⟩ = some (.int .i64 (val x i)) := by
  rw [val_eq x i hi]; exact h.icell _ (by omega)

set_option maxHeartbeats 1000000 in
theorem lower_any (A : Option Addr) (n m c1 k t : Nat) (l : List D) (s : St) (bl bx bx1 br br1 : Nat) (w : World) (hl : IsD w w.heap.size A m l) (hm : m ≤ 1000) (hn : n ≤ 32) (hok : Ok l n) (hk : k < m)
    (hcl : w.cell? ⟨bl, 0, none⟩ = some (.slice A m c1)) (hcx : w.cell? ⟨bx1, 0, none⟩ = some (.slice (some ⟨bx, 0, none⟩) n n)) (hcr : w.cell? ⟨br1, 0, none⟩ = some (.slice (some ⟨br, 0, none⟩) n n))
    (hx : Blk w bx 3 (icells s.x)) (hr : Blk w br 3 (icells s.r)) (hlx : s.x.length = n) (hlr : s.r.length = n) (hbd : Bd t s.x) (ht : t ≤ 40000)
    (n1 : ¬ bl = bx) (n2 : ¬ bx1 = bx) (n3 : ¬ br1 = bx) (n4 : ¬ br = bx) (n5 : ¬ br1 = br) (s1 : bl < w.heap.size) (s2 : bx1 < w.heap.size) (s3 : br1 < w.heap.size) :
    Calls Try.prog 25 #[.int .i64 k, .pointer (some ⟨bl, 0, none⟩), .pointer (some ⟨bx1, 0, none⟩), .pointer (some ⟨br1, 0, none⟩)] w (LowPost l k s bx br w) := by
  have hll := hl.len
  have hkl : k < l.length := by omega
  obtain ⟨b, off, rfl, hbb, hc⟩ := hl.cells (by omega)
  obtain ⟨hc0, hc1, hc2⟩ := hc k hkl
  clear hc
  have hd := hok.dat hkl
  rw [← dat_eq l k hkl] at hc0 hc1 hc2
  have hbx := hbd.val (dat l k).x
  have hby := hbd.val (dat l k).y
  have HYES := Lib.hid (step_yes (l := l) (k := k) (s := s))
  have HNO := Lib.hid (step_no (l := l) (k := k) (s := s))
  have HAS : Hid (asks l k s = decide (val s.x (dat l k).y + (dat l k).c < val s.x (dat l k).x)) := rfl
  have hkx := hx.vcell (dat l k).x (by omega)
  have hky := hx.vcell (dat l k).y (by omega)
  have hkr := hr.vcell (dat l k).x (by omega)
  have hfx := hx.frozen (dat l k).x.toNat
  have hfr := hr.frozen (dat l k).x.toNat
  have hsx := hx.lt
  have hsr := hr.lt
  generalize dat l k = d at *
  obtain ⟨dx, dy, dc⟩ := d
  dsimp only at *
  generalize val s.x dx = vx at *
  generalize val s.x dy = vy at *
  obtain ⟨⟨⟨d1, d2⟩, d3, d4⟩, d5, d6⟩ := hd
  have HBX := Lib.hid hx
  have HBR := Lib.hid hr
  have hvy2 : -50000000000 ≤ vy := by omega
  have hvx2 : -50000000000 ≤ vx := by omega
  clear hx hr hlx hbd hok hll
  clear hlr
  generalize val s.r dx = vr at *
  have e1 : IntKind.i64.wrap (vy + dc) = vy + dc := IntWalk.i64_in _ (by omega)
  by_cases hless : vy + dc < vx
  · have HA : Hid (asks l k s = true) := by show _ = _; rw [HAS.out]; simpa using hless
    have HS : Hid (step l k s = _) := HYES.out HA.out
    have g1 : decide (vx ≤ vy + dc) = false := by simp; omega
    clear HYES HNO HAS
    go_enter Try.func25, Try.ntmps25
    go_wp2_with fail
    go_quiet (fail)
    go_wp2_with fail
    go_region
    go_wp2_with fail
    go_ret
    refine ⟨ret_bool HA.out.symm, ?_, ?_, ?_⟩
    · exact Touch.setCell (Touch.setCell (((Touch.refl _ _).alloc _).drewN _).drew (.inl (by simp)) _) (.inl (by simp)) _
    · rw [HS.out]; dsimp only; rw [← icells_set]
      exact Blk.far (Blk.set_ ((HBX.out.alloc _).drewN _).drew _ _) (fun h => n4 h.symm) _
    · rw [HS.out]; dsimp only; rw [← icells_set]
      exact Blk.set_ (Blk.far ((HBR.out.alloc _).drewN _).drew n4 _) _ _
  · have HA : Hid (asks l k s = false) := by show _ = _; rw [HAS.out]; simpa using hless
    have HS : Hid (step l k s = s) := HNO.out HA.out
    have g1 : decide (vx ≤ vy + dc) = true := by simp; omega
    clear HYES HNO HAS
    go_enter Try.func25, Try.ntmps25
    go_wp2_with fail
    go_quiet (fail)
    go_wp2_with fail
    go_ret
    exact ⟨ret_bool HA.out.symm, ((Touch.refl _ _).alloc _).drewN _, by rw [HS.out]; exact (HBX.out.alloc _).drewN _, by rw [HS.out]; exact (HBR.out.alloc _).drewN _⟩
end Go.Proofs.Ytdcgebafmceajaa
