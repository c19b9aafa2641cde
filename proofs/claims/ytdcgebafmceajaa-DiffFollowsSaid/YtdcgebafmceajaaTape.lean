/- The contracts of interleavemade.Tape.Next (at 256) and of interleaveref31.Abs. -/
import Derived.Test.YtdcgebafmceajaaProg
import Derived.Test.YtdcgebafmceajaaMem
namespace Go.Proofs.Ytdcgebafmceajaa
open Go.RowKit
set_option linter.unusedVariables false

/-- A slice of bytes that came in. -/
structure IsU (w : World) (B : Nat) (A : Option Addr) (n : Nat) : Prop where
  cells : 0 < n → ∃ b off, A = some ⟨b, off, none⟩ ∧ b < B ∧ ∀ i, i < n → ∃ v : Int, 0 ≤ v ∧ v ≤ 255 ∧ w.cell? ⟨b, off + i, none⟩ = some (.int .u8 v)
theorem IsU.keep {w w' : World} {B n : Nat} {A : Option Addr} (h : IsU w B A n) (hk : ∀ p : Addr, p.block < B → w'.cell? p = w.cell? p) : IsU w' B A n :=
  ⟨fun hn => by
    obtain ⟨b, off, e, hb, hc⟩ := h.cells hn
    exact ⟨b, off, e, hb, fun i hi => by rw [hk ⟨b, _, none⟩ hb]; exact hc i hi⟩⟩
theorem IsU.below {w w' : World} {B n : Nat} {A : Option Addr} (h : IsU w B A n) (hb : Below B w w') : IsU w' B A n := h.keep fun _ hp => hb.cell hp

/-- What Next does: a number below 256; the tape may have moved on. -/
def NextPost (g : Nat) (L : Value) (k : Nat) (w : World) (e : Ending) (w' : World) : Prop :=
  ∃ (r : Int) (t : Nat), e = .returned (.int .i64 r) ∧ 0 ≤ r ∧ r < 256 ∧ t ≤ k ∧ Blk w' g 62 [L, .int .i64 t] ∧ Touch [g] w w' ∧ w'.heap.size = w.heap.size

set_option maxHeartbeats 400000 in
theorem next_any (g k c t B : Nat) (A : Option Addr) (w : World) (hg : Blk w g 62 [.slice A k c, .int .i64 t]) (ht : t ≤ k) (hk : k ≤ 300) (hu : IsU w B A k) (hB : B ≤ g) :
    Calls Try.prog 33 #[.pointer (some ⟨g, 0, none⟩), .int .i64 256] w (NextPost g (.slice A k c) k w) := by
  have h0 : w.cell? ⟨g, 0, none⟩ = some (.slice A k c) := hg.cell 0
  have h1 : w.cell? ⟨g, 1, none⟩ = some (.int .i64 t) := hg.cell 1
  have hf1 := hg.frozen 1
  have hgs := hg.lt
  have HG := Lib.hid hg
  clear hg
  by_cases htk : t < k
  · obtain ⟨b, off, rfl, hb, hc⟩ := hu.cells (by omega)
    obtain ⟨v, hv0, hv1, hcell⟩ := hc t htk
    clear hc
    have hbg : ¬ b = g := by omega
    have g1 : decide ((k : Int) ≤ (t : Int)) = false := by simp; omega
    go_enter Try.func33, Try.ntmps33
    go_wp2_with fail
    go_quiet (fail)
    go_wp2_with fail
    have KW : Blk ((w.drewN nq).setCell ⟨g, 1, none⟩ (.int .i64 (↑t + 1))) g 62 [.slice (some ⟨b, off, none⟩) k c, .int .i64 (↑t + 1)] := (HG.out.drewN nq).set_ 1 _
    have TW : Touch [g] w ((w.drewN nq).setCell ⟨g, 1, none⟩ (.int .i64 (↑t + 1))) := ((Touch.refl _ _).drewN nq).setCell (.inl (by simp)) _
    have hcw : ((w.drewN nq).setCell ⟨g, 1, none⟩ (.int .i64 (↑t + 1))).cell? ⟨b, off + t, none⟩ = some (.int .u8 v) := (TW.cell (by show b < _; have := World.block_lt_of_cell? w _ hcell; exact this) (by show b ∉ [g]; simpa using hbg)).trans hcell
    have hsz : ((w.drewN nq).setCell ⟨g, 1, none⟩ (.int .i64 (↑t + 1))).heap.size = w.heap.size := by simp [World.setCell]
    clear h0 h1 hf1 hcell g1
    have HSZ := Lib.hid hsz
    clear hsz
    generalize ((w.drewN nq).setCell ⟨g, 1, none⟩ (.int .i64 (↑t + 1))) = W at *
    have h0 : W.cell? ⟨g, 0, none⟩ = some (.slice (some ⟨b, off, none⟩) k c) := KW.cell 0
    have h1 : W.cell? ⟨g, 1, none⟩ = some (.int .i64 (↑t + 1)) := KW.cell 1
    have e1 : IntKind.i64.wrap ((t : Int) + 1 - 1) = (t : Int) := by rw [show (t : Int) + 1 - 1 = t by omega]; exact IntWalk.i64_in _ (by omega)
    have e2 : IntKind.i64.wrap (t : Int) = (t : Int) := IntWalk.i64_in _ (by omega)
    have e3 : (t : Int) < (k : Int) := by omega
    have e4 : IntKind.i64.wrap v = v := IntWalk.i64_in _ (by omega)
    have HK := Lib.hid KW
    have HT := Lib.hid TW
    clear KW TW
    go_quiet (fail)
    go_wp2_with fail
    go_ret
    refine ⟨v % 256, t + 1, ?_, ?_, ?_, by omega, ?_, HT.out.drewN _, HSZ.out⟩
    · first | rfl | simp
    · omega
    · omega
    · exact HK.out.drewN _
  · have g1 : decide ((k : Int) ≤ (t : Int)) = true := by simp; omega
    go_enter Try.func33, Try.ntmps33
    go_wp2_with fail
    go_quiet (fail)
    go_wp2_with fail
    go_ret
    exact ⟨0, t, rfl, by omega, by omega, by omega, HG.out.drewN _, (Touch.refl _ _).drewN _, rfl⟩

theorem abs_any (x : Int) (w : World) (h : -1000 ≤ x ∧ x ≤ 1000) : Calls Try.prog 29 #[.int .i64 x] w fun e w' => e = .returned (.int .i64 (if x < 0 then -x else x)) ∧ w' = w := by
  obtain ⟨h1, h2⟩ := h
  by_cases hx : x < 0
  · have HE : Hid ((if x < 0 then -x else x) = -x) := if_pos hx
    rw [HE.out]
    go_enter Try.func29, Try.ntmps29
    go_wp2
    go_ret
    exact ⟨rfl, rfl⟩
  · have HE : Hid ((if x < 0 then -x else x) = x) := if_neg hx
    rw [HE.out]
    go_enter Try.func29, Try.ntmps29
    go_wp2
    go_ret
    exact ⟨rfl, rfl⟩
end Go.Proofs.Ytdcgebafmceajaa
