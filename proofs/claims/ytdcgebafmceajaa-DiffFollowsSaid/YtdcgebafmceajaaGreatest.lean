/- The contract of interleave/interleaveref31.Greatest. -/
import Derived.Test.YtdcgebafmceajaaProg
import Derived.Test.YtdcgebafmceajaaMem
import Derived.Test.YtdcgebafmceajaaRelax
import Derived.Deep.OwnRows
namespace Go.Proofs.Ytdcgebafmceajaa
open Go.RowKit Go.Deep

theorem int_info : (Try.prog.info? 3).map (fun i => (i.zero, i.size, i.bytes)) = some (some (.int .i64 0), 1, 8) := by kernel_rfl
theorem made_zero (n : Nat) : madeCells #[Value.int .i64 0] n = (icells (List.replicate n 0)).toArray := by
  apply Array.ext
  · simp [madeCells, icells]
  · intro i h1 h2
    simp [madeCells, icells, Nat.mod_one]

/-- What Greatest returns: the values behind n + 1 rounds, if the last round lowered nothing. -/
def GrPost (l : List D) (n : Nat) (w : World) (e : Ending) (w' : World) : Prop :=
  Below w.heap.size w w' ∧
  (((after l n (n + 1)).low < 0 ∧ ∃ g, e = .returned (.tuple #[.slice (some ⟨g, 0, none⟩) n n, .bool true]) ∧ Blk w' g 3 (icells (after l n (n + 1)).x) ∧ w.heap.size ≤ g) ∨
   (0 ≤ (after l n (n + 1)).low ∧ e = .returned (.tuple #[.slice none 0 0, .bool false])))

def GrOut (l : List D) (n : Nat) (w : World) (q : Nat) (i : Value) (wr : World) : Prop :=
  ∃ j : Nat, i = .int .i64 j ∧ j ≤ n + 1 ∧ Below w.heap.size w wr ∧ Blk wr q 3 (icells (after l n j).x) ∧ (j = 0 ∨ 0 ≤ (after l n j).low)
def GrIn (l : List D) (s : St) (w : World) (q : Nat) (ch i : Value) (wr : World) : Prop :=
  ∃ k : Nat, i = .int .i64 k ∧ k ≤ l.length ∧ ch = .bool (decide (0 ≤ (steps l k s).low)) ∧ Below w.heap.size w wr ∧ Blk wr q 3 (icells (steps l k s).x)

theorem val_eq (x : List Int) (i : Int) (h : 0 ≤ i ∧ i < x.length) : val x i = x[i.toNat]'(by omega) := by
  unfold val; exact getD_of_lt _ _ (by omega)
theorem step_yes {l : List D} {k : Nat} {s : St} (ha : asks l k s = true) : step l k s = ⟨s.x.set (dat l k).x.toNat (val s.x (dat l k).y + (dat l k).c), s.r.set (dat l k).x.toNat k, (dat l k).x⟩ := by
  unfold step; rw [if_pos ha]
theorem step_no {l : List D} {k : Nat} {s : St} (ha : asks l k s = false) : step l k s = s := by
  unfold step; rw [if_neg (by simp [ha])]

set_option maxHeartbeats 1000000 in
theorem greatest_any (A : Option Addr) (n m c1 : Nat) (l : List D) (w : World) (hl : IsD w w.heap.size A m l) (hm : m ≤ 1000) (hn : n ≤ 32) (hok : Ok l n) :
    Calls Try.prog 27 #[.int .i64 n, .slice A m c1] w (GrPost l n w) := by
  have hll := hl.len
  have hmk := fun W => run_make_row' (P := Try.prog) 25 3 (.int .i64 0) 8 Try.underlying25 int_info rfl .i64 .i64 n (by omega) (by omega) W
  rw [made_zero] at hmk
  have HOK := Lib.hid hok
  clear hok
  go_enter Try.func27, Try.ntmps27
  go_wp2_with fail
  clear hmk
  go_loopw [7] (fun i wr => GrOut l n w w.heap.size i wr) (fun i _ => n + 1 - (intOf i).toNat)
  case atStart => exact ⟨0, rfl, Nat.zero_le _, (Below.refl _ _).alloc (Nat.le_refl _) _, Blk.new _ _ _, .inl rfl⟩
  case round =>
    obtain ⟨j, rfl, hj, hb, hx, hlow⟩ := hrel
    have HX := Lib.hid hx
    have HLOW := Lib.hid hlow
    clear hx hlow
    by_cases hlt : j ≤ n
    · go_wp2_with fail
      go_loopw [8, 20] (fun ch i wr => GrIn l (fresh (after l n j)) w w.heap.size ch i wr) (fun _ i _ => m - (intOf i).toNat)
      case atStart => exact ⟨0, rfl, Nat.zero_le _, rfl, hb, HX.out⟩
      case round =>
        obtain ⟨k, rfl, hk, rfl, hb', hx⟩ := hrel
        clear hb
        have hb := hb'
        clear hb'
        have hbs := hb.size
        have hqs := hx.lt
        by_cases hkm : k < m
        · have hkl : k < l.length := by omega
          obtain ⟨b, off, rfl, hbb, hc⟩ := (hl.below hb).cells (by omega)
          obtain ⟨hc0, hc1, hc2⟩ := hc k hkl
          clear hc
          have hd := HOK.out.dat hkl
          have hbd := Bd.steps HOK.out (Nat.le_of_lt hkl) (s := fresh (after l n j)) (bd_after HOK.out j)
          have hlen : (steps l k (fresh (after l n j))).x.length = n := by rw [(steps_len _ _ _).1]; exact (after_len l n j).1
          have HST : Hid (steps l (k + 1) (fresh (after l n j)) = step l k (steps l k (fresh (after l n j)))) := rfl
          rw [← dat_eq l k hkl] at hc0 hc1 hc2
          have hbx := hbd.val (dat l k).x
          have hby := hbd.val (dat l k).y
          have htb : ((j * l.length + k : Nat) : Int) ≤ 33 * 1000 := by
            have : j * l.length ≤ 32 * 1000 := Nat.mul_le_mul (by omega) (by omega)
            omega
          have hlow0 : -1 ≤ 0 := by omega
          generalize steps l k (fresh (after l n j)) = s at *
          have HYES := Lib.hid (step_yes (l := l) (k := k) (s := s))
          have HNO := Lib.hid (step_no (l := l) (k := k) (s := s))
          have HAS : Hid (asks l k s = decide (val s.x (dat l k).y + (dat l k).c < val s.x (dat l k).x)) := rfl
          have hvx := val_eq s.x (dat l k).x (by omega)
          have hvy := val_eq s.x (dat l k).y (by omega)
          have hcx := hx.icell (dat l k).x.toNat (by omega)
          have hcy := hx.icell (dat l k).y.toNat (by omega)
          rw [← hvx] at hcx
          rw [← hvy] at hcy
          have hfx := hx.frozen (dat l k).x.toNat
          clear hvx hvy
          generalize dat l k = d at *
          obtain ⟨dx, dy, dc⟩ := d
          dsimp only at *
          generalize val s.x dx = vx at *
          generalize val s.x dy = vy at *
          obtain ⟨⟨⟨d1, d2⟩, d3, d4⟩, d5, d6⟩ := hd
          have HB := Lib.hid hx
          clear hx hlow0 hbd
          have HT := Lib.hid htb
          have hvy2 : -40000000000 ≤ vy := by omega
          have hvx2 : -40000000000 ≤ vx := by omega
          clear hlen
          have e1 : IntKind.i64.wrap (vy + dc) = vy + dc := IntWalk.i64_in _ (by omega)
          by_cases hless : vy + dc < vx
          · have HS : Hid (step l k s = _) := HYES.out (by rw [HAS.out]; simpa using hless)
            have g1 : decide (vy + dc < vx) = true := by simpa using hless
            clear HYES HNO HAS
            go_wp2_with fail
            go_quiet (fail)
            go_wp2_with fail
            go_region
            go_wp2_with fail
            go_roundw
            case rel =>
              refine ⟨k + 1, by go_num, by omega, ?_, ?_, ?_⟩
              · rw [HST.out, HS.out]; simp; omega
              · exact Below.setCell ((hb.alloc hbs _).drewN _).drew (Nat.le_refl _) _
              · rw [HST.out, HS.out]; dsimp only; rw [← icells_set]; exact Blk.set_ ((HB.out.alloc _).drewN _).drew _ _
            case measure => simp [intOf]; omega
          · have HS : Hid (step l k s = s) := HNO.out (by rw [HAS.out]; simpa using hless)
            have g1 : decide (vy + dc < vx) = false := by simpa using hless
            clear HYES HNO HAS
            go_wp2_with fail
            go_quiet (fail)
            go_wp2_with fail
            go_roundw
            case rel => exact ⟨k + 1, by go_num, by omega, by rw [HST.out, HS.out], (hb.alloc hbs _).drewN _, by rw [HST.out, HS.out]; exact (HB.out.alloc _).drewN _⟩
            case measure => simp [intOf]; omega
        · have hkl : k = l.length := by omega
          subst hkl
          have HAF : Hid (steps l l.length (fresh (after l n j)) = after l n (j + 1)) := rfl
          rw [HAF.out] at hx ⊢
          by_cases hlow : 0 ≤ (after l n (j + 1)).low
          · have g1 : decide (0 ≤ (after l n (j + 1)).low) = true := by simpa using hlow
            have HL := Lib.hid hlow
            have HB := Lib.hid hx
            clear hlow hx
            rw [g1]
            clear g1
            go_wp2_with fail
            go_roundw
            case rel => exact ⟨j + 1, by go_num, by omega, hb, HB.out, .inr HL.out⟩
            case measure => simp [intOf]; omega
          · have g1 : decide (0 ≤ (after l n (j + 1)).low) = false := by simpa using hlow
            have HF := Lib.hid (after_fix HOK.out (j := j + 1) (by omega) (by omega) (n + 1) (by omega))
            have HL := Lib.hid hlow
            have HB := Lib.hid hx
            clear hlow hx
            rw [g1]
            clear g1
            go_wp2_with fail
            go_ret2
            refine ⟨hb, .inl ⟨?_, _, rfl, ?_, Nat.le_refl _⟩⟩
            · rw [HF.out]; have := HL.out; omega
            · rw [HF.out]; exact HB.out
    · have hjn : j = n + 1 := by omega
      have HJ := Lib.hid hjn
      have hjn2 : n < j := by omega
      clear hjn hlt
      go_wp2_with fail
      go_ret2
      refine ⟨hb, .inr ⟨?_, rfl⟩⟩
      have h1 := HJ.out
      rcases HLOW.out with h2 | h2
      · omega
      · rw [← h1]; exact h2
end Go.Proofs.Ytdcgebafmceajaa
