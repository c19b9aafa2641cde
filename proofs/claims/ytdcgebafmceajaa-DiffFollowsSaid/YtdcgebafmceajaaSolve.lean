/- The contract of interleave/diff.Solve. -/
import Derived.Test.YtdcgebafmceajaaCycleFn
import Derived.Test.YtdcgebafmceajaaFitsFn
namespace Go.Proofs.Ytdcgebafmceajaa
open Go.RowKit Go.Deep
set_option linter.unusedVariables false

/-- The memory of a call of Solve that began at w: the box of l, the values and the reasons, each with the variable that holds its slice. -/
structure SMem (w : World) (L : Value) (n g g1 g2 g3 : Nat) (s : St) (wr : World) : Prop where
  below : Below w.heap.size w wr
  cl : Blk wr w.heap.size 22 [L]
  bx : Blk wr g 3 (icells s.x)
  cx : Blk wr g1 25 [.slice (some ⟨g, 0, none⟩) n n]
  br : Blk wr g2 3 (icells s.r)
  cr : Blk wr g3 25 [.slice (some ⟨g2, 0, none⟩) n n]
  lt : w.heap.size < g ∧ g < g1 ∧ g1 < g2 ∧ g2 < g3

theorem SMem.low {w wr w' : World} {L : Value} {n g g1 g2 g3 : Nat} {s s' : St} (h : SMem w L n g g1 g2 g3 s wr) (ht : Touch [g, g2] wr w') (hx : Blk w' g 3 (icells s'.x)) (hr : Blk w' g2 3 (icells s'.r)) : SMem w L n g g1 g2 g3 s' w' := by
  have hlt := h.lt
  exact ⟨h.below.trans (ht.below h.below.size (by simp; omega)), ht.blk h.cl (by simp; omega), hx, ht.blk h.cx (by simp; omega), hr, ht.blk h.cr (by simp; omega), h.lt⟩
theorem SMem.drewN {w wr : World} {L : Value} {n g g1 g2 g3 : Nat} {s : St} (h : SMem w L n g g1 g2 g3 s wr) (q : Nat) : SMem w L n g g1 g2 g3 s (wr.drewN q) :=
  ⟨h.below.drewN q, h.cl, h.bx, h.cx, h.br, h.cr, h.lt⟩

theorem SMem.fresh {w wr : World} {L : Value} {n g g1 g2 g3 : Nat} {s : St} (h : SMem w L n g g1 g2 g3 s wr) : SMem w L n g g1 g2 g3 (Ytdcgebafmceajaa.fresh s) wr :=
  ⟨h.below, h.cl, h.bx, h.cx, h.br, h.cr, h.lt⟩

/-- What Solve returns. -/
def SoPost (l : List D) (n : Nat) (w : World) (e : Ending) (w' : World) : Prop :=
  Below w.heap.size w w' ∧
  (((after l n n).low < 0 ∧ ∃ g, e = .returned (.tuple #[.slice (some ⟨g, 0, none⟩) n n, .slice none 0 0, .bool true]) ∧ Blk w' g 3 (icells (after l n n).x) ∧ w.heap.size ≤ g) ∨
   (0 ≤ (after l n n).low ∧ ∃ A c xs, e = .returned (.tuple #[.slice none 0 0, .slice A xs.length c, .bool false]) ∧ IsI w' w'.heap.size A xs.length xs ∧ cycB l xs = true ∧ xs.length ≤ n))

def SoInit (w : World) (L : Value) (n g g1 g2 g3 : Nat) (i : Value) (wr : World) : Prop :=
  ∃ k : Nat, i = .int .i64 k ∧ k ≤ n ∧ SMem w L n g g1 g2 g3 ⟨List.replicate n 0, List.replicate k (-1) ++ List.replicate (n - k) 0, -1⟩ wr
def SoOut (l : List D) (w : World) (L : Value) (n g g1 g2 g3 : Nat) (lw i : Value) (wr : World) : Prop :=
  ∃ j : Nat, i = .int .i64 j ∧ j ≤ n ∧ lw = .int .i64 (after l n j).low ∧ SMem w L n g g1 g2 g3 (after l n j) wr ∧ (j = 0 ∨ 0 ≤ (after l n j).low)
def SoIn (l : List D) (s : St) (w : World) (L : Value) (n g g1 g2 g3 : Nat) (lw i : Value) (wr : World) : Prop :=
  ∃ k : Nat, i = .int .i64 k ∧ k ≤ l.length ∧ lw = .int .i64 (steps l k s).low ∧ SMem w L n g g1 g2 g3 (steps l k s) wr

theorem rep_set (n k : Nat) (h : k < n) : (List.replicate k (-1 : Int) ++ List.replicate (n - k) 0).set k (-1) = List.replicate (k + 1) (-1) ++ List.replicate (n - (k + 1)) 0 := by
  apply List.ext_getElem
  · simp; omega
  · intro i h1 h2
    simp only [List.getElem_set, List.getElem_append, List.length_replicate, List.getElem_replicate]
    split <;> split <;> (try split) <;> omega

set_option maxHeartbeats 1000000 in
theorem solve_any (A : Option Addr) (n m c1 : Nat) (l : List D) (w : World) (hl : IsD w w.heap.size A m l) (hm : m ≤ 1000) (hn : n ≤ 32) (hok : Ok l n) (hap : Apart l) :
    Calls Try.prog 14 #[.int .i64 n, .slice A m c1] w (SoPost l n w) := by
  have hll := hl.len
  have hmk := fun W => run_make_row' (P := Try.prog) 25 3 (.int .i64 0) 8 Try.underlying25 int_info rfl .i64 .i64 n (by omega) (by omega) W
  rw [made_zero] at hmk
  have HMK := Lib.hid hmk
  have HOK := Lib.hid hok
  have HAP := Lib.hid hap
  have hfit : fits0 n l = true := by
    simp only [fits0, Bool.and_eq_true, decide_eq_true_eq, Bool.not_eq_true']
    refine ⟨by omega, ?_⟩
    rw [List.any_eq_false]
    intro d hd
    have := hok d hd
    simp only [outI, inI, Bool.not_eq_true', decide_eq_false_iff_not]
    omega
  clear hmk hok hap
  have hl0 : IsD (w.alloc (.cells #[.slice A m c1] 22)) (w.heap.size + 1) A m l := (hl.below ((Below.refl _ _).alloc (Nat.le_refl _) _)).more (by omega)
  go_enter Try.func14, Try.ntmps14
  go_wp2_with fail
  go_step3
  go_wp2_with (go_at_call 24; go_must (refine (fits_any A m c1 l n _ (by simpa using hl0) hm).mono ?_; rw [hfit]; rintro e w1 ⟨rfl, hb1⟩; have hmk := HMK.out; have hz1 : w.heap.size < w1.heap.size := (by have := hb1.size; simp at this; omega)))
  clear hmk
  have hc1 : Blk w1 w.heap.size 22 [.slice A m c1] := (hb1.block w.heap.size (by simp)).trans (Blk.new w 22 [.slice A m c1])
  have hw1 : Below w.heap.size w w1 := ((Below.refl _ _).alloc (Nat.le_refl _) _).trans (hb1.mono (by simp))
  generalize hg0 : w1.heap.size = g
  have hA : SMem w (.slice A m c1) n g (g + 1) (g + 1 + 1) (g + 1 + 1 + 1) ⟨List.replicate n 0, List.replicate n 0, -1⟩ ((((w1.alloc (.cells (icells (List.replicate n 0)).toArray 3)).alloc (.cells #[.slice (some ⟨g, 0, none⟩) n n] 25)).alloc (.cells (icells (List.replicate n 0)).toArray 3)).alloc (.cells #[.slice (some ⟨g + 1 + 1, 0, none⟩) n n] 25)) := by
    subst hg0
    have e1 := Blk.new w1 3 (icells (List.replicate n 0))
    have e2 := Blk.new (w1.alloc (.cells (icells (List.replicate n 0)).toArray 3)) 25 [.slice (some ⟨w1.heap.size, 0, none⟩) n n]
    have e3 := Blk.new ((w1.alloc (.cells (icells (List.replicate n 0)).toArray 3)).alloc (.cells #[.slice (some ⟨w1.heap.size, 0, none⟩) n n] 25)) 3 (icells (List.replicate n 0))
    have e4 := Blk.new (((w1.alloc (.cells (icells (List.replicate n 0)).toArray 3)).alloc (.cells #[.slice (some ⟨w1.heap.size, 0, none⟩) n n] 25)).alloc (.cells (icells (List.replicate n 0)).toArray 3)) 25 [.slice (some ⟨w1.heap.size + 1 + 1, 0, none⟩) n n]
    have s1 : (w1.alloc (.cells (icells (List.replicate n 0)).toArray 3)).heap.size = w1.heap.size + 1 := by simp
    have s2 : ((w1.alloc (.cells (icells (List.replicate n 0)).toArray 3)).alloc (.cells #[.slice (some ⟨w1.heap.size, 0, none⟩) n n] 25)).heap.size = w1.heap.size + 1 + 1 := by simp
    have s3 : (((w1.alloc (.cells (icells (List.replicate n 0)).toArray 3)).alloc (.cells #[.slice (some ⟨w1.heap.size, 0, none⟩) n n] 25)).alloc (.cells (icells (List.replicate n 0)).toArray 3)).heap.size = w1.heap.size + 1 + 1 + 1 := by simp
    rw [s1] at e2
    rw [s2] at e3
    rw [s3] at e4
    exact ⟨(((hw1.alloc (by omega) _).alloc (by rw [s1]; omega) _).alloc (by rw [s2]; omega) _).alloc (by rw [s3]; omega) _, (((hc1.alloc _).alloc _).alloc _).alloc _, ((e1.alloc _).alloc _).alloc _, (e2.alloc _).alloc _, e3.alloc _, e4, by omega⟩
  generalize hg1 : g + 1 = g1 at *
  generalize hg2 : g1 + 1 = g2 at *
  generalize hg3 : g2 + 1 = g3 at *
  have HA := Lib.hid hA
  clear hA hg0 hg1 hg2 hg3 hc1 hw1 hz1 hb1
  go_loopw [23] (fun i wr => SoInit w (.slice A m c1) n g g1 g2 g3 i wr) (fun i _ => n - (intOf i).toNat)
  case atStart => exact ⟨0, rfl, Nat.zero_le _, by simpa using HA.out⟩
  case round =>
    obtain ⟨k, rfl, hk, hM⟩ := hrel
    obtain ⟨q1, q2, q3, q4⟩ := hM.lt
    have qs := hM.cr.lt
    by_cases hlt : k < n
    · have hc8 : wr.cell? ⟨g3, 0, none⟩ = some (.slice (some ⟨g2, 0, none⟩) n n) := hM.cr.cell 0
      have hck := hM.br.icell k (by simp; omega)
      have hfk := hM.br.frozen k
      have HM := Lib.hid hM
      clear hM
      generalize (List.replicate k (-1) ++ List.replicate (n - k) (0 : Int))[k]'(by simp; omega) = z0 at *
      go_wp2_with fail
      go_roundw
      case rel =>
        refine ⟨k + 1, by go_num, by omega, ?_⟩
        have hM := HM.out
        refine hM.low ((Touch.refl _ _).setCell (.inl (by simp)) _) ?_ ?_
        · exact hM.bx.far (by show g ≠ g2; omega) _
        · rw [← rep_set n k hlt, ← icells_set]
          exact hM.br.set_ _ _
      case measure => simp [intOf]; omega
    · obtain rfl : k = n := by omega
      have HM : Hid (SMem w (.slice A m c1) k g g1 g2 g3 (after l k 0) wr) := by
        have := hM
        simp only [Nat.sub_self, List.replicate_zero, List.append_nil] at this
        exact this
      clear hM hlt hk
      go_wp2_with fail
      go_step3
      go_wp2_with fail
      go_loopw [11, 32] (fun lw i wr => SoOut l w (.slice A m c1) k g g1 g2 g3 lw i wr) (fun _ i _ => k - (intOf i).toNat)
      case atStart => exact ⟨0, rfl, Nat.zero_le _, rfl, HM.out, .inl rfl⟩
      case round =>
        obtain ⟨j, rfl, hj, rfl, hM, hlow⟩ := hrel
        clear HM
        have HLOW := Lib.hid hlow
        clear hlow
        have hcl : wr.cell? ⟨w.heap.size, 0, none⟩ = some (.slice A m c1) := hM.cl.cell 0
        have HM := Lib.hid hM
        clear hM
        by_cases hlt : j < k
        · go_wp2_with fail
          go_loopw [11, 36] (fun lw i wr => SoIn l (fresh (after l k j)) w (.slice A m c1) k g g1 g2 g3 lw i wr) (fun _ i _ => m - (intOf i).toNat)
          case atStart => exact ⟨0, rfl, Nat.zero_le _, rfl, HM.out.fresh⟩
          case round =>
            obtain ⟨i, rfl, hi, rfl, hM⟩ := hrel
            clear HM hcl
            by_cases him : i < m
            · have hil : i < l.length := by omega
              have hl1 : IsD wr wr.heap.size A m l := (hl.below hM.below).more hM.below.size
              have hbd := Bd.steps HOK.out (Nat.le_of_lt hil) (s := fresh (after l k j)) (bd_after HOK.out j)
              have hlx : (steps l i (fresh (after l k j))).x.length = k := by rw [(steps_len _ _ _).1]; exact (after_len l k j).1
              have hlr : (steps l i (fresh (after l k j))).r.length = k := by rw [(steps_len _ _ _).2]; exact (after_len l k j).2
              have htb : j * l.length + i ≤ 40000 := by
                have : j * l.length ≤ 32 * 1000 := Nat.mul_le_mul (by omega) (by omega)
                omega
              have HST : Hid (steps l (i + 1) (fresh (after l k j)) = step l i (steps l i (fresh (after l k j)))) := rfl
              generalize steps l i (fresh (after l k j)) = s at *
              have HC := Lib.hid (lower_any A k m c1 i _ l s w.heap.size g g1 g2 g3 wr hl1 hm hn HOK.out him (hM.cl.cell 0) (hM.cx.cell 0) (hM.cr.cell 0) hM.bx hM.br hlx hlr hbd htb (by omega) (by omega) (by omega) (by omega) (by omega) hM.cl.lt hM.cx.lt hM.cr.lt)
              have HM := Lib.hid hM
              have HYES := Lib.hid (step_yes (l := l) (k := i) (s := s))
              have HNO := Lib.hid (step_no (l := l) (k := i) (s := s))
              clear hl1 hbd hlx hlr htb hM
              obtain ⟨b, off, rfl, hbb, -⟩ := hl.cells (by omega)
              cases ha : asks l i s with
              | true =>
                have HS := Lib.hid (HYES.out ha)
                have HAS := Lib.hid ha
                clear ha HYES HNO
                go_wp2_with (go_at_call 25; go_must (refine HC.out.mono ?_; rintro e w2 ⟨rfl, ht2, hx2, hr2⟩; rw [HAS.out]; have hM2 := HM.out.low ht2 hx2 hr2; have hcl2 : w2.cell? ⟨w.heap.size, 0, none⟩ = some (.slice (some ⟨b, off, none⟩) m c1) := hM2.cl.cell 0; have hd2 := ((hl.below hM2.below).at_ rfl (i : Int) (by omega)).1; simp only [at_dat, Int.toNat_natCast] at hd2; have HM2 := Lib.hid hM2; clear ht2 hx2 hr2 hM2))
                go_roundw
                case rel =>
                  refine ⟨i + 1, by go_num, by omega, ?_, ?_⟩
                  · rw [HST.out, HS.out]
                  · rw [HST.out]; exact HM2.out
                case measure => simp [intOf]; omega
              | false =>
                have HS := Lib.hid (HNO.out ha)
                have HAS := Lib.hid ha
                clear ha HYES HNO
                go_wp2_with (go_at_call 25; go_must (refine HC.out.mono ?_; rintro e w2 ⟨rfl, ht2, hx2, hr2⟩; rw [HAS.out]; have hM2 := HM.out.low ht2 hx2 hr2; have HM2 := Lib.hid hM2; clear ht2 hx2 hr2 hM2))
                go_roundw
                case rel =>
                  refine ⟨i + 1, by go_num, by omega, ?_, ?_⟩
                  · rw [HST.out, HS.out]
                  · rw [HST.out]; exact HM2.out
                case measure => simp [intOf]; omega
            · have hil : i = l.length := by omega
              subst hil
              have HAF : Hid (steps l l.length (fresh (after l k j)) = after l k (j + 1)) := rfl
              rw [HAF.out] at hM ⊢
              have hcx : wr.cell? ⟨g1, 0, none⟩ = some (.slice (some ⟨g, 0, none⟩) k k) := hM.cx.cell 0
              have HM := Lib.hid hM
              clear hM
              by_cases hlow : (after l k (j + 1)).low < 0
              · have HF := Lib.hid (after_fix HOK.out (j := j + 1) (by omega) hlow k (by omega))
                have HL := Lib.hid hlow
                generalize hlo : (after l k (j + 1)).low = lo at *
                have HLO := Lib.hid hlo
                clear hlo
                go_wp2_with fail
                rw [Exit.noGoto_ret]
                go_ret3
                refine ⟨HM.out.below, .inl ⟨by rw [HF.out, HLO.out]; exact HL.out, g, rfl, ?_, by omega⟩⟩
                rw [HF.out]
                exact HM.out.bx
              · have HL := Lib.hid hlow
                generalize hlo : (after l k (j + 1)).low = lo at *
                have HLO := Lib.hid hlo
                clear hlo
                go_wp2_with fail
                go_roundw
                case rel => exact ⟨j + 1, by go_num, by omega, by rw [HLO.out], HM.out, .inr (by rw [HLO.out]; have := HL.out; omega)⟩
                case measure => simp [intOf]; omega
        · obtain rfl : j = k := by omega
          clear hlt hj
          have hM := HM.out
          have hcx : wr.cell? ⟨g1, 0, none⟩ = some (.slice (some ⟨g, 0, none⟩) j j) := hM.cx.cell 0
          have hcr : wr.cell? ⟨g3, 0, none⟩ = some (.slice (some ⟨g2, 0, none⟩) j j) := hM.cr.cell 0
          have hl1 : IsD wr wr.heap.size A m l := (hl.below hM.below).more hM.below.size
          have hr1 : IsI wr wr.heap.size (some ⟨g2, 0, none⟩) j (after l j j).r := hM.br.isI (after_len l j j).2
          by_cases hlow : (after l j j).low < 0
          · have HL := Lib.hid hlow
            generalize hlo : (after l j j).low = lo at *
            have HLO := Lib.hid hlo
            clear hlo hM hl1 hr1
            go_wp2_with fail
            rw [Exit.noGoto_ret]
            go_ret3
            exact ⟨HM.out.below, .inl ⟨by rw [HLO.out]; exact HL.out, g, rfl, HM.out.bx, by omega⟩⟩
          · obtain ⟨v, p, hf⟩ := found_of_low HOK.out HAP.out (by omega)
            have hc := cycle_any A (some ⟨g2, 0, none⟩) j m c1 j p l (after l j j).r v wr hl1 hr1 hm hn hf.chain hf.pos hf.le hf.back hf.first
            rw [hf.start] at hc
            have HC := Lib.hid hc
            have HF := Lib.hid hf
            have HL := Lib.hid hlow
            generalize hlo : (after l j j).low = lo at *
            have HLO := Lib.hid hlo
            clear hlo hM hl1 hr1 hc hf
            go_wp2_with (go_at_call 26; go_must (refine HC.out.mono ?_; rintro e w2 ⟨A2, c2, rfl, hI, hb2⟩; have HI := Lib.hid hI; clear hI))
            rw [Exit.noGoto_ret]
            go_ret3
            exact ⟨HM.out.below.trans (hb2.mono HM.out.below.size), .inr ⟨by rw [HLO.out]; have := HL.out; omega, A2, c2, _, rfl, HI.out, HF.out.cyc, by rw [found_len]; exact HF.out.le⟩⟩
end Go.Proofs.Ytdcgebafmceajaa
