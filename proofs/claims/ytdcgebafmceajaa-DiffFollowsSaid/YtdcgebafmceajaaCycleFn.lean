/- The contract of the function 'cycle' of interleave/diff. -/
import Derived.Test.YtdcgebafmceajaaLower
import Derived.Test.YtdcgebafmceajaaFord2
namespace Go.Proofs.Ytdcgebafmceajaa
open Go.RowKit Go.Deep
set_option linter.unusedVariables false

def SliceOf (xs : List Int) (w : World) (e : Ending) (w' : World) : Prop :=
  ∃ A c, e = .returned (.slice A xs.length c) ∧ IsI w' w'.heap.size A xs.length xs ∧ Below w.heap.size w w'

def lenOf : Value → Nat | .slice _ q _ => q | _ => 0
theorem own_len {w : World} {base e size n : Nat} {v : Value} {xs : List Value} (h : w.ownsRow base e size v n xs) : lenOf v = n := by
  rcases h.2 with ⟨rfl, rfl⟩ | ⟨g, cap, cur, rfl, _⟩ <;> rfl

def CyIn (r : List Int) (v : Nat → Int) (n p : Nat) (w : World) (c i : Value) (wr : World) : Prop :=
  ∃ k : Nat, i = .int .i64 (v (n + k)) ∧ k < p ∧ Below w.heap.size w wr ∧ wr.ownsRow w.heap.size 3 1 c k (icells (found r v n k))

theorem found_succ (r : List Int) (v : Nat → Int) (n k : Nat) : icells (found r v n (k + 1)) = icells (found r v n k) ++ [.int .i64 (val r (v (n + k)))] := by
  simp [found, icells, List.range_succ]
theorem IsI.vcell {w : World} {B n : Nat} {b off : Nat} {z : List Int} (h : IsI w B (some ⟨b, off, none⟩) n z) (i : Int) (hi : 0 ≤ i ∧ i < z.length) : w.cell? ⟨b, off + i.toNat, none⟩ = some (.int .i64 (val z i)) := by
  obtain ⟨b', off', e, _, hc⟩ := h.cells (by have := h.len; omega)
  injection e with e
  injection e with e1 e2
  subst e1 e2
  rw [val_eq z i hi]; exact hc _ (by omega)
theorem isI_of_own {w : World} {base n : Nat} {v : Value} {z : List Int} (h : w.ownsRow base 3 1 v n (icells z)) (hn : z.length = n) : ∃ A c, v = .slice A n c ∧ IsI w w.heap.size A n z := by
  rcases h.2 with ⟨rfl, rfl⟩ | ⟨g, cap, cur, rfl, hg, hh, _⟩
  · exact ⟨none, 0, rfl, hn, fun h => absurd h (by omega)⟩
  · refine ⟨_, _, rfl, hn, fun h0 => ⟨g, 0, rfl, ?_, fun i hi => ?_⟩⟩
    · exact (h.lt g rfl).2
    · have := h.cells (g := g) rfl i (.int .i64 z[i]) (by simp [icells, hi])
      rw [Nat.zero_add]
      unfold Addr.add at this
      split at this
      · rename_i h0; subst h0; exact this
      · simpa using this

theorem news_one (w : World) (u : Value) (t : TypeId) : ∀ j x, [u][j]? = some x → (w.alloc (.cells #[u] t)).cell? ((⟨w.heap.size, 0, none⟩ : Addr).add j) = some x := by
  intro j x hj
  cases j with
  | zero =>
    obtain rfl : u = x := by simpa using hj
    exact (Blk.new w t [u]).cell 0
  | succ j => simp at hj
theorem one_int (n : Int) : ∀ u ∈ [Value.int .i64 n], u.oneCell' = true := by intro u hu; simp at hu; subst hu; rfl

set_option maxHeartbeats 1000000 in
theorem cycle_any (A R : Option Addr) (n m c1 c2 p : Nat) (l : List D) (r : List Int) (v : Nat → Int) (w : World) (hl : IsD w w.heap.size A m l) (hr : IsI w w.heap.size R n r) (hm : m ≤ 1000) (hn : n ≤ 32)
    (hch : Chain l r n v) (hp : 0 < p) (hpn : p ≤ n) (hback : v (n + p) = v n) (hfirst : ∀ q, 0 < q → q < p → v (n + q) ≠ v n) :
    Calls Try.prog 26 #[.slice A m c1, .slice R n c2, .int .i64 (v 0)] w (SliceOf (found r v n p) w) := by
  have hll := hl.len
  have hrl := hr.len
  have HCH := Lib.hid hch
  have HBACK := Lib.hid hback
  have HFIRST := Lib.hid hfirst
  clear hch hback hfirst
  obtain ⟨b2, off2, rfl, hbb2, -⟩ := hr.cells (by omega)
  have h00 := HCH.out.why 0
  obtain ⟨b, off, rfl, hbb, -⟩ := hl.cells (by omega)
  obtain ⟨i0, hi0, hz0, hz1, hz2⟩ := info_parts int_info
  go_enter Try.func26, Try.ntmps26
  go_wp2_with fail
  go_loopw [2, 11] (fun a i wr => ∃ k : Nat, i = .int .i64 k ∧ k ≤ n ∧ a = .int .i64 (v k) ∧ Below w.heap.size w wr) (fun _ i _ => n - (intOf i).toNat)
  case atStart => exact ⟨0, rfl, Nat.zero_le _, rfl, Below.refl _ _⟩
  case round =>
    obtain ⟨k, rfl, hk, rfl, hb⟩ := hrel
    have h1 := HCH.out.rng k
    have h2 := HCH.out.why k
    by_cases hlt : k < n
    · have h3 := (hr.below hb).vcell (v k) (by omega)
      have h4 := ((hl.below hb).at_ rfl (val r (v k)) (by omega)).2.1
      have HN := Lib.hid (HCH.out.next k)
      generalize v k = vk at *
      generalize val r vk = rk at *
      generalize (at_ l rk).y = yk at *
      obtain ⟨h5, h6⟩ := h1
      obtain ⟨h7, h8⟩ := h2
      go_wp2_with fail
      go_roundw
      case rel => exact ⟨k + 1, by go_num, by omega, by rw [HN.out], hb⟩
      case measure => simp [intOf]; omega
    · obtain rfl : k = n := by omega
      clear hlt hk
      go_wp2_with fail
      go_loopw [7, 8] (fun c i wr => CyIn r v k p w c i wr) (fun c _ _ => p - lenOf c)
      case atStart => exact ⟨0, rfl, hp, hb, by rfl, .inl ⟨rfl, rfl⟩⟩
      case round =>
        obtain ⟨q, rfl, hq, hb', hown⟩ := hrel
        clear hb
        have hb := hb'
        clear hb'
        have hbs := hb.size
        have HLEN := Lib.hid (own_len hown)
        have h1 := HCH.out.rng (k + q)
        have h2 := HCH.out.why (k + q)
        have h3 := (hr.below hb).vcell (v (k + q)) (by omega)
        have h4 := ((hl.below hb).at_ rfl (val r (v (k + q))) (by omega)).2.1
        have HN : Hid (v (k + (q + 1)) = _) := HCH.out.next (k + q)
        have HFS := Lib.hid (found_succ r v k q)
        have HF : Hid (q + 1 < p → v (k + (q + 1)) ≠ v k) := fun h => HFIRST.out (q + 1) (by omega) h
        have HP : Hid (q + 1 = p → v (k + (q + 1)) = v k) := fun h => by rw [h]; exact HBACK.out
        generalize v (k + q) = vk at *
        generalize val r vk = rk at *
        generalize hyk : (at_ l rk).y = yk at *
        obtain ⟨h5, h6⟩ := h1
        obtain ⟨h7, h8⟩ := h2
        have HY := Lib.hid hyk
        clear hyk
        have hown0 := hown.alloc (.cells #[.int .i64 rk] 3)
        have hnews := news_one wr (.int .i64 rk) 3
        have HNW := Lib.hid hnews
        have HOW := Lib.hid hown0
        clear hnews hown0 hown
        have hfl := found_len r v k q
        by_cases hqp : q + 1 = p
        · have hv : yk = v k := by rw [← HP.out hqp, HN.out]
          have g : (yk == v k) = true := by simpa using hv
          have HQ := Lib.hid hqp
          clear hv hqp
          go_wp2_with (at_builtin; refine wpList_append_own _ rfl (.tmp 33) (.tmp 38) 25 rfl w.heap.size 3 i0 (.int .i64 0) 1 8 Try.underlying25 hi0 hz0 hz1 hz2 rfl (by decide) u7 q (icells (found r v k q)) rfl HOW.out ⟨wr.heap.size, 0, none⟩ 1 1 [.int .i64 rk] rfl rfl HNW.out (one_int rk) (by simp only [maxLen]; omega) (by omega) (by simp; omega) ?_; intro v1 w1 hown1 hg1 _; have hb1 : Below w.heap.size w w1 := (hb.alloc hbs _).grown hg1 (by simp; omega) (fun g hg => (HOW.out.lt g hg).1); have h41 := (hb1.cell (p := ⟨b2, off2 + vk.toNat, none⟩) hbb2).trans ((hb.cell (p := ⟨b2, off2 + vk.toNat, none⟩) hbb2).symm.trans h3); have h42 := (hb1.cell (p := ⟨b, off + rk.toNat * 3 + 1, none⟩) hbb).trans ((hb.cell (p := ⟨b, off + rk.toNat * 3 + 1, none⟩) hbb).symm.trans h4); have hown2 : w1.ownsRow w.heap.size 3 1 v1 (q + 1) (icells (found r v k (q + 1))) := (congrArg (fun z => w1.ownsRow w.heap.size 3 1 v1 (q + 1) z) HFS.out).mpr hown1; obtain ⟨A1, d1, rfl, hI1⟩ := isI_of_own hown2 (found_len _ _ _ _); have HOW1 := Lib.hid hown2; have HI1 := Lib.hid hI1; clear hown1 hown2 hI1 hg1)
          go_ret
          refine ⟨A1, d1, ?_, ?_, hb1⟩
          · rw [found_len, ← HQ.out]; rfl
          · rw [found_len, ← HQ.out]; exact HI1.out
        · have hv : ¬ yk = v k := by
            have := HF.out (by omega)
            rw [HN.out] at this
            exact this
          have g : (yk == v k) = false := by simpa using hv
          have hqk : (q : Int) + 1 ≤ k := by omega
          have HQ := Lib.hid hqp
          clear hv
          go_wp2_with (at_builtin; refine wpList_append_own _ rfl (.tmp 33) (.tmp 38) 25 rfl w.heap.size 3 i0 (.int .i64 0) 1 8 Try.underlying25 hi0 hz0 hz1 hz2 rfl (by decide) u7 q (icells (found r v k q)) rfl HOW.out ⟨wr.heap.size, 0, none⟩ 1 1 [.int .i64 rk] rfl rfl HNW.out (one_int rk) (by simp only [maxLen]; omega) (by omega) (by simp; omega) ?_; intro v1 w1 hown1 hg1 _; have hb1 : Below w.heap.size w w1 := (hb.alloc hbs _).grown hg1 (by simp; omega) (fun g hg => (HOW.out.lt g hg).1); have h41 := (hb1.cell (p := ⟨b2, off2 + vk.toNat, none⟩) hbb2).trans ((hb.cell (p := ⟨b2, off2 + vk.toNat, none⟩) hbb2).symm.trans h3); have h42 := (hb1.cell (p := ⟨b, off + rk.toNat * 3 + 1, none⟩) hbb).trans ((hb.cell (p := ⟨b, off + rk.toNat * 3 + 1, none⟩) hbb).symm.trans h4); have hown2 : w1.ownsRow w.heap.size 3 1 v1 (q + 1) (icells (found r v k (q + 1))) := (congrArg (fun z => w1.ownsRow w.heap.size 3 1 v1 (q + 1) z) HFS.out).mpr hown1; obtain ⟨A1, d1, rfl, hI1⟩ := isI_of_own hown2 (found_len _ _ _ _); have HOW1 := Lib.hid hown2; have HI1 := Lib.hid hI1; clear hown1 hown2 hI1 hg1)
          all_goals first
            | (exfalso; omega)
            | (go_roundw
               case rel => exact ⟨q + 1, by rw [HN.out], by omega, hb1, HOW1.out⟩
               case measure =>
                show p - (q + 1) < p - lenOf u7
                rw [HLEN.out]
                omega)
end Go.Proofs.Ytdcgebafmceajaa
