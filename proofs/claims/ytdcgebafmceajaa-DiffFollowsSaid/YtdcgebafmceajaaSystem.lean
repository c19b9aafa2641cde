/- The contract of interleavelaw32.system: it makes a system of constraints that is in range. -/
import Derived.Test.YtdcgebafmceajaaFormula
namespace Go.Proofs.Ytdcgebafmceajaa
open Go.RowKit Go.Deep
set_option linter.unusedVariables false

/-- A constraint of such a system. -/
def SysD (n : Int) (d : D) : Prop := ((0 ≤ d.x ∧ d.x < n) ∧ 0 ≤ d.y ∧ d.y < n) ∧ d.x ≠ d.y ∧ -4 ≤ d.c ∧ d.c ≤ 6

/-- What system returns. -/
def SysPost (w : World) (e : Ending) (w' : World) : Prop :=
  ∃ (n : Nat) (v : Value) (l : List D), e = .returned (.tuple #[.int .i64 n, v]) ∧ 2 ≤ n ∧ n ≤ 6 ∧ 1 ≤ l.length ∧ l.length ≤ 52 ∧ (∀ d ∈ l, SysD n d) ∧ w'.ownsRow w.heap.size 36 3 v l.length (dcells l) ∧ Below w.heap.size w w'

def SysRel (w : World) (N2 gf : Nat) (n b : Int) (av cv : Value) (l0 : List D) (K : Nat) (vs : List Value) (lv i : Value) (wr : World) : Prop :=
  ∃ (k : Nat) (l : List D), i = .int .i64 k ∧ k ≤ K ∧ l.length = l0.length + k ∧ (∀ d ∈ l, SysD n d) ∧ wr.ownsRow w.heap.size 36 3 lv l.length (dcells l) ∧ wr.ownsRow w.heap.size 25 1 cv K vs ∧ (∀ v ∈ vs, Clause wr w.heap.size N2 v) ∧ N2 ≤ wr.heap.size ∧
    Blk wr gf 54 [.int .i64 n, .int .i64 b, av, cv] ∧ Below w.heap.size w wr ∧ (∀ g, av.ownBlock = some g → ∀ j u, (dcells l0)[j]? = some u → wr.cell? ⟨g, j, none⟩ = some u)

theorem own_blk_ne {w : World} {base e size n g t : Nat} {v : Value} {xs cs : List Value} (h : w.ownsRow base e size v n xs) (hg : Blk w g t cs) (hne : e ≠ t) : v.ownBlock ≠ some g := by
  rcases h.2 with ⟨rfl, _⟩ | ⟨g', cap, cur, rfl, _, hh, _⟩
  · simp [Value.ownBlock]
  · intro he
    have : g' = g := by simpa [Value.ownBlock] using he
    subst this
    unfold Blk at hg
    rw [hg] at hh
    injection hh with h1
    injection h1 with _ h2
    exact hne h2.symm
theorem Blk.grown {w w' : World} {g t : Nat} {cs : List Value} {row : Option Nat} (h : Blk w g t cs) (hg : w.grownBy w' row) (hne : row ≠ some g) : Blk w' g t cs := (hg.block g h.lt (fun e => hne e.symm)).trans h
theorem sys_made (n : Int) (d : D) (q : Nat) (h : GoodD n d) (h1 : 1 ≤ q) (h2 : q ≤ 4) : SysD n ⟨d.y, d.x, d.c + q⟩ := by
  obtain ⟨⟨h3, h4⟩, h5, h6, h7⟩ := h
  exact ⟨⟨h4, h3⟩, fun e => h5 e.symm, by show -4 ≤ d.c + q; omega, by show d.c + q ≤ 6; omega⟩
theorem Clause.open_ {w : World} {lo hi : Nat} {v : Value} (h : Clause w lo hi v) : ∃ (g q cap : Nat) (z : Int), v = .slice (some ⟨g, 0, none⟩) q cap ∧ 1 ≤ q ∧ q ≤ 4 ∧ lo ≤ g ∧ g < hi ∧ w.cell? ⟨g, 0, none⟩ = some (.int .i64 z) ∧ z ≠ 0 ∧ -18 ≤ z ∧ z ≤ 18 := by
  obtain ⟨g, q, cap, cs, z, h1, h2, h3, h4, h5, h6, h7, h8⟩ := h
  exact ⟨g, q, cap, z, h1, h2, h3, h4, h5, by simp [World.cell?, h6, h7], h8⟩

set_option maxRecDepth 100000 in
set_option maxHeartbeats 1600000 in
theorem system_any (A : Option Addr) (k k0 c : Nat) (s0 s1 s2 : Int) (w : World) (hu : IsU w w.heap.size A k) (hk : k ≤ 300) (hmin : (if (300 : Int) < (k0 : Int) then (300 : Int) else (k0 : Int)) = (k : Int)) (hkc : k0 ≤ c)
    (hs0 : 0 ≤ s0 ∧ s0 ≤ 255) (hs1 : 0 ≤ s1 ∧ s1 ≤ 255) (hs2 : 0 ≤ s2 ∧ s2 ≤ 255) :
    Calls Try.prog 16 #[.agg #[.int .u8 s0, .int .u8 s1, .int .u8 s2, .slice A k0 c]] w (SysPost w) := by
  obtain ⟨i0, hi0, hz0, hz1, hz2⟩ := info_parts diff_info
  have B0 : Below w.heap.size w (w.alloc (.cells #[.int .u8 s0, .int .u8 s1, .int .u8 s2, .slice A k0 c] 32)) := (Below.refl _ _).alloc (Nat.le_refl _) _
  have hu1 : IsU (w.alloc (.cells #[.int .u8 s0, .int .u8 s1, .int .u8 s2, .slice A k0 c] 32)) (w.alloc (.cells #[.int .u8 s0, .int .u8 s1, .int .u8 s2, .slice A k0 c] 32)).heap.size A k :=
    ⟨fun hn => by
      obtain ⟨b, off, e, hb, hc⟩ := (hu.below B0).cells hn
      exact ⟨b, off, e, by simp; omega, hc⟩⟩
  have HC := Lib.hid (formula_any A k k0 c s0 s1 s2 _ hu1 hk hmin hkc hs0 hs1 hs2)
  clear hmin hu1
  go_enter Try.func16, Try.ntmps16
  go_wp2_with fail
  refine HC.out.mono ?_
  rintro e w1 ⟨n, b, av, cv, j, K, l0, vs, rfl, hn1, hn2, hlen, hj1, hj2, hgood, hK, hoa, hoc, hcl, hb1⟩
  have HOA := Lib.hid (own_base hoa (show w.heap.size ≤ _ by simp))
  have HOC := Lib.hid (own_base hoc (show w.heap.size ≤ _ by simp))
  have HCL : Hid (∀ v ∈ vs, Clause w1 w.heap.size w1.heap.size v) := fun v hv => (hcl v hv).lo (by simp)
  have HB1 : Hid (Below w.heap.size w w1) := B0.trans (hb1.mono (by simp))
  have hs1' := HB1.out.size
  obtain ⟨ga, ca, rfl, hga1, hga2⟩ := HOA.out.form (by omega)
  obtain ⟨Ac, cc, rfl⟩ := own_slice HOC.out
  have HGOOD := Lib.hid hgood
  clear hoa hoc hcl hb1 hgood HC
  go_wp2_with fail
  have HF := Lib.hid (Blk.new w1 54 [.int .i64 n, .int .i64 b, .slice (some ⟨ga, 0, none⟩) j ca, .slice Ac K cc])
  have HAT : Hid (∀ g, (Value.slice (some ⟨ga, 0, none⟩) j ca).ownBlock = some g → ∀ i u, (dcells l0)[i]? = some u → (w1.alloc (.cells #[.int .i64 n, .int .i64 b, .slice (some ⟨ga, 0, none⟩) j ca, .slice Ac K cc] 54)).cell? ⟨g, i, none⟩ = some u) := by
    intro g hg i u hi
    have := (HOA.out.alloc (.cells #[.int .i64 n, .int .i64 b, .slice (some ⟨ga, 0, none⟩) j ca, .slice Ac K cc] 54)).cells hg i u hi
    rw [addr_add, Nat.zero_add] at this
    exact this
  go_loopw [5, 16] (fun lv i wr => SysRel w w1.heap.size w1.heap.size n b (.slice (some ⟨ga, 0, none⟩) j ca) (.slice Ac K cc) l0 K vs lv i wr) (fun _ i _ => K - (intOf i).toNat)
  case atStart => exact ⟨0, l0, rfl, Nat.zero_le _, rfl, fun d hd => by obtain ⟨x1, x2, x3, x4⟩ := HGOOD.out d hd; exact ⟨x1, x2, x3, by omega⟩, by rw [hlen]; exact HOA.out.alloc _, HOC.out.alloc _, fun v hv => (HCL.out v hv).alloc _ (Nat.le_refl _), by simp, HF.out, HB1.out.alloc hs1' _, HAT.out⟩
  case round =>
    obtain ⟨i, l, rfl, hi, hll, hsys, hol, hoc, hcl, hs2, hbf, hbw, hat⟩ := hrel
    clear HF HAT HOA HOC HCL HB1
    have HSYS := Lib.hid hsys
    have HOL := Lib.hid hol
    have HOC := Lib.hid hoc
    have HCL := Lib.hid hcl
    have HBF := Lib.hid hbf
    have HBW := Lib.hid hbw
    have HAT := Lib.hid hat
    have hbs := hbw.size
    have hgf := hbf.lt
    clear hsys hol hoc hcl hbf hbw hat
    by_cases hlt : i < K
    · obtain ⟨gc, cc', hcv, hgc1, hgc2⟩ := HOC.out.form (by omega)
      injection hcv with hcv1 hcv2 hcv3
      subst hcv1 hcv3
      have hvl : vs.length = K := by have := HOC.out.1; omega
      obtain ⟨gq, q, cq, z, hvi, hq1, hq4, hgq1, hgq2, hcz, hz0', hz1', hz2'⟩ := (HCL.out (vs[i]'(by omega)) (List.getElem_mem _)).open_
      have hci : wr.cell? ⟨gc, i, none⟩ = some (.slice (some ⟨gq, 0, none⟩) q cq) := by
        rw [HOC.out.cellAt i (by omega), List.getElem?_eq_getElem (by omega), hvi]
      clear hvi
      obtain ⟨az, haz⟩ : ∃ az : Int, az = if z < 0 then -z else z := ⟨_, rfl⟩
      have haz1 : 1 ≤ az ∧ az ≤ 18 := by rw [haz]; split <;> omega
      have HABS : Hid (∀ W, Calls Try.prog 29 #[.int .i64 z] W fun e w' => e = .returned (.int .i64 az) ∧ w' = W) := fun W => by rw [haz]; exact abs_any z W (by omega)
      clear haz
      obtain ⟨haz1, haz2⟩ := haz1
      obtain ⟨y, hy⟩ : ∃ y : Nat, (y : Int) = (az - 1) % (j : Int) := ⟨((az - 1) % (j : Int)).toNat, by have := Int.emod_nonneg (az - 1) (show (j : Int) ≠ 0 by omega); omega⟩
      have hyj : y < j := by have := Int.emod_lt_of_pos (az - 1) (show (0 : Int) < (j : Int) by omega); omega
      have e1 : IntKind.i64.wrap (az - 1) = az - 1 := IntWalk.i64_in _ (by omega)
      have e2 : (az - 1).tmod (j : Int) = (y : Int) := by rw [hy]; exact Int.tmod_eq_emod_of_nonneg (by omega)
      have e3 : (az - 1) % (j : Int) = (y : Int) := hy.symm
      have hy0 : (0 : Int) ≤ (y : Int) := by omega
      have hy1 : (y : Int) < (j : Int) := by omega
      have hjz : ¬ j = 0 := by omega
      have hyl : y < l0.length := by omega
      obtain ⟨d0, d1, d2⟩ := dcells_get l0 y hyl
      have hd0 := HAT.out ga rfl _ _ d0
      have hd1 := HAT.out ga rfl _ _ d1
      have hd2 := HAT.out ga rfl _ _ d2
      have HGY := Lib.hid (sys_made n (l0[y]'hyl) q (HGOOD.out _ (List.getElem_mem _)) hq1 hq4)
      have hcb := (HGOOD.out (l0[y]'hyl) (List.getElem_mem _)).2.2
      clear hy d0 d1 d2
      generalize (l0[y]'hyl) = d at *
      obtain ⟨dx, dy, dc⟩ := d
      dsimp only at *
      obtain ⟨hcb1, hcb2⟩ := hcb
      have ka : wr.cell? ⟨w1.heap.size, 2, none⟩ = some (.slice (some ⟨ga, 0, none⟩) j ca) := HBF.out.cell 2
      have hgqs : gq < wr.heap.size := by omega
      have hgas : ga < wr.heap.size := by omega
      have hq0 : (0 : Int) < (q : Int) := by omega
      have hq0n : 0 < q := by omega
      go_wp2_with fail
      go_region_held3 (fun w' => w'.cell? ⟨w1.heap.size, 2, none⟩ = some (.slice (some ⟨ga, 0, none⟩) j ca) ∧ w'.cell? ⟨gq, 0, none⟩ = some (.int .i64 z) ∧ w'.cell? ⟨ga, y * 3, none⟩ = some (.int .i64 dx) ∧ w'.cell? ⟨ga, y * 3 + 1, none⟩ = some (.int .i64 dy) ∧ w'.cell? ⟨ga, y * 3 + 2, none⟩ = some (.int .i64 dc))
        (go_keep)
        (first
          | (go_at_call 29
             refine (HABS.out _).mono ?_
             rintro e w2 ⟨rfl, rfl⟩))
      all_goals
        clear e1 e2 e3 hd0 hd1 hd2 ka hcz hci HABS
        have HOL1 := Lib.hid (((HOL.out.alloc (.cells #[.int .i64 dx, .int .i64 dy, .int .i64 dc] 36)).alloc (.cells #[.int .i64 dy, .int .i64 dx, .int .i64 (dc + q)] 36)))
        have HW : Hid ((wr.alloc (.cells #[.int .i64 dx, .int .i64 dy, .int .i64 dc] 36)).heap.size = wr.heap.size + 1) := by show _ = _; simp
        have HN1 := Lib.hid (blk_news (Blk.new (wr.alloc (.cells #[.int .i64 dx, .int .i64 dy, .int .i64 dc] 36)) 36 [.int .i64 dy, .int .i64 dx, .int .i64 (dc + q)]))
        rw [HW.out] at HN1
        have KEY : Hid (∀ (v3 : Value) (w3 : World), w3.ownsRow w.heap.size 36 3 v3 (l.length + 1) (dcells l ++ [.int .i64 dy, .int .i64 dx, .int .i64 (dc + q)]) →
            ((wr.alloc (.cells #[.int .i64 dx, .int .i64 dy, .int .i64 dc] 36)).alloc (.cells #[.int .i64 dy, .int .i64 dx, .int .i64 (dc + q)] 36)).drew.grownBy w3 u5.ownBlock →
            (∀ g, u5.ownBlock = some g → ∀ j, j < l.length * 3 → w3.cell? ⟨g, j, none⟩ = ((wr.alloc (.cells #[.int .i64 dx, .int .i64 dy, .int .i64 dc] 36)).alloc (.cells #[.int .i64 dy, .int .i64 dx, .int .i64 (dc + q)] 36)).drew.cell? ⟨g, j, none⟩) →
            SysRel w w1.heap.size w1.heap.size n b (.slice (some ⟨ga, 0, none⟩) j ca) (.slice (some ⟨gc, 0, none⟩) K cc) l0 K vs v3 (.int .i64 ((i : Int) + 1)) w3) := by
          intro v3 w3 h1 h2 h3
          have hz : ((wr.alloc (.cells #[.int .i64 dx, .int .i64 dy, .int .i64 dc] 36)).alloc (.cells #[.int .i64 dy, .int .i64 dx, .int .i64 (dc + q)] 36)).drew.heap.size = wr.heap.size + 1 + 1 := by simp
          have hz3 := h2.size
          rw [hz] at hz3
          refine ⟨i + 1, l ++ [⟨dy, dx, dc + q⟩], by go_num, by omega, by simp; omega, ?_, ?_, own_other (own_drew ((HOC.out.alloc _).alloc _)) (own_drew HOL1.out) (by decide) h2, ?_, by omega, ?_, ?_, ?_⟩
          · intro d hd
            rw [List.mem_append, List.mem_singleton] at hd
            rcases hd with hd | rfl
            · exact HSYS.out d hd
            · exact HGY.out
          · rw [dcells_append, dcells_one, List.length_append, List.length_singleton]
            exact h1
          · intro v hv
            have h4 := ((HCL.out v hv).alloc (.cells #[.int .i64 dx, .int .i64 dy, .int .i64 dc] 36) hs2).alloc (.cells #[.int .i64 dy, .int .i64 dx, .int .i64 (dc + q)] 36) (by rw [HW.out]; omega)
            exact Clause.other (w := ((wr.alloc (.cells #[.int .i64 dx, .int .i64 dy, .int .i64 dc] 36)).alloc (.cells #[.int .i64 dy, .int .i64 dx, .int .i64 (dc + q)] 36)).drew) h4 (own_drew HOL1.out) (by decide) h2 (by rw [hz]; omega)
          · exact Blk.grown ((HBF.out.alloc _).alloc _).drew h2 (own_blk_ne (own_drew HOL1.out) ((HBF.out.alloc _).alloc _).drew (by decide))
          · exact ((HBW.out.alloc hbs _).alloc (by rw [HW.out]; omega) _).drew.grown h2 (by rw [hz]; omega) (fun p hp => (HOL1.out.lt p hp).1)
          · intro g hg jj u hju
            obtain rfl : ga = g := by simpa [Value.ownBlock] using hg
            have hjl : jj < l0.length * 3 := by
              rcases Nat.lt_or_ge jj (dcells l0).length with h5 | h5
              · rw [dcells_length] at h5; exact h5
              · rw [List.getElem?_eq_none h5] at hju; cases hju
            have hbase : ((wr.alloc (.cells #[.int .i64 dx, .int .i64 dy, .int .i64 dc] 36)).alloc (.cells #[.int .i64 dy, .int .i64 dx, .int .i64 (dc + q)] 36)).drew.cell? ⟨ga, jj, none⟩ = some u :=
              (World.cell?_alloc_lt _ _ ⟨ga, jj, none⟩ (by show ga < _; rw [HW.out]; omega)).trans ((World.cell?_alloc_lt _ _ ⟨ga, jj, none⟩ (by show ga < _; omega)).trans (HAT.out ga rfl jj u hju))
            by_cases hown : u5.ownBlock = some ga
            · exact (h3 ga hown jj (by omega)).trans hbase
            · exact (World.cell?_of_block (h2.block ga (by rw [hz]; omega) (fun e => hown e.symm))).trans hbase
        go_wp2_with (at_builtin; go_must (refine wpList_append_keep _ rfl (.tmp 33) (.tmp 44) 22 rfl w.heap.size 36 i0 _ 3 24 Try.underlying22 hi0 hz0 hz1 hz2 rfl (by decide) u5 l.length (dcells l) rfl (own_drew HOL1.out) ⟨wr.heap.size + 1, 0, none⟩ 1 1 [.int .i64 dy, .int .i64 dx, .int .i64 (dc + q)] rfl rfl HN1.out (one_three _ _ _) (by simp only [maxLen]; omega) (by omega) (by simp; omega) ?_; intro v3 w3 hown3 hgrow3 hkeep3; have HO3 := Lib.hid hown3; have HG3 := Lib.hid hgrow3; have HK3 := Lib.hid hkeep3; clear hown3 hgrow3 hkeep3))
        go_roundw
        case rel => exact KEY.out _ _ HO3.out HG3.out HK3.out
        case measure => simp [intOf]; omega
    · have a0 : wr.cell? ⟨w1.heap.size, 0, none⟩ = some (.int .i64 n) := HBF.out.cell 0
      obtain ⟨nn, rfl⟩ := Int.eq_ofNat_of_zero_le (show 0 ≤ n by omega)
      go_wp2_with fail
      go_ret2
      exact ⟨nn, u5, l, rfl, by omega, by omega, by omega, by omega, HSYS.out, HOL.out, HBW.out⟩
end Go.Proofs.Ytdcgebafmceajaa
