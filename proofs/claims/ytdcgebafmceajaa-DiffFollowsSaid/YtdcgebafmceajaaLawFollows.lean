/- interleavelaw32.DiffFollows returns true for every input: what is entailed holds in the greatest solution, and adding it, or its negation otherwise, keeps the system solvable. No condition. -/
import Derived.Test.YtdcgebafmceajaaProb
import Derived.Test.YtdcgebafmceajaaHolds
namespace Go.Proofs.Ytdcgebafmceajaa.lawFollows
open Go.ChangeShapes Go.WideShapes Go.ChangeAt Go.RowKit Go.Deep
open Go.Proofs.Ytdcgebafmceajaa
set_option linter.unusedVariables false

theorem follows {l : List D} {n : Nat} {d : D} (hok : Ok (l ++ [opp d]) n) (hap : Apart (l ++ [opp d])) {X : List Int} (hX : X.length = n) (hs : Sat l X) (hd : (0 ≤ d.x ∧ d.x < (n : Int)) ∧ 0 ≤ d.y ∧ d.y < (n : Int)) (h : notB (l ++ [opp d]) n = true) : [d].all (holdB X) = true := by
  simp only [notB, decide_eq_true_eq] at h
  simp only [List.all_cons, List.all_nil, Bool.and_true]
  unfold holdB
  rw [Bool.and_eq_true]
  refine ⟨(inB_iff _ _).2 (by omega), ?_⟩
  rw [decide_eq_true_eq]
  show val X d.x - val X d.y ≤ d.c
  rcases (show val X d.x - val X d.y ≤ d.c ∨ d.c < val X d.x - val X d.y by omega) with h1 | h1
  · exact h1
  · exfalso
    have h2 : Sat (l ++ [opp d]) X := by
      intro k hk
      rw [dat_eq _ k hk]
      simp only [List.length_append, List.length_singleton] at hk
      rcases (show k < l.length ∨ k = l.length by omega) with h3 | h3
      · rw [List.getElem_append_left h3, ← dat_eq l k h3]; exact hs k h3
      · subst h3
        rw [List.getElem_append_right (Nat.le_refl _)]
        simp only [Nat.sub_self, List.getElem_singleton, opp]
        omega
    have := low_of_sat hok hap h2
    omega
theorem none_more {l : List D} {n : Nat} {d : D} (hok : Ok (l ++ [d]) n) (hap : Apart (l ++ [d])) (hok1 : Ok l n) (hap1 : Apart l) (h : 0 ≤ (after l n n).low) : notB (l ++ [d]) n = true := by
  simp only [notB, decide_eq_true_eq]
  rcases (show (after (l ++ [d]) n n).low < 0 ∨ 0 ≤ (after (l ++ [d]) n n).low by omega) with h1 | h1
  · exfalso
    have h2 := sat_after hok h1
    have h3 : Sat l (after (l ++ [d]) n n).x := by
      intro k hk
      have := h2 k (by simp; omega)
      rw [dat_eq _ k (by simp; omega), List.getElem_append_left hk, ← dat_eq l k hk] at this
      exact this
    have := low_of_sat hok1 hap1 h3
    omega
  · exact h1

theorem other_mod (n x y : Int) (h1 : 2 ≤ n) (h3 : 0 ≤ x) (h4 : x < n) (h5 : 0 ≤ y) : (0 ≤ (x + 1 + y % (n - 1)) % n ∧ (x + 1 + y % (n - 1)) % n < n) ∧ x ≠ (x + 1 + y % (n - 1)) % n := by
  have a3 := Int.emod_nonneg y (show n - 1 ≠ 0 by omega)
  have a4 := Int.emod_lt_of_pos y (show 0 < n - 1 by omega)
  generalize y % (n - 1) = z at *
  refine ⟨⟨Int.emod_nonneg _ (by omega), Int.emod_lt_of_pos _ (by omega)⟩, ?_⟩
  rcases (show x + 1 + z < n ∨ n ≤ x + 1 + z by omega) with h | h
  · rw [Int.emod_eq_of_lt (by omega) h]; omega
  · rw [show (x + 1 + z) % n = x + 1 + z - n by
      rw [Int.emod_def, show (x + 1 + z) / n = 1 by
        rw [Int.ediv_eq_iff_of_pos (by omega)]; omega]; omega]
    omega

set_option maxRecDepth 100000 in
set_option maxHeartbeats 1600000 in
theorem walk (A : Option Addr) (k0 c : Nat) (s0 s1 s2 px py pc : Int) (w : World) (hP : ProbIs w s0 s1 s2 A k0 c) (hx : (Lit.int .i8 px).wf = true) (hy : (Lit.int .i8 py).wf = true) (hc : (Lit.int .i8 pc).wf = true) :
    Calls Try.prog 7 #[.agg #[.int .u8 s0, .int .u8 s1, .int .u8 s2, .slice A k0 c], .int .i8 px, .int .i8 py, .int .i8 pc] w fun e w' => e = .returned (.bool true) ∧ Below w.heap.size w w' := by
  have HC := Lib.hid (Prob_sys (hP.alloc (.cells #[.int .u8 s0, .int .u8 s1, .int .u8 s2, .slice A k0 c] 32)))
  obtain ⟨hx1, hx2⟩ := bounds_i8 hx
  obtain ⟨hy1, hy2⟩ := bounds_i8 hy
  obtain ⟨hc1, hc2⟩ := bounds_i8 hc
  clear hx hy hc
  go_enter Try.func7, Try.ntmps7
  go_wp2_with fail
  refine HC.out.mono ?_
  rintro e w1 ⟨n, v, l, rfl, hn1, hn2, hl1, hl2, hsys, hown, hb1⟩
  obtain ⟨gl, cl, rfl, hgl1, hgl2⟩ := hown.form (by omega)
  have hI := isD_own hown rfl
  have B1 : Below w.heap.size w w1 := ((Below.refl _ _).alloc (Nat.le_refl _) _).trans (hb1.mono (by simp))
  have hs1 := B1.size
  have HSYS := Lib.hid hsys
  have HI := Lib.hid hI
  clear hown hb1 hI hsys HC
  have hnz : ¬ n = 0 := by omega
  go_wp2_with fail
  have hx0 := Int.emod_nonneg (px % 256) (show (n : Int) ≠ 0 by omega)
  have hx1' := Int.emod_lt_of_pos (px % 256) (show (0 : Int) < n by omega)
  have hcc : -5 ≤ wrap64 (pc.tmod 6) ∧ wrap64 (pc.tmod 6) ≤ 5 := by
    have h1 : -5 ≤ pc.tmod 6 ∧ pc.tmod 6 ≤ 5 := by
      rcases (show 0 ≤ pc ∨ pc < 0 by omega) with h | h
      · rw [Int.tmod_eq_emod_of_nonneg h]; omega
      · have h2 : pc.tmod 6 = -((-pc).tmod 6) := by rw [Int.neg_tmod]; omega
        rw [h2, Int.tmod_eq_emod_of_nonneg (by omega)]; omega
    rw [IntWalk.wrap64_in _ (by omega)]
    exact h1
  generalize px % 256 % (n : Int) = x0 at *
  generalize wrap64 (pc.tmod 6) = cc at *
  obtain ⟨hcc1, hcc2⟩ := hcc
  obtain ⟨uy, huy⟩ : ∃ uy, uy = py % 256 := ⟨_, rfl⟩
  have huy1 : 0 ≤ uy ∧ uy ≤ 255 := by omega
  have e1 : IntKind.i64.wrap (x0 + 1) = x0 + 1 := IntWalk.i64_in _ (by omega)
  have e2 : IntKind.u8.wrap py = uy := by rw [huy]; rfl
  have e3 : IntKind.i64.wrap uy = uy := IntWalk.i64_in _ (by omega)
  have e4 : IntKind.i64.wrap ((n : Int) - 1) = (n : Int) - 1 := IntWalk.i64_in _ (by omega)
  have e5 : uy.tmod ((n : Int) - 1) = uy % ((n : Int) - 1) := Int.tmod_eq_emod_of_nonneg huy1.1
  have hm0 := Int.emod_nonneg uy (show (n : Int) - 1 ≠ 0 by omega)
  have hm1 := Int.emod_lt_of_pos uy (show (0 : Int) < (n : Int) - 1 by omega)
  have HY := Lib.hid (other_mod n x0 uy (by omega) hx0 hx1' huy1.1)
  have e6 : IntKind.i64.wrap (x0 + 1 + uy % ((n : Int) - 1)) = x0 + 1 + uy % ((n : Int) - 1) := IntWalk.i64_in _ (by omega)
  have e7 : (x0 + 1 + uy % ((n : Int) - 1)).tmod (n : Int) = (x0 + 1 + uy % ((n : Int) - 1)) % (n : Int) := Int.tmod_eq_emod_of_nonneg (by omega)
  have hnz1 : ¬ (n : Int) - 1 = 0 := by omega
  have hnz2 : ¬ (n : Int) = 0 := by omega
  have KD := Lib.hid (Blk.new w1 36 [.int .i64 x0, .int .i64 0, .int .i64 cc])
  have BD : Below w.heap.size w (w1.alloc (.cells #[.int .i64 x0, .int .i64 0, .int .i64 cc] 36)) := B1.alloc hs1 _
  have HID := Lib.hid ((HI.out.below ((Below.refl w1.heap.size w1).alloc (Nat.le_refl _) (.cells #[.int .i64 x0, .int .i64 0, .int .i64 cc] 36))))
  clear huy
  generalize (w1.alloc (.cells #[.int .i64 x0, .int .i64 0, .int .i64 cc] 36)) = W at *
  generalize w1.heap.size = gd at *
  have k1 : W.cell? ⟨gd, 0, none⟩ = some (.int .i64 x0) := KD.out.cell 0
  have k2 : W.cell? ⟨gd, 1, none⟩ = some (.int .i64 0) := KD.out.cell 1
  have k3 := KD.out.frozen 1
  go_region
  go_wp2_with fail
  have KD2 := Lib.hid ((KD.out.set_ 1 (.int .i64 ((x0 + 1 + uy % ((n : Int) - 1)) % (n : Int)))).drew)
  have B2 : Below w.heap.size w (W.setCell ⟨gd, 1, none⟩ (.int .i64 ((x0 + 1 + uy % ((n : Int) - 1)) % (n : Int)))).drew := (BD.setCell (p := ⟨gd, 1, none⟩) hs1 _).drew
  have HI2 : Hid (IsD (W.setCell ⟨gd, 1, none⟩ (.int .i64 ((x0 + 1 + uy % ((n : Int) - 1)) % (n : Int)))).drew gd (some ⟨gl, 0, none⟩) l.length l) := HID.out.below ((Below.refl gd W).setCell (p := ⟨gd, 1, none⟩) (Nat.le_refl _) _).drew
  clear e1 e2 e3 e4 e5 e6 e7 k1 k2 k3 KD HID BD B1
  have hyy := HY.out
  generalize (x0 + 1 + uy % ((n : Int) - 1)) % (n : Int) = y at *
  generalize (W.setCell ⟨gd, 1, none⟩ (.int .i64 y)).drew = W2 at *
  obtain ⟨⟨hyy1, hyy2⟩, hyy3⟩ := hyy
  have hgs := KD2.out.lt
  have hs2 := B2.size
  have k1 : W2.cell? ⟨gd, 0, none⟩ = some (.int .i64 x0) := KD2.out.cell 0
  have k2 : W2.cell? ⟨gd, 1, none⟩ = some (.int .i64 y) := KD2.out.cell 1
  have k3 : W2.cell? ⟨gd, 2, none⟩ = some (.int .i64 cc) := KD2.out.cell 2
  have HOK : Hid (Ok (l ++ [opp ⟨x0, y, cc⟩]) n) := fun d hd => by
    rw [List.mem_append, List.mem_singleton] at hd
    rcases hd with hd | rfl
    · exact ok_of_sys HSYS.out d hd
    · simp only [opp]; omega
  have HAP : Hid (Apart (l ++ [opp ⟨x0, y, cc⟩])) := fun d hd => by
    rw [List.mem_append, List.mem_singleton] at hd
    rcases hd with hd | rfl
    · exact ap_of_sys HSYS.out d hd
    · exact fun e => hyy3 e.symm
  have HI3 : Hid (IsD W2 W2.heap.size (some ⟨gl, 0, none⟩) l.length l) := HI2.out.more (by omega)
  have HOK1 := Lib.hid (ok_of_sys HSYS.out)
  have HAP1 := Lib.hid (ap_of_sys HSYS.out)
  refine (solve_any (some ⟨gl, 0, none⟩) n l.length cl l W2 HI3.out (by omega) (by omega) HOK1.out HAP1.out).mono ?_
  rintro e w3 ⟨hb3, h3⟩
  have B3 : Below w.heap.size w w3 := B2.trans (hb3.mono hs2)
  have hs3 := B3.size
  have hs23 := hb3.size
  have HI4 : Hid (IsD w3 w3.heap.size (some ⟨gl, 0, none⟩) l.length l) := (HI3.out.below hb3).more hb3.size
  have HKD := Lib.hid (KD2.out.below hb3 hgs)
  clear k1 k2 k3 HI3 HI2 KD2
  have k1 : w3.cell? ⟨gd, 0, none⟩ = some (.int .i64 x0) := HKD.out.cell 0
  have k2 : w3.cell? ⟨gd, 1, none⟩ = some (.int .i64 y) := HKD.out.cell 1
  have k3 : w3.cell? ⟨gd, 2, none⟩ = some (.int .i64 cc) := HKD.out.cell 2
  have hgd3 := HKD.out.lt
  rcases h3 with ⟨hlow, g, rfl, hx, hg⟩ | ⟨hlow, A3, c3, xs, rfl, _⟩
  · have HX := Lib.hid hx
    have hgx := hx.lt
    have hXl := (after_len l n n).1
    have HSAT := Lib.hid (sat_after HOK1.out hlow)
    have hbd := bd_after HOK1.out n
    have HR : Hid (∀ v ∈ (after l n n).x, -2199023255552 ≤ v ∧ v ≤ 2199023255552) := fun v hv => by
      have h1 := hbd v hv
      have h2 : n * l.length ≤ 6 * 52 := Nat.mul_le_mul hn2 hl2
      omega
    have HFOL : Hid (notB (l ++ [opp ⟨x0, y, cc⟩]) n = true → [(⟨x0, y, cc⟩ : D)].all (holdB (after l n n).x) = true) := fun h => follows HOK.out HAP.out hXl HSAT.out (by show (0 ≤ x0 ∧ x0 < (n : Int)) ∧ 0 ≤ y ∧ y < (n : Int); omega) h
    generalize (after l n n).x = X at *
    obtain ⟨i0, hi0, hz0, hz1, hz2⟩ := info_parts diff_info
    have HLEN : Hid ((dcells l).length = l.length * 3) := dcells_length l
    have H1 : Hid (∀ V, Below w3.heap.size w3 V → ∀ j u, (dcells l)[j]? = some u → V.cell? ((⟨gl, 0, none⟩ : Addr).add j) = some u) := fun V h => (HI4.out.below h).news
    have e1 : IntKind.i64.wrap (-cc) = -cc := IntWalk.i64_in _ (by omega)
    have e2 : IntKind.i64.wrap (-cc - 1) = -cc - 1 := IntWalk.i64_in _ (by omega)
    have HOPP : Hid (opp ⟨x0, y, cc⟩ = ⟨y, x0, -cc - 1⟩) := rfl
    have HB2e := Lib.hid (Blk.new w3 36 [.int .i64 y, .int .i64 x0, .int .i64 (-cc - 1)])
    clear hx hlow hbd hb3
    go_wp2_with fail
    go_region_held3 (fun w' => w'.cell? ⟨gd, 0, none⟩ = some (.int .i64 x0) ∧ w'.cell? ⟨gd, 1, none⟩ = some (.int .i64 y) ∧ w'.cell? ⟨gd, 2, none⟩ = some (.int .i64 cc))
      (first | exact kSb | exact kSa | go_keep)
      (first
        | (refine step_append_lies _ (by rfl) (.const (.slice none 0 0)) (.tmp 63) 22 (by rfl) w3.heap.size 36 i0 _ 3 24 Try.underlying22 hi0 hz0 hz1 hz2 rfl (by omega) (.slice none 0 0) 0 [] (by rfl) (own_nil _ _ _ _) ⟨gl, 0, none⟩ l.length cl (dcells l) (by rfl) HLEN.out (H1.out _ (Below.refl _ _).drew) (one_dcells l) (by omega) (by simp only [maxLen]; omega) (by omega) (Nat.le_refl _) w3.heap.size rfl ?_
           intro ga ca wa howna hgrowa _ _
           simp only [Nat.zero_add, List.nil_append] at howna
           have Ba : Below w3.heap.size w3 wa := (Below.refl _ _).drew.grown hgrowa (Nat.le_refl _) (by simp [Value.ownBlock])
           have HOa := Lib.hid howna
           have hsa := Ba.size
           have kSa : wa.cell? ⟨gd, 0, none⟩ = some (.int .i64 x0) ∧ wa.cell? ⟨gd, 1, none⟩ = some (.int .i64 y) ∧ wa.cell? ⟨gd, 2, none⟩ = some (.int .i64 cc) := ⟨(Ba.cell hgd3).trans k1, (Ba.cell hgd3).trans k2, (Ba.cell hgd3).trans k3⟩
           have HEa := True.intro
           clear howna hgrowa)
        | (refine step_append_lies _ (by rfl) (.const (.slice none 0 0)) (.tmp 63) 22 (by rfl) w3.heap.size 36 i0 _ 3 24 Try.underlying22 hi0 hz0 hz1 hz2 rfl (by omega) (.slice none 0 0) 0 [] (by rfl) (own_nil _ _ _ _) ⟨gl, 0, none⟩ l.length cl (dcells l) (by rfl) HLEN.out (H1.out _ ((Below.refl _ _).alloc (Nat.le_refl _) _).drew) (one_dcells l) (by omega) (by simp only [maxLen]; omega) (by omega) (by simp) (w3.heap.size + 1) (by simp) ?_
           intro ga ca wa howna hgrowa _ _
           simp only [Nat.zero_add, List.nil_append] at howna
           have Ba : Below w3.heap.size w3 wa := ((Below.refl _ _).alloc (Nat.le_refl _) _).drew.grown hgrowa (by simp) (by simp [Value.ownBlock])
           have HOa := Lib.hid howna
           have hsa := Ba.size
           have HEa := Lib.hid (Blk.grown HB2e.out.drew hgrowa (by simp [Value.ownBlock]))
           have kSa : wa.cell? ⟨gd, 0, none⟩ = some (.int .i64 x0) ∧ wa.cell? ⟨gd, 1, none⟩ = some (.int .i64 y) ∧ wa.cell? ⟨gd, 2, none⟩ = some (.int .i64 cc) := ⟨(Ba.cell hgd3).trans k1, (Ba.cell hgd3).trans k2, (Ba.cell hgd3).trans k3⟩
           clear howna hgrowa)
        | (refine step_append_lies _ (by rfl) (.tmp 64) (.tmp 74) 22 (by rfl) w3.heap.size 36 i0 _ 3 24 Try.underlying22 hi0 hz0 hz1 hz2 rfl (by omega) (.slice (some ⟨ga, 0, none⟩) l.length ca) l.length (dcells l) (by first | rfl | simp [Act.eval]) (HOa.out.alloc _) ⟨wa.heap.size, 0, none⟩ 1 1 [.int .i64 y, .int .i64 x0, .int .i64 (-cc - 1)] (by rfl) (by rfl) (blk_news (Blk.new wa 36 [.int .i64 y, .int .i64 x0, .int .i64 (-cc - 1)])) (one_three _ _ _) (by omega) (by simp only [maxLen]; omega) (by omega) (by first | (simp; done) | (simp; omega)) (wa.heap.size + 1) (by simp) ?_
           intro gb cb wb hownb hgrowb _ _
           have Bb : Below w3.heap.size w3 wb := (Ba.alloc hsa _).grown hgrowb (by first | (simp; done) | (simp; omega)) (fun k hk => (HOa.out.lt k hk).1)
           have HOb := Lib.hid hownb
           have kSb : wb.cell? ⟨gd, 0, none⟩ = some (.int .i64 x0) ∧ wb.cell? ⟨gd, 1, none⟩ = some (.int .i64 y) ∧ wb.cell? ⟨gd, 2, none⟩ = some (.int .i64 cc) := ⟨(Bb.cell hgd3).trans k1, (Bb.cell hgd3).trans k2, (Bb.cell hgd3).trans k3⟩
           clear hownb hgrowb)
        | (refine step_append_lies _ (by rfl) (.tmp 64) (.tmp 74) 22 (by rfl) w3.heap.size 36 i0 _ 3 24 Try.underlying22 hi0 hz0 hz1 hz2 rfl (by omega) (.slice (some ⟨ga, 0, none⟩) l.length ca) l.length (dcells l) (by first | rfl | simp [Act.eval]) HOa.out ⟨w3.heap.size, 0, none⟩ 1 1 [.int .i64 y, .int .i64 x0, .int .i64 (-cc - 1)] (by rfl) (by rfl) (blk_news HEa.out) (one_three _ _ _) (by omega) (by simp only [maxLen]; omega) (by omega) (by omega) wa.heap.size rfl ?_
           intro gb cb wb hownb hgrowb _ _
           have Bb : Below w3.heap.size w3 wb := Ba.grown hgrowb hsa (fun k hk => (HOa.out.lt k hk).1)
           have HOb := Lib.hid hownb
           have kSb : wb.cell? ⟨gd, 0, none⟩ = some (.int .i64 x0) ∧ wb.cell? ⟨gd, 1, none⟩ = some (.int .i64 y) ∧ wb.cell? ⟨gd, 2, none⟩ = some (.int .i64 cc) := ⟨(Bb.cell hgd3).trans k1, (Bb.cell hgd3).trans k2, (Bb.cell hgd3).trans k3⟩
           clear hownb hgrowb))
    all_goals
      have HIN : Hid (IsD wb wb.heap.size (some ⟨gb, 0, none⟩) (l.length + 1) (l ++ [opp ⟨x0, y, cc⟩])) := isD_own (base := w3.heap.size) (cap := cb) (by rw [HOPP.out, dcells_append, dcells_one]; exact HOb.out) (by simp)
      have hsb := Bb.size
      have HIb : Hid (IsD wb wb.heap.size (some ⟨gl, 0, none⟩) l.length l) := (HI4.out.below Bb).more hsb
      have HXb := Lib.hid (HX.out.below Bb hgx)
      have HKb := Lib.hid (HKD.out.below Bb hgd3)
      have BB : Below w.heap.size w wb := B3.trans (Bb.mono hs3)
      clear kSb HOb Bb
      go_wp2_with fail
      refine (solve_any (some ⟨gb, 0, none⟩) n (l.length + 1) cb (l ++ [opp ⟨x0, y, cc⟩]) wb HIN.out (by omega) (by omega) HOK.out HAP.out).mono ?_
      intro e w4 h4
      obtain ⟨A4, q4, c4, A5, q5, c5, rfl, hb4⟩ := notB_of_so _ _ h4
      have hs4 := hb4.size
      have HI6 : Hid (IsD w4 w4.heap.size (some ⟨gl, 0, none⟩) l.length l) := (HIb.out.below hb4).more hs4
      have HK6 := Lib.hid (HKb.out.below hb4 (Nat.lt_of_lt_of_le hgd3 hsb))
      have HX6 := Lib.hid (HXb.out.below hb4 (Nat.lt_of_lt_of_le hgx hsb))
      have B6 : Below w.heap.size w w4 := BB.trans (hb4.mono (by omega))
      have hs6 := B6.size
      have m1 : w4.cell? ⟨gd, 0, none⟩ = some (.int .i64 x0) := HK6.out.cell 0
      have m2 : w4.cell? ⟨gd, 1, none⟩ = some (.int .i64 y) := HK6.out.cell 1
      have m3 : w4.cell? ⟨gd, 2, none⟩ = some (.int .i64 cc) := HK6.out.cell 2
      clear h4 hb4 HIb HKb HXb HIN k1 k2 k3 BB
      generalize hnb : notB (l ++ [opp ⟨x0, y, cc⟩]) n = nb at *
      have HNB := Lib.hid hnb
      clear hnb
      go_wp2_with fail
      refine (dentails_any gl 0 n l.length cl l ⟨x0, y, cc⟩ _ HI6.out (by omega) (by omega) (by omega) HOK.out HAP.out ⟨by show -1048577 ≤ cc; omega, by show cc ≤ 1048576; omega⟩).mono ?_
      rintro e w5 ⟨rfl, hb5⟩
      rw [HNB.out]
      have hs5 := hb5.size
      have HX7 := Lib.hid (HX6.out.below hb5 (by omega))
      have B7 : Below w.heap.size w w5 := B6.trans (hb5.mono (by omega))
      have HK7 := Lib.hid (HK6.out.below hb5 (by omega))
      clear hb5 m1 m2 m3
      have m1 : w5.cell? ⟨gd, 0, none⟩ = some (.int .i64 x0) := HK7.out.cell 0
      have m2 : w5.cell? ⟨gd, 1, none⟩ = some (.int .i64 y) := HK7.out.cell 1
      have m3 : w5.cell? ⟨gd, 2, none⟩ = some (.int .i64 cc) := HK7.out.cell 2
      have hs7 := B7.size
      have hgd7 := HK7.out.lt
      cases nb
      · go_wp2_with fail
        refine (awake_any _).mono ?_
        rintro e w8 ⟨rfl, hb8⟩
        go_wp2_with fail
        go_ret
        exact ⟨rfl, B7.trans (hb8.mono (by omega))⟩
      · have HK8 := Lib.hid (Blk.new w5 36 [.int .i64 x0, .int .i64 y, .int .i64 cc])
        have B8 : Below w.heap.size w (w5.alloc (.cells #[.int .i64 x0, .int .i64 y, .int .i64 cc] 36)) := B7.alloc hs7 _
        have HX8 := Lib.hid (HX7.out.alloc (.cells #[.int .i64 x0, .int .i64 y, .int .i64 cc] 36))
        have HALL := Lib.hid (HFOL.out (by rfl))
        go_wp2_with fail
        refine (holds_any (some ⟨w5.heap.size, 0, none⟩) (some ⟨g, 0, none⟩) 1 n 1 n [⟨x0, y, cc⟩] X _ (isD_blk HK8.out) (HX8.out.isI hXl) (by omega) (by omega) HR.out).mono ?_
        rintro e w9 ⟨rfl, hb9⟩
        rw [HALL.out]
        have B9 : Below w.heap.size w w9 := B8.trans (hb9.mono (by simp; omega))
        have hs9 := B9.size
        clear hb9
        go_wp2_with fail
        refine (awake_any _).mono ?_
        rintro e w10 ⟨rfl, hb10⟩
        go_wp2_with fail
        go_ret
        exact ⟨rfl, B9.trans (hb10.mono hs9)⟩
  · have HNM := Lib.hid (none_more HOK.out HAP.out HOK1.out HAP1.out hlow)
    go_wp2_with fail
    refine (dentails_any gl 0 n l.length cl l ⟨x0, y, cc⟩ _ HI4.out (by omega) (by omega) (by omega) HOK.out HAP.out ⟨by show -1048577 ≤ cc; omega, by show cc ≤ 1048576; omega⟩).mono ?_
    rintro e w5 ⟨rfl, hb5⟩
    rw [HNM.out]
    have B5 : Below w.heap.size w w5 := B3.trans (hb5.mono hs3)
    have hs5 := B5.size
    clear hb5
    go_wp2_with fail
    refine (awake_any _).mono ?_
    rintro e w6 ⟨rfl, hb6⟩
    go_wp2_with fail
    go_ret
    exact ⟨rfl, B5.trans (hb6.mono hs5)⟩

set_option maxRecDepth 100000 in
theorem lifted (os : Os) (started : os.Started) (H : Type) (enc : TypeId × Value → H) :
    ReturnsInHanded {} Try.checked os 7 .any (Rows.diffFollowsSpec.pre6 enc Try.prog Try.f7 Rows.diffFollowsRow.domain false) (Rows.diffFollowsSpec.post enc Try.prog Try.f7 false true false false) := by
  refine returnsInHanded_of_change (C := Try.checked) own started (by kernel_rfl) Try.func7
    (ChangeSpec.witness6 (enc := enc) (C := Try.checked) false ⟨#[], #[.agg #[.int .u8 0, .int .u8 0, .int .u8 0, .slice none 0 0], .int .i8 0, .int .i8 0, .int .i8 0], []⟩ 8 (by kernel_rfl) (by kernel_rfl) (by kernel_rfl) (by kernel_rfl)) ?_
  intro W base args ds gs before hval0 hW hcnd _
  have hval : ∀ (j : Nat) t v, Try.f7.params[j]? = some t → args[j]? = some v → Value.okWide Try.prog W .any base t v := hval0
  have hW' := hW
  obtain ⟨p, q, hA0, hV, rfl, hfz, hnd⟩ := hW
  have hA : DataW.TrodAll enc Try.prog W 0 (fun _ => true) true Try.f7.params.toList args.toList ds p := hA0
  rw [Try.params7] at hA hval
  obtain ⟨v0, vs0, d0, ds0, p0, q0, hargs, rfl, rfl, h0, r0⟩ := trodAll_cons hA
  obtain ⟨v1, vs1, d1, ds1, p1, q1, rfl, rfl, rfl, h1, r1⟩ := trodAll_cons r0
  obtain ⟨v2, vs2, d2, ds2, p2, q2, rfl, rfl, rfl, h2, r2⟩ := trodAll_cons r1
  obtain ⟨v3, vs3, d3, ds3, p3, q3, rfl, rfl, rfl, h3, r3⟩ := trodAll_cons r2
  obtain ⟨rfl, rfl, rfl⟩ := trodAll_nil r3
  obtain rfl : args = #[v0, v1, v2, v3] := by cases args; simp_all
  obtain ⟨rfl, rfl⟩ := trodVars_none hV
  have k0 := h0
  have lt0 : ∀ x ∈ p0, x.block < W.heap.size := by obtain ⟨m, hm⟩ := k0; exact DataW.trod_lt m _ _ _ hm
  obtain ⟨x0, y0, z0, A0, n0, c0, rfl, hP0⟩ := open_prob (hval 0 32 v0 rfl rfl) h0
  obtain ⟨a1, rfl, rfl, rfl, w1⟩ := open_int Try.underlying38 (hval 1 38 v1 rfl rfl) h1
  obtain ⟨a2, rfl, rfl, rfl, w2⟩ := open_int Try.underlying38 (hval 2 38 v2 rfl rfl) h2
  obtain ⟨a3, rfl, rfl, rfl, w3⟩ := open_int Try.underlying38 (hval 3 38 v3 rfl rfl) h3
  clear hA0 hval0
  refine (walk A0 n0 c0 x0 y0 z0 a1 a2 a3 W hP0 w1 w2 w3).mono fun e W' ⟨he, bel⟩ => ?_
  subst he
  exact ⟨_, rfl, _, _, _, [], _, [], hW', trodAll_mk1 (shut_bool Try.underlying4 _), (trodAll_cons_mk (Below.trod laidOut (by kernel_rfl) (of_decide_eq_true (by kernel_rfl)) k0 bel lt0) (trodAll_cons_mk (shut_int Try.underlying38 w1) (trodAll_cons_mk (shut_int Try.underlying38 w2) (trodAll_cons_mk (shut_int Try.underlying38 w3) trodAll_mk0)))), rfl, bel.frame _, fun h => by cases h⟩

theorem over : Rows.diffFollowsRow.holds Try.pinned (OpenSpec.ofChange Rows.diffFollowsSpec) :=
  OpenClaim.holds_of_wide 7 Try.f7 rfl rfl rfl rfl rfl rfl rfl ⟨rfl, rfl, rfl, rfl, rfl⟩ rfl rfl rfl rfl rfl (by kernel_rfl) Try.func7 (by kernel_rfl)
    (of_decide_eq_true (by kernel_rfl)) (by unfold Func.isWrapper; first | (rw [if_pos (by decide +kernel)]; kernel_rfl) | (rw [if_neg (by decide +kernel)]; exact ⟨rfl, rfl⟩))
    (fun os started H enc _ => lifted os started H enc)
end Go.Proofs.Ytdcgebafmceajaa.lawFollows

namespace Go.Proofs.Ytdcgebafmceajaa
theorem follows_holds : Rows.DiffFollowsSaid := lawFollows.over
#print axioms follows_holds
end Go.Proofs.Ytdcgebafmceajaa
