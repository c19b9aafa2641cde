/- The contract of interleave/interleaveref31.Entails. -/
import Derived.Test.YtdcgebafmceajaaGreatest
import Derived.Test.YtdcgebafmceajaaClone
import Derived.Test.YtdcgebafmceajaaFord2
import Derived.Deep.RegionHeld3
import Derived.Deep.AppendLies
namespace Go.Proofs.Ytdcgebafmceajaa
open Go.RowKit Go.Deep
set_option linter.unusedVariables false

/-- The constraint that says the opposite of d. -/
def opp (d : D) : D := ⟨d.y, d.x, -d.c - 1⟩
def notB (l : List D) (n : Nat) : Bool := decide (0 ≤ (after l n n).low)

theorem own_nil (w : World) (base e size : Nat) : w.ownsRow base e size (.slice none 0 0) 0 [] := ⟨by simp, .inl ⟨rfl, rfl⟩⟩
theorem own_drew {w : World} {base e size n : Nat} {v : Value} {xs : List Value} (h : w.ownsRow base e size v n xs) : w.drew.ownsRow base e size v n xs := h
theorem blk_news {w : World} {g t : Nat} {cs : List Value} (h : Blk w g t cs) : ∀ j u, cs[j]? = some u → w.cell? ((⟨g, 0, none⟩ : Addr).add j) = some u := by
  intro j u hu
  rw [addr_add, Nat.zero_add, h.cell j]
  exact hu
theorem one_three (x y z : Int) : ∀ u ∈ [Value.int .i64 x, .int .i64 y, .int .i64 z], u.oneCell' = true := by
  intro u hu
  simp at hu
  rcases hu with rfl | rfl | rfl <;> rfl

theorem isD_own {w : World} {base n g cap : Nat} {l : List D} (h : w.ownsRow base 36 3 (.slice (some ⟨g, 0, none⟩) n cap) n (dcells l)) (hn : l.length = n) : IsD w w.heap.size (some ⟨g, 0, none⟩) n l := by
  obtain ⟨A, c, hv, hi⟩ := isD_of_own h hn
  injection hv with h1
  subst h1
  exact hi
/-- What Greatest says of a system, in one bool. -/
theorem notB_of (l : List D) (n : Nat) (hok : Ok l n) (hap : Apart l) {w w' : World} {e : Ending} (h : GrPost l n w e w') :
    ∃ A k c, e = .returned (.tuple #[.slice A k c, .bool (!notB l n)]) ∧ Below w.heap.size w w' := by
  obtain ⟨hb, h⟩ := h
  have hi := low_iff hok hap
  rcases h with ⟨h1, g, h2, _⟩ | ⟨h1, h2⟩
  · have : notB l n = false := by simp [notB]; exact hi.1.1 h1
    exact ⟨_, _, _, by rw [this]; exact h2, hb⟩
  · have : notB l n = true := by
      simp only [notB, decide_eq_true_eq]
      rcases (show (after l n n).low < 0 ∨ 0 ≤ (after l n n).low by omega) with h3 | h3
      · have := hi.1.2 h3; omega
      · exact h3
    exact ⟨_, _, _, by rw [this]; exact h2, hb⟩

set_option maxRecDepth 100000 in
set_option maxHeartbeats 1600000 in
theorem rentails_any (b off n m c1 : Nat) (l : List D) (d : D) (w : World) (hl : IsD w w.heap.size (some ⟨b, off, none⟩) m l) (hm : m ≤ 900) (hm0 : 0 < m) (hn : n ≤ 32) (hok : Ok (l ++ [opp d]) n) (hap : Apart (l ++ [opp d]))
    (hd : -1048577 ≤ d.c ∧ d.c ≤ 1048576) :
    Calls Try.prog 18 #[.int .i64 n, .slice (some ⟨b, off, none⟩) m c1, .agg #[.int .i64 d.x, .int .i64 d.y, .int .i64 d.c]] w fun e w' => e = .returned (.bool (notB (l ++ [opp d]) n)) ∧ Below w.heap.size w w' := by
  have hll := hl.len
  obtain ⟨i0, hi0, hz0, hz1, hz2⟩ := info_parts diff_info
  obtain ⟨x, y, c⟩ := d
  dsimp only at *
  have HOPP : Hid (opp ⟨x, y, c⟩ = ⟨y, x, -c - 1⟩) := rfl
  obtain ⟨hd1, hd2⟩ := hd
  have B0 : Below w.heap.size w (w.alloc (.cells #[.int .i64 x, .int .i64 y, .int .i64 c] 36)) := (Below.refl _ _).alloc (Nat.le_refl _) _
  have H1 : Hid (∀ W, Below w.heap.size w W → ∀ j u, (dcells l)[j]? = some u → W.cell? ((⟨b, off, none⟩ : Addr).add j) = some u) := fun W h => (hl.below h).news
  have HLEN : Hid ((dcells l).length = m * 3) := by show _ = _; rw [dcells_length, hll]
  have e1 : IntKind.i64.wrap (-c) = -c := IntWalk.i64_in _ (by omega)
  have e2 : IntKind.i64.wrap (-c - 1) = -c - 1 := IntWalk.i64_in _ (by omega)
  have HB2 : Hid (Blk ((w.alloc (.cells #[.int .i64 x, .int .i64 y, .int .i64 c] 36)).alloc (.cells #[.int .i64 y, .int .i64 x, .int .i64 (-c - 1)] 36)) (w.heap.size + 1) 36 [.int .i64 y, .int .i64 x, .int .i64 (-c - 1)]) := by
    have h := Blk.new (w.alloc (.cells #[.int .i64 x, .int .i64 y, .int .i64 c] 36)) 36 [.int .i64 y, .int .i64 x, .int .i64 (-c - 1)]
    rw [show (w.alloc (.cells #[.int .i64 x, .int .i64 y, .int .i64 c] 36)).heap.size = w.heap.size + 1 by simp] at h
    exact h
  go_enter Try.func18, Try.ntmps18
  go_wp2_with fail
  go_region_held3 (fun w' => w'.cell? ⟨w.heap.size, 0, none⟩ = some (.int .i64 x) ∧ w'.cell? ⟨w.heap.size, 1, none⟩ = some (.int .i64 y) ∧ w'.cell? ⟨w.heap.size, 2, none⟩ = some (.int .i64 c))
    (first
      | go_keep
      | (go_split_ands
         refine ⟨?_, ?_, ?_⟩ <;> (rw [hgrow2.cell_far _ (by first | (simp; done) | (simp; omega)) (by first | (simp [Value.ownBlock]; done) | (simp [Value.ownBlock]; omega))]; first | assumption | (simp only [World.cell?_alloc_lt _ _ _ hw1s]; assumption)))
      | (go_split_ands
         refine ⟨?_, ?_, ?_⟩ <;> (rw [hgrow.cell_far _ (by first | (simp; done) | (simp; omega)) (by simp [Value.ownBlock])]; assumption)))
    (first
      | (refine step_append_lies _ (by rfl) (.const (.slice none 0 0)) (.tmp 10) 22 (by rfl) (w.heap.size + 1) 36 i0 _ 3 24 Try.underlying22 hi0 hz0 hz1 hz2 rfl (by omega) (.slice none 0 0) 0 [] (by rfl) (own_nil _ _ _ _) ⟨b, off, none⟩ m c1 (dcells l) (by rfl) HLEN.out (H1.out _ B0.drew) (one_dcells l) hm0 (by simp only [maxLen]; omega) (by omega) (by simp) (w.heap.size + 1) (by simp) ?_
         intro g cap w1 hown1 hgrow hat hlt
         simp only [Nat.zero_add, List.nil_append] at hown1
         have hgN : w.heap.size < g := (hown1.lt g rfl).1
         have hw1s : w.heap.size < w1.heap.size := by omega)
      | (refine step_append_lies _ (by rfl) (.const (.slice none 0 0)) (.tmp 10) 22 (by rfl) (w.heap.size + 1) 36 i0 _ 3 24 Try.underlying22 hi0 hz0 hz1 hz2 rfl (by omega) (.slice none 0 0) 0 [] (by rfl) (own_nil _ _ _ _) ⟨b, off, none⟩ m c1 (dcells l) (by rfl) HLEN.out (H1.out _ (B0.alloc (by simp) _).drew) (one_dcells l) hm0 (by simp only [maxLen]; omega) (by omega) (by simp) (w.heap.size + 1 + 1) (by simp) ?_
         intro g cap w1 hown1 hgrow hat hlt
         simp only [Nat.zero_add, List.nil_append] at hown1
         have hgN : w.heap.size < g := (hown1.lt g rfl).1
         have hw1s : w.heap.size < w1.heap.size := by omega)
      | (refine step_append_lies _ (by rfl) (.tmp 11) (.tmp 21) 22 (by rfl) (w.heap.size + 1) 36 i0 _ 3 24 Try.underlying22 hi0 hz0 hz1 hz2 rfl (by omega) (.slice (some ⟨g, 0, none⟩) m cap) m (dcells l) (by first | rfl | simp [Act.eval]) (hown1.alloc _) ⟨w1.heap.size, 0, none⟩ 1 1 [.int .i64 y, .int .i64 x, .int .i64 (-c - 1)] (by rfl) (by rfl) (blk_news (Blk.new w1 36 [.int .i64 y, .int .i64 x, .int .i64 (-c - 1)])) (one_three _ _ _) (by omega) (by simp only [maxLen]; omega) (by omega) (by first | (simp; done) | (simp; omega)) (w1.heap.size + 1) (by simp) ?_
         intro g2 cap2 w2 hown2 hgrow2 hat2 hlt2)
      | (refine step_append_lies _ (by rfl) (.tmp 11) (.tmp 21) 22 (by rfl) (w.heap.size + 1) 36 i0 _ 3 24 Try.underlying22 hi0 hz0 hz1 hz2 rfl (by omega) (.slice (some ⟨g, 0, none⟩) m cap) m (dcells l) (by first | rfl | simp [Act.eval]) hown1 ⟨w.heap.size + 1, 0, none⟩ 1 1 [.int .i64 y, .int .i64 x, .int .i64 (-c - 1)] (by rfl) (by rfl) (blk_news (cs := [.int .i64 y, .int .i64 x, .int .i64 (-c - 1)]) (t := 36) ((hgrow.block (w.heap.size + 1) (by simp) (by simp [Value.ownBlock])).trans HB2.out)) (one_three _ _ _) (by omega) (by simp only [maxLen]; omega) (by omega) (by omega) w1.heap.size rfl ?_
         intro g2 cap2 w2 hown2 hgrow2 hat2 hlt2))
  all_goals
    have HD : Hid (IsD w2 w2.heap.size (some ⟨g2, 0, none⟩) (m + 1) (l ++ [opp ⟨x, y, c⟩])) := isD_own (base := w.heap.size + 1) (cap := cap2) (by rw [HOPP.out, dcells_append, dcells_one]; exact hown2) (by simp; omega)
    have HB : Hid (Below w.heap.size w w2) := by
      first
        | exact ((B0.drew.grown hgrow (by simp) (by simp [Value.ownBlock])).alloc (by omega) _).grown hgrow2 (by simp; omega) (by intro k hk; simp [Value.ownBlock] at hk; omega)
        | exact ((B0.alloc (by simp) _).drew.grown hgrow (by simp; omega) (by simp [Value.ownBlock])).grown hgrow2 (by omega) (by intro k hk; simp [Value.ownBlock] at hk; omega)
    clear hown1 hown2 hgrow hgrow2 hat hat2
    go_wp2_with (go_at_call 27; go_must (refine (greatest_any _ n (m + 1) cap2 (l ++ [opp ⟨x, y, c⟩]) _ HD.out (by omega) hn hok).mono ?_; intro e w3 h3; obtain ⟨A3, k3, c3, rfl, hb3⟩ := notB_of _ n hok hap h3; clear h3))
    go_ret
    exact ⟨ret_bool (by simp), HB.out.trans (hb3.mono HB.out.size)⟩
end Go.Proofs.Ytdcgebafmceajaa
