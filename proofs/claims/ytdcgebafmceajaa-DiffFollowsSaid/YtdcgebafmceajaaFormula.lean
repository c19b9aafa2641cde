/- The contract of interleavescene.Problem.Formula: what it makes is a system of constraints, and clauses that are not empty. -/
import Derived.Test.YtdcgebafmceajaaTape
import Derived.Test.YtdcgebafmceajaaKeep
import Derived.Test.YtdcgebafmceajaaCycleFn
namespace Go.Proofs.Ytdcgebafmceajaa
open Go.RowKit Go.Deep
set_option linter.unusedVariables false

/-- An atom of a formula over n integers. -/
def GoodD (n : Int) (d : D) : Prop := ((0 ≤ d.x ∧ d.x < n) ∧ 0 ≤ d.y ∧ d.y < n) ∧ d.x ≠ d.y ∧ -4 ≤ d.c ∧ d.c ≤ 2

/-- The memory of a call of Formula that began at w. -/
structure FMem (w : World) (g1 g2 g3 : Nat) (s0 s1 s2 : Int) (P L : Value) (n b : Int) (av cv : Value) (t : Nat) (wr : World) : Prop where
  below : Below w.heap.size w wr
  bp : Blk wr w.heap.size 32 [.int .u8 s0, .int .u8 s1, .int .u8 s2, P]
  br : Blk wr g1 54 [.int .i64 0, .int .i64 0, .slice none 0 0, .slice none 0 0]
  bf : Blk wr g2 54 [.int .i64 n, .int .i64 b, av, cv]
  bt : Blk wr g3 62 [L, .int .i64 t]
  lt : w.heap.size < g1 ∧ g1 < g2 ∧ g2 < g3

section
variable {w : World} {g1 g2 g3 : Nat} {s0 s1 s2 : Int} {P L : Value} {n b : Int} {av cv : Value} {t : Nat} {wr : World}
theorem FMem.next {w' : World} {t' : Nat} (h : FMem w g1 g2 g3 s0 s1 s2 P L n b av cv t wr) (ht : Touch [g3] wr w') (hb : Blk w' g3 62 [L, .int .i64 t']) : FMem w g1 g2 g3 s0 s1 s2 P L n b av cv t' w' := by
  have hl := h.lt
  exact ⟨h.below.trans (ht.below h.below.size (by simp; omega)), ht.blk h.bp (by simp; omega), ht.blk h.br (by simp; omega), ht.blk h.bf (by simp; omega), hb, h.lt⟩
theorem FMem.drewN (h : FMem w g1 g2 g3 s0 s1 s2 P L n b av cv t wr) (q : Nat) : FMem w g1 g2 g3 s0 s1 s2 P L n b av cv t (wr.drewN q) := ⟨h.below.drewN q, h.bp, h.br, h.bf, h.bt, h.lt⟩
theorem FMem.drew (h : FMem w g1 g2 g3 s0 s1 s2 P L n b av cv t wr) : FMem w g1 g2 g3 s0 s1 s2 P L n b av cv t wr.drew := ⟨h.below.drew, h.bp, h.br, h.bf, h.bt, h.lt⟩
theorem FMem.alloc (h : FMem w g1 g2 g3 s0 s1 s2 P L n b av cv t wr) (o : Obj) : FMem w g1 g2 g3 s0 s1 s2 P L n b av cv t (wr.alloc o) := ⟨h.below.alloc h.below.size o, h.bp.alloc o, h.br.alloc o, h.bf.alloc o, h.bt.alloc o, h.lt⟩
/-- A block beyond is touched. -/
theorem FMem.beyond {w' : World} {g : Nat} (h : FMem w g1 g2 g3 s0 s1 s2 P L n b av cv t wr) (ht : Touch [g] wr w') (hg : g3 < g) : FMem w g1 g2 g3 s0 s1 s2 P L n b av cv t w' := by
  have hl := h.lt
  exact ⟨h.below.trans (ht.below h.below.size (by simp; omega)), ht.blk h.bp (by simp; omega), ht.blk h.br (by simp; omega), ht.blk h.bf (by simp; omega), ht.blk h.bt (by simp; omega), h.lt⟩
theorem FMem.grown {w' : World} {row : Option Nat} (h : FMem w g1 g2 g3 s0 s1 s2 P L n b av cv t wr) (hg : wr.grownBy w' row) (hr : ∀ k, row = some k → g3 < k) : FMem w g1 g2 g3 s0 s1 s2 P L n b av cv t w' := by
  have hl := h.lt
  have key : ∀ k, k ≤ g3 → k < wr.heap.size → w'.heap[k]? = wr.heap[k]? := fun k hk hs => hg.block k hs (fun e => by have := hr k e.symm; omega)
  exact ⟨h.below.grown hg h.below.size (fun k hk => by have := hr k hk; omega), (key _ (by omega) h.bp.lt).trans h.bp, (key _ (by omega) h.br.lt).trans h.br, (key _ (by omega) h.bf.lt).trans h.bf, (key _ (by omega) h.bt.lt).trans h.bt, h.lt⟩
theorem FMem.setF (h : FMem w g1 g2 g3 s0 s1 s2 P L n b av cv t wr) (i : Nat) (u : Value) : FMem w g1 g2 g3 s0 s1 s2 P L n b av cv t wr → ∀ n' b' av' cv', [Value.int .i64 n, .int .i64 b, av, cv].set i u = [.int .i64 n', .int .i64 b', av', cv'] → FMem w g1 g2 g3 s0 s1 s2 P L n' b' av' cv' t (wr.setCell ⟨g2, i, none⟩ u) := by
  intro _ n' b' av' cv' he
  have hl := h.lt
  exact ⟨h.below.setCell (by show _ ≤ g2; omega) u, h.bp.far (by show _ ≠ g2; omega) u, h.br.far (by show _ ≠ g2; omega) u, he ▸ h.bf.set_ i u, h.bt.far (by show _ ≠ g2; omega) u, h.lt⟩
end

def FRel1 (w : World) (g1 g2 g3 : Nat) (s0 s1 s2 : Int) (P L : Value) (k : Nat) (n M : Int) (i : Value) (wr : World) : Prop :=
  ∃ (j : Nat) (av : Value) (l : List D) (t : Nat), i = .int .i64 j ∧ (j : Int) ≤ M ∧ t ≤ k ∧ FMem w g1 g2 g3 s0 s1 s2 P L n 0 av (.slice none 0 0) t wr ∧ l.length = j ∧ (∀ d ∈ l, GoodD n d) ∧ wr.ownsRow (g3 + 1) 36 3 av j (dcells l) ∧ g3 < wr.heap.size

theorem good_made (n r r2 : Int) (h1 : 2 ≤ n) (h2 : n ≤ 6) (h3 : 0 ≤ r) (h4 : r < 256) (h5 : 0 ≤ r2) (h6 : r2 < 256) : GoodD n ⟨r % n, (r % n + 1 + r2 % (n - 1)) % n, r / 16 % 7 - 4⟩ := by
  have a1 := Int.emod_nonneg r (show n ≠ 0 by omega)
  have a2 := Int.emod_lt_of_pos r (show 0 < n by omega)
  have a3 := Int.emod_nonneg r2 (show n - 1 ≠ 0 by omega)
  have a4 := Int.emod_lt_of_pos r2 (show 0 < n - 1 by omega)
  generalize r % n = x at *
  generalize r2 % (n - 1) = y at *
  have a5 := Int.emod_nonneg (x + 1 + y) (show n ≠ 0 by omega)
  have a6 := Int.emod_lt_of_pos (x + 1 + y) (show 0 < n by omega)
  refine ⟨⟨⟨a1, a2⟩, a5, a6⟩, ?_, by show -4 ≤ r / 16 % 7 - 4; omega, by show r / 16 % 7 - 4 ≤ 2; omega⟩
  show x ≠ (x + 1 + y) % n
  rcases (show x + 1 + y < n ∨ n ≤ x + 1 + y by omega) with h | h
  · rw [Int.emod_eq_of_lt (by omega) h]; omega
  · rw [show (x + 1 + y) % n = x + 1 + y - n by
      rw [Int.emod_def, show (x + 1 + y) / n = 1 by
        rw [Int.ediv_eq_iff_of_pos (by omega)]; omega]; omega]
    omega

theorem slice_info : (Try.prog.info? 25).map (fun i => (i.zero, i.size, i.bytes)) = some (some (.slice none 0 0), 1, 24) := by kernel_rfl

/-- A clause: a slice of one to four numbers that lies from block lo on, below block hi; its first number is no zero and is small. -/
def Clause (w : World) (lo hi : Nat) (v : Value) : Prop :=
  ∃ (g q cap : Nat) (cs : Array Value) (z : Int), v = .slice (some ⟨g, 0, none⟩) q cap ∧ 1 ≤ q ∧ q ≤ 4 ∧ lo ≤ g ∧ g < hi ∧ w.heap[g]? = some (.cells cs 3 (0, 0)) ∧ cs[0]? = some (.int .i64 z) ∧ z ≠ 0 ∧ -18 ≤ z ∧ z ≤ 18
theorem Clause.keep {w w' : World} {lo hi : Nat} {v : Value} (h : Clause w lo hi v) (hk : ∀ g cs, lo ≤ g → g < hi → w.heap[g]? = some (.cells cs 3 (0, 0)) → w'.heap[g]? = w.heap[g]?) {hi' : Nat} (hh : hi ≤ hi') : Clause w' lo hi' v := by
  obtain ⟨g, q, cap, cs, z, h1, h2, h3, h4, h5, h6, h7⟩ := h
  exact ⟨g, q, cap, cs, z, h1, h2, h3, h4, by omega, (hk g cs h4 h5 h6).trans h6, h7⟩
theorem Clause.touch {w w' : World} {lo hi g0 : Nat} {v : Value} (h : Clause w lo hi v) (ht : Touch [g0] w w') (h0 : g0 < lo) (hs : hi ≤ w.heap.size) : Clause w' lo hi v :=
  h.keep (fun g cs h1 h2 _ => ht.block g (by omega) (by simp; omega)) (Nat.le_refl _)
theorem Clause.alloc {w : World} {lo hi : Nat} {v : Value} (h : Clause w lo hi v) (o : Obj) (hs : hi ≤ w.heap.size) : Clause (w.alloc o) lo hi v :=
  h.keep (fun g cs h1 h2 _ => Below.heap_alloc w o g (by omega)) (Nat.le_refl _)
theorem Clause.grown {w w' : World} {lo hi : Nat} {v : Value} {row : Option Nat} (h : Clause w lo hi v) (hg : w.grownBy w' row) (hr : ∀ k, row = some k → hi ≤ k) (hs : hi ≤ w.heap.size) : Clause w' lo hi v :=
  h.keep (fun g cs h1 h2 _ => hg.block g (by omega) (fun e => by have := hr g e.symm; omega)) (Nat.le_refl _)
/-- .. where a row of another element type grows. -/
theorem Clause.other {w w' : World} {lo hi b e s n : Nat} {v v2 : Value} {xs : List Value} (h : Clause w lo hi v) (h2 : w.ownsRow b e s v2 n xs) (hne : e ≠ 3) (hg : w.grownBy w' v2.ownBlock) (hs : hi ≤ w.heap.size) : Clause w' lo hi v := by
  refine h.keep (fun g cs h1 h3 h4 => hg.block g (by omega) (fun e' => ?_)) (Nat.le_refl _)
  rcases h2.2 with ⟨rfl, _⟩ | ⟨g2, cap, cur, rfl, _, hh, _⟩
  · simp [Value.ownBlock] at e'
  · have : g = g2 := by simpa [Value.ownBlock] using e'
    subst this
    rw [h4] at hh
    injection hh with h5
    injection h5 with _ h6
    exact hne h6.symm
theorem clause_new {w : World} {base q : Nat} {v : Value} {zs : List Int} (h : w.ownsRow base 3 1 v q (icells zs)) (hq : 1 ≤ q) (hq4 : q ≤ 4) (hl : zs.length = q) (hz : ∀ z ∈ zs, z ≠ 0 ∧ -18 ≤ z ∧ z ≤ 18) {lo : Nat} (hlo : lo ≤ base) : Clause w lo w.heap.size v := by
  obtain ⟨g, cap, rfl, hg, hlt⟩ := h.form (by omega)
  have hc := h.cellAt 0 (by omega)
  rcases h.2 with ⟨h', _⟩ | ⟨g', cap', cur, h', _, hh, _⟩
  · simp at h'
  · simp only [Value.slice.injEq, Option.some.injEq, Addr.mk.injEq, and_true, true_and] at h'
    obtain ⟨rfl, rfl⟩ := h'
    have h0 : (icells zs)[0]? = some (.int .i64 (zs[0]'(by omega))) := icells_get zs 0 (by omega)
    have hcell : cur[0]? = some (.int .i64 (zs[0]'(by omega))) := by
      rw [h0] at hc
      simpa [World.cell?, hh] using hc
    have := hz (zs[0]'(by omega)) (List.getElem_mem _)
    exact ⟨g, q, cap, cur, _, rfl, hq, hq4, by omega, hlt, hh, hcell, this.1, this.2.1, this.2.2⟩

def FRel2 (w : World) (g1 g2 g3 : Nat) (s0 s1 s2 : Int) (P L : Value) (k j : Nat) (l : List D) (n b : Int) (av : Value) (wr : World) : Prop :=
  ∃ (K : Nat) (vs : List Value) (cv : Value) (t : Nat), K ≤ 40 ∧ t ≤ k ∧ FMem w g1 g2 g3 s0 s1 s2 P L n b av cv t wr ∧ wr.ownsRow (g3 + 1) 36 3 av j (dcells l) ∧ wr.ownsRow (g3 + 1) 25 1 cv K vs ∧ (∀ v ∈ vs, Clause wr (g3 + 1) wr.heap.size v)

theorem own_slice {w : World} {b e s n : Nat} {v : Value} {xs : List Value} (h : w.ownsRow b e s v n xs) : ∃ A c, v = .slice A n c := by
  rcases h.2 with ⟨rfl, rfl⟩ | ⟨g, cap, cur, rfl, _⟩
  · exact ⟨none, 0, rfl⟩
  · exact ⟨_, _, rfl⟩

/-- What Formula returns. -/
def FPost (w : World) (e : Ending) (w' : World) : Prop :=
  ∃ (n b : Int) (av cv : Value) (j K : Nat) (l : List D) (vs : List Value), e = .returned (.agg #[.int .i64 n, .int .i64 b, av, cv]) ∧ 2 ≤ n ∧ n ≤ 6 ∧ l.length = j ∧ 1 ≤ j ∧ j ≤ 12 ∧ (∀ d ∈ l, GoodD n d) ∧ K ≤ 40 ∧
    w'.ownsRow w.heap.size 36 3 av j (dcells l) ∧ w'.ownsRow w.heap.size 25 1 cv K vs ∧ (∀ v ∈ vs, Clause w' w.heap.size w'.heap.size v) ∧ Below w.heap.size w w'

def FRel3 (w : World) (g1 g2 g3 : Nat) (s0 s1 s2 : Int) (P L : Value) (k j : Nat) (l : List D) (n b : Int) (av cv : Value) (K : Nat) (vs : List Value) (B0 : Nat) (R : Int) (c8 i : Value) (wr : World) : Prop :=
  ∃ (q : Nat) (zs : List Int) (t : Nat), i = .int .i64 (R - q) ∧ (q : Int) ≤ R + 1 ∧ t ≤ k ∧ FMem w g1 g2 g3 s0 s1 s2 P L n b av cv t wr ∧ wr.ownsRow (g3 + 1) 36 3 av j (dcells l) ∧ wr.ownsRow (g3 + 1) 25 1 cv K vs ∧ (∀ v ∈ vs, Clause wr (g3 + 1) B0 v) ∧ B0 ≤ wr.heap.size ∧
    zs.length = q ∧ (∀ z ∈ zs, z ≠ 0 ∧ -18 ≤ z ∧ z ≤ 18) ∧ wr.ownsRow B0 3 1 c8 q (icells zs)

theorem Clause.lo {w : World} {lo lo' hi : Nat} {v : Value} (h : Clause w lo hi v) (hl : lo' ≤ lo) : Clause w lo' hi v := by
  obtain ⟨g, q, cap, cs, z, h1, h2, h3, h4, h5⟩ := h
  exact ⟨g, q, cap, cs, z, h1, h2, h3, by omega, h5⟩
theorem one_slice (a : Option Addr) (n c : Nat) : ∀ u ∈ [Value.slice a n c], u.oneCell' = true := by intro u hu; simp at hu; subst hu; rfl

def countOf (g2 : Nat) (wr : World) : Nat := match wr.cell? ⟨g2, 3, none⟩ with | some (.slice _ q _) => q | _ => 0

set_option maxRecDepth 100000 in
set_option maxHeartbeats 1600000 in
theorem formula_any (A : Option Addr) (k k0 c : Nat) (s0 s1 s2 : Int) (w : World) (hu : IsU w w.heap.size A k) (hk : k ≤ 300) (hmin : (if (300 : Int) < (k0 : Int) then (300 : Int) else (k0 : Int)) = (k : Int)) (hkc : k0 ≤ c)
    (hs0 : 0 ≤ s0 ∧ s0 ≤ 255) (hs1 : 0 ≤ s1 ∧ s1 ≤ 255) (hs2 : 0 ≤ s2 ∧ s2 ≤ 255) :
    Calls Try.prog 28 #[.agg #[.int .u8 s0, .int .u8 s1, .int .u8 s2, .slice A k0 c]] w (FPost w) := by
  obtain ⟨hs00, hs01⟩ := hs0
  obtain ⟨hs10, hs11⟩ := hs1
  obtain ⟨hs20, hs21⟩ := hs2
  obtain ⟨i0, hi0, hz0, hz1, hz2⟩ := info_parts diff_info
  obtain ⟨j0, hj0, hy0, hy1, hy2⟩ := info_parts int_info
  obtain ⟨f0, hf0, hx0, hx1, hx2⟩ := info_parts slice_info
  go_enter Try.func28, Try.ntmps28
  go_wp2_with fail
  clear hmin
  have hA : FMem w (w.heap.size + 1) (w.heap.size + 1 + 1) (w.heap.size + 1 + 1 + 1) s0 s1 s2 (.slice A k0 c) (.slice A k c) (2 + s0 % 5) 0 (.slice none 0 0) (.slice none 0 0) 0
      ((((w.alloc (.cells #[.int .u8 s0, .int .u8 s1, .int .u8 s2, .slice A k0 c] 32)).alloc (.cells #[.int .i64 0, .int .i64 0, .slice none 0 0, .slice none 0 0] 54)).alloc (.cells #[.int .i64 (2 + s0 % 5), .int .i64 0, .slice none 0 0, .slice none 0 0] 54)).alloc (.cells #[.slice A k c, .int .i64 0] 62)) := by
    have e0 := Blk.new w 32 [.int .u8 s0, .int .u8 s1, .int .u8 s2, .slice A k0 c]
    have z1 : (w.alloc (.cells [Value.int .u8 s0, .int .u8 s1, .int .u8 s2, .slice A k0 c].toArray 32)).heap.size = w.heap.size + 1 := by simp
    have e1 := Blk.new (w.alloc (.cells [Value.int .u8 s0, .int .u8 s1, .int .u8 s2, .slice A k0 c].toArray 32)) 54 [.int .i64 0, .int .i64 0, .slice none 0 0, .slice none 0 0]
    rw [z1] at e1
    have b1 := ((Below.refl w.heap.size w).alloc (Nat.le_refl _) (.cells [Value.int .u8 s0, .int .u8 s1, .int .u8 s2, .slice A k0 c].toArray 32)).alloc (by rw [z1]; omega) (.cells [Value.int .i64 0, .int .i64 0, .slice none 0 0, .slice none 0 0].toArray 54)
    generalize hW1 : (w.alloc (.cells [Value.int .u8 s0, .int .u8 s1, .int .u8 s2, .slice A k0 c].toArray 32)) = W1 at *
    have z2 : (W1.alloc (.cells [Value.int .i64 0, .int .i64 0, .slice none 0 0, .slice none 0 0].toArray 54)).heap.size = w.heap.size + 1 + 1 := by rw [← z1]; simp
    have e2 := Blk.new (W1.alloc (.cells [Value.int .i64 0, .int .i64 0, .slice none 0 0, .slice none 0 0].toArray 54)) 54 [.int .i64 (2 + s0 % 5), .int .i64 0, .slice none 0 0, .slice none 0 0]
    rw [z2] at e2
    have e0' := e0.alloc (.cells [Value.int .i64 0, .int .i64 0, .slice none 0 0, .slice none 0 0].toArray 54)
    generalize hW2 : (W1.alloc (.cells [Value.int .i64 0, .int .i64 0, .slice none 0 0, .slice none 0 0].toArray 54)) = W2 at *
    have z3 : (W2.alloc (.cells [Value.int .i64 (2 + s0 % 5), .int .i64 0, .slice none 0 0, .slice none 0 0].toArray 54)).heap.size = w.heap.size + 1 + 1 + 1 := by rw [← z2]; simp
    have e3 := Blk.new (W2.alloc (.cells [Value.int .i64 (2 + s0 % 5), .int .i64 0, .slice none 0 0, .slice none 0 0].toArray 54)) 62 [.slice A k c, .int .i64 0]
    rw [z3] at e3
    exact ⟨(b1.alloc (by rw [z2]; omega) _).alloc (by show _ ≤ (W2.alloc (.cells [Value.int .i64 (2 + s0 % 5), .int .i64 0, .slice none 0 0, .slice none 0 0].toArray 54)).heap.size; rw [z3]; omega) _, (e0'.alloc _).alloc _, (e1.alloc _).alloc _, e2.alloc _, e3, by omega⟩
  have hn1 : 2 ≤ 2 + s0 % 5 := by omega
  have hn2 : 2 + s0 % 5 ≤ 6 := by omega
  have hM1 : 1 ≤ 1 + s1 % 12 := by omega
  have hM2 : 1 + s1 % 12 ≤ 12 := by omega
  generalize 2 + s0 % 5 = n at *
  generalize hg1 : w.heap.size + 1 = g1 at *
  generalize hg2 : g1 + 1 = g2 at *
  generalize hg3 : g2 + 1 = g3 at *
  obtain ⟨q1, q2, q3⟩ := hA.lt
  have HA := Lib.hid hA
  clear hA hg1 hg2 hg3
  go_loopw [5] (fun i wr => FRel1 w g1 g2 g3 s0 s1 s2 (.slice A k0 c) (.slice A k c) k n (1 + s1 % 12) i wr) (fun i _ => ((1 + s1 % 12) - intOf i).toNat)
  case atStart => exact ⟨0, .slice none 0 0, [], 0, rfl, by omega, Nat.zero_le _, HA.out, rfl, by simp, own_nil _ _ _ _, HA.out.bt.lt⟩
  case round =>
    obtain ⟨j, av, l, t, rfl, hj, ht, hM, hlen, hgood, hown, hsz⟩ := hrel
    clear HA
    have hc1 : wr.cell? ⟨w.heap.size, 1, none⟩ = some (.int .u8 s1) := hM.bp.cell 1
    have HM := Lib.hid hM
    have HO := Lib.hid hown
    have HGOOD := Lib.hid hgood
    have hbs := hM.below.size
    clear hM hown hgood
    by_cases hlt : (j : Int) < 1 + s1 % 12
    · have HC1 := Lib.hid (next_any g3 k c t w.heap.size A wr HM.out.bt ht hk (hu.below HM.out.below) (by omega))
      go_wp2_with fail
      refine HC1.out.mono ?_
      rintro e w1 ⟨r, t1, rfl, hr0, hr1, ht1, hbt1, htc1, hsz1⟩
      have HM1 := Lib.hid (HM.out.next htc1 hbt1)
      have HO1 := Lib.hid (own_touch HO.out htc1 (own_ne_lt HO.out (by omega)))
      have hf0 : w1.cell? ⟨g2, 0, none⟩ = some (.int .i64 n) := HM1.out.bf.cell 0
      have hs1 : g3 < w1.heap.size := by omega
      clear hbt1 htc1 HC1 HM HO hc1 hsz1
      have hnz : ¬ n = 0 := by omega
      go_wp2_with fail
      have HGD := Lib.hid (good_made n r)
      have hx0 := Int.emod_nonneg r hnz
      have hx1 := Int.emod_lt_of_pos r (show 0 < n by omega)
      generalize r % n = x0 at *
      generalize r / 16 % 7 - 4 = cc at *
      have HMW := Lib.hid (HM1.out.alloc (.cells #[.int .i64 x0, .int .i64 0, .int .i64 cc] 36))
      have HOW := Lib.hid (HO1.out.alloc (.cells #[.int .i64 x0, .int .i64 0, .int .i64 cc] 36))
      have HDW := Lib.hid (Blk.new w1 36 [.int .i64 x0, .int .i64 0, .int .i64 cc])
      have hgd : g3 < w1.heap.size := hs1
      have hzW : (w1.alloc (.cells #[.int .i64 x0, .int .i64 0, .int .i64 cc] 36)).heap.size = w1.heap.size + 1 := by simp
      have HZW := Lib.hid hzW
      have HOB := Lib.hid (own_ne_new HO1.out (Nat.le_refl _))
      clear HM1 HO1 hf0 hzW
      generalize (w1.alloc (.cells #[.int .i64 x0, .int .i64 0, .int .i64 cc] 36)) = W at *
      generalize w1.heap.size = gd at *
      have k1 : W.cell? ⟨gd, 0, none⟩ = some (.int .i64 x0) := HDW.out.cell 0
      have k2 : W.cell? ⟨g2, 0, none⟩ = some (.int .i64 n) := HMW.out.bf.cell 0
      have k3 : W.cell? ⟨gd, 1, none⟩ = some (.int .i64 0) := HDW.out.cell 1
      have k4 : W.frozen? ⟨gd, 1, none⟩ = false := HDW.out.frozen 1
      have e1 : IntKind.i64.wrap (x0 + 1) = x0 + 1 := IntWalk.i64_in _ (by omega)
      have e2 : IntKind.i64.wrap (n - 1) = n - 1 := IntWalk.i64_in _ (by omega)
      have hnz1 : ¬ n - 1 = 0 := by omega
      have HC2 := Lib.hid (next_any g3 k c t1 w.heap.size A W.drew HMW.out.drew.bt ht1 hk (hu.below HMW.out.drew.below) (by omega))
      go_region_held3 (fun w' => w'.cell? ⟨gd, 0, none⟩ = some (.int .i64 x0) ∧ w'.cell? ⟨g2, 0, none⟩ = some (.int .i64 n))
        (first | exact kS2 | exact kS3 _ | go_keep)
        (first
          | (go_at_call 33
             refine HC2.out.mono ?_
             rintro e w2 ⟨r2, t2, rfl, hr20, hr21, ht2, hbt2, htc2, hsz2⟩
             have HM2 := Lib.hid (HMW.out.drew.next htc2 hbt2)
             have HO2 := Lib.hid (own_touch (own_drew HOW.out) htc2 (own_ne_lt HOW.out (by omega)))
             have HD2 := Lib.hid (htc2.blk HDW.out.drew (by simp; omega))
             have HZ2 := Lib.hid hsz2
             have kS2 : w2.cell? ⟨gd, 0, none⟩ = some (.int .i64 x0) ∧ w2.cell? ⟨g2, 0, none⟩ = some (.int .i64 n) := ⟨HD2.out.cell 0, HM2.out.bf.cell 0⟩
             have k31 : w2.cell? ⟨gd, 1, none⟩ = some (.int .i64 0) := HD2.out.cell 1
             have k32 : w2.frozen? ⟨gd, 1, none⟩ = false := HD2.out.frozen 1
             have kS3 : ∀ u, (w2.setCell ⟨gd, 1, none⟩ u).cell? ⟨gd, 0, none⟩ = some (.int .i64 x0) ∧ (w2.setCell ⟨gd, 1, none⟩ u).cell? ⟨g2, 0, none⟩ = some (.int .i64 n) := fun u => ⟨(HD2.out.set_ 1 u).cell 0, (HM2.out.bf.far (by show g2 ≠ gd; omega) u).cell 0⟩
             have HS3 := Lib.hid kS3
             clear kS3
             have kS3 := HS3.out
             have e3 : r2.tmod (n - 1) = r2 % (n - 1) := Int.tmod_eq_emod_of_nonneg hr20
             have hy0 := Int.emod_nonneg r2 hnz1
             have hy1 := Int.emod_lt_of_pos r2 (show 0 < n - 1 by omega)
             have e4 : IntKind.i64.wrap (x0 + 1 + r2 % (n - 1)) = x0 + 1 + r2 % (n - 1) := IntWalk.i64_in _ (by omega)
             have e5 : (x0 + 1 + r2 % (n - 1)).tmod n = (x0 + 1 + r2 % (n - 1)) % n := Int.tmod_eq_emod_of_nonneg (by omega)
             clear hbt2 htc2 hsz2))
      have HGOD := Lib.hid (HGD.out r2 hn1 hn2 hr0 hr1 hr20 hr21)
      have HM3 := Lib.hid (HM2.out.beyond ((Touch.refl [gd] w2).setCell (p := ⟨gd, 1, none⟩) (.inl (by simp)) (.int .i64 ((x0 + 1 + r2 % (n - 1)) % n))) hgd)
      have HD3 := Lib.hid (HD2.out.set_ 1 (.int .i64 ((x0 + 1 + r2 % (n - 1)) % n)))
      have HO3 := Lib.hid (own_touch HO2.out ((Touch.refl [gd] w2).setCell (p := ⟨gd, 1, none⟩) (.inl (by simp)) (.int .i64 ((x0 + 1 + r2 % (n - 1)) % n))) HOB.out)
      clear HGD kS2 kS3 HS3 k31 k32 e3 e4 e5 e1 e2 k1 k2 k3 k4 HC2 HMW HDW HOW HM2 HD2 HO2 HZ2 HZW
      generalize (x0 + 1 + r2 % (n - 1)) % n = y at *
      generalize (w2.setCell ⟨gd, 1, none⟩ (.int .i64 y)) = W3 at *
      have k1 : W3.cell? ⟨gd, 0, none⟩ = some (.int .i64 x0) := HD3.out.cell 0
      have k2 : W3.cell? ⟨gd, 1, none⟩ = some (.int .i64 y) := HD3.out.cell 1
      have k3 : W3.cell? ⟨gd, 2, none⟩ = some (.int .i64 cc) := HD3.out.cell 2
      have k4 : W3.cell? ⟨g2, 2, none⟩ = some av := HM3.out.bf.cell 2
      have hs3 := HM3.out.bt.lt
      have hf3 := HM3.out.bf.lt
      have HN3 := Lib.hid (blk_news (Blk.new W3 36 [.int .i64 x0, .int .i64 y, .int .i64 cc]))
      have HO4 := Lib.hid (HO3.out.alloc (.cells #[.int .i64 x0, .int .i64 y, .int .i64 cc] 36))
      go_wp2_with (at_builtin; go_must (refine wpList_append_lies _ rfl (.tmp 64) (.tmp 66) 22 rfl (g3 + 1) 36 i0 _ 3 24 Try.underlying22 hi0 hz0 hz1 hz2 rfl (by decide) av j (dcells l) rfl HO4.out ⟨W3.heap.size, 0, none⟩ 1 1 [.int .i64 x0, .int .i64 y, .int .i64 cc] rfl rfl HN3.out (one_three _ _ _) (by omega) (by simp only [maxLen]; omega) (by omega) (by simp; omega) (W3.heap.size + 1) (by simp) ?_; intro g5 cap5 w5 hown5 hgrow5 _ _; have HM5 := Lib.hid ((HM3.out.alloc _).grown hgrow5 (fun q hq => by have := (HO4.out.lt q hq).1; omega)); have HO5 := Lib.hid hown5; have k5 : w5.cell? ⟨g2, 2, none⟩ = some av := HM5.out.bf.cell 2; have k6 := HM5.out.bf.frozen 2; clear hown5 hgrow5 k1 k2 k3 k4))
      go_roundw
      case rel =>
        refine ⟨j + 1, .slice (some ⟨g5, 0, none⟩) (j + 1) cap5, l ++ [⟨x0, y, cc⟩], t2, by go_num, by omega, ht2, HM5.out.setF 2 _ HM5.out _ _ _ _ rfl, by simp; omega, ?_, ?_, ?_⟩
        · intro d hd
          rw [List.mem_append, List.mem_singleton] at hd
          rcases hd with hd | rfl
          · exact HGOOD.out d hd
          · exact HGOD.out
        · rw [dcells_append, dcells_one]
          exact own_touch HO5.out ((Touch.refl [g2] w5).setCell (p := ⟨g2, 2, none⟩) (.inl (by simp)) _) (own_ne_lt HO5.out (by omega))
        · have := HM5.out.bt.lt
          simpa [World.setCell] using this
      case measure => simp [intOf]; omega
    · have hjM : (j : Int) = 1 + s1 % 12 := by omega
      have HJM := Lib.hid hjM
      have hjM1 : 1 ≤ j := by omega
      have hjM2 : j ≤ 12 := by omega
      have hjM3 : 1 + s1 % 12 ≤ (j : Int) := by omega
      clear hjM hlt
      have hav : ∃ Aa ca, av = .slice Aa j ca := by
        obtain ⟨Aa, ca, h, _⟩ := isD_of_own HO.out hlen
        exact ⟨Aa, ca, h⟩
      obtain ⟨Aa, ca, rfl⟩ := hav
      have k4 : wr.cell? ⟨g2, 2, none⟩ = some (.slice Aa j ca) := HM.out.bf.cell 2
      have k5 : wr.cell? ⟨w.heap.size, 2, none⟩ = some (.int .u8 s2) := HM.out.bp.cell 2
      have k6 : wr.cell? ⟨g2, 1, none⟩ = some (.int .i64 0) := HM.out.bf.cell 1
      have k7 := HM.out.bf.frozen 1
      go_wp2_with fail
      have HMB := Lib.hid (HM.out.setF 1 (.int .i64 ((j : Int) + s2 % 7)) HM.out _ _ _ _ rfl)
      have HOB := Lib.hid (own_touch HO.out ((Touch.refl [g2] wr).setCell (p := ⟨g2, 1, none⟩) (.inl (by simp)) (.int .i64 ((j : Int) + s2 % 7))) (own_ne_lt HO.out (by omega)))
      have hb1 : 1 ≤ (j : Int) + s2 % 7 := by omega
      have hb2 : (j : Int) + s2 % 7 ≤ 18 := by omega
      clear k4 k5 k6 k7 HM HO hc1
      generalize (j : Int) + s2 % 7 = b at *
      generalize (wr.setCell ⟨g2, 1, none⟩ (.int .i64 b)) = W0 at *
      go_loopw [] (fun wr => FRel2 w g1 g2 g3 s0 s1 s2 (.slice A k0 c) (.slice A k c) k j l n b (.slice Aa j ca) wr) (fun wr => 40 - countOf g2 wr)
      case atStart => exact ⟨0, [], .slice none 0 0, t, by omega, ht, HMB.out, HOB.out, own_nil _ _ _ _, by simp⟩
      case round =>
        obtain ⟨K, vs, cv, t', hK, ht', hM, hoa, hoc, hcl⟩ := hrel
        obtain ⟨Ac, cc, rfl⟩ := own_slice hoc
        clear HMB HOB ht
        have k1 : wr.cell? ⟨g3, 0, none⟩ = some (.slice A k c) := hM.bt.cell 0
        have k2 : wr.cell? ⟨g3, 1, none⟩ = some (.int .i64 t') := hM.bt.cell 1
        have k3 : wr.cell? ⟨g2, 3, none⟩ = some (.slice Ac K cc) := hM.bf.cell 3
        have HM := Lib.hid hM
        have HOA := Lib.hid hoa
        have HOC := Lib.hid hoc
        have HCL := Lib.hid hcl
        have hs3 := hM.bt.lt
        have HCT : Hid (countOf g2 wr = K) := by show countOf g2 wr = K; unfold countOf; rw [k3]
        clear hM hoa hoc hcl
        by_cases hgo : t' < k ∧ K < 40
        · obtain ⟨hg1, hg2⟩ := hgo
          have d1 : decide ((t' : Int) < (k : Int)) = true := by simp; omega
          have d2 : decide ((K : Int) < 40) = true := by simp; omega
          have d3 : (t' : Int) < (k : Int) := by omega
          have d4 : (K : Int) < 40 := by omega
          go_wp2_with fail
          go_quiet (fail)
          have HC1 := Lib.hid (next_any g3 k c t' w.heap.size A (wr.drewN nq) (HM.out.drewN nq).bt ht' hk (hu.below (HM.out.drewN nq).below) (by omega))
          go_wp2_with fail
          refine HC1.out.mono ?_
          rintro e w1 ⟨r, t1, rfl, hr0, hr1, ht1, hbt1, htc1, hsz1⟩
          have HM1 := Lib.hid ((HM.out.drewN nq).next htc1 hbt1)
          have HOA1 := Lib.hid (own_touch (w := wr.drewN nq) HOA.out htc1 (own_ne_lt HOA.out (by omega)))
          have HOC1 := Lib.hid (own_touch (w := wr.drewN nq) HOC.out htc1 (own_ne_lt HOC.out (by omega)))
          have HCL1 : Hid (∀ v ∈ vs, Clause w1 (g3 + 1) wr.heap.size v) := fun v hv => Clause.touch (w := wr.drewN nq) (HCL.out v hv) htc1 (by omega) (Nat.le_refl _)
          have hB1 : wr.heap.size ≤ w1.heap.size := by rw [hsz1]; exact Nat.le_refl _
          clear hsz1 hbt1 htc1 HC1 k1 k2 k3 HM HOA HOC HCL
          generalize wr.heap.size = B0 at *
          go_wp2_with fail
          have hR0 : 0 ≤ r % 4 := by omega
          have hR1 : r % 4 ≤ 3 := by omega
          generalize r % 4 = R at *
          go_loopw [8, 9] (fun c8 i wr => FRel3 w g1 g2 g3 s0 s1 s2 (.slice A k0 c) (.slice A k c) k j l n b (.slice Aa j ca) (.slice Ac K cc) K vs B0 R c8 i wr) (fun _ i _ => (intOf i + 1).toNat)
          case atStart => exact ⟨0, [], t1, by simp, by omega, ht1, HM1.out, HOA1.out, HOC1.out, HCL1.out, hB1, rfl, by simp, own_nil _ _ _ _⟩
          case round =>
            obtain ⟨q, zs, t2', rfl, hq, ht2', hM2, hoa2, hoc2, hcl2, hB2, hzl, hzs, hoi2⟩ := hrel
            clear HM1 HOA1 HOC1 HCL1 hB1
            have HM2 := Lib.hid hM2
            have HOA2 := Lib.hid hoa2
            have HOC2 := Lib.hid hoc2
            have HCL2 := Lib.hid hcl2
            have HOI2 := Lib.hid hoi2
            have HZS := Lib.hid hzs
            clear hM2 hoa2 hoc2 hcl2 hoi2 hzs
            by_cases hmore : 0 ≤ R - q
            · have HC2 := Lib.hid (next_any g3 k c t2' w.heap.size A wr HM2.out.bt ht2' hk (hu.below HM2.out.below) (by omega))
              go_wp2_with fail
              refine HC2.out.mono ?_
              rintro e w3 ⟨x, t2, rfl, hx0', hx1', ht2, hbt3, htc3, hsz3⟩
              have HM3 := Lib.hid (HM2.out.next htc3 hbt3)
              have HOA3 := Lib.hid (own_touch HOA2.out htc3 (own_ne_lt HOA2.out (by omega)))
              have HOC3 := Lib.hid (own_touch HOC2.out htc3 (own_ne_lt HOC2.out (by omega)))
              have HCL3 : Hid (∀ v ∈ vs, Clause w3 (g3 + 1) B0 v) := fun v hv => (HCL2.out v hv).touch htc3 (by omega) hB2
              have hB3 : B0 ≤ w3.heap.size := by omega
              have hg3B : g3 < B0 := by omega
              have HOI3' := Lib.hid (own_touch HOI2.out htc3 (own_ne_lt HOI2.out (by omega)))
              have kb : w3.cell? ⟨g2, 1, none⟩ = some (.int .i64 b) := HM3.out.bf.cell 1
              clear hbt3 htc3 hsz3 HC2 HM2 HOA2 HOC2 HCL2 HOI2 hB2
              have hbz : ¬ b = 0 := by omega
              have hl0 := Int.emod_nonneg (x / 2) hbz
              have hl1 := Int.emod_lt_of_pos (x / 2) (show 0 < b by omega)
              by_cases hodd : x % 2 = 1
              · have ho : (x % 2 == 1) = true := by simpa using hodd
                have HOI3 := Lib.hid (HOI3'.out.alloc (.cells #[.int .i64 (-(1 + x / 2 % b))] 3))
                clear hodd HOI3'
                go_wp2_with (at_builtin; go_must (refine wpList_append_own _ rfl (.tmp 115) (.tmp 117) 25 rfl B0 3 j0 (.int .i64 0) 1 8 Try.underlying25 hj0 hy0 hy1 hy2 rfl (by decide) u8 q (icells zs) rfl HOI3.out ⟨w3.heap.size, 0, none⟩ 1 1 [.int .i64 (-(1 + x / 2 % b))] rfl rfl (news_one w3 (.int .i64 (-(1 + x / 2 % b))) 3) (one_int _) (by simp only [maxLen]; omega) (by omega) (by simp; omega) ?_; intro v4 w4 hown4 hgrow4 _; have HM4 := Lib.hid ((HM3.out.alloc _).grown hgrow4 (fun p hp => by have := (HOI3.out.lt p hp).1; omega)); have HOA4 := Lib.hid (own_other (HOA3.out.alloc _) HOI3.out (by decide) hgrow4); have HOC4 := Lib.hid (own_other (HOC3.out.alloc _) HOI3.out (by decide) hgrow4); have HCL4 : Hid (∀ v ∈ vs, Clause w4 (g3 + 1) B0 v) := (fun v hv => ((HCL3.out v hv).alloc _ hB3).grown hgrow4 (fun p hp => (HOI3.out.lt p hp).1) (by simp; omega)); have hB4 : B0 ≤ w4.heap.size := (by have := hgrow4.size; simp at this; omega); have HOI4 := Lib.hid hown4; clear hown4 hgrow4))
                go_roundw
                case rel =>
                  refine ⟨q + 1, zs ++ [(-(1 + x / 2 % b))], t2, ?_, by omega, ht2, HM4.out, HOA4.out, HOC4.out, HCL4.out, hB4, by simp; omega, ?_, ?_⟩
                  · rw [show R - ((q + 1 : Nat) : Int) = R - q - 1 by omega]
                  · intro z hz
                    rw [List.mem_append, List.mem_singleton] at hz
                    rcases hz with hz | rfl
                    · exact HZS.out z hz
                    · omega
                  · have := HOI4.out
                    rw [show icells (zs ++ [(-(1 + x / 2 % b))]) = icells zs ++ [.int .i64 (-(1 + x / 2 % b))] by simp [icells]]
                    exact this
                case measure => simp [intOf]; omega
              · have ho : (x % 2 == 1) = false := by simpa using hodd
                have HOI3 := Lib.hid (HOI3'.out.alloc (.cells #[.int .i64 (1 + x / 2 % b)] 3))
                clear hodd HOI3'
                go_wp2_with (at_builtin; go_must (refine wpList_append_own _ rfl (.tmp 115) (.tmp 117) 25 rfl B0 3 j0 (.int .i64 0) 1 8 Try.underlying25 hj0 hy0 hy1 hy2 rfl (by decide) u8 q (icells zs) rfl HOI3.out ⟨w3.heap.size, 0, none⟩ 1 1 [.int .i64 (1 + x / 2 % b)] rfl rfl (news_one w3 (.int .i64 (1 + x / 2 % b)) 3) (one_int _) (by simp only [maxLen]; omega) (by omega) (by simp; omega) ?_; intro v4 w4 hown4 hgrow4 _; have HM4 := Lib.hid ((HM3.out.alloc _).grown hgrow4 (fun p hp => by have := (HOI3.out.lt p hp).1; omega)); have HOA4 := Lib.hid (own_other (HOA3.out.alloc _) HOI3.out (by decide) hgrow4); have HOC4 := Lib.hid (own_other (HOC3.out.alloc _) HOI3.out (by decide) hgrow4); have HCL4 : Hid (∀ v ∈ vs, Clause w4 (g3 + 1) B0 v) := (fun v hv => ((HCL3.out v hv).alloc _ hB3).grown hgrow4 (fun p hp => (HOI3.out.lt p hp).1) (by simp; omega)); have hB4 : B0 ≤ w4.heap.size := (by have := hgrow4.size; simp at this; omega); have HOI4 := Lib.hid hown4; clear hown4 hgrow4))
                go_roundw
                case rel =>
                  refine ⟨q + 1, zs ++ [(1 + x / 2 % b)], t2, ?_, by omega, ht2, HM4.out, HOA4.out, HOC4.out, HCL4.out, hB4, by simp; omega, ?_, ?_⟩
                  · rw [show R - ((q + 1 : Nat) : Int) = R - q - 1 by omega]
                  · intro z hz
                    rw [List.mem_append, List.mem_singleton] at hz
                    rcases hz with hz | rfl
                    · exact HZS.out z hz
                    · omega
                  · have := HOI4.out
                    rw [show icells (zs ++ [(1 + x / 2 % b)]) = icells zs ++ [.int .i64 (1 + x / 2 % b)] by simp [icells]]
                    exact this
                case measure => simp [intOf]; omega
            · obtain ⟨gq, cq, hu8, hgq1, hgq2⟩ := HOI2.out.form (by omega)
              subst hu8
              have k3 : wr.cell? ⟨g2, 3, none⟩ = some (.slice Ac K cc) := HM2.out.bf.cell 3
              have hfs := HM2.out.bt.lt
              have hg2s := HM2.out.bf.lt
              have HOV := Lib.hid (HOC2.out.alloc (.cells #[.slice (some ⟨gq, 0, none⟩) q cq] 25))
              have HNV := Lib.hid (blk_news (Blk.new wr 25 [.slice (some ⟨gq, 0, none⟩) q cq]))
              have HNEW := Lib.hid (clause_new HOI2.out (by omega) (by omega) hzl HZS.out (lo := g3 + 1) (by omega))
              go_wp2_with (at_builtin; go_must (refine wpList_append_lies _ rfl (.tmp 120) (.tmp 122) 52 rfl (g3 + 1) 25 f0 (.slice none 0 0) 1 24 Try.underlying52 hf0 hx0 hx1 hx2 rfl (by decide) (.slice Ac K cc) K vs rfl HOV.out ⟨wr.heap.size, 0, none⟩ 1 1 [.slice (some ⟨gq, 0, none⟩) q cq] rfl rfl HNV.out (one_slice _ _ _) (by omega) (by simp only [maxLen]; omega) (by omega) (by simp; omega) (wr.heap.size + 1) (by simp) ?_; intro g5 cap5 w5 hown5 hgrow5 _ _; have HM5 := Lib.hid ((HM2.out.alloc _).grown hgrow5 (fun p hp => by have := (HOV.out.lt p hp).1; omega)); have HOA5 := Lib.hid (own_other (HOA2.out.alloc _) HOV.out (by decide) hgrow5); have HCL5 : Hid (∀ v ∈ vs, Clause w5 (g3 + 1) B0 v) := (fun v hv => ((HCL2.out v hv).alloc _ hB2).other HOV.out (by decide) hgrow5 (by simp; omega)); have HNEW5 := Lib.hid ((HNEW.out.alloc (.cells #[.slice (some ⟨gq, 0, none⟩) q cq] 25) (Nat.le_refl _)).other HOV.out (by decide) hgrow5 (by simp)); have hs5 : wr.heap.size ≤ w5.heap.size := (by have := hgrow5.size; simp at this; omega); have HO5 := Lib.hid hown5; have k5 : w5.cell? ⟨g2, 3, none⟩ = some (.slice Ac K cc) := HM5.out.bf.cell 3; have k6 := HM5.out.bf.frozen 3; clear hown5 hgrow5 k3))
              have HT5 := Lib.hid ((Touch.refl [g2] w5).setCell (p := ⟨g2, 3, none⟩) (.inl (by simp)) (.slice (some ⟨g5, 0, none⟩) (K + 1) cap5))
              have hz5 : (w5.setCell ⟨g2, 3, none⟩ (.slice (some ⟨g5, 0, none⟩) (K + 1) cap5)).heap.size = w5.heap.size := by simp [World.setCell]
              go_roundw
              case rel =>
                refine ⟨K + 1, vs ++ [.slice (some ⟨gq, 0, none⟩) q cq], .slice (some ⟨g5, 0, none⟩) (K + 1) cap5, t2', by omega, ht2', HM5.out.setF 3 _ HM5.out _ _ _ _ rfl, own_touch HOA5.out HT5.out (own_ne_lt HOA5.out (by omega)), own_touch HO5.out HT5.out (own_ne_lt HO5.out (by omega)), ?_⟩
                intro v hv
                rw [hz5]
                rw [List.mem_append, List.mem_singleton] at hv
                rcases hv with hv | rfl
                · exact ((HCL5.out v hv).touch HT5.out (by omega) (by omega)).keep (fun _ _ _ _ _ => rfl) (by omega)
                · exact (HNEW5.out.touch HT5.out (by omega) hs5).keep (fun _ _ _ _ _ => rfl) (by omega)
              case measure =>
                have h1 : countOf g2 (w5.setCell ⟨g2, 3, none⟩ (.slice (some ⟨g5, 0, none⟩) (K + 1) cap5)) = K + 1 := by
                  unfold countOf
                  rw [show (w5.setCell ⟨g2, 3, none⟩ (.slice (some ⟨g5, 0, none⟩) (K + 1) cap5)).cell? ⟨g2, 3, none⟩ = some (.slice (some ⟨g5, 0, none⟩) (K + 1) cap5) from (HM5.out.bf.set_ 3 _).cell 3]
                show 40 - countOf g2 _ < 40 - countOf g2 _
                rw [h1, HCT.out]
                omega
        · have KEY : Hid (∀ W, Touch [g1] wr W → W.heap.size = wr.heap.size → FPost w (.returned (.agg #[.int .i64 n, .int .i64 b, .slice Aa j ca, .slice Ac K cc])) W) := fun W hT hS =>
            ⟨n, b, _, _, j, K, l, vs, rfl, hn1, hn2, hlen, hjM1, hjM2, HGOOD.out, hK, own_base (own_touch HOA.out hT (own_ne_lt HOA.out (by omega))) (by omega), own_base (own_touch HOC.out hT (own_ne_lt HOC.out (by omega))) (by omega),
              fun v hv => by rw [hS]; exact ((HCL.out v hv).touch hT (by omega) (Nat.le_refl _)).lo (by omega), HM.out.below.trans (hT.below HM.out.below.size (by simp; omega))⟩
          by_cases hg1 : t' < k
          · have d1 : decide ((t' : Int) < (k : Int)) = true := by simp; omega
            have d2 : decide ((K : Int) < 40) = false := by simp; omega
            have d3 : (t' : Int) < (k : Int) := by omega
            have d4 : (40 : Int) ≤ (K : Int) := by omega
            clear hgo
            have a0 : wr.cell? ⟨g2, 0, none⟩ = some (.int .i64 n) := HM.out.bf.cell 0
            have a1 : wr.cell? ⟨g2, 1, none⟩ = some (.int .i64 b) := HM.out.bf.cell 1
            have a2 : wr.cell? ⟨g2, 2, none⟩ = some (.slice Aa j ca) := HM.out.bf.cell 2
            have c0 : wr.cell? ⟨g1, 0, none⟩ = some (.int .i64 0) := HM.out.br.cell 0
            have c1 : wr.cell? ⟨g1, 1, none⟩ = some (.int .i64 0) := HM.out.br.cell 1
            have c2 : wr.cell? ⟨g1, 2, none⟩ = some (.slice none 0 0) := HM.out.br.cell 2
            have c3 : wr.cell? ⟨g1, 3, none⟩ = some (.slice none 0 0) := HM.out.br.cell 3
            have f0' := HM.out.br.frozen 0
            have f1' := HM.out.br.frozen 1
            have f2' := HM.out.br.frozen 2
            have f3' := HM.out.br.frozen 3
            go_wp2_with fail
            go_quiet (fail)
            go_wp2_with fail
            refine bodyPost_ret (v := .agg #[.int .i64 n, .int .i64 b, .slice Aa j ca, .slice Ac K cc]) ?_ rfl ?_
            · simp [results, Try.results28, go_sem, c0, c1, c2, c3]
            · exact KEY.out _ (Touch.setCell (Touch.setCell (Touch.setCell (Touch.setCell ((Touch.refl _ _).drewN _) (.inl (by simp)) _) (.inl (by simp)) _) (.inl (by simp)) _) (.inl (by simp)) _) (by simp [World.setCell])
          · have d1 : decide ((t' : Int) < (k : Int)) = false := by simp; omega
            have d3 : (k : Int) ≤ (t' : Int) := by omega
            clear hgo
            have a0 : wr.cell? ⟨g2, 0, none⟩ = some (.int .i64 n) := HM.out.bf.cell 0
            have a1 : wr.cell? ⟨g2, 1, none⟩ = some (.int .i64 b) := HM.out.bf.cell 1
            have a2 : wr.cell? ⟨g2, 2, none⟩ = some (.slice Aa j ca) := HM.out.bf.cell 2
            have c0 : wr.cell? ⟨g1, 0, none⟩ = some (.int .i64 0) := HM.out.br.cell 0
            have c1 : wr.cell? ⟨g1, 1, none⟩ = some (.int .i64 0) := HM.out.br.cell 1
            have c2 : wr.cell? ⟨g1, 2, none⟩ = some (.slice none 0 0) := HM.out.br.cell 2
            have c3 : wr.cell? ⟨g1, 3, none⟩ = some (.slice none 0 0) := HM.out.br.cell 3
            have f0' := HM.out.br.frozen 0
            have f1' := HM.out.br.frozen 1
            have f2' := HM.out.br.frozen 2
            have f3' := HM.out.br.frozen 3
            go_wp2_with fail
            go_quiet (fail)
            go_wp2_with fail
            refine bodyPost_ret (v := .agg #[.int .i64 n, .int .i64 b, .slice Aa j ca, .slice Ac K cc]) ?_ rfl ?_
            · simp [results, Try.results28, go_sem, c0, c1, c2, c3]
            · exact KEY.out _ (Touch.setCell (Touch.setCell (Touch.setCell (Touch.setCell ((Touch.refl _ _).drewN _) (.inl (by simp)) _) (.inl (by simp)) _) (.inl (by simp)) _) (.inl (by simp)) _) (by simp [World.setCell])
end Go.Proofs.Ytdcgebafmceajaa
