/- Plain: what the rounds find. -/
import Derived.Test.YtdcgebafmceajaaFord
namespace Go.Proofs.Ytdcgebafmceajaa

theorem inv_fresh {l : List D} {n : Nat} {s : St} {t : Int → Nat} {now : Nat} (h : Inv l n s t now) : Inv l n (fresh s) t now := ⟨h.lx, h.lr, h.le, h.inj, h.none, h.some, h.recent⟩

theorem inv_steps {l : List D} {n : Nat} (hok : Ok l n) (hap : Apart l) {s : St} {t : Int → Nat} (j : Nat) (h : Inv l n s t (j * l.length)) (hlow : s.low < 0) (k : Nat) (hk : k ≤ l.length) :
    ∃ t', Inv l n (steps l k s) t' (j * l.length + k) ∧ ((steps l k s).low < 0 ∨ (0 ≤ (steps l k s).low ∧ (steps l k s).low < n ∧ j * l.length < t' (steps l k s).low)) := by
  induction k with
  | zero => exact ⟨t, h, .inl hlow⟩
  | succ k ih =>
    obtain ⟨t1, h1, h2⟩ := ih (by omega)
    obtain ⟨t2, h3, h4, h5⟩ := inv_step hok hap h1 k (by omega) (by rw [Nat.mul_comm, Nat.mul_add_mod]; exact Nat.mod_eq_of_lt (by omega))
    refine ⟨t2, h3, ?_⟩
    show (step l k (steps l k s)).low < 0 ∨ _
    rcases h5 with h5 | ⟨h5, h6, h7⟩
    · rw [show steps l (k + 1) s = step l k (steps l k s) from rfl, h5]
      rcases h2 with h2 | ⟨h2, h6, h7⟩
      · exact .inl h2
      · exact .inr ⟨h2, h6, Nat.lt_of_lt_of_le h7 (h4 _)⟩
    · exact .inr ⟨h5, h6, by show _ < t2 (step l k (steps l k s)).low; omega⟩

theorem inv_after {l : List D} {n : Nat} (hok : Ok l n) (hap : Apart l) (j : Nat) :
    ∃ t, Inv l n (after l n j) t (j * l.length) ∧ ((after l n j).low < 0 ∨ (0 ≤ (after l n j).low ∧ (after l n j).low < n ∧ (j - 1) * l.length < t (after l n j).low)) := by
  induction j with
  | zero => exact ⟨_, by rw [Nat.zero_mul]; exact inv_zero l n, .inl (by show (-1 : Int) < 0; omega)⟩
  | succ j ih =>
    obtain ⟨t, h, _⟩ := ih
    obtain ⟨t', h1, h2⟩ := inv_steps hok hap j (inv_fresh h) (by show (-1 : Int) < 0; omega) l.length (Nat.le_refl _)
    rw [← Nat.succ_mul] at h1
    exact ⟨t', h1, h2⟩

/-- What comes next. -/
def hop (l : List D) (r : List Int) (v : Int) : Int := (at_ l (val r v)).y
def hops (l : List D) (r : List Int) (v : Int) : Nat → Int
  | 0 => v
  | i + 1 => hop l r (hops l r v i)

theorem at_dat (l : List D) (k : Nat) : at_ l (k : Int) = dat l k := by simp [at_, dat]

/-- Two of n + 1 numbers below n are the same. -/
theorem pigeon (n : Nat) (f : Nat → Int) (h : ∀ i, i ≤ n → 0 ≤ f i ∧ f i < n) : ∃ i j, i < j ∧ j ≤ n ∧ f i = f j := by
  induction n generalizing f with
  | zero => have := h 0 (by omega); omega
  | succ n ih =>
    by_cases hx : ∃ i, i ≤ n ∧ f i = f (n + 1)
    · obtain ⟨i, h1, h2⟩ := hx
      exact ⟨i, n + 1, by omega, Nat.le_refl _, h2⟩
    · -- give the place of the last number to the greatest
      have hne : ∀ i, i ≤ n → f i ≠ f (n + 1) := fun i hi he => hx ⟨i, hi, he⟩
      obtain ⟨i, j, h1, h2, h3⟩ := ih (fun i => if f i = n then f (n + 1) else f i) (by
        intro i hi
        have h1 := h i (by omega)
        have h2 := h (n + 1) (by omega)
        have h3 := hne i hi
        split <;> omega)
      refine ⟨i, j, h1, by omega, ?_⟩
      have h4 := hne i (by omega)
      have h5 := hne j (by omega)
      split at h3 <;> split at h3 <;> omega

theorem least (P : Nat → Prop) (n : Nat) (h0 : 0 < n) (hn : P n) : ∃ p, 0 < p ∧ p ≤ n ∧ P p ∧ ∀ q, 0 < q → q < p → ¬ P q := by
  induction n using Nat.strongRecOn with
  | _ n ih =>
    by_cases hx : ∃ q, 0 < q ∧ q < n ∧ P q
    · obtain ⟨q, h1, h2, h3⟩ := hx
      obtain ⟨p, h4, h5, h6, h7⟩ := ih q h2 h1 h3
      exact ⟨p, h4, by omega, h6, h7⟩
    · exact ⟨n, h0, Nat.le_refl _, hn, fun q h1 h2 h3 => hx ⟨q, h1, h2, h3⟩⟩

/-- From a value the reasons lead on for ever: v 0, v 1, .. -/
structure Chain (l : List D) (r : List Int) (n : Nat) (v : Nat → Int) : Prop where
  rng : ∀ i, 0 ≤ v i ∧ v i < n
  why : ∀ i, 0 ≤ val r (v i) ∧ val r (v i) < l.length
  next : ∀ i, v (i + 1) = (at_ l (val r (v i))).y
def found (r : List Int) (v : Nat → Int) (n p : Nat) : List Int := (List.range p).map fun i => val r (v (n + i))
theorem found_len (r : List Int) (v : Nat → Int) (n k : Nat) : (found r v n k).length = k := by simp [found]
theorem found_get (r : List Int) (v : Nat → Int) (n p i : Nat) (h : i < p) : (found r v n p).getD i 0 = val r (v (n + i)) := by
  rw [getD_of_lt _ _ (by rw [found_len]; exact h)]; simp [found]
theorem csum_found (l : List D) (r : List Int) (v : Nat → Int) (n p : Nat) : csum l (found r v n (p + 1)) = csum l (found r v n p) + (at_ l (val r (v (n + p)))).c := by
  simp [csum, found, List.range_succ]

/-- What is found where the last round lowers a value. -/
structure Found (l : List D) (s : St) (n : Nat) (v : Nat → Int) (p : Nat) : Prop where
  chain : Chain l s.r n v
  start : v 0 = s.low
  pos : 0 < p
  le : p ≤ n
  back : v (n + p) = v n
  first : ∀ q, 0 < q → q < p → v (n + q) ≠ v n
  cyc : cycB l (found s.r v n p) = true

theorem found_of_low {l : List D} {n : Nat} (hok : Ok l n) (hap : Apart l) (hlow : 0 ≤ (after l n n).low) : ∃ v p, Found l (after l n n) n v p := by
  obtain ⟨t, hi, ht⟩ := inv_after hok hap n
  generalize hs : after l n n = s at *
  rcases ht with ht | ⟨_, hln, hlt⟩
  · omega
  obtain ⟨v, hv⟩ : ∃ v, v = hops l s.r s.low := ⟨_, rfl⟩
  have v0 : v 0 = s.low := by rw [hv]; rfl
  have vs : ∀ i, v (i + 1) = (at_ l (val s.r (v i))).y := fun i => by rw [hv]; rfl
  have hnx : ∀ i, 0 ≤ v i → v i < n → 0 < t (v i) → 0 ≤ v (i + 1) ∧ v (i + 1) < n := by
    intro i h1 h2 h3
    obtain ⟨k, hk, hr, _⟩ := hi.some (v i) h1 h2 h3
    rw [vs i, hr, at_dat]
    have := hok.dat hk
    omega
  have hA : ∀ i, i < n → (0 ≤ v i ∧ v i < n) ∧ (n - 1 - i) * l.length < t (v i) := by
    intro i
    induction i with
    | zero => intro _; rw [v0]; exact ⟨⟨hlow, hln⟩, by simpa using hlt⟩
    | succ i ih =>
      intro hin
      obtain ⟨⟨h1, h2⟩, h3⟩ := ih (by omega)
      refine ⟨hnx i h1 h2 (by omega), ?_⟩
      obtain ⟨k, hk, hr, _, _, _, h4⟩ := hi.some (v i) h1 h2 (by omega)
      have e : n - 1 - i = (n - 1 - (i + 1)) + 1 := by omega
      rw [e, Nat.succ_mul] at h3
      have h5 := h4 (by omega)
      rw [vs i, hr, at_dat]
      omega
  have hn : 0 < n := by omega
  have hrn : ∀ i, i ≤ n → 0 ≤ v i ∧ v i < n := by
    intro i h
    rcases Nat.lt_or_ge i n with h1 | h1
    · exact (hA i h1).1
    · obtain ⟨i, rfl⟩ : ∃ q, i = q + 1 := ⟨i - 1, by omega⟩
      have h2 := hA i (by omega)
      exact hnx i h2.1.1 h2.1.2 (by omega)
  obtain ⟨a, b, hab, hbn, he⟩ := pigeon n v hrn
  have hper : ∀ q, v (a + q) = v (b + q) := by
    intro q
    induction q with
    | zero => exact he
    | succ q ih => rw [← Nat.add_assoc, ← Nat.add_assoc, vs, vs, ih]
  have hB : ∀ q, (0 ≤ v q ∧ v q < n) ∧ 0 < t (v q) := by
    intro q
    induction q using Nat.strongRecOn with
    | _ q ih =>
      rcases Nat.lt_or_ge q n with h1 | h1
      · have := hA q h1; exact ⟨this.1, by omega⟩
      · have h2 := hper (q - b)
        rw [show b + (q - b) = q by omega] at h2
        rw [← h2]
        exact ih _ (by omega)
  have hch : Chain l s.r n v := ⟨fun i => (hB i).1, fun i => by
    obtain ⟨k, hk, hr, _⟩ := hi.some (v i) (hB i).1.1 (hB i).1.2 (hB i).2
    omega, vs⟩
  have hret : v (n + (b - a)) = v n := by
    have := hper (n - a)
    rw [show a + (n - a) = n by omega, show b + (n - a) = n + (b - a) by omega] at this
    exact this.symm
  obtain ⟨p, hp0, hp1, hp2, hp3⟩ := least (fun p => v (n + p) = v n) (b - a) (by omega) hret
  refine ⟨v, p, hch, v0, hp0, by omega, hp2, hp3, ?_⟩
  -- the cycle is negative
  have hxx : ∀ q, (at_ l (val s.r (v q))).x = v q := by
    intro q
    obtain ⟨k, hk, hr, h1, _⟩ := hi.some (v q) (hB q).1.1 (hB q).1.2 (hB q).2
    rw [hr, at_dat, h1]
  have hsum : ∀ q, csum l (found s.r v n q) < val s.x (v n) - val s.x (v (n + q)) ∨ (csum l (found s.r v n q) ≤ val s.x (v n) - val s.x (v (n + q)) ∧ t (v (n + q)) + q ≤ t (v n)) := by
    intro q
    induction q with
    | zero => right; simp [csum, found]
    | succ q ih =>
      rw [csum_found]
      obtain ⟨k, hk, hr, h1, h2, h3, _⟩ := hi.some (v (n + q)) (hB _).1.1 (hB _).1.2 (hB _).2
      have h4 : v (n + (q + 1)) = (dat l k).y := by rw [← Nat.add_assoc, vs, hr, at_dat]
      rw [hr, at_dat, h4]
      have hne := hap.dat hk
      rcases Nat.lt_trichotomy (t (dat l k).y) (t (v (n + q))) with h5 | h5 | h5
      · have := h2 h5; omega
      · have := hi.inj _ _ (by rw [h5]; exact (hB _).2) h5
        exact absurd (h1.trans this.symm) hne
      · have := h3 h5; omega
  have hneg : csum l (found s.r v n p) < 0 := by
    rcases hsum p with h1 | ⟨h1, h2⟩
    · rw [hp2] at h1; omega
    · rw [hp2] at h2; omega
  rw [cyc_end]
  · simpa using hneg
  · rw [found_len]; exact hp0
  · rw [List.all_eq_true]
    intro x hx
    simp only [found, List.mem_map, List.mem_range] at hx
    obtain ⟨i, _, rfl⟩ := hx
    have := hch.why (n + i)
    simp only [rngB, decide_eq_true_eq]
    exact this
  · rw [List.all_eq_true]
    intro i hx
    rw [List.mem_range, found_len] at hx
    simp only [lnkB, decide_eq_true_eq]
    rw [found_len, found_get _ _ _ _ _ hx, found_get _ _ _ _ _ (Nat.mod_lt _ hp0), hxx, ← vs]
    rcases Nat.lt_or_ge (i + 1) p with h1 | h1
    · rw [Nat.mod_eq_of_lt h1]; rfl
    · rw [show i + 1 = p by omega, Nat.mod_self]
      show v (n + i + 1) = v n
      rw [show n + i + 1 = n + p by omega]
      exact hp2

/-- Values that satisfy all constraints. -/
def Sat (l : List D) (y : List Int) : Prop := ∀ k, k < l.length → val y (dat l k).x ≤ val y (dat l k).y + (dat l k).c

theorem sat_cyc {l : List D} {y : List Int} (hs : Sat l y) {c : List Int} (hc : cycB l c = true) : False := by
  simp only [cycB, Bool.and_eq_true, Bool.not_eq_true', decide_eq_true_eq] at hc
  obtain ⟨⟨⟨h1, h2⟩, h3⟩, h4⟩ := hc
  have h0 : 0 < c.length := by cases c <;> simp_all
  have hstep : ∀ i, i < c.length → val y (at_ l (c.getD i 0)).x - val y (at_ l (c.getD ((i + 1) % c.length) 0)).x ≤ (at_ l (c.getD i 0)).c := by
    intro i hi
    have hr := rng_of_all l c h2 i hi
    have hl := List.all_eq_true.1 h3 i (List.mem_range.2 hi)
    simp only [lnkB, decide_eq_true_eq] at hl
    rw [← hl]
    rw [getD_of_lt _ _ hi]
    obtain ⟨k, hk⟩ := Int.eq_ofNat_of_zero_le hr.1
    rw [hk, at_dat]
    have := hs k (by omega)
    omega
  have hsum : ∀ q, q < c.length → val y (at_ l (c.getD 0 0)).x - val y (at_ l (c.getD q 0)).x ≤ csum l (c.take q) := by
    intro q
    induction q with
    | zero => intro _; simp [csum]
    | succ q ih =>
      intro hq
      have h5 := ih (by omega)
      have h6 := hstep q (by omega)
      rw [Nat.mod_eq_of_lt hq] at h6
      rw [csum_succ l c q (by omega), ← getD_of_lt _ _ (show q < c.length by omega)]
      omega
  have h5 := hsum (c.length - 1) (by omega)
  have h6 := hstep (c.length - 1) (by omega)
  rw [show c.length - 1 + 1 = c.length by omega, Nat.mod_self] at h6
  have h7 := csum_succ l c (c.length - 1) (by omega)
  rw [show c.length - 1 + 1 = c.length by omega, List.take_of_length_le (Nat.le_refl _), ← getD_of_lt _ _ (show c.length - 1 < c.length by omega)] at h7
  omega

theorem sat_of_low {l : List D} {n : Nat} (hok : Ok l n) {j : Nat} (hj : 0 < j) (h : (after l n j).low < 0) : Sat l (after l n j).x := by
  obtain ⟨j, rfl⟩ : ∃ i, j = i + 1 := ⟨j - 1, by omega⟩
  have h1 := steps_low hok (Nat.le_refl _) (s := fresh (after l n j)) h l.length (Nat.le_refl _)
  have h2 : after l n (j + 1) = fresh (after l n j) := h1
  intro k hk
  have := asks_false hok (s := fresh (after l n j)) h k hk
  rw [h2]
  simp only [asks, decide_eq_false_iff_not] at this
  omega

/-- A solution without positive values is below. -/
theorem below_steps {l : List D} {n : Nat} (hok : Ok l n) {y : List Int} (hy : Sat l y) {s : St} (hlen : s.x.length = n) (h : ∀ i : Int, 0 ≤ i → i < n → val y i ≤ val s.x i) (k : Nat) (hk : k ≤ l.length) :
    ∀ i : Int, 0 ≤ i → i < n → val y i ≤ val (steps l k s).x i := by
  induction k with
  | zero => exact h
  | succ k ih =>
    have ih := ih (by omega)
    have hl := (steps_len l k s).1
    have hd := hok.dat (k := k) (by omega)
    intro i h1 h2
    show val y i ≤ val (step l k (steps l k s)).x i
    generalize steps l k s = s' at *
    unfold step
    split
    · dsimp only
      rw [val_set _ _ _ _ (by omega) h1]
      split
      · rename_i e
        have h3 := hy k (by omega)
        have h4 := ih (dat l k).y (by omega) (by omega)
        rw [e]
        omega
      · exact ih i h1 h2
    · exact ih i h1 h2
theorem val_replicate (n : Nat) (a : Int) (i : Int) (h : 0 ≤ i ∧ i < n) : val (List.replicate n a) i = a := by
  rw [val, List.getD, List.getElem?_replicate, if_pos (by omega)]; rfl
theorem below_after {l : List D} {n : Nat} (hok : Ok l n) {y : List Int} (hy : Sat l y) (h0 : ∀ i : Int, 0 ≤ i → i < n → val y i ≤ 0) (j : Nat) : ∀ i : Int, 0 ≤ i → i < n → val y i ≤ val (after l n j).x i := by
  induction j with
  | zero => intro i h1 h2; show val y i ≤ val (List.replicate n 0) i; rw [val_replicate n 0 i ⟨h1, h2⟩]; exact h0 i h1 h2
  | succ j ih => exact below_steps hok hy (s := fresh (after l n j)) (after_len l n j).1 ih l.length (Nat.le_refl _)

theorem low_range {l : List D} {n : Nat} (hok : Ok l n) (hap : Apart l) (j : Nat) (h : 0 ≤ (after l n j).low) : (after l n j).low < n := by
  obtain ⟨_, _, h1⟩ := inv_after hok hap j
  omega

/-- Both roads come to the same. -/
theorem low_iff {l : List D} {n : Nat} (hok : Ok l n) (hap : Apart l) : ((after l n (n + 1)).low < 0 ↔ (after l n n).low < 0) ∧ ((after l n n).low < 0 → (after l n (n + 1)).x = (after l n n).x) := by
  have key : (after l n n).low < 0 → (after l n (n + 1)).low < 0 ∧ (after l n (n + 1)).x = (after l n n).x := by
    intro h
    rcases Nat.eq_zero_or_pos n with h0 | h0
    · subst h0
      have hl : l = [] := by
        cases l with
        | nil => rfl
        | cons d l => have := hok d (by simp); omega
      subst hl
      exact ⟨by show (-1 : Int) < 0; omega, rfl⟩
    · rw [after_fix hok h0 h (n + 1) (by omega)]
      exact ⟨h, rfl⟩
  refine ⟨⟨fun h => ?_, fun h => (key h).1⟩, fun h => (key h).2⟩
  have hs := sat_of_low hok (by omega) h
  rcases (show (after l n n).low < 0 ∨ 0 ≤ (after l n n).low by omega) with h1 | h1
  · exact h1
  · obtain ⟨v, p, hf⟩ := found_of_low hok hap h1
    exact (sat_cyc hs hf.cyc).elim
/-- There is a solution exactly if the last round lowers nothing. -/
theorem low_of_sat {l : List D} {n : Nat} (hok : Ok l n) (hap : Apart l) {y : List Int} (hs : Sat l y) : (after l n n).low < 0 := by
  rcases (show (after l n n).low < 0 ∨ 0 ≤ (after l n n).low by omega) with h1 | h1
  · exact h1
  · obtain ⟨v, p, hf⟩ := found_of_low hok hap h1
    exact (sat_cyc hs hf.cyc).elim
theorem sat_after {l : List D} {n : Nat} (hok : Ok l n) (h : (after l n n).low < 0) : Sat l (after l n n).x := by
  rcases Nat.eq_zero_or_pos n with h0 | h0
  · subst h0
    intro k hk
    have := hok _ (List.getElem_mem hk)
    omega
  · exact sat_of_low hok h0 h
end Go.Proofs.Ytdcgebafmceajaa
