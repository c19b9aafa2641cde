/- Plain: the rounds of the relaxation find the greatest solution, or a negative cycle. -/
import Derived.Test.YtdcgebafmceajaaRelax
namespace Go.Proofs.Ytdcgebafmceajaa

def Apart (l : List D) : Prop := ∀ d ∈ l, d.x ≠ d.y
theorem Apart.dat {l : List D} (h : Apart l) {k : Nat} (hk : k < l.length) : (Ytdcgebafmceajaa.dat l k).x ≠ (Ytdcgebafmceajaa.dat l k).y := by
  rw [dat_eq l k hk]; exact h _ (List.getElem_mem hk)

theorem val_set (x : List Int) (i j : Int) (a : Int) (hi : 0 ≤ i ∧ i < x.length) (hj : 0 ≤ j) : val (x.set i.toNat a) j = if j = i then a else val x j := by
  unfold val
  split
  · rename_i h
    subst h
    rw [List.getD, List.getElem?_set_self (by omega)]; rfl
  · rename_i h
    rw [List.getD, List.getElem?_set_ne (by omega), ← List.getD]

structure Inv (l : List D) (n : Nat) (s : St) (t : Int → Nat) (now : Nat) : Prop where
  lx : s.x.length = n
  lr : s.r.length = n
  le : ∀ v : Int, t v ≤ now
  inj : ∀ u v : Int, 0 < t u → t u = t v → u = v
  none : ∀ v : Int, 0 ≤ v → v < n → t v = 0 → val s.r v = -1
  some : ∀ v : Int, 0 ≤ v → v < n → 0 < t v → ∃ k : Nat, k < l.length ∧ val s.r v = k ∧ (dat l k).x = v ∧
      (t (dat l k).y < t v → val s.x v = val s.x (dat l k).y + (dat l k).c) ∧ (t v < t (dat l k).y → val s.x (dat l k).y + (dat l k).c < val s.x v) ∧ (l.length < t v → t v < t (dat l k).y + l.length)
  recent : ∀ k, k < l.length → ∀ τ, τ < now → now ≤ τ + l.length → τ % l.length = k → val s.x (dat l k).x ≤ val s.x (dat l k).y + (dat l k).c ∨ τ + 1 < t (dat l k).y

theorem inv_zero (l : List D) (n : Nat) : Inv l n (zero n) (fun _ => 0) 0 where
  lx := by simp [zero]
  lr := by simp [zero]
  le := fun _ => Nat.le_refl _
  inj := fun _ _ h => absurd h (by omega)
  none := fun v h0 h1 _ => by
    rw [val, List.getD, zero]
    simp only
    rw [List.getElem?_replicate, if_pos (by omega)]
    rfl
  some := fun _ _ _ h => absurd h (by omega)
  recent := fun _ _ τ h => absurd h (by omega)

theorem inv_step {l : List D} {n : Nat} (hok : Ok l n) (hap : Apart l) {s : St} {t : Int → Nat} {now : Nat} (h : Inv l n s t now) (k : Nat) (hk : k < l.length) (hnow : now % l.length = k) :
    ∃ t', Inv l n (step l k s) t' (now + 1) ∧ (∀ v, t v ≤ t' v) ∧ ((step l k s).low = s.low ∨ (0 ≤ (step l k s).low ∧ (step l k s).low < n ∧ t' (step l k s).low = now + 1)) := by
  have hd := hok.dat hk
  have hne := hap.dat hk
  cases ha : asks l k s with
  | false =>
    have hs : step l k s = s := by unfold step; rw [if_neg (by simp [ha])]
    rw [hs]
    simp only [asks, decide_eq_false_iff_not] at ha
    refine ⟨t, { h with le := fun v => by have := h.le v; omega, recent := ?_ }, fun _ => Nat.le_refl _, .inl rfl⟩
    intro k' hk' τ h1 h2 h3
    rcases Nat.lt_or_ge τ now with h4 | h4
    · exact h.recent k' hk' τ h4 (by omega) h3
    · obtain rfl : τ = now := by omega
      obtain rfl : k = k' := by omega
      exact .inl (by omega)
  | true =>
    have hs : step l k s = ⟨s.x.set (dat l k).x.toNat (val s.x (dat l k).y + (dat l k).c), s.r.set (dat l k).x.toNat k, (dat l k).x⟩ := by unfold step; rw [if_pos ha]
    rw [hs]
    simp only [asks, decide_eq_true_eq] at ha
    have hlx := h.lx
    have hlr := h.lr
    generalize hv0 : (dat l k).x = v0 at *
    generalize hu0 : (dat l k).y = u0 at *
    generalize hc0 : (dat l k).c = c0 at *
    have vx : ∀ j, 0 ≤ j → val (s.x.set v0.toNat (val s.x u0 + c0)) j = if j = v0 then val s.x u0 + c0 else val s.x j := fun j hj => val_set _ _ _ _ (by omega) hj
    have vr : ∀ j, 0 ≤ j → val (s.r.set v0.toNat (k : Int)) j = if j = v0 then (k : Int) else val s.r j := fun j hj => val_set _ _ _ _ (by omega) hj
    refine ⟨fun v => if v = v0 then now + 1 else t v, ?_, ?_, ?_⟩
    · constructor
      · simpa using hlx
      · simpa using hlr
      · intro v
        have := h.le v
        try dsimp only
        split <;> omega
      · intro u v h1 h2
        have hu := h.le u
        have hv := h.le v
        try dsimp only at h1 h2
        by_cases e1 : u = v0 <;> by_cases e2 : v = v0 <;> simp only [e1, e2, if_true, if_false] at h1 h2 ⊢
        · omega
        · omega
        · exact h.inj u v h1 h2
      · intro v h1 h2 h3
        try dsimp only at h3
        have e1 : v ≠ v0 := by rintro rfl; simp at h3
        rw [if_neg e1] at h3
        show val (s.r.set v0.toNat (k : Int)) v = -1
        rw [vr v h1, if_neg e1]
        exact h.none v h1 h2 h3
      · intro v h1 h2 h3
        try dsimp only
        try dsimp only at h3
        by_cases e1 : v = v0
        · subst e1
          refine ⟨k, hk, ?_, hv0, ?_, ?_, ?_⟩
          · rw [vr v h1, if_pos rfl]
          · intro _
            rw [hu0, hc0, vx v h1, vx u0 (by omega), if_pos rfl, if_neg (Ne.symm hne)]
          · rw [hu0, if_pos rfl, if_neg (Ne.symm hne)]
            have := h.le u0
            intro; omega
          · rw [hu0, if_pos rfl, if_neg (Ne.symm hne)]
            intro hm
            have hmod : (now - l.length) % l.length = k := by
              rw [← hnow]
              conv => rhs; rw [show now = (now - l.length) + l.length by omega, Nat.add_mod_right]
            rcases h.recent k hk (now - l.length) (by omega) (by omega) hmod with h5 | h5
            · rw [hv0, hu0, hc0] at h5; omega
            · rw [hu0] at h5; omega
        · rw [if_neg e1] at h3 ⊢
          obtain ⟨k', hk', hr, hx, h4, h5, h6⟩ := h.some v h1 h2 h3
          have hd' := hok.dat hk'
          refine ⟨k', hk', by rw [vr v h1, if_neg e1]; exact hr, hx, ?_⟩
          rw [vx v h1, if_neg e1, vx _ (by omega)]
          by_cases e2 : (dat l k').y = v0
          · rw [if_pos e2, if_pos e2]
            have h7 := h.le v
            rw [e2] at h4 h5
            refine ⟨fun _ => by omega, fun _ => ?_, fun _ => by omega⟩
            rcases Nat.lt_trichotomy (t v0) (t v) with h8 | h8 | h8
            · have := h4 h8; omega
            · exact absurd (h.inj v0 v (by omega) h8).symm e1
            · have := h5 h8; omega
          · rw [if_neg e2, if_neg e2]
            exact ⟨h4, h5, h6⟩
      · intro k' hk' τ h1 h2 h3
        try dsimp only
        have hd' := hok.dat hk'
        rw [vx _ (by omega), vx _ (by omega)]
        rcases Nat.lt_or_ge τ now with h4 | h4
        · by_cases e2 : (dat l k').y = v0
          · rw [if_pos e2, if_pos e2]
            exact .inr (by omega)
          · rw [if_neg e2, if_neg e2]
            rcases h.recent k' hk' τ h4 (by omega) h3 with h5 | h5
            · refine .inl ?_
              split
              · rename_i e3; rw [e3] at h5; omega
              · exact h5
            · exact .inr h5
        · obtain rfl : τ = now := by omega
          obtain rfl : k = k' := by omega
          refine .inl ?_
          rw [hv0, hu0, hc0, if_pos rfl, if_neg (Ne.symm hne)]
          omega
    · intro v
      have := h.le v
      try dsimp only
      split <;> omega
    · exact .inr ⟨by show 0 ≤ v0; omega, by show v0 < n; omega, by show (if v0 = v0 then now + 1 else t v0) = now + 1; rw [if_pos rfl]⟩
end Go.Proofs.Ytdcgebafmceajaa
