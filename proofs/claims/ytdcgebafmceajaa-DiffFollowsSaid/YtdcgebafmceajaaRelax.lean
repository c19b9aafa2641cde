/- Plain: the rounds of the relaxation. -/
import Derived.Test.YtdcgebafmceajaaCyc
namespace Go.Proofs.Ytdcgebafmceajaa

/-- The values, the reasons, and what was lowered last. -/
structure St where
  x : List Int
  r : List Int
  low : Int

def dat (l : List D) (k : Nat) : D := l.getD k default
def val (x : List Int) (i : Int) : Int := x.getD i.toNat 0
/-- Constraint k asks for a lower value. -/
def asks (l : List D) (k : Nat) (s : St) : Bool := decide (val s.x (dat l k).y + (dat l k).c < val s.x (dat l k).x)
def step (l : List D) (k : Nat) (s : St) : St :=
  if asks l k s then ⟨s.x.set (dat l k).x.toNat (val s.x (dat l k).y + (dat l k).c), s.r.set (dat l k).x.toNat k, (dat l k).x⟩ else s
/-- The first k constraints. -/
def steps (l : List D) : Nat → St → St
  | 0, s => s
  | k + 1, s => step l k (steps l k s)
def zero (n : Nat) : St := ⟨List.replicate n 0, List.replicate n (-1), -1⟩
def fresh (s : St) : St := { s with low := -1 }
/-- The state behind j rounds. -/
def after (l : List D) (n : Nat) : Nat → St
  | 0 => zero n
  | j + 1 => steps l l.length (fresh (after l n j))

/-- Constraints between variables below n, with small bounds. -/
def Ok (l : List D) (n : Nat) : Prop := ∀ d ∈ l, ((0 ≤ d.x ∧ d.x < n) ∧ 0 ≤ d.y ∧ d.y < n) ∧ -1048577 ≤ d.c ∧ d.c ≤ 1048577

theorem dat_eq (l : List D) (k : Nat) (h : k < l.length) : dat l k = l[k] := by simp [dat, List.getD, h]
theorem Ok.dat {l : List D} {n : Nat} (h : Ok l n) {k : Nat} (hk : k < l.length) : ((0 ≤ (Ytdcgebafmceajaa.dat l k).x ∧ (Ytdcgebafmceajaa.dat l k).x < n) ∧ 0 ≤ (Ytdcgebafmceajaa.dat l k).y ∧ (Ytdcgebafmceajaa.dat l k).y < n) ∧ -1048577 ≤ (Ytdcgebafmceajaa.dat l k).c ∧ (Ytdcgebafmceajaa.dat l k).c ≤ 1048577 := by
  rw [dat_eq l k hk]; exact h _ (List.getElem_mem hk)

theorem step_len (l : List D) (k : Nat) (s : St) : (step l k s).x.length = s.x.length ∧ (step l k s).r.length = s.r.length := by
  unfold step; split <;> simp
theorem steps_len (l : List D) (k : Nat) (s : St) : (steps l k s).x.length = s.x.length ∧ (steps l k s).r.length = s.r.length := by
  induction k with
  | zero => exact ⟨rfl, rfl⟩
  | succ k ih => have := step_len l k (steps l k s); simp only [steps]; omega
theorem after_len (l : List D) (n j : Nat) : (after l n j).x.length = n ∧ (after l n j).r.length = n := by
  induction j with
  | zero => simp [after, zero]
  | succ j ih => have := steps_len l l.length (fresh (after l n j)); simp only [after]; simp only [fresh] at *; omega

def Bd (t : Nat) (x : List Int) : Prop := ∀ v ∈ x, -(t * 1048577 : Int) ≤ v ∧ v ≤ 0
theorem Bd.val {t : Nat} {x : List Int} (h : Bd t x) (i : Int) : -(t * 1048577 : Int) ≤ val x i ∧ Ytdcgebafmceajaa.val x i ≤ 0 := by
  unfold Ytdcgebafmceajaa.val
  rw [List.getD]
  cases hx : x[i.toNat]? with
  | none => simp; omega
  | some v => exact h v (List.mem_of_getElem? hx)
theorem Bd.step {t : Nat} {l : List D} {n : Nat} (hok : Ok l n) {k : Nat} (hk : k < l.length) {s : St} (h : Bd t s.x) : Bd (t + 1) (step l k s).x := by
  have hd := hok.dat hk
  unfold Ytdcgebafmceajaa.step
  split
  · rename_i ha
    simp only [asks, decide_eq_true_eq] at ha
    have h1 := h.val (dat l k).y
    have h2 := h.val (dat l k).x
    intro v hv
    rcases List.mem_or_eq_of_mem_set hv with hv | rfl
    · have := h v hv; omega
    · omega
  · intro v hv
    have := h v hv
    omega
theorem Bd.steps {t : Nat} {l : List D} {n : Nat} (hok : Ok l n) {k : Nat} (hk : k ≤ l.length) {s : St} (h : Bd t s.x) : Bd (t + k) (steps l k s).x := by
  induction k with
  | zero => exact h
  | succ k ih => exact Bd.step hok (by omega) (ih (by omega))
theorem Bd.mono {t t' : Nat} {x : List Int} (h : Bd t x) (ht : t ≤ t') : Bd t' x := fun v hv => by have := h v hv; omega
theorem bd_after {l : List D} {n : Nat} (hok : Ok l n) (j : Nat) : Bd (j * l.length) (after l n j).x := by
  induction j with
  | zero =>
    intro v hv
    simp only [after, zero] at hv
    have := List.eq_of_mem_replicate hv
    omega
  | succ j ih => rw [Nat.succ_mul]; exact Bd.steps hok (Nat.le_refl _) ih

/-- Where a round lowers nothing the next one does not either. -/
theorem step_low {l : List D} {n : Nat} (hok : Ok l n) {k : Nat} (hk : k < l.length) {s : St} (h : (step l k s).low < 0) : step l k s = s := by
  have hd := hok.dat hk
  unfold step at *
  split at h
  · simp only at h; omega
  · rename_i ha; rw [if_neg ha]
theorem steps_low {l : List D} {n : Nat} (hok : Ok l n) {k : Nat} (hk : k ≤ l.length) {s : St} (h : (steps l k s).low < 0) : ∀ i, i ≤ k → steps l i s = s := by
  induction k with
  | zero => intro i hi; obtain rfl : i = 0 := (by omega); rfl
  | succ k ih =>
    intro i hi
    have h1 := step_low hok (by omega) h
    have h2 : (steps l k s).low < 0 := by simp only [steps] at h; rw [h1] at h; exact h
    rcases Nat.lt_or_ge k i with hki | hki
    · obtain rfl : i = k + 1 := by omega
      show step l k (steps l k s) = s
      rw [h1]
      exact ih (by omega) h2 k (Nat.le_refl _)
    · exact ih (by omega) h2 i hki
theorem after_fix {l : List D} {n : Nat} (hok : Ok l n) {j : Nat} (hj : 0 < j) (h : (after l n j).low < 0) : ∀ m, j ≤ m → after l n m = after l n j := by
  obtain ⟨j, rfl⟩ : ∃ i, j = i + 1 := ⟨j - 1, by omega⟩
  have h1 := steps_low hok (Nat.le_refl _) (s := fresh (after l n j)) h l.length (Nat.le_refl _)
  have h2 : after l n (j + 1) = fresh (after l n j) := h1
  intro m hm
  induction m with
  | zero => omega
  | succ m ih =>
    rcases Nat.lt_or_ge j m with hjm | hjm
    · have := ih (by omega)
      show steps l l.length (fresh (after l n m)) = _
      rw [this, h2]
      exact h1
    · obtain rfl : m = j := by omega
      rfl
theorem asks_false {l : List D} {n : Nat} (hok : Ok l n) {s : St} (h : (steps l l.length s).low < 0) (k : Nat) (hk : k < l.length) : asks l k s = false := by
  have h1 := steps_low hok (Nat.le_refl _) h k (by omega)
  have h2 := steps_low hok (Nat.le_refl _) h (k + 1) (by omega)
  have hd := hok.dat hk
  cases ha : asks l k s with
  | false => rfl
  | true =>
    exfalso
    have h3 := steps_low hok (Nat.le_refl _) h l.length (Nat.le_refl _)
    have h4 : s.low < 0 := by rw [h3] at h; exact h
    simp only [steps, h1, step, ha, if_true] at h2
    have := congrArg St.low h2
    simp only at this
    omega
end Go.Proofs.Ytdcgebafmceajaa
