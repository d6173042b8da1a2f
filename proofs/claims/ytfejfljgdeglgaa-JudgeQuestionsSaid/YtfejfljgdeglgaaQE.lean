/- Plain: when so many questions are enough for a state: what judge's solver answers, and that more are enough, too. -/
import Derived.Test.YtfejfljgdeglgaaHS
namespace Go.Proofs.Ytfejfljgdeglgaa.K
set_option linter.unusedVariables false
set_option linter.unusedSimpArgs false

/-- q questions are enough for the state (a, b). -/
def En : Nat → Nat → Nat → Prop
  | 0, a, b => a + b ≤ 1
  | q + 1, a, b => En q a b ∨ ∃ x y, x ≤ a ∧ y ≤ b ∧ En q x (y + a - x) ∧ En q (a - x) (b - y + x)
theorem En.weight : ∀ {q a b : Nat}, En q a b → a * (q + 1) + b ≤ 2 ^ q
  | 0, a, b, h => by simp only [En] at h; simp; omega
  | q + 1, a, b, h => by
    rcases h with h | ⟨x, y, hx, hy, h1, h2⟩
    · have := En.weight h
      have e : a * (q + 1 + 1) = a * (q + 1) + a := by rw [Nat.mul_succ]
      have e2 : 2 ^ (q + 1) = 2 ^ q + 2 ^ q := by rw [Nat.pow_succ]; omega
      have e3 : a ≤ a * (q + 1) := Nat.le_mul_of_pos_right a (by omega)
      omega
    · have i1 := En.weight h1
      have i2 := En.weight h2
      have e2 : 2 ^ (q + 1) = 2 ^ q + 2 ^ q := by rw [Nat.pow_succ]; omega
      have e : a * (q + 1 + 1) = a * (q + 1) + a := by rw [Nat.mul_succ]
      have e4 : x * (q + 1) + (a - x) * (q + 1) = a * (q + 1) := by rw [← Nat.add_mul]; congr 1; omega
      omega
theorem En.mono : ∀ {q a b a' b' : Nat}, En q a b → a' ≤ a → a' + b' ≤ a + b → En q a' b'
  | 0, a, b, a', b', h, h1, h2 => by simp only [En] at h ⊢; omega
  | q + 1, a, b, a', b', h, h1, h2 => by
    rcases h with h | ⟨x, y, hx, hy, e1, e2⟩
    · exact .inl (h.mono h1 h2)
    · exact .inr ⟨min x a', min b' (y + a - a'), by omega, by omega, e1.mono (by omega) (by omega), e2.mono (by omega) (by omega)⟩
theorem En.more {q a b : Nat} (h : En q a b) : En (q + 1) a b := .inl h
theorem En.le {q q' a b : Nat} (h : En q a b) (hq : q ≤ q') : En q' a b := by
  induction hq with
  | refl => exact h
  | step _ ih => exact ih.more
theorem En.small {q a b : Nat} (h : a + b ≤ 1) : En q a b := En.le (q := 0) h (by omega)
theorem firstY_spec (t : Nat → Bool) : ∀ m y, match firstY t m y with
    | some k => y ≤ k ∧ k < y + m ∧ t k = true ∧ ∀ j, y ≤ j → j < k → t j = false
    | none => ∀ j, y ≤ j → j < y + m → t j = false
  | 0, y => by simp only [firstY]; intro j h1 h2; omega
  | m + 1, y => by
    have ih := firstY_spec t m (y + 1)
    unfold firstY
    by_cases h : t y = true
    · simp only [h, if_true]
      exact ⟨by omega, by omega, trivial, fun j h1 h2 => by omega⟩
    · simp only [h, if_false]
      have h' : t y = false := by simpa using h
      cases hf : firstY t m (y + 1) with
      | none =>
        rw [hf] at ih
        intro j h1 h2
        by_cases hj : j = y
        · rw [hj]; exact h'
        · exact ih j (by omega) (by omega)
      | some k =>
        rw [hf] at ih
        obtain ⟨i1, i2, i3, i4⟩ := ih
        refine ⟨by omega, by omega, i3, fun j h1 h2 => ?_⟩
        by_cases hj : j = y
        · rw [hj]; exact h'
        · exact i4 j (by omega) h2
theorem firstX_spec (t : Nat → Nat → Bool) (b : Nat) : ∀ m x, match firstX t b m x with
    | some (u, v) => x ≤ u ∧ u < x + m ∧ v ≤ b ∧ t u v = true
    | none => ∀ i j, x ≤ i → i < x + m → j ≤ b → t i j = false
  | 0, x => by simp only [firstX]; intro i j h1 h2; omega
  | m + 1, x => by
    have ih := firstX_spec t b m (x + 1)
    have hy := firstY_spec (t x) (b + 1) 0
    unfold firstX
    cases hf : firstY (t x) (b + 1) 0 with
    | some y =>
      rw [hf] at hy
      exact ⟨by omega, by omega, by omega, hy.2.2.1⟩
    | none =>
      rw [hf] at hy
      simp only
      cases hg : firstX t b m (x + 1) with
      | none =>
        rw [hg] at ih
        intro i j h1 h2 h3
        by_cases hi : i = x
        · rw [hi]; exact hy j (by omega) (by omega)
        · exact ih i j (by omega) (by omega) h3
      | some p =>
        obtain ⟨u, v⟩ := p
        rw [hg] at ih
        exact ⟨by omega, by omega, ih.2.2.1, ih.2.2.2⟩
/-- The solver's answer tells whether so many questions are enough. -/
theorem solveP_ok : ∀ q a b, (solveP q a b).2.2 = true ↔ En q a b
  | 0, a, b => by simp [solveP, En]
  | q + 1, a, b => by
    unfold solveP
    by_cases h1 : a + b ≤ 1
    · simp only [h1, if_true, true_iff]; exact En.small h1
    · by_cases h2 : 2 ^ (q + 1) < a * (q + 2) + b
      · simp only [h1, h2, if_true, if_false, Bool.false_eq_true, false_iff]
        intro h
        exact absurd h2 (Nat.not_lt.2 h.weight)
      · simp only [h1, h2, if_false]
        have hs := firstX_spec (fun x y => (solveP q x (y + a - x)).2.2 && (solveP q (a - x) (b - y + x)).2.2) b (a + 1) 0
        cases hf : firstX (fun x y => (solveP q x (y + a - x)).2.2 && (solveP q (a - x) (b - y + x)).2.2) b (a + 1) 0 with
        | some p =>
          obtain ⟨x, y⟩ := p
          rw [hf] at hs
          obtain ⟨_, s2, s3, s4⟩ := hs
          rw [Bool.and_eq_true] at s4
          exact ⟨fun _ => .inr ⟨x, y, by omega, s3, (solveP_ok q _ _).1 s4.1, (solveP_ok q _ _).1 s4.2⟩, fun _ => rfl⟩
        | none =>
          rw [hf] at hs
          simp only [Bool.false_eq_true, false_iff]
          intro h
          have key : ∃ x y, x ≤ a ∧ y ≤ b ∧ En q x (y + a - x) ∧ En q (a - x) (b - y + x) := by
            rcases h with h | h
            · exact ⟨0, 0, by omega, by omega, h.mono (by omega) (by omega), h.mono (by omega) (by omega)⟩
            · exact h
          obtain ⟨x, y, hx, hy, e1, e2⟩ := key
          have := hs x y (by omega) (by omega) hy
          rw [(solveP_ok q _ _).2 e1, (solveP_ok q _ _).2 e2] at this
          cases this
/-- What is returned where questions are enough and several grades are there, is a question. -/
theorem solveP_question {q a b : Nat} (h : (solveP (q + 1) a b).2.2 = true) (h1 : ¬ a + b ≤ 1) :
    (solveP (q + 1) a b).1 ≤ a ∧ (solveP (q + 1) a b).2.1 ≤ b ∧ En q (solveP (q + 1) a b).1 ((solveP (q + 1) a b).2.1 + a - (solveP (q + 1) a b).1) ∧ En q (a - (solveP (q + 1) a b).1) (b - (solveP (q + 1) a b).2.1 + (solveP (q + 1) a b).1) := by
  unfold solveP at h ⊢
  simp only [h1, if_false] at h ⊢
  by_cases h2 : 2 ^ (q + 1) < a * (q + 2) + b
  · simp only [h2, if_true] at h; cases h
  · simp only [h2, if_false] at h ⊢
    have hs := firstX_spec (fun x y => (solveP q x (y + a - x)).2.2 && (solveP q (a - x) (b - y + x)).2.2) b (a + 1) 0
    cases hf : firstX (fun x y => (solveP q x (y + a - x)).2.2 && (solveP q (a - x) (b - y + x)).2.2) b (a + 1) 0 with
    | some p =>
      obtain ⟨x, y⟩ := p
      rw [hf] at hs
      obtain ⟨_, s2, s3, s4⟩ := hs
      rw [Bool.and_eq_true] at s4
      exact ⟨by simp only; omega, s3, (solveP_ok q _ _).1 s4.1, (solveP_ok q _ _).1 s4.2⟩
    | none => rw [hf] at h; cases h
theorem solveP_no {q a b : Nat} (h : (solveP q a b).2.2 = false) : (solveP q a b).1 = 0 ∧ (solveP q a b).2.1 = 0 := by
  cases q with
  | zero => exact ⟨rfl, rfl⟩
  | succ q =>
    unfold solveP at h ⊢
    split
    · exact ⟨rfl, rfl⟩
    · split
      · exact ⟨rfl, rfl⟩
      · rename_i h1 h2
        simp only [h1, h2, if_false] at h
        split
        · rename_i hf; rw [hf] at h; cases h
        · exact ⟨rfl, rfl⟩
/-- Twelve questions are enough for every state. -/
theorem En.twelve {a b : Nat} (ha : a ≤ 16) (hb : b ≤ 16) : En 12 a b := by
  have k0 : En 0 0 1 := by simp [En]
  have k0' : En 0 1 0 := by simp [En]
  have k1 : En 1 0 2 := .inr ⟨0, 1, by omega, by omega, k0.mono (by omega) (by omega), k0.mono (by omega) (by omega)⟩
  have k2 : En 2 0 4 := .inr ⟨0, 2, by omega, by omega, k1.mono (by omega) (by omega), k1.mono (by omega) (by omega)⟩
  have j2 : En 2 1 1 := .inr ⟨0, 1, by omega, by omega, k1.mono (by omega) (by omega), (En.small (by omega))⟩
  have j3 : En 3 1 2 := .inr ⟨0, 1, by omega, by omega, (k1.more).mono (by omega) (by omega), j2.mono (by omega) (by omega)⟩
  have j4 : En 4 1 5 := .inr ⟨0, 3, by omega, by omega, (k2.more).mono (by omega) (by omega), j3.mono (by omega) (by omega)⟩
  have j5 : En 5 2 8 := .inr ⟨1, 4, by omega, by omega, j4.mono (by omega) (by omega), j4.mono (by omega) (by omega)⟩
  have j6 : En 6 4 12 := .inr ⟨2, 6, by omega, by omega, j5.mono (by omega) (by omega), j5.mono (by omega) (by omega)⟩
  have j7 : En 7 8 16 := .inr ⟨4, 8, by omega, by omega, j6.mono (by omega) (by omega), j6.mono (by omega) (by omega)⟩
  have j8 : En 8 16 16 := .inr ⟨8, 8, by omega, by omega, j7.mono (by omega) (by omega), j7.mono (by omega) (by omega)⟩
  exact (j8.le (by omega)).mono ha (by omega)
end Go.Proofs.Ytfejfljgdeglgaa.K
