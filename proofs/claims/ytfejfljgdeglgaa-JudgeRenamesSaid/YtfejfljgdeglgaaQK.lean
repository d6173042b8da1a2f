/- Plain: 'known' says true; what numbers, After and Weight answer. -/
import Derived.Test.YtfejfljgdeglgaaK1
import Derived.Test.YtfejfljgdeglgaaK2
import Derived.Test.YtfejfljgdeglgaaK3
import Derived.Test.YtfejfljgdeglgaaK5
import Derived.Test.YtfejfljgdeglgaaHI
namespace Go.Proofs.Ytfejfljgdeglgaa.K
open Go.RowKit Go.Proofs.YtfejfljgdeglgaaW.PrintWords Go.Proofs.YtfejfljgdeglgaaW.PrintLast Go.Proofs.YtfejfljgdeglgaaW.PrintMore
set_option linter.unusedVariables false
set_option linter.unusedSimpArgs false
set_option maxRecDepth 100000 in
theorem known_40 : verditerlaw02_known.f 40 = some true := by decide +kernel
theorem known_ok {k : Nat} (h : 40 ≤ k) : verditerlaw02_known.f k = some true := by
  induction h with
  | refl => exact known_40
  | step _ ih => exact verditerlaw02_known.mono _ _ ih
theorem known_add (k : Nat) : verditerlaw02_known.f (40 + k) = some true := known_ok (by omega)
theorem wid {x : Int} (h1 : -9223372036854775808 ≤ x) (h2 : x ≤ 9223372036854775807) : wrap64 x = x := by unfold wrap64; omega
/-- A state and a number of questions. -/
def St (a b q : Int) : Prop := 0 ≤ a ∧ a ≤ 16 ∧ 0 ≤ b ∧ b ≤ 16 ∧ 0 ≤ q ∧ q ≤ 12
instance (a b q : Int) : Decidable (St a b q) := by unfold St; infer_instance
theorem jnum (a b q : Int) : judge_numbers.f a b q = some (if St a b q then 0 else 1) := by
  unfold judge_numbers.f
  simp only [jwithin, Option.bind_some, decide_eq_true_eq]
  by_cases h1 : 0 ≤ a ∧ a ≤ 16
  · by_cases h2 : 0 ≤ b ∧ b ≤ 16
    · by_cases h3 : 0 ≤ q ∧ q ≤ 12
      · rw [if_pos h1, if_pos h2, if_pos h3, if_pos (by unfold St; omega)]
      · rw [if_pos h1, if_pos h2, if_neg h3, if_neg (by unfold St; omega)]
    · rw [if_pos h1, if_neg h2, if_neg (by unfold St; omega)]
  · rw [if_neg h1, if_neg (by unfold St; omega)]
theorem rnum (a b q : Int) : verditerref02_asked.f a b q = some (if St a b q then 0 else 1) := by
  unfold verditerref02_asked.f
  simp only [rwithin, Option.bind_some, decide_eq_true_eq]
  by_cases h1 : 0 ≤ a ∧ a ≤ 16
  · by_cases h2 : 0 ≤ b ∧ b ≤ 16
    · by_cases h3 : 0 ≤ q ∧ q ≤ 12
      · rw [if_pos h1, if_pos h2, if_pos h3, if_pos (by unfold St; omega)]
      · rw [if_pos h1, if_pos h2, if_neg h3, if_neg (by unfold St; omega)]
    · rw [if_pos h1, if_neg h2, if_neg (by unfold St; omega)]
  · rw [if_neg h1, if_neg (by unfold St; omega)]
/-- What After answers. -/
def afterV (a b x y : Int) (yes : Bool) : Int × Int × Int :=
  if St a b 0 then (if 0 ≤ x ∧ x ≤ a ∧ 0 ≤ y ∧ y ≤ b then (if yes = true then (x, y + a - x, 0) else (a - x, b - y + x, 0)) else (0, 0, 8)) else (0, 0, 1)
theorem rafter (a b x y : Int) (yes : Bool) : verditerref02_After.f a b x y yes = some (afterV a b x y yes) := by
  unfold verditerref02_After.f afterV
  rw [rnum]
  simp only [rwithin, Option.bind_some, decide_eq_true_eq]
  by_cases h1 : St a b 0
  · rw [if_pos h1, if_pos h1, if_pos rfl]
    unfold St at h1
    by_cases h2 : 0 ≤ x ∧ x ≤ a
    · by_cases h3 : 0 ≤ y ∧ y ≤ b
      · rw [if_pos h2, if_pos h3, if_pos (by omega)]
        unfold verditerref02_after.f
        rw [wid (x := y + a) (by omega) (by omega), wid (x := y + a - x) (by omega) (by omega), wid (x := a - x) (by omega) (by omega), wid (x := b - y) (by omega) (by omega), wid (x := b - y + x) (by omega) (by omega)]
        cases yes <;> rfl
      · rw [if_pos h2, if_neg h3, if_neg (by omega)]
    · rw [if_neg h2, if_neg (by omega)]
  · rw [if_neg h1, if_neg h1, if_neg (by decide)]
theorem jafter (a b x y : Int) (yes : Bool) : judge_After.f a b x y yes = some (afterV a b x y yes) := by
  unfold judge_After.f afterV
  rw [jnum]
  simp only [Option.bind_some]
  by_cases h1 : St a b 0
  · rw [if_pos h1, if_pos h1, if_pos rfl]
    unfold St at h1
    unfold judge_asked.f
    simp only [jwithin, Option.bind_some, decide_eq_true_eq]
    by_cases h2 : 0 ≤ x ∧ x ≤ a
    · by_cases h3 : 0 ≤ y ∧ y ≤ b
      · rw [if_pos h2, if_pos h3, if_pos (by omega)]
        unfold judge_state_after.f
        rw [wid (x := y + a) (by omega) (by omega), wid (x := y + a - x) (by omega) (by omega), wid (x := a - x) (by omega) (by omega), wid (x := b - y) (by omega) (by omega), wid (x := b - y + x) (by omega) (by omega)]
        cases yes <;> rfl
      · rw [if_pos h2, if_neg h3, if_neg (by omega)]; rfl
    · rw [if_neg h2, if_neg (by omega)]; rfl
  · rw [if_neg h1, if_neg h1, if_neg (by decide)]
/-- What Weight answers. -/
def weightV (a b q : Int) : Int × Int := if St a b q then (a * (q + 1) + b, 0) else (0, 1)
theorem mul_le {a q : Int} (h : 0 ≤ a ∧ a ≤ 16) (h2 : 0 ≤ q ∧ q ≤ 12) : 0 ≤ a * (q + 1) ∧ a * (q + 1) ≤ 208 := by
  constructor
  · exact Int.mul_nonneg h.1 (by omega)
  · have h3 := Int.mul_le_mul h.2 (show q + 1 ≤ 13 by omega) (by omega) (by omega)
    omega
theorem weight_some (a b q : Int) (h : St a b q) : wrap64 (wrap64 (a * wrap64 (q + 1)) + b) = a * (q + 1) + b := by
  unfold St at h
  obtain ⟨m1, m2⟩ := mul_le ⟨h.1, h.2.1⟩ ⟨h.2.2.2.2.1, h.2.2.2.2.2⟩
  rw [wid (x := q + 1) (by omega) (by omega), wid (x := a * (q + 1)) (by omega) (by omega), wid (by omega) (by omega)]
theorem jweight (a b q : Int) : judge_Weight.f a b q = some (weightV a b q) := by
  unfold judge_Weight.f weightV
  rw [jnum]
  simp only [Option.bind_some]
  by_cases h1 : St a b q
  · rw [if_pos h1, if_pos h1, if_pos rfl]
    unfold judge_state_weight.f
    rw [weight_some a b q h1]
    rfl
  · rw [if_neg h1, if_neg h1, if_neg (by decide)]
theorem rweight (a b q : Int) : verditerref02_Weight.f a b q = some (weightV a b q) := by
  unfold verditerref02_Weight.f weightV
  rw [rnum]
  simp only [Option.bind_some]
  by_cases h1 : St a b q
  · rw [if_pos h1, if_pos h1, if_pos rfl, weight_some a b q h1]
  · rw [if_neg h1, if_neg h1, if_neg (by decide)]
end Go.Proofs.Ytfejfljgdeglgaa.K
