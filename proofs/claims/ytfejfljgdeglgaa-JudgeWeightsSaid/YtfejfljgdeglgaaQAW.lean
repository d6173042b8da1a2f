/- Plain: the laws JudgeAfters and JudgeWeights say true at every input. -/
import Derived.Test.YtfejfljgdeglgaaQK
import Derived.Test.YtfejfljgdeglgaaK11
import Derived.Test.YtfejfljgdeglgaaK12
namespace Go.Proofs.Ytfejfljgdeglgaa.K
open Go.RowKit Go.Proofs.YtfejfljgdeglgaaW.PrintWords Go.Proofs.YtfejfljgdeglgaaW.PrintLast Go.Proofs.YtfejfljgdeglgaaW.PrintMore
set_option linter.unusedVariables false
set_option linter.unusedSimpArgs false
theorem Pure.JudgeAfters (a b x y : Int) (yes : Bool) (wa : (Lit.int .i64 a).wf = true) (wb : (Lit.int .i64 b).wf = true) (wx : (Lit.int .i64 x).wf = true) (wy : (Lit.int .i64 y).wf = true) : ∃ k, verditerlaw02_JudgeAfters.f k a b x y yes = some true := by
  refine ⟨40, ?_⟩
  unfold verditerlaw02_JudgeAfters.f
  rw [rafter, jafter]
  simp only [Option.bind_some, if_true, known_40]
  by_cases h1 : St a b 0
  · by_cases h2 : 0 ≤ x ∧ x ≤ a ∧ 0 ≤ y ∧ y ≤ b
    · have h3 := h1
      unfold St at h3
      cases yes
      · have e : afterV a b x y false = (a - x, b - y + x, 0) := by unfold afterV; rw [if_pos h1, if_pos h2, if_neg (by decide)]
        rw [e]
        simp only [if_true]
        rw [if_pos (by omega), if_pos (by omega), wid (x := a - x + (b - y + x)) (by omega) (by omega), wid (x := a + b) (by omega) (by omega), if_pos (by omega)]
      · have e : afterV a b x y true = (x, y + a - x, 0) := by unfold afterV; rw [if_pos h1, if_pos h2, if_pos rfl]
        rw [e]
        simp only [if_true]
        rw [if_pos (by omega), if_pos (by omega), wid (x := x + (y + a - x)) (by omega) (by omega), wid (x := a + b) (by omega) (by omega), if_pos (by omega)]
    · have e : afterV a b x y yes = (0, 0, 8) := by unfold afterV; rw [if_pos h1, if_neg h2]
      rw [e, if_neg (by decide)]
  · have e : afterV a b x y yes = (0, 0, 1) := by unfold afterV; rw [if_neg h1]
    rw [e, if_neg (by decide)]
theorem weight_sum (a b x y q : Int) : x * q + (y + a - x) + ((a - x) * q + (b - y + x)) = a * (q + 1) + b := by
  rw [Int.sub_mul, Int.mul_add]
  omega
theorem Pure.JudgeWeights (a b x y : Int) (yes : Bool) (q : Int) (wa : (Lit.int .i64 a).wf = true) (wb : (Lit.int .i64 b).wf = true) (wx : (Lit.int .i64 x).wf = true) (wy : (Lit.int .i64 y).wf = true) (wq : (Lit.int .i64 q).wf = true) : ∃ k, verditerlaw02_JudgeWeights.f k a b x y yes q = some true := by
  refine ⟨40 + 1 + 1, ?_⟩
  unfold verditerlaw02_JudgeWeights.f
  rw [rweight, jweight]
  simp only [Option.bind_some, if_true, bne_self_eq_false]
  rw [verditerlaw02_JudgeWeights.j0]
  rw [jafter, jafter]
  simp only [Option.bind_some, Bool.false_eq_true, if_false]
  have known (u1 u2 u3 u4 u5 u6 : Int) : verditerlaw02_JudgeWeights.j1 (40 + 1) u1 u2 u3 u4 u5 u6 true = some true := by
    rw [verditerlaw02_JudgeWeights.j1]
    simp only [if_true, known_40, Option.bind_some]
  by_cases h0 : (weightV a b q).2 = 0
  · have hs : St a b q := by
      unfold weightV at h0
      by_cases h : St a b q
      · exact h
      · rw [if_neg h] at h0; exact absurd h0 (by decide)
    rw [if_pos h0]
    have hs2 := hs
    unfold St at hs2
    have hs0 : St a b 0 := by unfold St; omega
    by_cases h2 : 0 ≤ x ∧ x ≤ a ∧ 0 ≤ y ∧ y ≤ b
    · have e1 : afterV a b x y true = (x, y + a - x, 0) := by unfold afterV; rw [if_pos hs0, if_pos h2, if_pos rfl]
      have e2 : afterV a b x y false = (a - x, b - y + x, 0) := by unfold afterV; rw [if_pos hs0, if_pos h2, if_neg (by decide)]
      rw [e1, e2]
      simp only [if_true]
      by_cases hq : q = 0
      · rw [if_pos hq, known]
      · rw [if_neg hq]
        by_cases hd : y + a - x > 16
        · rw [if_pos hd, known]
        · rw [if_neg hd]
          by_cases hn : b - y + x > 16
          · rw [decide_eq_true hn, known]
          · rw [decide_eq_false hn]
            rw [verditerlaw02_JudgeWeights.j1]
            rw [wid (x := q - 1) (by omega) (by omega), jweight, jweight]
            have w1 : weightV x (y + a - x) (q - 1) = (x * q + (y + a - x), 0) := by
              unfold weightV; rw [if_pos (by unfold St; omega), show q - 1 + 1 = q by omega]
            have w2 : weightV (a - x) (b - y + x) (q - 1) = ((a - x) * q + (b - y + x), 0) := by
              unfold weightV; rw [if_pos (by unfold St; omega), show q - 1 + 1 = q by omega]
            have w3 : weightV a b q = (a * (q + 1) + b, 0) := by unfold weightV; rw [if_pos hs]
            obtain ⟨m1, m2⟩ := mul_le ⟨hs.1, hs.2.1⟩ ⟨hs.2.2.2.2.1, hs.2.2.2.2.2⟩
            rw [w1, w2, w3]
            simp only [Option.bind_some, Bool.false_eq_true, if_false, if_true]
            rw [weight_sum, wid (by omega) (by omega), if_pos rfl, known_40]
            rfl
    · have e1 : ∀ yes, (afterV a b x y yes).2.2 = 8 := by intro yes; unfold afterV; rw [if_pos hs0, if_neg h2]
      rw [if_neg (by rw [e1]; decide), known]
  · rw [if_neg h0, known]
end Go.Proofs.Ytfejfljgdeglgaa.K
