/- Plain: the law JudgeStates says true at every input. -/
import Derived.Test.YtfejfljgdeglgaaQL
import Derived.Test.YtfejfljgdeglgaaK10
namespace Go.Proofs.Ytfejfljgdeglgaa.K
open Go.RowKit Go.Proofs.YtfejfljgdeglgaaW.PrintWords Go.Proofs.YtfejfljgdeglgaaW.PrintLast Go.Proofs.YtfejfljgdeglgaaW.PrintMore
set_option linter.unusedVariables false
theorem Pure.JudgeStates (g : Int) (l : List S49) (wg : (Lit.int .i64 g).wf = true) (wl : ∀ s ∈ l, ∀ z ∈ s.f0, (Lit.int .i64 z).wf = true) : ∃ k, verditerlaw02_judgeStates.f k g l = some true := by
  refine ⟨500 + 1, ?_⟩
  unfold verditerlaw02_judgeStates.f
  rcases long_ok l (500 + 1) (by omega) with h | ⟨h, hs⟩
  · rw [h, Option.bind_some, if_pos rfl, known_ok (by omega)]; rfl
  · rw [h, Option.bind_some, if_neg (by decide), rState g l hs _ (by omega), jState g l hs _ (by omega)]
    simp only [Option.bind_some, if_true, bne_self_eq_false]
    rw [verditerlaw02_judgeStates.j0, if_neg (by decide)]
    by_cases hv : validV g l = 0
    · have e : stateV g l = ((((leftL l g.toNat 0).length : Nat) : Int), (((oneL l g.toNat).length : Nat) : Int), (0 : Int)) := by unfold stateV; rw [if_pos hv]
      have e0 : leftV g l 0 = (leftL l g.toNat 0, 0) := by unfold leftV; rw [if_pos hv, if_pos (by omega)]
      have e1 : leftV g l 1 = (leftL l g.toNat 1, 0) := by unfold leftV; rw [if_pos hv, if_pos (by omega)]
      have h6 := left_sum l g.toNat
      have h7 := leftL_length l g.toNat 1
      obtain ⟨h1, h2, h3⟩ := valid_of hv
      rw [jLeft g l hs _ _ (by omega), jLeft g l hs _ _ (by omega), e, e0, e1]
      simp only [Option.bind_some, if_true]
      rw [wid (by omega) (by omega), if_pos (by omega), known_ok (by omega)]
      rfl
    · have e : stateV g l = (0, 0, validV g l) := by unfold stateV; rw [if_neg hv]
      rw [e, if_neg hv, known_ok (by omega)]
      rfl
end Go.Proofs.Ytfejfljgdeglgaa.K
