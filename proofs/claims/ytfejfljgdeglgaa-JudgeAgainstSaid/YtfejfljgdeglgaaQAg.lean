/- Plain: the law JudgeAgainst says true at every input. -/
import Derived.Test.YtfejfljgdeglgaaQR
import Derived.Test.YtfejfljgdeglgaaK6
namespace Go.Proofs.Ytfejfljgdeglgaa.K
open Go.RowKit Go.Proofs.YtfejfljgdeglgaaW.PrintWords Go.Proofs.YtfejfljgdeglgaaW.PrintLast Go.Proofs.YtfejfljgdeglgaaW.PrintMore
set_option linter.unusedVariables false
theorem Pure.JudgeAgainst (g : Int) (l : List S49) (wg : (Lit.int .i64 g).wf = true) (wl : ∀ s ∈ l, ∀ z ∈ s.f0, (Lit.int .i64 z).wf = true) : ∃ k, verditerlaw02_judgeAgainst.f k g l = some true := by
  refine ⟨500, ?_⟩
  unfold verditerlaw02_judgeAgainst.f
  rcases long_ok l 500 (by omega) with h | ⟨h, hs⟩
  · rw [h, Option.bind_some, if_pos rfl, known_ok (by omega)]; rfl
  · rw [h, Option.bind_some, if_neg (by decide), rAgainst g l hs _ (by omega), jAgainst g l hs _ (by omega), jvalid, rvalid g l _ (by omega)]
    simp only [Option.bind_some, if_true]
    rw [same_ok _ _ (by have := againstV_length g l; omega) (by have := againstV_length g l; omega), known_ok (by omega)]
    rfl
end Go.Proofs.Ytfejfljgdeglgaa.K
