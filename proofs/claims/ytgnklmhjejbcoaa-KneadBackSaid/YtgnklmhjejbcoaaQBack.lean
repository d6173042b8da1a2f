/- The pure statement of KneadBack: for all lists of whole numbers the law within it answers true. -/
import Derived.Test.YtgnklmhjejbcoaaQC
import Derived.Test.YtgnklmhjejbcoaaK14
namespace Go.Proofs.Ytgnklmhjejbcoaa.K
open Go.RowKit Go.Proofs.YtgnklmhjejbcoaaW.PrintWords Go.Proofs.YtgnklmhjejbcoaaW.PrintLast Go.Proofs.YtgnklmhjejbcoaaW.PrintMore
set_option linter.unusedVariables false
set_option linter.unusedSimpArgs false
namespace Pure
theorem KneadBack : verditerlaw07_kneadBack.Pure := by
  intro l _ _ _
  refine ⟨5000, ?_⟩
  unfold verditerlaw07_kneadBack.f
  rw [long_eq]
  simp only [Option.bind_some]
  by_cases hl : 100 < l.length
  · rw [if_pos (by simpa using hl), known_eq (by omega)]
    rfl
  · rw [if_neg (by simpa using hl), out_eq _ (by omega), in_eq _ (by omega)]
    rw [show (5000 : Nat) = 4999 + 1 from rfl]
    cases c : lumps l.length with
    | false =>
      simp only [verditerlaw07_kneadBack.j0, Option.bind_some, Bool.false_eq_true, if_false, if_true, show ¬ ((1 : Int) = 0) by decide, known_eq (show 100 ≤ 4999 by omega)]
    | true =>
      have hn := lumps_nat c
      have e : ∀ k, (foldL k l).length = l.length := fun k => foldL_length k l hn.2.2
      have b0 : unfoldL 0 (foldL 0 l) = l := unfolds_folds (w := [0]) (kinds_one (.inl rfl)) hn.2.2
      have b1 : unfoldL 1 (foldL 1 l) = l := unfolds_folds (w := [1]) (kinds_one (.inr rfl)) hn.2.2
      have u0 := unOut_eq (foldL 0 l) (by rw [e]; omega)
      have u1 := unIn_eq (foldL 1 l) (by rw [e]; omega)
      rw [e, c, b0] at u0
      rw [e, c, b1] at u1
      simp only [if_true] at u0 u1
      simp only [verditerlaw07_kneadBack.j0, Option.bind_some, if_true, u0, u1, bne_self_eq_false, Bool.false_eq_true, if_false]
      rw [same_eq _ _ _ (by omega) (by omega), known_eq (show 100 ≤ 4999 by omega)]
      simp
end Pure
end Go.Proofs.Ytgnklmhjejbcoaa.K
