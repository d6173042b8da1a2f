/- The pure statement of KneadWords: for all lists the law within it answers true. -/
import Derived.Test.YtgnklmhjejbcoaaQC
import Derived.Test.YtgnklmhjejbcoaaQD
import Derived.Test.YtgnklmhjejbcoaaHE
import Derived.Test.YtgnklmhjejbcoaaK18
namespace Go.Proofs.Ytgnklmhjejbcoaa.K
open Go.RowKit Go.Proofs.YtgnklmhjejbcoaaW.PrintWords Go.Proofs.YtgnklmhjejbcoaaW.PrintLast Go.Proofs.YtgnklmhjejbcoaaW.PrintMore
set_option linter.unusedVariables false
set_option linter.unusedSimpArgs false

theorem unfold_R (l w : List Int) (hl : l.length ≤ 1000) : knead_Unfold.f l w = some (unfoldR w l) := by
  unfold knead_Unfold.f unfoldR
  rw [validate_eq, worded_eq]
  cases lumps l.length with
  | false => rfl
  | true =>
    simp only [Option.bind_some, if_true, hl]
    split <;> rfl
theorem foldR_len (w l : List Int) (hl : l.length ≤ 1000) : (foldR w l).1.length ≤ 1000 := by
  unfold foldR
  split
  · rename_i h
    split
    · rw [folds_length w l (lumps_nat h).2.2]; exact hl
    · simp
  · simp
theorem unfoldR_len (w l : List Int) (hl : l.length ≤ 1000) : (unfoldR w l).1.length ≤ 1000 := by
  unfold unfoldR
  split
  · split
    · rw [unfolds_length]; exact hl
    · simp
  · simp
theorem foldR_zero {w l : List Int} (h : (foldR w l).2 = 0) : lumps l.length = true ∧ wcode w = 0 := by
  unfold foldR at h
  split at h
  · rename_i h1
    split at h
    · rename_i h2; exact ⟨h1, h2⟩
    · rename_i h2; exact absurd h h2
  · simp at h

namespace Pure
theorem KneadWords : verditerlaw07_kneadWords.Pure := by
  intro l w _ _ _ _ _ _
  refine ⟨5000, ?_⟩
  have hdone : ∀ m, verditerlaw07_kneadWords.j0 (m + 200) l w true = some true := by
    intro m
    rw [show m + 200 = (m + 199) + 1 from rfl]
    simp only [verditerlaw07_kneadWords.j0, if_true]
    rw [known_eq (by omega)]
    rfl
  unfold verditerlaw07_kneadWords.f
  rw [long_eq, long_eq]
  simp only [Option.bind_some]
  by_cases hl : 100 < l.length
  · rw [if_pos (by simpa using hl)]
    exact hdone 4800
  · rw [if_neg (by simpa using hl)]
    by_cases hw : 100 < w.length
    · rw [decide_eq_true hw]
      exact hdone 4800
    · rw [decide_eq_false hw]
      rw [show (5000 : Nat) = 4999 + 1 from rfl]
      simp only [verditerlaw07_kneadWords.j0, Bool.false_eq_true, if_false]
      rw [refFold_R _ l w (by omega) (by omega) (by omega), refUnfold_R _ l w (by omega) (by omega) (by omega), fold_R _ l w (by omega) (by omega) (by omega), unfold_R l w (by omega)]
      simp only [Option.bind_some]
      have h1 := foldR_len w l (by omega)
      have h2 := unfoldR_len w l (by omega)
      rw [same_eq _ _ _ (by omega) (by omega), same_eq _ _ _ (by omega) (by omega)]
      rw [show (4999 : Nat) = 4998 + 1 from rfl]
      simp only [Option.bind_some, decide_true, if_true, bne_self_eq_false, verditerlaw07_kneadWords.j1, Bool.false_eq_true, if_false]
      by_cases he : (foldR w l).2 = 0
      · obtain ⟨g1, g2⟩ := foldR_zero he
        have g3 := lumps_nat g1
        have g4 : foldR w l = (foldsL w l, 0) := by unfold foldR; rw [if_pos g1, if_pos g2]
        have g5 : (foldsL w l).length = l.length := folds_length w l g3.2.2
        have g6 : unfoldR w (foldsL w l) = (l, 0) := by unfold unfoldR; rw [g5, if_pos g1, if_pos g2, unfolds_folds (wcode_zero g2).2 g3.2.2]
        rw [if_pos he, g4, unfold_R _ w (by rw [g5]; omega), g6]
        simp only [Option.bind_some, if_true]
        rw [same_eq _ _ _ (by omega) (by omega)]
        simp only [Option.bind_some, decide_true, if_true]
        rw [known_eq (by omega)]
        rfl
      · rw [if_neg he, known_eq (by omega)]
        rfl
end Pure
end Go.Proofs.Ytgnklmhjejbcoaa.K
