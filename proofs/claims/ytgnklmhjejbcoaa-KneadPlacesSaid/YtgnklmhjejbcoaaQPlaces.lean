/- The pure statement of KneadPlaces: for all numbers and lists of whole numbers the law within it answers true. -/
import Derived.Test.YtgnklmhjejbcoaaQC
import Derived.Test.YtgnklmhjejbcoaaQD
import Derived.Test.YtgnklmhjejbcoaaK16
namespace Go.Proofs.Ytgnklmhjejbcoaa.K
open Go.RowKit Go.Proofs.YtgnklmhjejbcoaaW.PrintWords Go.Proofs.YtgnklmhjejbcoaaW.PrintLast Go.Proofs.YtgnklmhjejbcoaaW.PrintMore
set_option linter.unusedVariables false
set_option linter.unusedSimpArgs false
namespace Pure
theorem KneadPlaces : verditerlaw07_kneadPlaces.Pure := by
  intro n w p _ _ _ _ _
  refine ⟨5000, ?_⟩
  unfold verditerlaw07_kneadPlaces.f
  rw [long_eq]
  simp only [Option.bind_some]
  by_cases hl : 100 < w.length
  · rw [if_pos (by simpa using hl), known_eq (by omega)]
    rfl
  · rw [if_neg (by simpa using hl), refPlace_R _ n w p (by omega) (by omega), place_R _ n w p (by omega) (by omega)]
    rw [show (5000 : Nat) = 4999 + 1 from rfl]
    simp only [Option.bind_some, if_true, bne_self_eq_false, verditerlaw07_kneadPlaces.j0, Bool.false_eq_true, if_false]
    by_cases he : (placeR n w p).2 = 0
    · rw [if_pos he]
      have hp : lumps n = true ∧ (0 ≤ p ∧ p < n) ∧ wcode w = 0 := by
        unfold placeR at he
        split at he
        · rename_i h1
          split at he
          · rename_i h2
            split at he
            · rename_i h3; exact ⟨h1, h2, h3⟩
            · rename_i h3; exact absurd he h3
          · simp at he
        · simp at he
      obtain ⟨h1, h2, h3⟩ := hp
      have hc := lumps_int h1
      have hw := wcode_zero h3
      obtain ⟨m, rfl⟩ := Int.eq_ofNat_of_zero_le (show 0 ≤ n by omega)
      obtain ⟨q, rfl⟩ := Int.eq_ofNat_of_zero_le h2.1
      have ha := along_lt (n := m) (by omega) w q hw.2 (by omega)
      have e1 : (placeR (m : Int) w (q : Int)).1 = ((alongN m w q : Nat) : Int) := by
        unfold placeR
        rw [if_pos h1, if_pos h2, if_pos h3]
        simp
      have e2 : foldR w (numL m) = (foldsL w (numL m), 0) := by
        unfold foldR
        rw [numL_length, if_pos h1, if_pos h3]
      have e3 : (foldsL w (numL m)).length = m := by rw [folds_length w _ (by rw [numL_length]; omega), numL_length]
      have e4 := folds_getD w (numL m) q hw.2 (by rw [numL_length]; omega) (by rw [numL_length]; omega)
      rw [numL_length, numL_getD m q (by omega)] at e4
      rw [numbers_eq _ m (by omega) (by omega)]
      simp only [Option.bind_some]
      rw [fold_R _ _ w (by rw [numL_length]; omega) (by omega) (by omega), e2, e1]
      simp only [Option.bind_some, if_true, e3]
      rw [if_pos (by omega), if_pos (by omega), if_pos (by unfold rd; rw [Int.toNat_natCast]; exact e4), known_eq (by omega)]
      rfl
    · rw [if_neg he, known_eq (by omega)]
      rfl
end Pure
end Go.Proofs.Ytgnklmhjejbcoaa.K
