/- What the Lean functions of knead's first functions answer, for all lists that their guards let in; that the law's examples hold. -/
import Derived.Test.YtgnklmhjejbcoaaQB
import Derived.Test.YtgnklmhjejbcoaaK12
import Derived.Test.YtgnklmhjejbcoaaK2
import Derived.Test.YtgnklmhjejbcoaaHB
namespace Go.Proofs.Ytgnklmhjejbcoaa.K
open Go.RowKit Go.Proofs.YtgnklmhjejbcoaaW.PrintWords Go.Proofs.YtgnklmhjejbcoaaW.PrintLast Go.Proofs.YtgnklmhjejbcoaaW.PrintMore
set_option linter.unusedVariables false
set_option linter.unusedSimpArgs false

theorem known_100 : verditerlaw07_known.f 100 = some true := by decide +kernel
theorem known_eq {k : Nat} (hk : 100 ≤ k) : verditerlaw07_known.f k = some true := at_rounds verditerlaw07_known.mono hk known_100

theorem one_eq (k : Nat) (l : List Int) (kind : Int) (hl : l.length ≤ 100) (hk : kind = 0 ∨ kind = 1) (h : 200 ≤ k) : verditerref07_One.f k l kind = some (if lumps l.length then (foldL kind l, 0) else ([], 1)) := by
  unfold verditerref07_One.f
  rw [refValidate_eq]
  simp only [Option.bind_some]
  cases c : lumps l.length with
  | true =>
    have := lumps_nat c
    simp only [if_true]
    rw [refFold_eq k l [kind] (by omega) (by omega) (kinds_one hk) (by simp) (by simp; omega)]
    rfl
  | false => simp
theorem unOne_eq (k : Nat) (l : List Int) (kind : Int) (hl : l.length ≤ 100) (hk : kind = 0 ∨ kind = 1) (h : 200 ≤ k) : verditerref07_UnOne.f k l kind = some (if lumps l.length then (unfoldL kind l, 0) else ([], 1)) := by
  unfold verditerref07_UnOne.f
  rw [refValidate_eq]
  simp only [Option.bind_some]
  cases c : lumps l.length with
  | true =>
    have := lumps_nat c
    simp only [if_true]
    rw [refUnfold_eq k l [kind] (by omega) (by omega) (kinds_one hk) (by simp) (by simp; omega)]
    rfl
  | false => simp
theorem fold_eq (l : List Int) (kind : Int) (hl : l.length ≤ 1000) : knead_fold.f l kind = some (foldL kind l) := by unfold knead_fold.f; rw [if_pos (by omega)]
theorem unfold_eq (l : List Int) (kind : Int) (hl : l.length ≤ 1000) (hk : kind = 0 ∨ kind = 1) : knead_unfold.f l kind = some (unfoldL kind l) := by unfold knead_unfold.f; rw [if_pos ⟨by omega, hk⟩]
theorem out_eq (l : List Int) (hl : l.length ≤ 1000) : knead_Out.f l = some (if lumps l.length then (foldL 0 l, 0) else ([], 1)) := by
  unfold knead_Out.f
  rw [validate_eq, fold_eq l 0 hl]
  cases lumps l.length <;> rfl
theorem in_eq (l : List Int) (hl : l.length ≤ 1000) : knead_In.f l = some (if lumps l.length then (foldL 1 l, 0) else ([], 1)) := by
  unfold knead_In.f
  rw [validate_eq, fold_eq l 1 hl]
  cases lumps l.length <;> rfl
theorem unOut_eq (l : List Int) (hl : l.length ≤ 1000) : knead_UnOut.f l = some (if lumps l.length then (unfoldL 0 l, 0) else ([], 1)) := by
  unfold knead_UnOut.f
  rw [validate_eq, unfold_eq l 0 hl (.inl rfl)]
  cases lumps l.length <;> rfl
theorem unIn_eq (l : List Int) (hl : l.length ≤ 1000) : knead_UnIn.f l = some (if lumps l.length then (unfoldL 1 l, 0) else ([], 1)) := by
  unfold knead_UnIn.f
  rw [validate_eq, unfold_eq l 1 hl (.inr rfl)]
  cases lumps l.length <;> rfl
end Go.Proofs.Ytgnklmhjejbcoaa.K
