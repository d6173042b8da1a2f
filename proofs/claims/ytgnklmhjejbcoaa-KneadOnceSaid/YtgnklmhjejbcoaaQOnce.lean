/- The pure statement of KneadOnce: for all lists of whole numbers the law within it answers true. -/
import Derived.Test.YtgnklmhjejbcoaaQB
import Derived.Test.YtgnklmhjejbcoaaK8
namespace Go.Proofs.Ytgnklmhjejbcoaa.K
open Go.RowKit Go.Proofs.YtgnklmhjejbcoaaW.PrintWords Go.Proofs.YtgnklmhjejbcoaaW.PrintLast Go.Proofs.YtgnklmhjejbcoaaW.PrintMore
set_option linter.unusedVariables false
set_option linter.unusedSimpArgs false

theorem known_100 : verditerlaw07_known.f 100 = some true := by decide +kernel
theorem known_eq {k : Nat} (hk : 100 ≤ k) : verditerlaw07_known.f k = some true := at_rounds verditerlaw07_known.mono hk known_100

theorem once_l0 (l : List Int) (hl : l.length ≤ 100) : ∀ (d k i : Nat) (x : List Int), i + d = x.length → x.length ≤ 1000 → d + 200 ≤ k → verditerlaw07_kneadOnce.l0 k l l x (i : Int) = some true := by
  intro d
  induction d with
  | zero =>
    intro k i x h1 h2 h3
    obtain ⟨k, rfl⟩ : ∃ m, k = m + 1 := ⟨k - 1, by omega⟩
    simp only [verditerlaw07_kneadOnce.l0]
    rw [if_neg (by omega), same_eq k l l (by omega) (by omega), known_eq (by omega)]
    simp
  | succ d ih =>
    intro k i x h1 h2 h3
    obtain ⟨k, rfl⟩ : ∃ m, k = m + 1 := ⟨k - 1, by omega⟩
    simp only [verditerlaw07_kneadOnce.l0]
    rw [if_pos (by omega), if_pos (by omega), wrap_nat _ (by omega)]
    exact ih k (i + 1) _ (by simp; omega) (by simp; omega) (by omega)
theorem one_eq (k : Nat) (l : List Int) (kind : Int) (hl : l.length ≤ 100) (hk : kind = 0 ∨ kind = 1) (h : 200 ≤ k) : verditerref07_One.f k l kind = some (if lumps l.length then (foldL kind l, 0) else ([], 1)) := by
  unfold verditerref07_One.f
  rw [refValidate_eq]
  simp only [Option.bind_some]
  cases c : lumps l.length with
  | true =>
    have := lumps_nat c
    simp only [if_true]
    rw [refFold_eq k l [kind] (by omega) (by omega) (kinds_one hk) (by simp) (by simp; omega)]
    rfl
  | false => simp
theorem unOne_eq (k : Nat) (l : List Int) (kind : Int) (hl : l.length ≤ 100) (hk : kind = 0 ∨ kind = 1) (h : 200 ≤ k) : verditerref07_UnOne.f k l kind = some (if lumps l.length then (unfoldL kind l, 0) else ([], 1)) := by
  unfold verditerref07_UnOne.f
  rw [refValidate_eq]
  simp only [Option.bind_some]
  cases c : lumps l.length with
  | true =>
    have := lumps_nat c
    simp only [if_true]
    rw [refUnfold_eq k l [kind] (by omega) (by omega) (kinds_one hk) (by simp) (by simp; omega)]
    rfl
  | false => simp
theorem fold_eq (l : List Int) (kind : Int) (hl : l.length ≤ 1000) : knead_fold.f l kind = some (foldL kind l) := by unfold knead_fold.f; rw [if_pos (by omega)]
theorem unfold_eq (l : List Int) (kind : Int) (hl : l.length ≤ 1000) (hk : kind = 0 ∨ kind = 1) : knead_unfold.f l kind = some (unfoldL kind l) := by unfold knead_unfold.f; rw [if_pos ⟨by omega, hk⟩]
theorem out_eq (l : List Int) (hl : l.length ≤ 1000) : knead_Out.f l = some (if lumps l.length then (foldL 0 l, 0) else ([], 1)) := by
  unfold knead_Out.f
  rw [validate_eq, fold_eq l 0 hl]
  cases lumps l.length <;> rfl
theorem in_eq (l : List Int) (hl : l.length ≤ 1000) : knead_In.f l = some (if lumps l.length then (foldL 1 l, 0) else ([], 1)) := by
  unfold knead_In.f
  rw [validate_eq, fold_eq l 1 hl]
  cases lumps l.length <;> rfl
theorem unOut_eq (l : List Int) (hl : l.length ≤ 1000) : knead_UnOut.f l = some (if lumps l.length then (unfoldL 0 l, 0) else ([], 1)) := by
  unfold knead_UnOut.f
  rw [validate_eq, unfold_eq l 0 hl (.inl rfl)]
  cases lumps l.length <;> rfl
theorem unIn_eq (l : List Int) (hl : l.length ≤ 1000) : knead_UnIn.f l = some (if lumps l.length then (unfoldL 1 l, 0) else ([], 1)) := by
  unfold knead_UnIn.f
  rw [validate_eq, unfold_eq l 1 hl (.inr rfl)]
  cases lumps l.length <;> rfl
namespace Pure
theorem KneadOnce : verditerlaw07_kneadOnce.Pure := by
  intro l _ _ _
  refine ⟨5000, ?_⟩
  unfold verditerlaw07_kneadOnce.f
  rw [long_eq]
  simp only [Option.bind_some]
  by_cases hl : 100 < l.length
  · rw [if_pos (by simpa using hl), known_eq (by omega)]
    rfl
  · rw [if_neg (by simpa using hl), if_pos (by simp; omega)]
    simp only [List.nil_append]
    rw [one_eq _ _ _ (by omega) (.inl rfl) (by omega), one_eq _ _ _ (by omega) (.inr rfl) (by omega), unOne_eq _ _ _ (by omega) (.inl rfl) (by omega), unOne_eq _ _ _ (by omega) (.inr rfl) (by omega), out_eq _ (by omega), in_eq _ (by omega), unOut_eq _ (by omega), unIn_eq _ (by omega), validate_eq, refValidate_eq]
    simp only [Option.bind_some, if_true]
    have hs : ∀ (a : List Int × Int), a.1.length ≤ 100 → verditerref01_SameInts.f 5000 a.1 a.1 = some true := fun a ha => by rw [same_eq _ _ _ (by omega) (by omega)]; simp
    have h0 : ∀ k, (foldL k l).length ≤ 100 ∨ lumps l.length = false := fun k => by
      cases c : lumps l.length with
      | false => exact .inr rfl
      | true => exact .inl (by rw [foldL_length _ _ (lumps_nat c).2.2]; omega)
    have h1 : ∀ k, (unfoldL k l).length ≤ 100 := fun k => by rw [unfoldL_length]; omega
    have f : ∀ (k : Int), (if lumps l.length then (foldL k l, (0 : Int)) else ([], 1)).1.length ≤ 100 := fun k => by
      rcases h0 k with h | h
      · split
        · exact h
        · simp
      · rw [h]; simp
    have u : ∀ (k : Int), (if lumps l.length then (unfoldL k l, (0 : Int)) else ([], 1)).1.length ≤ 100 := fun k => by
      split
      · exact h1 k
      · simp
    rw [hs _ (f 0)]
    simp only [Option.bind_some, if_true]
    rw [hs _ (f 1)]
    simp only [Option.bind_some, if_true]
    rw [hs _ (u 0)]
    simp only [Option.bind_some, if_true]
    rw [hs _ (u 1)]
    simp only [Option.bind_some, if_true, bne_self_eq_false]
    rw [show (5000 : Nat) = 4999 + 1 from rfl, verditerlaw07_kneadOnce.j0]
    simp only [Bool.false_eq_true, if_false]
    have f0 := f 0
    exact once_l0 l (by omega) _ 4999 0 _ (Nat.zero_add _) (by omega) (by omega)
end Pure
end Go.Proofs.Ytgnklmhjejbcoaa.K
