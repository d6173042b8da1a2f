/- Plain: what isSet says of a list. -/
import Derived.Test.YtfejfljgdeglgaaQL
namespace Go.Proofs.Ytfejfljgdeglgaa.K
open Go.RowKit Go.Proofs.YtfejfljgdeglgaaW.PrintWords Go.Proofs.YtfejfljgdeglgaaW.PrintLast Go.Proofs.YtfejfljgdeglgaaW.PrintMore
set_option linter.unusedVariables false
set_option linter.unusedSimpArgs false
theorem setF_iff (l : List Int) (g : Int) : ∀ m n, isSetF l g m n = true ↔ ∀ i, n ≤ i → i < n + m → setAt l g i = true
  | 0, n => by
    rw [isSetF]
    exact ⟨fun _ i h1 h2 => by omega, fun _ => rfl⟩
  | m + 1, n => by
    by_cases h : setAt l g n = true
    · rw [isSetF_yes h, setF_iff l g m (n + 1)]
      exact ⟨fun h2 i h3 h4 => if e : i = n then e ▸ h else h2 i (by omega) (by omega), fun h2 i h3 h4 => h2 i (by omega) (by omega)⟩
    · rw [isSetF_no (Bool.eq_false_iff.mpr h)]
      exact ⟨fun h2 => (by cases h2), fun h2 => absurd (h2 n (Nat.le_refl _) (by omega)) h⟩
theorem isSet_iff (l : List Int) (g : Int) : isSetP l g = true ↔ l.Pairwise (· < ·) ∧ ∀ x ∈ l, 0 ≤ x ∧ x ≤ g - 1 := by
  unfold isSetP
  rw [setF_iff]
  constructor
  · intro h
    have h1 : ∀ i (hi : i < l.length), 0 ≤ l[i] ∧ l[i] ≤ g - 1 ∧ ∀ hp : 0 < i, l[i - 1] < l[i] := by
      intro i hi
      have := h i (Nat.zero_le _) (by omega)
      unfold setAt at this
      rw [Bool.and_eq_true, decide_eq_true_eq, Bool.or_eq_true, decide_eq_true_eq, decide_eq_true_eq, List.getD_eq_getElem?_getD, List.getElem?_eq_getElem hi, List.getD_eq_getElem?_getD, List.getElem?_eq_getElem (show i - 1 < l.length by omega)] at this
      obtain ⟨⟨h2, h3⟩, h4⟩ := this
      refine ⟨h2, h3, fun hp => ?_⟩
      rcases h4 with h4 | h4
      · omega
      · exact h4
    refine ⟨?_, ?_⟩
    · rw [List.pairwise_iff_getElem]
      intro i j hi hj hij
      obtain ⟨d, rfl⟩ := Nat.exists_eq_add_of_lt hij
      clear hij
      induction d with
      | zero => exact (h1 (i + 0 + 1) hj).2.2 (by omega)
      | succ d ih =>
        have h5 := ih (by omega)
        have h6 := (h1 (i + (d + 1) + 1) hj).2.2 (by omega)
        have h7 : l[i + (d + 1) + 1 - 1] = l[i + d + 1] := rfl
        rw [h7] at h6
        omega
    · intro x hx
      obtain ⟨i, hi, rfl⟩ := List.getElem_of_mem hx
      exact ⟨(h1 i hi).1, (h1 i hi).2.1⟩
  · rintro ⟨h1, h2⟩ i _ hi
    have hi : i < l.length := by omega
    unfold setAt
    rw [Bool.and_eq_true, decide_eq_true_eq, Bool.or_eq_true, decide_eq_true_eq, decide_eq_true_eq, List.getD_eq_getElem?_getD, List.getElem?_eq_getElem hi, List.getD_eq_getElem?_getD, List.getElem?_eq_getElem (show i - 1 < l.length by omega)]
    refine ⟨h2 _ (List.getElem_mem hi), ?_⟩
    by_cases h0 : i = 0
    · exact .inl h0
    · exact .inr ((List.pairwise_iff_getElem.mp h1) (i - 1) i (by omega) hi (by omega))
theorem allSet_iff (l : List S49) (g : Int) : allSet l g = true ↔ ∀ s ∈ l, isSetP s.f0 g = true := by
  have key : ∀ m n, n + m = l.length → (allSetF l g m n = true ↔ ∀ s ∈ l.drop n, isSetP s.f0 g = true) := by
    intro m
    induction m with
    | zero => intro n h; rw [allSetF, List.drop_of_length_le (by omega)]; simp
    | succ m ih =>
      intro n h
      have hn : n < l.length := by omega
      rw [allSetF, rd49_nat, getD_at l n z49 hn, List.drop_eq_getElem_cons hn, List.forall_mem_cons]
      by_cases hp : isSetP l[n].f0 g = true
      · rw [if_pos hp, ih (n + 1) (by omega)]
        exact ⟨fun h => ⟨hp, h⟩, fun h => h.2⟩
      · rw [if_neg hp]
        exact ⟨fun h => (by cases h), fun h => absurd h.1 hp⟩
  have := key l.length 0 (by omega)
  rw [List.drop_zero] at this
  exact this
theorem validV_zero (g : Int) (l : List S49) : validV g l = 0 ↔ 1 ≤ g ∧ g ≤ 16 ∧ l.length ≤ 12 ∧ ∀ s ∈ l, isSetP s.f0 g = true := by
  rw [← allSet_iff]
  constructor
  · intro h
    obtain ⟨h1, h2, h3⟩ := valid_of h
    refine ⟨h1, h2, h3, ?_⟩
    unfold validV at h
    rw [if_pos ⟨h1, h2⟩, if_neg (by omega)] at h
    by_cases ha : allSet l g = true
    · exact ha
    · rw [if_neg ha] at h; cases h
  · rintro ⟨h1, h2, h3, h4⟩
    unfold validV
    rw [if_pos ⟨h1, h2⟩, if_neg (by omega), if_pos h4]
/-- A set of numbers below g has no more than g of them. -/
theorem set_length {l : List Int} {g : Nat} (h : isSetP l g = true) : l.length ≤ g := by
  obtain ⟨h1, h2⟩ := (isSet_iff l g).mp h
  have key : ∀ i (hi : i < l.length), (i : Int) ≤ l[i] := by
    intro i
    induction i with
    | zero => intro hi; have := (h2 _ (List.getElem_mem hi)).1; simpa using this
    | succ i ih =>
      intro hi
      have h3 := ih (by omega)
      have h4 := (List.pairwise_iff_getElem.mp h1) i (i + 1) (by omega) hi (by omega)
      omega
  rcases Nat.eq_zero_or_pos l.length with h0 | h0
  · omega
  · have h3 := key (l.length - 1) (by omega)
    have h4 := (h2 _ (List.getElem_mem (show l.length - 1 < l.length by omega))).2
    omega
end Go.Proofs.Ytfejfljgdeglgaa.K
