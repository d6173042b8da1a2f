/- Plain: a sorted list. -/
import Derived.Test.YtfejfljgdeglgaaQS
import Derived.Test.YtfejfljgdeglgaaHSo
namespace Go.Proofs.Ytfejfljgdeglgaa.K
open Go.RowKit Go.Proofs.YtfejfljgdeglgaaW.PrintWords Go.Proofs.YtfejfljgdeglgaaW.PrintLast Go.Proofs.YtfejfljgdeglgaaW.PrintMore
set_option linter.unusedVariables false
set_option linter.unusedSimpArgs false
theorem sortL_perm (xs : List Int) : (sortL xs).Perm xs := List.mergeSort_perm _ _
theorem mem_sortL (xs : List Int) (x : Int) : x ∈ sortL xs ↔ x ∈ xs := (sortL_perm xs).mem_iff
theorem sortL_strict {xs : List Int} (h : xs.Nodup) : (sortL xs).Pairwise (· < ·) := by
  have h1 : (sortL xs).Pairwise (fun a b => decide (a ≤ b) = true) := List.pairwise_mergeSort (le := fun x y : Int => decide (x ≤ y)) (fun a b c h1 h2 => by simp only [decide_eq_true_eq] at h1 h2 ⊢; omega) (fun a b => by simp only [Bool.or_eq_true, decide_eq_true_eq]; omega) xs
  have h2 : (sortL xs).Nodup := (sortL_perm xs).nodup_iff.mpr h
  have h3 := List.Pairwise.and h1 h2
  exact h3.imp (fun {a b} hab => by
    obtain ⟨h4, h5⟩ := hab
    simp only [decide_eq_true_eq] at h4
    have : a ≠ b := h5
    omega)
/-- Two rising lists with the same numbers are the same. -/
theorem pair_ext : ∀ {xs ys : List Int}, xs.Pairwise (· < ·) → ys.Pairwise (· < ·) → (∀ x, x ∈ xs ↔ x ∈ ys) → xs = ys
  | [], [], _, _, _ => rfl
  | [], y :: ys, _, _, h => by have := (h y).mpr (List.mem_cons_self ..); cases this
  | x :: xs, [], _, _, h => by have := (h x).mp (List.mem_cons_self ..); cases this
  | x :: xs, y :: ys, hx, hy, h => by
    obtain ⟨hx1, hx2⟩ := List.pairwise_cons.mp hx
    obtain ⟨hy1, hy2⟩ := List.pairwise_cons.mp hy
    have e : x = y := by
      have h1 := (h x).mp (List.mem_cons_self ..)
      have h2 := (h y).mpr (List.mem_cons_self ..)
      rcases List.mem_cons.mp h1 with h1 | h1
      · exact h1
      · rcases List.mem_cons.mp h2 with h2 | h2
        · exact h2.symm
        · have h3 := hy1 x h1
          have h4 := hx1 y h2
          omega
    subst e
    have ih : xs = ys := pair_ext hx2 hy2 (fun z => by
      constructor
      · intro hz
        rcases List.mem_cons.mp ((h z).mp (List.mem_cons_of_mem _ hz)) with h1 | h1
        · have := hx1 z hz; omega
        · exact h1
      · intro hz
        rcases List.mem_cons.mp ((h z).mpr (List.mem_cons_of_mem _ hz)) with h1 | h1
        · have := hy1 z hz; omega
        · exact h1)
    rw [ih]
theorem nodup_of_strict {xs : List Int} (h : xs.Pairwise (· < ·)) : xs.Nodup := h.imp (fun {a b} hab => by omega)
/-- A list of n numbers that has each number below n has no others, and each once. -/
theorem order_nodup : ∀ (n : Nat) (t : List Int), t.length = n → (∀ i, i < n → ((i : Nat) : Int) ∈ t) → t.Nodup ∧ ∀ x ∈ t, 0 ≤ x ∧ x < (n : Int)
  | 0, t, hl, _ => by
    obtain rfl := List.eq_nil_of_length_eq_zero hl
    exact ⟨List.nodup_nil, fun x hx => by cases hx⟩
  | n + 1, t, hl, h => by
    have hm := h n (by omega)
    have hp := List.perm_cons_erase hm
    have ih := order_nodup n (t.erase (n : Int)) (by rw [List.length_erase_of_mem hm]; omega) (fun i hi => (List.mem_erase_of_ne (by omega)).mpr (h i (by omega)))
    refine ⟨hp.nodup_iff.mpr (List.nodup_cons.mpr ⟨fun h2 => by have := (ih.2 _ h2).2; omega, ih.1⟩), fun x hx => ?_⟩
    rcases List.mem_cons.mp (hp.mem_iff.mp hx) with rfl | h2
    · omega
    · have := ih.2 x h2; omega
end Go.Proofs.Ytfejfljgdeglgaa.K
