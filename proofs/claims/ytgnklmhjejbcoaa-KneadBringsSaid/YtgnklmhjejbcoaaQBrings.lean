/- The pure statement of KneadBrings: for all whole numbers the law answers true. -/
import Derived.Test.YtgnklmhjejbcoaaQWays
import Derived.Test.YtgnklmhjejbcoaaHD
import Derived.Test.YtgnklmhjejbcoaaK19
import Derived.Test.YtgnklmhjejbcoaaK5
namespace Go.Proofs.Ytgnklmhjejbcoaa.K
open Go.RowKit Go.Proofs.YtgnklmhjejbcoaaW.PrintWords Go.Proofs.YtgnklmhjejbcoaaW.PrintLast Go.Proofs.YtgnklmhjejbcoaaW.PrintMore
set_option linter.unusedVariables false
set_option linter.unusedSimpArgs false

/-- What Bring answers. -/
def bringR (a0 a1 : Int) : List Int × Int := if lumps a0 then (if a1 < 0 ∨ a1 ≥ a0 then ([], 4) else ((lowF 10 a1.toNat).reverse, 0)) else ([], 1)
theorem bring_R (a0 a1 : Int) : knead_Bring.f a0 a1 = some (bringR a0 a1) := by
  unfold knead_Bring.f bringR
  rw [isLumps_eq]
  simp only [Option.bind_some]
  cases c : lumps a0 with
  | false => rfl
  | true =>
    have hc := lumps_int c
    simp only [if_true]
    by_cases h : a1 < 0 ∨ a1 ≥ a0
    · rw [if_pos h, if_pos h]
    · rw [if_neg h, if_neg h, if_pos (by omega)]
theorem refBring_l0 : ∀ (f n k : Nat) (out : List Int), n < 2 ^ f → n ≤ 1000 → f < k → out.length + f ≤ 1000 → verditerref07_Bring.l0 k (n : Int) out = some ((lowF f n).reverse ++ out, 0) := by
  intro f
  induction f with
  | zero =>
    intro n k out h1 h2 h3 h4
    obtain ⟨k, rfl⟩ : ∃ m, k = m + 1 := ⟨k - 1, by omega⟩
    obtain rfl : n = 0 := by omega
    simp only [verditerref07_Bring.l0]
    rw [if_neg (by omega)]
    rfl
  | succ f ih =>
    intro n k out h1 h2 h3 h4
    obtain ⟨k, rfl⟩ : ∃ m, k = m + 1 := ⟨k - 1, by omega⟩
    simp only [verditerref07_Bring.l0]
    by_cases hn : 0 < n
    · have e1 : Int.tmod (n : Int) 2 = ((n % 2 : Nat) : Int) := by rw [Int.tmod_eq_emod_of_nonneg (by omega)]; omega
      have e2 : Int.tdiv (n : Int) 2 = ((n / 2 : Nat) : Int) := by rw [Int.tdiv_eq_ediv_of_nonneg (by omega)]; omega
      have hp : n / 2 < 2 ^ f := by rw [Nat.pow_succ] at h1; omega
      rw [if_pos (by omega)]
      simp only [Option.bind_some]
      rw [if_pos (by simp; omega), e1, e2, wrap_small (by omega) (by omega), ih (n / 2) k _ hp (by omega) (by omega) (by simp; omega), lowF_pos f n hn]
      simp
    · obtain rfl : n = 0 := by omega
      rw [if_neg (by omega), lowF_zero]
      rfl
theorem refBring_R (k : Nat) (a0 a1 : Int) (hk : 100 ≤ k) : verditerref07_Bring.f k a0 a1 = some (bringR a0 a1) := by
  unfold verditerref07_Bring.f bringR
  rw [refLumps_eq]
  simp only [Option.bind_some]
  cases c : lumps a0 with
  | false => rfl
  | true =>
    have hc := lumps_int c
    simp only [if_true]
    rw [wrap_small (by omega) (by omega), within_eq]
    simp only [Option.bind_some]
    by_cases h : 0 ≤ a1 ∧ a1 ≤ a0 - 1
    · rw [if_pos (by simpa using h), if_neg (by omega)]
      obtain ⟨t, rfl⟩ : ∃ t : Nat, a1 = t := ⟨a1.toNat, by omega⟩
      rw [refBring_l0 10 t k [] (by omega) (by omega) (by omega) (by simp), List.append_nil, Int.toNat_natCast]
    · rw [if_neg (by simpa using h), if_pos (by omega)]
def bringChk (n t : Nat) : Bool := decide (alongN n (lowF 10 t).reverse 0 = t) && decide (wcode (lowF 10 t).reverse = 0) && decide ((gr n t 10 0).length ≤ (lowF 10 t).length)
set_option maxRecDepth 100000 in
theorem bring_all : ((List.range 16).all fun m => (List.range (2 * (m + 1))).all fun t => bringChk (2 * (m + 1)) t) = true := by decide +kernel
theorem bring_ok {n t : Nat} (hn : lumps (n : Int) = true) (ht : t < n) : bringChk n t = true := by
  have hc := lumps_nat hn
  have h := bring_all
  rw [List.all_eq_true] at h
  have h1 := h (n / 2 - 1) (List.mem_range.2 (by omega))
  rw [show 2 * (n / 2 - 1 + 1) = n by omega, List.all_eq_true] at h1
  exact h1 t (List.mem_range.2 ht)
theorem bringR_len (a0 a1 : Int) : (bringR a0 a1).1.length ≤ 10 := by
  unfold bringR
  split
  · split
    · simp
    · rw [List.length_reverse]; exact lowF_length 10 _
  · simp
namespace Pure
theorem KneadBrings : verditerlaw07_KneadBrings.Pure := by
  intro a0 a1 _ _
  refine ⟨5000, ?_⟩
  unfold verditerlaw07_KneadBrings.f
  have hl := bringR_len a0 a1
  rw [refBring_R _ a0 a1 (by omega), bring_R]
  simp only [Option.bind_some]
  rw [same_eq _ _ _ (by omega) (by omega)]
  rw [show (5000 : Nat) = 4999 + 1 from rfl]
  simp only [Option.bind_some, decide_true, if_true, bne_self_eq_false, Bool.false_eq_true, if_false, verditerlaw07_KneadBrings.j0]
  by_cases he : (bringR a0 a1).2 = 0
  · rw [if_pos he]
    unfold bringR at he ⊢
    by_cases c : lumps a0 = true
    · rw [if_pos c] at he ⊢
      have hc := lumps_int c
      by_cases h : a1 < 0 ∨ a1 ≥ a0
      · rw [if_pos h] at he
        simp at he
      · rw [if_neg h]
        obtain ⟨n, rfl⟩ : ∃ n : Nat, a0 = n := ⟨a0.toNat, by omega⟩
        obtain ⟨t, rfl⟩ : ∃ t : Nat, a1 = t := ⟨a1.toNat, by omega⟩
        simp only [Int.toNat_natCast]
        have hb := bring_ok (t := t) c (by omega)
        simp only [bringChk, Bool.and_eq_true, decide_eq_true_eq] at hb
        obtain ⟨⟨h1, h2⟩, h3⟩ := hb
        have h5 := (wcode_zero h2).1
        have hw : wayR (n : Int) 0 (t : Int) = (gr n t 10 0, true, 0) := by
          unfold wayR
          rw [if_pos c, if_neg (by omega)]
          simp
        rw [place_R _ (n : Int) _ 0 (by omega) (by omega), way_R, hw]
        unfold placeR
        rw [if_pos c, if_pos (by omega), if_pos h2]
        simp only [Option.bind_some, Int.toNat_natCast, Int.toNat_zero, h1, if_true]
        rw [if_pos (by simp only [List.length_reverse]; omega), known_eq (by omega)]
        rfl
    · rw [if_neg c] at he
      simp at he
  · rw [if_neg he, known_eq (by omega)]
    rfl
end Pure
end Go.Proofs.Ytgnklmhjejbcoaa.K
