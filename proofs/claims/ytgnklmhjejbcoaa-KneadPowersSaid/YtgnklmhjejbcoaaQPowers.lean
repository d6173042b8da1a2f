/- The pure statement of KneadPowers: for all lists and whole numbers the law within it answers true. -/
import Derived.Test.YtgnklmhjejbcoaaQC
import Derived.Test.YtgnklmhjejbcoaaQD
import Derived.Test.YtgnklmhjejbcoaaHR
import Derived.Test.YtgnklmhjejbcoaaK20
import Derived.Test.YtgnklmhjejbcoaaK5
namespace Go.Proofs.Ytgnklmhjejbcoaa.K
open Go.RowKit Go.Proofs.YtgnklmhjejbcoaaW.PrintWords Go.Proofs.YtgnklmhjejbcoaaW.PrintLast Go.Proofs.YtgnklmhjejbcoaaW.PrintMore
set_option linter.unusedVariables false
set_option linter.unusedSimpArgs false

/-- What Power answers. -/
def powerR (w : List Int) (t : Int) : List Int × Int := if wcode w = 0 then (if t < 0 ∨ 40 < t then ([], 1) else if 40 < t * w.length then ([], 3) else (repL w t.toNat, 0)) else ([], wcode w)
theorem power_R (w : List Int) (t : Int) : knead_Power.f w t = some (powerR w t) := by
  unfold knead_Power.f powerR
  rw [worded_eq]
  simp only [Option.bind_some]
  split
  · split
    · rfl
    · split <;> rfl
  · rfl
theorem repL_snoc (w : List Int) (i : Nat) : repL w (i + 1) = repL w i ++ w := by rw [repL_add]; simp [repL]
theorem refPower_l0 (w : List Int) (t : Nat) (hw : w.length ≤ 40) (ht : t ≤ 40) : ∀ (d k i : Nat), i + d = t → d < k → verditerref07_Power.l0 k w (t : Int) (repL w i) (i : Int) = some (repL w t, 0) := by
  intro d
  induction d with
  | zero =>
    intro k i h1 h2
    obtain ⟨k, rfl⟩ : ∃ m, k = m + 1 := ⟨k - 1, by omega⟩
    simp only [verditerref07_Power.l0]
    rw [if_neg (by omega), show i = t by omega]
  | succ d ih =>
    intro k i h1 h2
    obtain ⟨k, rfl⟩ : ∃ m, k = m + 1 := ⟨k - 1, by omega⟩
    have hb : i * w.length ≤ 40 * 40 := Nat.mul_le_mul (by omega) hw
    simp only [verditerref07_Power.l0]
    rw [if_pos (by omega), if_pos (by rw [repL_length]; omega), wrap_nat _ (by omega), ← repL_snoc, ih k (i + 1) (by omega) (by omega)]
theorem refPower_R (k : Nat) (w : List Int) (t : Int) (hw : w.length ≤ 1000) (hk : w.length + 100 < k) : verditerref07_Power.f k w t = some (powerR w t) := by
  unfold verditerref07_Power.f powerR
  rw [refWorded_eq k w hw (by omega)]
  simp only [Option.bind_some]
  by_cases h : wcode w = 0
  · have hz := wcode_zero h
    rw [if_pos h, if_pos h, within_eq]
    simp only [Option.bind_some]
    by_cases ht : t < 0 ∨ 40 < t
    · rw [if_neg (by simp; omega), if_pos ht]
    · obtain ⟨n, rfl⟩ : ∃ n : Nat, t = n := ⟨t.toNat, by omega⟩
      have hb : n * w.length ≤ 40 * 40 := Nat.mul_le_mul (by omega) hz.1
      have hb2 : ((w.length : Int) * (n : Int)) = ((n * w.length : Nat) : Int) := by rw [Nat.mul_comm]; simp
      have hb3 : ((n : Int) * (w.length : Int)) = ((n * w.length : Nat) : Int) := by simp
      rw [if_pos (by simp; omega), if_neg ht, hb2, hb3, wrap_small (by omega) (by omega)]
      by_cases h4 : 40 < n * w.length
      · rw [if_pos (by omega), if_pos (by omega)]
      · rw [if_neg (by omega), if_neg (by omega)]
        exact refPower_l0 w n hz.1 (by omega) n k 0 (by omega) (by omega)
  · rw [if_neg h, if_neg h]
theorem folds_append (a b l : List Int) : foldsL (a ++ b) l = foldsL b (foldsL a l) := by simp [foldsL, List.foldl_append]
theorem kinds_rep {w : List Int} (h : Kinds w) (t : Nat) : Kinds (repL w t) := by
  intro x hx
  unfold repL at hx
  simp only [List.mem_flatten, List.mem_replicate] at hx
  obtain ⟨l, ⟨_, rfl⟩, hx⟩ := hx
  exact h x hx
theorem wcode_of {w : List Int} (h : w.length ≤ 40) (hk : Kinds w) : wcode w = 0 := by
  unfold wcode
  rw [if_neg (by omega), if_neg]
  intro h2
  rw [List.any_eq_true] at h2
  obtain ⟨x, hx, h3⟩ := h2
  rw [badK_false.2 (hk x hx)] at h3
  cases h3
theorem foldR_ok {w l : List Int} (h1 : lumps l.length = true) (h2 : wcode w = 0) : foldR w l = (foldsL w l, 0) := by unfold foldR; rw [if_pos h1, if_pos h2]

namespace Pure
theorem powers_l0 (w : List Int) (t n : Nat) (hn : lumps (n : Int) = true) (hw : wcode w = 0) (ht : t ≤ 40) (hlen : t * w.length ≤ 40) : ∀ (d k i : Nat), i + d = t → d + 4000 < k →
    verditerlaw07_kneadPowers.l0 k w (t : Int) (n : Int) (repL w t) (foldsL (repL w i) (numL n)) (i : Int) = some true := by
  have hz := wcode_zero hw
  have hc := lumps_nat hn
  have hfl : ∀ v, (foldsL v (numL n)).length = n := fun v => by rw [folds_length v _ (by rw [numL_length]; exact hc.2.2), numL_length]
  intro d
  induction d with
  | zero =>
    intro k i h1 h2
    obtain ⟨k, rfl⟩ : ∃ m, k = m + 1 := ⟨k - 1, by omega⟩
    obtain rfl : i = t := by omega
    have hcw : wcode (repL w i) = 0 := wcode_of (by rw [repL_length]; exact hlen) (kinds_rep hz.2 i)
    simp only [verditerlaw07_kneadPowers.l0]
    rw [if_neg (by omega), numbers_eq k n (by omega) (by omega)]
    simp only [Option.bind_some]
    rw [fold_R k (numL n) (repL w i) (by rw [numL_length]; omega) (by rw [repL_length]; omega) (by rw [repL_length]; omega), foldR_ok (by rw [numL_length]; exact hn) hcw]
    simp only [Option.bind_some, if_true]
    rw [same_eq k _ _ (by rw [hfl]; omega) (by rw [hfl]; omega)]
    simp only [Option.bind_some, decide_true, if_true]
    rw [known_eq (by omega)]
    rfl
  | succ d ih =>
    intro k i h1 h2
    obtain ⟨k, rfl⟩ : ∃ m, k = m + 1 := ⟨k - 1, by omega⟩
    simp only [verditerlaw07_kneadPowers.l0]
    rw [if_pos (by omega), fold_R k _ w (by rw [hfl]; omega) (by omega) (by omega), foldR_ok (by rw [hfl]; exact hn) hw]
    simp only [Option.bind_some, if_true]
    have hfl2 : (foldsL w (foldsL (repL w i) (numL n))).length = n := by rw [← folds_append]; exact hfl _
    rw [hfl2, if_pos rfl, if_pos (by simp; omega), List.nil_append, wrap_nat _ (by omega), ← folds_append, ← repL_snoc, ih k (i + 1) (by omega) (by omega)]

theorem KneadPowers : verditerlaw07_kneadPowers.Pure := by
  intro w t n _ _ _ _ _
  refine ⟨5000, ?_⟩
  unfold verditerlaw07_kneadPowers.f
  rw [long_eq]
  simp only [Option.bind_some]
  by_cases hl : 100 < w.length
  · rw [if_pos (by simpa using hl), known_eq (by omega)]
    rfl
  · rw [if_neg (by simpa using hl), refPower_R _ w t (by omega) (by omega), power_R]
    simp only [Option.bind_some]
    have hb : (powerR w t).1.length ≤ 1000 := by
      unfold powerR
      split
      · split
        · simp
        · split
          · simp
          · rename_i h1 h2 h3
            obtain ⟨m, rfl⟩ : ∃ m : Nat, t = m := ⟨t.toNat, by omega⟩
            have hb3 : ((m : Int) * (w.length : Int)) = ((m * w.length : Nat) : Int) := by simp
            rw [hb3] at h3
            simp only [Int.toNat_natCast, repL_length]
            omega
      · simp
    rw [same_eq _ _ _ (by omega) (by omega)]
    rw [show (5000 : Nat) = 4999 + 1 from rfl]
    simp only [Option.bind_some, decide_true, if_true, bne_self_eq_false, verditerlaw07_kneadPowers.j0, Bool.false_eq_true, if_false]
    have hdone : verditerlaw07_kneadPowers.j1 4999 w t n (powerR w t).1 true = some true := by
      rw [show (4999 : Nat) = 4998 + 1 from rfl]
      simp only [verditerlaw07_kneadPowers.j1, if_true]
      rw [known_eq (by omega)]
      rfl
    by_cases he : (powerR w t).2 = 0
    · rw [if_pos he]
      by_cases h2 : n < 2
      · rw [if_pos h2]; exact hdone
      · rw [if_neg h2]
        by_cases h3 : n > 32
        · rw [if_pos h3]; exact hdone
        · rw [if_neg h3]
          by_cases h4 : Int.tmod n 2 = 0
          · have h4' : n % 2 = 0 := by have := Int.tmod_eq_emod_of_nonneg (a := n) (b := 2) (by omega); omega
            have hn : lumps n = true := by unfold lumps; simp; omega
            obtain ⟨m, rfl⟩ : ∃ m : Nat, n = m := ⟨n.toNat, by omega⟩
            have hp : wcode w = 0 ∧ (0 ≤ t ∧ t ≤ 40) ∧ t * w.length ≤ 40 ∧ (powerR w t).1 = repL w t.toNat := by
              unfold powerR at he ⊢
              split at he
              · rename_i g1
                split at he
                · simp at he
                · rename_i g2
                  split at he
                  · simp at he
                  · rename_i g3
                    rw [if_pos g1, if_neg g2, if_neg g3]
                    exact ⟨g1, by omega, by omega, rfl⟩
              · rename_i g1; exact absurd he g1
            obtain ⟨g1, g2, g3, g4⟩ := hp
            obtain ⟨q, rfl⟩ : ∃ q : Nat, t = q := ⟨t.toNat, by omega⟩
            have hb3 : ((q : Int) * (w.length : Int)) = ((q * w.length : Nat) : Int) := by simp
            rw [hb3] at g3
            rw [g4, Int.toNat_natCast, show (Int.tmod (m : Int) 2 != 0) = false by simp [h4]]
            rw [show (4999 : Nat) = 4998 + 1 from rfl]
            simp only [verditerlaw07_kneadPowers.j1, Bool.false_eq_true, if_false]
            have hc := lumps_nat hn
            rw [numbers_eq _ m (by omega) (by omega)]
            simp only [Option.bind_some]
            have := powers_l0 w q m hn g1 (by omega) (by omega) q 4998 0 (by omega) (by omega)
            simpa [repL, foldsL] using this
          · rw [show (Int.tmod n 2 != 0) = true by simp [h4]]; exact hdone
    · rw [if_neg he]; exact hdone
end Pure
end Go.Proofs.Ytgnklmhjejbcoaa.K
