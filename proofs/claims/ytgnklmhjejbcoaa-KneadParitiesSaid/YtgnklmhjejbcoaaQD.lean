/- What the Lean functions of knead's Fold, Place and of the reference's functions of the same names answer, for all lists of at most 1000 numbers. -/
import Derived.Test.YtgnklmhjejbcoaaQB
import Derived.Test.YtgnklmhjejbcoaaHC
import Derived.Test.YtgnklmhjejbcoaaK1
import Derived.Test.YtgnklmhjejbcoaaK11
import Derived.Test.YtgnklmhjejbcoaaK2
import Derived.Test.YtgnklmhjejbcoaaK3
import Derived.Test.YtgnklmhjejbcoaaK5
namespace Go.Proofs.Ytgnklmhjejbcoaa.K
open Go.RowKit Go.Proofs.YtgnklmhjejbcoaaW.PrintWords Go.Proofs.YtgnklmhjejbcoaaW.PrintLast Go.Proofs.YtgnklmhjejbcoaaW.PrintMore
set_option linter.unusedVariables false
set_option linter.unusedSimpArgs false

def wcode (w : List Int) : Int := if 40 < w.length then 3 else if w.any badK then 1 else 0
theorem worded_eq (w : List Int) : knead_worded.f w = some (wcode w) := rfl
theorem badK_false {x : Int} : badK x = false ↔ x = 0 ∨ x = 1 := by
  unfold badK
  by_cases h0 : x = 0
  · simp [h0]
  · by_cases h1 : x = 1 <;> simp [h0, h1]
theorem wcode_zero {w : List Int} (h : wcode w = 0) : w.length ≤ 40 ∧ Kinds w := by
  unfold wcode at h
  split at h
  · omega
  · split at h
    · omega
    · rename_i h1 h2
      refine ⟨by omega, fun k hk => ?_⟩
      have h3 : w.any badK = false := by simpa using h2
      rw [List.any_eq_false] at h3
      exact badK_false.1 (by simpa using h3 k hk)
theorem refWorded_l0 (w : List Int) (hl : w.length ≤ 1000) : ∀ (d k i : Nat), i + d = w.length → d < k → verditerref07_worded.l0 k w (i : Int) = some (if (w.drop i).any badK then 1 else 0) := by
  intro d
  induction d with
  | zero =>
    intro k i h1 h2
    obtain ⟨k, rfl⟩ : ∃ m, k = m + 1 := ⟨k - 1, by omega⟩
    simp only [verditerref07_worded.l0]
    rw [if_neg (by omega), List.drop_eq_nil_of_le (by omega)]
    rfl
  | succ d ih =>
    intro k i h1 h2
    obtain ⟨k, rfl⟩ : ∃ m, k = m + 1 := ⟨k - 1, by omega⟩
    have hx : i < w.length := by omega
    simp only [verditerref07_worded.l0]
    rw [if_pos (by omega), if_pos (by omega), rd_nat w i hx, within_eq, List.drop_eq_getElem_cons hx, List.any_cons]
    simp only [Option.bind_some]
    by_cases c : badK w[i] = true
    · have : ¬ (w[i] = 0 ∨ w[i] = 1) := fun h => by rw [badK_false.2 h] at c; cases c
      rw [if_neg (by simp; omega), c]
      rfl
    · have c' : badK w[i] = false := by simpa using c
      have := badK_false.1 c'
      rw [if_pos (by simp; omega), wrap_nat _ (by omega), ih k (i + 1) (by omega) (by omega), c', Bool.false_or]
theorem refWorded_eq (k : Nat) (w : List Int) (hl : w.length ≤ 1000) (hk : w.length < k) : verditerref07_worded.f k w = some (wcode w) := by
  unfold verditerref07_worded.f wcode
  by_cases h : 40 < w.length
  · rw [if_pos (by omega), if_pos h]
  · rw [if_neg (by omega), if_neg h]
    have := refWorded_l0 w hl w.length k 0 (by omega) hk
    simpa using this
theorem foldL_le (k : Int) (l : List Int) : (foldL k l).length ≤ l.length := by
  unfold foldL
  split
  · rw [riffle_length _ _ (by simp; omega)]; simp; omega
  · rw [riffle_length _ _ (by simp; omega)]; simp; omega
theorem folded_l0 (w : List Int) (hl : w.length ≤ 1000) : ∀ (d k i : Nat) (l : List Int), i + d = w.length → d < k → l.length ≤ 1000 → knead_folded.l0 k l w (w.length : Int) (i : Int) = some (foldsL (w.drop i) l) := by
  intro d
  induction d with
  | zero =>
    intro k i l h1 h2 h3
    obtain ⟨k, rfl⟩ : ∃ m, k = m + 1 := ⟨k - 1, by omega⟩
    simp only [knead_folded.l0]
    rw [if_neg (by omega), List.drop_eq_nil_of_le (by omega)]
    rfl
  | succ d ih =>
    intro k i l h1 h2 h3
    obtain ⟨k, rfl⟩ : ∃ m, k = m + 1 := ⟨k - 1, by omega⟩
    have hx : i < w.length := by omega
    have hf : knead_fold.f l w[i] = some (foldL w[i] l) := by unfold knead_fold.f; rw [if_pos (by omega)]
    simp only [knead_folded.l0]
    rw [if_pos (by omega), if_pos (by omega), if_pos (by omega), rd_nat w i hx, hf]
    simp only [Option.bind_some]
    rw [wrap_nat _ (by omega), ih k (i + 1) _ (by omega) (by omega) (Nat.le_trans (foldL_le _ _) h3), List.drop_eq_getElem_cons hx]
    rfl
theorem clone_eq (l : List Int) (hl : l.length ≤ 1000) : slices_Clone_int_int.f l = some l := by unfold slices_Clone_int_int.f; rw [if_pos (by omega)]
theorem folded_eq (k : Nat) (l w : List Int) (hl : l.length ≤ 1000) (hw : w.length ≤ 1000) (hk : w.length < k) : knead_folded.f k l w = some (foldsL w l) := by
  unfold knead_folded.f
  rw [clone_eq l hl]
  simpa using folded_l0 w hw w.length k 0 l (by omega) hk hl
/-- What Fold and Unfold answer. -/
def foldR (w l : List Int) : List Int × Int := if lumps l.length then (if wcode w = 0 then (foldsL w l, 0) else ([], wcode w)) else ([], 1)
def unfoldR (w l : List Int) : List Int × Int := if lumps l.length then (if wcode w = 0 then (unfoldsL w l, 0) else ([], wcode w)) else ([], 1)
theorem fold_R (k : Nat) (l w : List Int) (hl : l.length ≤ 1000) (hw : w.length ≤ 1000) (hk : w.length < k) : knead_Fold.f k l w = some (foldR w l) := by
  unfold knead_Fold.f foldR
  rw [validate_eq, worded_eq, folded_eq k l w hl hw hk]
  cases lumps l.length with
  | false => rfl
  | true =>
    simp only [Option.bind_some, if_true]
    split <;> rfl
theorem refBoth_eq (k : Nat) (l w : List Int) (hw : w.length ≤ 1000) (hk : w.length < k) : verditerref07_both.f k l w = some (if lumps l.length then wcode w else 1) := by
  unfold verditerref07_both.f
  rw [refValidate_eq, refWorded_eq k w hw hk]
  cases lumps l.length <;> rfl
theorem refFold_R (k : Nat) (l w : List Int) (hl : l.length ≤ 1000) (hw : w.length ≤ 1000) (hk : l.length + w.length < k) : verditerref07_Fold.f k l w = some (foldR w l) := by
  unfold verditerref07_Fold.f foldR
  rw [refBoth_eq k l w hw (by omega)]
  cases c : lumps l.length with
  | false => rfl
  | true =>
    simp only [Option.bind_some, if_true]
    split
    · rename_i h
      rw [refFold_eq k l w (lumps_nat c).2.2 hl (wcode_zero h).2 hw hk]
      rfl
    · rfl
theorem refUnfold_R (k : Nat) (l w : List Int) (hl : l.length ≤ 1000) (hw : w.length ≤ 1000) (hk : l.length + w.length < k) : verditerref07_Unfold.f k l w = some (unfoldR w l) := by
  unfold verditerref07_Unfold.f unfoldR
  rw [refBoth_eq k l w hw (by omega)]
  cases c : lumps l.length with
  | false => rfl
  | true =>
    simp only [Option.bind_some, if_true]
    split
    · rename_i h
      rw [refUnfold_eq k l w (lumps_nat c).2.2 hl (wcode_zero h).2 hw hk]
      rfl
    · rfl
/-- What Place answers. -/
def placeR (n : Int) (w : List Int) (p : Int) : Int × Int := if lumps n then (if 0 ≤ p ∧ p < n then (if wcode w = 0 then ((alongN n.toNat w p.toNat : Int), 0) else (0, wcode w)) else (0, 4)) else (0, 1)
theorem place_l0 {n : Nat} (hn : n % 2 = 0) (hs : n ≤ 1000) (w : List Int) (hw : Kinds w) (hl : w.length ≤ 1000) : ∀ (d k i p : Nat), i + d = w.length → d < k → p < n →
    knead_Place.l0 k (n : Int) (p : Int) w (w.length : Int) (i : Int) = some (((alongN n (w.drop i) p : Nat) : Int), 0) := by
  intro d
  induction d with
  | zero =>
    intro k i p h1 h2 hp
    obtain ⟨k, rfl⟩ : ∃ m, k = m + 1 := ⟨k - 1, by omega⟩
    simp only [knead_Place.l0]
    rw [if_neg (by omega), List.drop_eq_nil_of_le (by omega)]
    rfl
  | succ d ih =>
    intro k i p h1 h2 hp
    obtain ⟨k, rfl⟩ : ∃ m, k = m + 1 := ⟨k - 1, by omega⟩
    have hx : i < w.length := by omega
    have hkk : w[i].toNat ≤ 1 ∧ (w[i].toNat : Int) = w[i] := by rcases hw _ (List.getElem_mem hx) with h | h <;> rw [h] <;> simp
    simp only [knead_Place.l0]
    rw [if_pos (by omega), if_pos (by omega), if_pos (by omega), rd_nat w i hx, ← hkk.2, step_eq hn hs hkk.1 hp]
    simp only [Option.bind_some]
    rw [wrap_nat _ (by omega), ih k (i + 1) _ (by omega) (by omega) (step_lt hn hkk.1 hp), List.drop_eq_getElem_cons hx]
    rfl
theorem lumps_int {n : Int} (h : lumps n = true) : 2 ≤ n ∧ n ≤ 32 ∧ n % 2 = 0 := of_decide_eq_true h
theorem place_R (k : Nat) (n : Int) (w : List Int) (p : Int) (hw : w.length ≤ 1000) (hk : w.length + 1 < k) : knead_Place.f k n w p = some (placeR n w p) := by
  unfold knead_Place.f placeR
  rw [isLumps_eq]
  obtain ⟨k, rfl⟩ : ∃ m, k = m + 1 := ⟨k - 1, by omega⟩
  simp only [Option.bind_some]
  cases c : lumps n with
  | false => rfl
  | true =>
    have hc := lumps_int c
    simp only [if_true]
    by_cases hp : 0 ≤ p ∧ p < n
    · rw [if_neg (by omega), if_pos hp, show decide (p ≥ n) = false by simp; omega]
      simp only [knead_Place.j0, Bool.false_eq_true, if_false]
      rw [worded_eq]
      simp only [Option.bind_some]
      by_cases h : wcode w = 0
      · rw [if_pos h, if_pos h]
        obtain ⟨m, rfl⟩ := Int.eq_ofNat_of_zero_le (show 0 ≤ n by omega)
        obtain ⟨q, rfl⟩ := Int.eq_ofNat_of_zero_le hp.1
        have := place_l0 (n := m) (by omega) (by omega) w (wcode_zero h).2 hw w.length k 0 q (by omega) (by omega) (by omega)
        simpa using this
      · rw [if_neg h, if_neg h]
    · rw [if_neg hp]
      by_cases h0 : p < 0
      · rw [if_pos h0]; simp only [knead_Place.j0, if_true]
      · rw [if_neg h0, show decide (p ≥ n) = true by simp; omega]; simp only [knead_Place.j0, if_true]
theorem wrap_small {x : Int} (h1 : -1000000 ≤ x) (h2 : x ≤ 1000000) : wrap64 x = x := by unfold wrap64; omega
theorem refPlace_R (k : Nat) (n : Int) (w : List Int) (p : Int) (hw : w.length ≤ 1000) (hk : w.length + 1 < k) : verditerref07_Place.f k n w p = some (placeR n w p) := by
  unfold verditerref07_Place.f placeR
  rw [refLumps_eq]
  simp only [Option.bind_some]
  cases c : lumps n with
  | false => rfl
  | true =>
    have hc := lumps_int c
    simp only [if_true]
    rw [within_eq, wrap_small (by omega) (by omega)]
    simp only [Option.bind_some]
    by_cases hp : 0 ≤ p ∧ p < n
    · rw [if_pos (by simp; omega), if_pos hp, refWorded_eq k w hw (by omega)]
      simp only [Option.bind_some]
      by_cases h : wcode w = 0
      · rw [if_pos h, if_pos h]
        obtain ⟨m, rfl⟩ := Int.eq_ofNat_of_zero_le (show 0 ≤ n by omega)
        obtain ⟨q, rfl⟩ := Int.eq_ofNat_of_zero_le hp.1
        have := along_eq (n := m) (p := q) (by omega) (by omega) w (wcode_zero h).2 hw k (by omega) (by omega)
        simp [this]
      · rw [if_neg h, if_neg h]
    · rw [if_neg hp, if_neg (by simp; omega)]
/-- 0, 1, 2, .. -/
def numL (n : Nat) : List Int := (List.range n).map (fun (i : Nat) => (i : Int))
theorem numL_length (n : Nat) : (numL n).length = n := by simp [numL]
theorem numL_succ (n : Nat) : numL (n + 1) = numL n ++ [(n : Int)] := by simp [numL, List.range_succ]
theorem numL_getD (n i : Nat) (h : i < n) : (numL n).getD i 0 = (i : Int) := by
  rw [List.getD_eq_getElem?_getD, List.getElem?_eq_getElem (by rw [numL_length]; exact h)]
  simp [numL]
theorem numbers_l0 (n : Nat) (hn : n ≤ 1000) : ∀ (d k i : Nat), i + d = n → d < k → verditerref01_Numbers.l0 k (n : Int) (numL i) (i : Int) = some (numL n) := by
  intro d
  induction d with
  | zero =>
    intro k i h1 h2
    obtain ⟨k, rfl⟩ : ∃ m, k = m + 1 := ⟨k - 1, by omega⟩
    simp only [verditerref01_Numbers.l0]
    rw [if_neg (by omega), show i = n by omega]
  | succ d ih =>
    intro k i h1 h2
    obtain ⟨k, rfl⟩ : ∃ m, k = m + 1 := ⟨k - 1, by omega⟩
    simp only [verditerref01_Numbers.l0]
    rw [if_pos (by omega), if_pos (by rw [numL_length]; omega), wrap_nat _ (by omega), ← numL_succ, ih k (i + 1) (by omega) (by omega)]
theorem numbers_eq (k n : Nat) (hn : n ≤ 1000) (hk : n < k) : verditerref01_Numbers.f k (n : Int) = some (numL n) := by
  unfold verditerref01_Numbers.f
  exact numbers_l0 n hn n k 0 (by omega) hk
theorem fresh_l0 (n : Nat) (hn : n ≤ 1000) : ∀ (d k i : Nat), i + d = n → d < k → knead_fresh.l0 k (numL i) (n : Int) (i : Int) = some (numL n) := by
  intro d
  induction d with
  | zero =>
    intro k i h1 h2
    obtain ⟨k, rfl⟩ : ∃ m, k = m + 1 := ⟨k - 1, by omega⟩
    simp only [knead_fresh.l0]
    rw [if_neg (by omega), show i = n by omega]
  | succ d ih =>
    intro k i h1 h2
    obtain ⟨k, rfl⟩ : ∃ m, k = m + 1 := ⟨k - 1, by omega⟩
    simp only [knead_fresh.l0]
    rw [if_pos (by omega), if_pos (by rw [numL_length]; omega), wrap_nat _ (by omega), ← numL_succ, ih k (i + 1) (by omega) (by omega)]
theorem fresh_eq (k n : Nat) (hn : n ≤ 1000) (hk : n < k) : knead_fresh.f k (n : Int) = some (numL n) := by
  unfold knead_fresh.f
  exact fresh_l0 n hn n k 0 (by omega) hk
end Go.Proofs.Ytgnklmhjejbcoaa.K
