/- What the Lean functions of knead's and the reference's small functions answer, for all lists and numbers that their own guards let in. -/
import Derived.Test.YtgnklmhjejbcoaaQA
import Derived.Test.YtgnklmhjejbcoaaK1
import Derived.Test.YtgnklmhjejbcoaaK2
namespace Go.Proofs.Ytgnklmhjejbcoaa.K
open Go.RowKit Go.Proofs.YtgnklmhjejbcoaaW.PrintWords Go.Proofs.YtgnklmhjejbcoaaW.PrintLast Go.Proofs.YtgnklmhjejbcoaaW.PrintMore
set_option linter.unusedVariables false
set_option linter.unusedSimpArgs false

def lumps (n : Int) : Bool := decide (2 ≤ n ∧ n ≤ 32 ∧ n % 2 = 0)
theorem isLumps_eq (n : Int) : knead_isLumps.f n = some (lumps n) := by
  unfold knead_isLumps.f lumps
  by_cases h : n ≥ 2
  · rw [if_pos h]
    by_cases h2 : n ≤ 32
    · rw [if_pos h2, Int.tmod_eq_emod_of_nonneg (by omega)]
      congr 1
      rw [Bool.eq_iff_iff]
      simp
      omega
    · rw [if_neg h2]; congr 1; symm; simp; omega
  · rw [if_neg h]; congr 1; symm; simp; omega
theorem within_eq (a lo hi : Int) : verditerref01_Within.f a lo hi = some (decide (lo ≤ a ∧ a ≤ hi)) := by
  unfold verditerref01_Within.f
  by_cases h : a ≥ lo
  · rw [if_pos h]; congr 1; rw [Bool.eq_iff_iff]; simp; omega
  · rw [if_neg h]; congr 1; symm; simp; omega
theorem refLumps_eq (n : Int) : verditerref07_isLumps.f n = some (lumps n) := by
  unfold verditerref07_isLumps.f lumps
  rw [within_eq]
  simp only [Option.bind_some]
  by_cases h : 2 ≤ n ∧ n ≤ 32
  · rw [if_pos (by simpa using h), Int.tmod_eq_emod_of_nonneg (by omega)]
    congr 1
    rw [Bool.eq_iff_iff]
    simp
    omega
  · rw [if_neg (by simpa using h)]; congr 1; symm; simp; omega
theorem validate_eq (l : List Int) : knead_Validate.f l = some (if lumps l.length then 0 else 1) := by
  unfold knead_Validate.f
  rw [isLumps_eq]
  simp only [Option.bind_some]
  cases lumps l.length <;> rfl
theorem refValidate_eq (l : List Int) : verditerref07_Validate.f l = some (if lumps l.length then 0 else 1) := by
  unfold verditerref07_Validate.f
  rw [refLumps_eq]
  simp only [Option.bind_some]
  cases lumps l.length <;> rfl
theorem long_eq (l : List Int) : verditerlaw07_Long.f l = some (decide (100 < l.length)) := by
  unfold verditerlaw07_Long.f
  congr 1
  rw [Bool.eq_iff_iff]; simp; omega
theorem lumps_nat {n : Nat} (h : lumps (n : Int) = true) : 2 ≤ n ∧ n ≤ 32 ∧ n % 2 = 0 := by
  unfold lumps at h
  have := of_decide_eq_true h
  omega
theorem lumps_of {n : Nat} (h : 2 ≤ n ∧ n ≤ 32 ∧ n % 2 = 0) : lumps (n : Int) = true := by
  unfold lumps
  exact decide_eq_true (by omega)

theorem cons_dec {x y : Int} {a b : List Int} (h : x = y) : decide (a = b) = decide (x :: a = y :: b) := by subst h; simp
theorem cons_dec' {x y : Int} {a b : List Int} (h : ¬ x = y) : false = decide (x :: a = y :: b) := by simp [h]
theorem same_l0 (xs ys : List Int) (he : xs.length = ys.length) (hs : xs.length < 9223372036854775807) : ∀ (d k i : Nat), i + d = xs.length → d < k →
    verditerref01_SameInts.l0 k xs ys (i : Int) = some (decide (xs.drop i = ys.drop i)) := by
  intro d
  induction d with
  | zero =>
    intro k i h1 h2
    obtain ⟨k, rfl⟩ : ∃ m, k = m + 1 := ⟨k - 1, by omega⟩
    simp only [verditerref01_SameInts.l0]
    rw [if_neg (by omega), List.drop_eq_nil_of_le (by omega), List.drop_eq_nil_of_le (by omega)]
    rfl
  | succ d ih =>
    intro k i h1 h2
    obtain ⟨k, rfl⟩ : ∃ m, k = m + 1 := ⟨k - 1, by omega⟩
    have hx : i < xs.length := by omega
    have hy : i < ys.length := by omega
    simp only [verditerref01_SameInts.l0]
    rw [if_pos (by omega), if_pos (by omega), if_pos (by omega), rd_nat xs i hx, rd_nat ys i hy, wrap_nat _ (by omega), ih k (i + 1) (by omega) (by omega), List.drop_eq_getElem_cons hx, List.drop_eq_getElem_cons hy]
    by_cases c : xs[i] = ys[i]
    · rw [if_pos c, cons_dec c]
    · rw [if_neg c, ← cons_dec' c]
theorem same_eq (k : Nat) (xs ys : List Int) (hk : xs.length < k) (hs : xs.length < 9223372036854775807) : verditerref01_SameInts.f k xs ys = some (decide (xs = ys)) := by
  unfold verditerref01_SameInts.f
  by_cases he : xs.length = ys.length
  · rw [if_pos (by omega)]
    simpa using same_l0 xs ys he hs xs.length k 0 (by omega) hk
  · rw [if_neg (by omega)]
    congr 1
    symm
    simp
    intro h
    exact he (by rw [h])
theorem equal_l0 (xs ys : List Int) (he : xs.length = ys.length) (hs : xs.length < 9223372036854775807) : ∀ (d k i : Nat), i + d = xs.length → d < k →
    slices_Equal_int_int.l0 k xs ys (xs.length : Int) (i : Int) = some (decide (xs.drop i = ys.drop i)) := by
  intro d
  induction d with
  | zero =>
    intro k i h1 h2
    obtain ⟨k, rfl⟩ : ∃ m, k = m + 1 := ⟨k - 1, by omega⟩
    simp only [slices_Equal_int_int.l0]
    rw [if_neg (by omega), List.drop_eq_nil_of_le (by omega), List.drop_eq_nil_of_le (by omega)]
    rfl
  | succ d ih =>
    intro k i h1 h2
    obtain ⟨k, rfl⟩ : ∃ m, k = m + 1 := ⟨k - 1, by omega⟩
    have hx : i < xs.length := by omega
    have hy : i < ys.length := by omega
    simp only [slices_Equal_int_int.l0]
    rw [if_pos (by omega), if_pos (by omega), if_pos (by omega), if_pos (by omega), rd_nat xs i hx, rd_nat ys i hy, wrap_nat _ (by omega), ih k (i + 1) (by omega) (by omega), List.drop_eq_getElem_cons hx, List.drop_eq_getElem_cons hy]
    by_cases c : xs[i] = ys[i]
    · rw [if_pos c, cons_dec c]
    · rw [if_neg c, ← cons_dec' c]
theorem equal_eq (k : Nat) (xs ys : List Int) (hk : xs.length < k) (hs : xs.length < 9223372036854775807) : slices_Equal_int_int.f k xs ys = some (decide (xs = ys)) := by
  unfold slices_Equal_int_int.f
  by_cases he : xs.length = ys.length
  · rw [if_pos (by omega)]
    simpa using equal_l0 xs ys he hs xs.length k 0 (by omega) hk
  · rw [if_neg (by omega)]
    congr 1
    symm
    simp
    intro h
    exact he (by rw [h])

theorem goes_eq {n p k : Nat} (hn : n % 2 = 0) (hs : n ≤ 1000) (hk : k ≤ 1) (hp : p < n) : verditerref07_goes.f (n : Int) (k : Int) (p : Int) = some ((stepN n p k : Nat) : Int) := by
  unfold verditerref07_goes.f stepN
  have h2 : wrap64 (Int.tdiv (n : Int) 2) = ((n / 2 : Nat) : Int) := by
    rw [Int.tdiv_eq_ediv_of_nonneg (by omega)]
    unfold wrap64
    omega
  rw [h2]
  by_cases c : p < n / 2
  · rw [if_pos (by omega), if_pos c]
    congr 1
    unfold wrap64
    omega
  · rw [if_neg (by omega), if_neg c]
    congr 1
    unfold wrap64
    omega
theorem step_eq {n p k : Nat} (hn : n % 2 = 0) (hs : n ≤ 1000) (hk : k ≤ 1) (hp : p < n) : knead_step.f (n : Int) (p : Int) (k : Int) = some ((stepN n p k : Nat) : Int) := by
  have := goes_eq hn hs hk hp
  unfold verditerref07_goes.f at this
  unfold knead_step.f
  exact this
theorem along_l0 {n : Nat} (hn : n % 2 = 0) (hs : n ≤ 1000) (w : List Int) (hw : Kinds w) (hl : w.length ≤ 1000) : ∀ (d k i p : Nat), i + d = w.length → d < k → p < n →
    verditerref07_along.l0 k (n : Int) w (p : Int) (i : Int) = some ((alongN n (w.drop i) p : Nat) : Int) := by
  intro d
  induction d with
  | zero =>
    intro k i p h1 h2 hp
    obtain ⟨k, rfl⟩ : ∃ m, k = m + 1 := ⟨k - 1, by omega⟩
    simp only [verditerref07_along.l0]
    rw [if_neg (by omega), List.drop_eq_nil_of_le (by omega)]
    rfl
  | succ d ih =>
    intro k i p h1 h2 hp
    obtain ⟨k, rfl⟩ : ∃ m, k = m + 1 := ⟨k - 1, by omega⟩
    have hx : i < w.length := by omega
    have hkk : w[i].toNat ≤ 1 ∧ (w[i].toNat : Int) = w[i] := by rcases hw _ (List.getElem_mem hx) with h | h <;> rw [h] <;> simp
    simp only [verditerref07_along.l0]
    rw [if_pos (by omega), if_pos (by omega), rd_nat w i hx, ← hkk.2, goes_eq hn hs hkk.1 hp]
    simp only [Option.bind_some]
    rw [wrap_nat _ (by omega), ih k (i + 1) _ (by omega) (by omega) (step_lt hn hkk.1 hp), List.drop_eq_getElem_cons hx]
    rfl
theorem along_eq {n p : Nat} (hn : n % 2 = 0) (hs : n ≤ 1000) (w : List Int) (hw : Kinds w) (hl : w.length ≤ 1000) (k : Nat) (hk : w.length < k) (hp : p < n) : verditerref07_along.f k (n : Int) w (p : Int) = some ((alongN n w p : Nat) : Int) := by
  unfold verditerref07_along.f
  simpa using along_l0 hn hs w hw hl w.length k 0 p (by omega) hk hp

theorem set_getD (xs : List Int) (i j : Nat) (v : Int) (hi : i < xs.length) : (xs.set i v).getD j 0 = if i = j then v else xs.getD j 0 := by
  rw [List.getD_eq_getElem?_getD, List.getElem?_set]
  split
  · rename_i h
    subst h
    simp [hi]
  · simp [List.getD_eq_getElem?_getD]
theorem refFold_l0 (l w : List Int) (hn : l.length % 2 = 0) (hs : l.length ≤ 1000) (hw : Kinds w) (hl : w.length ≤ 1000) : ∀ (d k i : Nat) (out : List Int), i + d = l.length → d + w.length < k → out.length = l.length →
    (∀ p, p < i → out.getD (alongN l.length w p) 0 = l.getD p 0) → verditerref07_fold.l0 k l w out (i : Int) = some (foldsL w l) := by
  intro d
  induction d with
  | zero =>
    intro k i out h1 h2 h3 h4
    obtain ⟨k, rfl⟩ : ∃ m, k = m + 1 := ⟨k - 1, by omega⟩
    simp only [verditerref07_fold.l0]
    rw [if_neg (by omega), folds_eq hw hn h3 (fun p hp => h4 p (by omega))]
  | succ d ih =>
    intro k i out h1 h2 h3 h4
    obtain ⟨k, rfl⟩ : ∃ m, k = m + 1 := ⟨k - 1, by omega⟩
    have hx : i < l.length := by omega
    have ha := along_lt hn w i hw hx
    simp only [verditerref07_fold.l0]
    rw [if_pos (by omega), along_eq hn hs w hw hl k (by omega) hx]
    simp only [Option.bind_some]
    rw [if_pos (by omega), if_pos (by omega), if_pos (by omega), Int.toNat_natCast, wrap_nat _ (by omega)]
    refine ih k (i + 1) _ (by omega) (by omega) (by simp [h3]) fun p hp => ?_
    rw [set_getD _ _ _ _ (by omega)]
    by_cases c : p = i
    · subst c
      rw [if_pos rfl, rd_nat l p hx, List.getD_eq_getElem?_getD, List.getElem?_eq_getElem hx]
      rfl
    · rw [if_neg (fun e => c ?_), h4 p (by omega)]
      have e1 := congrArg (backN l.length w) e
      rw [back_along hn w _ hw hx, back_along hn w _ hw (by omega)] at e1
      exact e1.symm
theorem refFold_eq (k : Nat) (l w : List Int) (hn : l.length % 2 = 0) (hs : l.length ≤ 1000) (hw : Kinds w) (hl : w.length ≤ 1000) (hk : l.length + w.length < k) : verditerref07_fold.f k l w = some (foldsL w l) := by
  unfold verditerref07_fold.f
  rw [if_pos (by omega), if_pos (by omega)]
  exact refFold_l0 l w hn hs hw hl l.length k 0 _ (by omega) (by omega) (by simp) (fun p hp => by omega)
theorem refUnfold_l0 (l w : List Int) (hn : l.length % 2 = 0) (hs : l.length ≤ 1000) (hw : Kinds w) (hl : w.length ≤ 1000) : ∀ (d k i : Nat) (out : List Int), i + d = l.length → d + w.length < k → out.length = l.length →
    (∀ p, p < i → out.getD p 0 = l.getD (alongN l.length w p) 0) → verditerref07_unfold.l0 k l w out (i : Int) = some (unfoldsL w l) := by
  intro d
  induction d with
  | zero =>
    intro k i out h1 h2 h3 h4
    obtain ⟨k, rfl⟩ : ∃ m, k = m + 1 := ⟨k - 1, by omega⟩
    simp only [verditerref07_unfold.l0]
    rw [if_neg (by omega), unfolds_eq hw hn h3 (fun p hp => h4 p (by omega))]
  | succ d ih =>
    intro k i out h1 h2 h3 h4
    obtain ⟨k, rfl⟩ : ∃ m, k = m + 1 := ⟨k - 1, by omega⟩
    have hx : i < l.length := by omega
    have ha := along_lt hn w i hw hx
    simp only [verditerref07_unfold.l0]
    rw [if_pos (by omega), along_eq hn hs w hw hl k (by omega) hx]
    simp only [Option.bind_some]
    rw [if_pos (by omega), if_pos (by omega), if_pos (by omega), if_pos (by omega), Int.toNat_natCast, wrap_nat _ (by omega)]
    refine ih k (i + 1) _ (by omega) (by omega) (by simp [h3]) fun p hp => ?_
    rw [set_getD _ _ _ _ (by omega)]
    by_cases c : p = i
    · subst c
      rw [if_pos rfl]
      rfl
    · rw [if_neg (fun e => c e.symm), h4 p (by omega)]
theorem refUnfold_eq (k : Nat) (l w : List Int) (hn : l.length % 2 = 0) (hs : l.length ≤ 1000) (hw : Kinds w) (hl : w.length ≤ 1000) (hk : l.length + w.length < k) : verditerref07_unfold.f k l w = some (unfoldsL w l) := by
  unfold verditerref07_unfold.f
  rw [if_pos (by omega), if_pos (by omega)]
  exact refUnfold_l0 l w hn hs hw hl l.length k 0 _ (by omega) (by omega) (by simp) (fun p hp => by omega)
end Go.Proofs.Ytgnklmhjejbcoaa.K
