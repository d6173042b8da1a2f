/- Plain facts on lists and places: what a fold, a word and their undoing do to each place, for all lists of an even length. -/
import Derived.Test.YtgnklmhjejbcoaaHU
namespace Go.Proofs.Ytgnklmhjejbcoaa.K
set_option linter.unusedVariables false

theorem ext_getD {xs ys : List Int} (hl : xs.length = ys.length) (h : ∀ i, i < xs.length → xs.getD i 0 = ys.getD i 0) : xs = ys := by
  apply List.ext_getElem hl
  intro i h1 h2
  have := h i h1
  rw [List.getD_eq_getElem?_getD, List.getD_eq_getElem?_getD, List.getElem?_eq_getElem h1, List.getElem?_eq_getElem h2] at this
  exact this

def stepN (n p k : Nat) : Nat := if p < n / 2 then 2 * p + k else 2 * (p - n / 2) + 1 - k
def unstepN (n q k : Nat) : Nat := if (q + k) % 2 = 0 then q / 2 else q / 2 + n / 2
section
variable {n p q k : Nat}
theorem step_lt (hn : n % 2 = 0) (hk : k ≤ 1) (hp : p < n) : stepN n p k < n := by unfold stepN; split <;> omega
theorem unstep_lt (hn : n % 2 = 0) (hq : q < n) : unstepN n q k < n := by unfold unstepN; split <;> omega
theorem step_unstep (hn : n % 2 = 0) (hk : k ≤ 1) (hq : q < n) : stepN n (unstepN n q k) k = q := by
  unfold unstepN
  split
  · rw [stepN, if_pos (by omega)]; omega
  · rw [stepN, if_neg (by omega)]; omega
theorem unstep_step (hn : n % 2 = 0) (hk : k ≤ 1) (hp : p < n) : unstepN n (stepN n p k) k = p := by
  unfold stepN
  split
  · rw [unstepN, if_pos (by omega)]; omega
  · rw [unstepN, if_neg (by omega)]; omega
end

theorem riffle_getD : ∀ (xs ys : List Int), xs.length = ys.length → ∀ q, (riffle xs ys).getD q 0 = if q % 2 = 0 then xs.getD (q / 2) 0 else ys.getD (q / 2) 0
  | [], [], _, q => by simp [riffle]
  | x :: xs, y :: ys, h, 0 => by simp [riffle]
  | x :: xs, y :: ys, h, 1 => by simp [riffle]
  | x :: xs, y :: ys, h, q + 2 => by
    have := riffle_getD xs ys (by simpa using h) q
    simp only [riffle, List.getD_cons_succ, this, show (q + 2) % 2 = q % 2 by omega, show (q + 2) / 2 = q / 2 + 1 by omega]
  | [], y :: ys, h, _ => by simp at h
  | x :: xs, [], h, _ => by simp at h
theorem pickP_getD : ∀ (l : List Int) (p i : Nat), p ≤ 1 → (pickP p l).getD i 0 = l.getD (2 * i + p) 0
  | [], p, i, _ => by simp [pickP]
  | x :: l, 0, 0, _ => by simp [pickP]
  | x :: l, 0, i + 1, _ => by
    have := pickP_getD l 1 i (by omega)
    simp only [pickP, List.getD_cons_succ, this, show 2 * (i + 1) + 0 = (2 * i + 1) + 1 by omega]
  | x :: l, 1, i, _ => by
    have := pickP_getD l 0 i (by omega)
    simp only [pickP, this, show 2 * i + 1 = (2 * i + 0) + 1 by omega, List.getD_cons_succ]
    rfl
  | _, n + 2, _, h => by omega
theorem pickP_length : ∀ (l : List Int) (p : Nat), p ≤ 1 → (pickP p l).length = (l.length + 1 - p) / 2
  | [], 0, _ => by simp [pickP]
  | [], 1, _ => by simp [pickP]
  | x :: l, 0, _ => by
    have := pickP_length l 1 (by omega)
    simp only [pickP, List.length_cons, this]
    omega
  | x :: l, 1, _ => by
    have := pickP_length l 0 (by omega)
    simp only [pickP, List.length_cons, this]
    omega
  | _, n + 2, h => by omega

theorem foldL_length (k : Int) (l : List Int) (h : l.length % 2 = 0) : (foldL k l).length = l.length := by
  unfold foldL
  split
  · rw [riffle_length _ _ (by simp; omega)]; simp; omega
  · rw [riffle_length _ _ (by simp; omega)]; simp; omega
theorem getD_take (l : List Int) (m i : Nat) (h : i < m) : (l.take m).getD i 0 = l.getD i 0 := by
  rw [List.getD_eq_getElem?_getD, List.getD_eq_getElem?_getD, List.getElem?_take, if_pos h]
theorem getD_drop (l : List Int) (m i : Nat) : (l.drop m).getD i 0 = l.getD (m + i) 0 := by
  rw [List.getD_eq_getElem?_getD, List.getD_eq_getElem?_getD, List.getElem?_drop]
theorem foldL_getD (l : List Int) (k q : Nat) (h : l.length % 2 = 0) (hk : k ≤ 1) (hq : q < l.length) : (foldL (k : Int) l).getD q 0 = l.getD (unstepN l.length q k) 0 := by
  unfold foldL unstepN
  split
  · rw [riffle_getD _ _ (by simp; omega), getD_take _ _ _ (by omega), getD_take _ _ _ (by omega), getD_drop]
    obtain rfl : k = 1 := by omega
    by_cases c : q % 2 = 0
    · rw [if_pos c, if_neg (by omega), Nat.add_comm]
    · rw [if_neg c, if_pos (by omega)]
  · rw [riffle_getD _ _ (by simp; omega), getD_take _ _ _ (by omega), getD_take _ _ _ (by omega), getD_drop]
    obtain rfl : k = 0 := by omega
    by_cases c : q % 2 = 0
    · rw [if_pos c, if_pos (by omega)]
    · rw [if_neg c, if_neg (by omega), Nat.add_comm]
theorem getD_append (xs ys : List Int) (i : Nat) : (xs ++ ys).getD i 0 = if i < xs.length then xs.getD i 0 else ys.getD (i - xs.length) 0 := by
  rw [List.getD_eq_getElem?_getD, List.getElem?_append]
  split <;> simp [List.getD_eq_getElem?_getD]
theorem unfoldL_length (k : Int) (l : List Int) : (unfoldL k l).length = l.length := by
  have h0 := pickP_length l 0 (by omega)
  have h1 := pickP_length l 1 (by omega)
  unfold unfoldL
  split <;> rw [List.length_append] <;> omega
theorem unfoldL_getD (l : List Int) (k p : Nat) (h : l.length % 2 = 0) (hk : k ≤ 1) (hp : p < l.length) : (unfoldL (k : Int) l).getD p 0 = l.getD (stepN l.length p k) 0 := by
  have h0 := pickP_length l 0 (by omega)
  have h1 := pickP_length l 1 (by omega)
  unfold unfoldL stepN
  split
  · obtain rfl : k = 1 := by omega
    rw [getD_append, h1, pickP_getD _ _ _ (by omega), pickP_getD _ _ _ (by omega)]
    by_cases c : p < l.length / 2
    · rw [if_pos c, if_pos (by omega)]
    · rw [if_neg c, if_neg (by omega)]; congr 1 <;> omega
  · obtain rfl : k = 0 := by omega
    rw [getD_append, h0, pickP_getD _ _ _ (by omega), pickP_getD _ _ _ (by omega)]
    by_cases c : p < l.length / 2
    · rw [if_pos c, if_pos (by omega)]
    · rw [if_neg c, if_neg (by omega)]; congr 1 <;> omega

/-! ### words -/
def Kinds (w : List Int) : Prop := ∀ k ∈ w, k = 0 ∨ k = 1
def alongN (n : Nat) (w : List Int) (p : Nat) : Nat := w.foldl (fun p k => stepN n p k.toNat) p
def backN (n : Nat) (w : List Int) (q : Nat) : Nat := w.foldr (fun k q => unstepN n q k.toNat) q
def foldsL (w l : List Int) : List Int := w.foldl (fun l k => foldL k l) l
def unfoldsL (w l : List Int) : List Int := w.foldr (fun k l => unfoldL k l) l
theorem Kinds.tail {k : Int} {w : List Int} (h : Kinds (k :: w)) : Kinds w := fun x hx => h x (List.mem_cons_of_mem _ hx)
theorem Kinds.head {k : Int} {w : List Int} (h : Kinds (k :: w)) : k.toNat ≤ 1 ∧ (k.toNat : Int) = k := by
  rcases h k List.mem_cons_self with rfl | rfl <;> simp
theorem along_cons (n : Nat) (k : Int) (w : List Int) (p : Nat) : alongN n (k :: w) p = alongN n w (stepN n p k.toNat) := rfl
theorem back_cons (n : Nat) (k : Int) (w : List Int) (q : Nat) : backN n (k :: w) q = unstepN n (backN n w q) k.toNat := rfl
theorem folds_cons (k : Int) (w l : List Int) : foldsL (k :: w) l = foldsL w (foldL k l) := rfl
theorem unfolds_cons (k : Int) (w l : List Int) : unfoldsL (k :: w) l = unfoldL k (unfoldsL w l) := rfl
theorem along_lt {n : Nat} (hn : n % 2 = 0) : ∀ (w : List Int) (p : Nat), Kinds w → p < n → alongN n w p < n
  | [], _, _, hp => hp
  | k :: w, p, hw, hp => along_lt hn w _ hw.tail (step_lt hn hw.head.1 hp)
theorem back_lt {n : Nat} (hn : n % 2 = 0) : ∀ (w : List Int) (q : Nat), q < n → backN n w q < n
  | [], _, hp => hp
  | k :: w, q, hq => unstep_lt hn (back_lt hn w q hq)
theorem along_back {n : Nat} (hn : n % 2 = 0) : ∀ (w : List Int) (q : Nat), Kinds w → q < n → alongN n w (backN n w q) = q
  | [], _, _, _ => rfl
  | k :: w, q, hw, hq => by rw [back_cons, along_cons, step_unstep hn hw.head.1 (back_lt hn w q hq), along_back hn w q hw.tail hq]
theorem back_along {n : Nat} (hn : n % 2 = 0) : ∀ (w : List Int) (p : Nat), Kinds w → p < n → backN n w (alongN n w p) = p
  | [], _, _, _ => rfl
  | k :: w, p, hw, hp => by rw [back_cons, along_cons, back_along hn w _ hw.tail (step_lt hn hw.head.1 hp), unstep_step hn hw.head.1 hp]
theorem folds_length : ∀ (w l : List Int), l.length % 2 = 0 → (foldsL w l).length = l.length
  | [], _, _ => rfl
  | k :: w, l, h => by rw [folds_cons, folds_length w _ (by rw [foldL_length _ _ h]; exact h), foldL_length _ _ h]
theorem unfolds_length : ∀ (w l : List Int), (unfoldsL w l).length = l.length
  | [], _ => rfl
  | k :: w, l => by rw [unfolds_cons, unfoldL_length, unfolds_length w l]
theorem folds_getD : ∀ (w l : List Int) (p : Nat), Kinds w → l.length % 2 = 0 → p < l.length → (foldsL w l).getD (alongN l.length w p) 0 = l.getD p 0
  | [], _, _, _, _, _ => rfl
  | k :: w, l, p, hw, h, hp => by
    have e := foldL_length k l h
    have h1 := folds_getD w (foldL k l) (stepN l.length p k.toNat) hw.tail (by rw [e]; exact h) (by rw [e]; exact step_lt h hw.head.1 hp)
    rw [e] at h1
    have h2 := foldL_getD l k.toNat (stepN l.length p k.toNat) h hw.head.1 (step_lt h hw.head.1 hp)
    rw [hw.head.2] at h2
    rw [folds_cons, along_cons, h1, h2, unstep_step h hw.head.1 hp]
theorem unfolds_getD : ∀ (w l : List Int) (p : Nat), Kinds w → l.length % 2 = 0 → p < l.length → (unfoldsL w l).getD p 0 = l.getD (alongN l.length w p) 0
  | [], _, _, _, _, _ => rfl
  | k :: w, l, p, hw, h, hp => by
    have e := unfolds_length w l
    have h1 := unfoldL_getD (unfoldsL w l) k.toNat p (by rw [e]; exact h) hw.head.1 (by rw [e]; exact hp)
    rw [hw.head.2, e] at h1
    rw [unfolds_cons, h1, unfolds_getD w l _ hw.tail h (step_lt h hw.head.1 hp), along_cons]
/-- Whatever has each lump where its place goes is the folded dough. -/
theorem folds_eq {w l r : List Int} (hw : Kinds w) (h : l.length % 2 = 0) (hr : r.length = l.length) (hp : ∀ p, p < l.length → r.getD (alongN l.length w p) 0 = l.getD p 0) : r = foldsL w l := by
  refine ext_getD (by rw [hr, folds_length w l h]) fun q hq => ?_
  rw [hr] at hq
  have h1 := hp _ (back_lt h w q hq)
  have h2 := folds_getD w l _ hw h (back_lt h w q hq)
  rw [along_back h w q hw hq] at h1 h2
  rw [h1, h2]
theorem unfolds_eq {w l r : List Int} (hw : Kinds w) (h : l.length % 2 = 0) (hr : r.length = l.length) (hp : ∀ p, p < l.length → r.getD p 0 = l.getD (alongN l.length w p) 0) : r = unfoldsL w l := by
  refine ext_getD (by rw [hr, unfolds_length w l]) fun q hq => ?_
  rw [hr] at hq
  rw [hp q hq, unfolds_getD w l q hw h hq]
theorem unfolds_folds {w l : List Int} (hw : Kinds w) (h : l.length % 2 = 0) : unfoldsL w (foldsL w l) = l := by
  have e := folds_length w l h
  refine ext_getD (by rw [unfolds_length, e]) fun q hq => ?_
  rw [unfolds_length, e] at hq
  rw [unfolds_getD w _ q hw (by rw [e]; exact h) (by rw [e]; exact hq), e, folds_getD w l q hw h hq]
theorem kinds_one {k : Int} (h : k = 0 ∨ k = 1) : Kinds [k] := fun x hx => by simp at hx; subst hx; exact h
end Go.Proofs.Ytgnklmhjejbcoaa.K
