/- Plain: what Left, Grade and State answer for a record that is not long. -/
import Derived.Test.YtfejfljgdeglgaaQR
import Derived.Test.YtfejfljgdeglgaaK2
import Derived.Test.YtfejfljgdeglgaaK3
import Derived.Test.YtfejfljgdeglgaaK5
import Derived.Test.YtfejfljgdeglgaaK7
import Derived.Test.YtfejfljgdeglgaaK9
namespace Go.Proofs.Ytfejfljgdeglgaa.K
open Go.RowKit Go.Proofs.YtfejfljgdeglgaaW.PrintWords Go.Proofs.YtfejfljgdeglgaaW.PrintLast Go.Proofs.YtfejfljgdeglgaaW.PrintMore
set_option linter.unusedVariables false
set_option linter.unusedSimpArgs false
/-- The places from n on, m of them, at which a test holds. -/
def sel (p : Int → Bool) (arr : List Int) : Nat → Nat → List Int
  | 0, _ => []
  | m + 1, n => if p (arr.getD n 0) = true then (n : Int) :: sel p arr m (n + 1) else sel p arr m (n + 1)
theorem sel_length (p : Int → Bool) (arr : List Int) : ∀ m n, (sel p arr m n).length ≤ m
  | 0, _ => Nat.le_refl _
  | m + 1, n => by
    have := sel_length p arr m (n + 1)
    rw [sel]
    split
    · rw [List.length_cons]; omega
    · omega
theorem sel_congr (p q : Int → Bool) (arr : List Int) : ∀ m n, (∀ i, n ≤ i → i < n + m → p (arr.getD i 0) = q (arr.getD i 0)) → sel p arr m n = sel q arr m n
  | 0, _, _ => rfl
  | m + 1, n, h => by
    rw [sel, sel, h n (by omega) (by omega), sel_congr p q arr m (n + 1) (fun i h1 h2 => h i (by omega) (by omega))]
theorem mem_sel (p : Int → Bool) (arr : List Int) (x : Int) : ∀ m n, x ∈ sel p arr m n ↔ ∃ i : Nat, n ≤ i ∧ i < n + m ∧ x = i ∧ p (arr.getD i 0) = true
  | 0, n => by
    rw [sel]
    constructor
    · intro h; cases h
    · rintro ⟨i, h1, h2, _⟩; omega
  | m + 1, n => by
    have ih := mem_sel p arr x m (n + 1)
    rw [sel]
    constructor
    · intro h
      split at h
      · rename_i hp
        rcases List.mem_cons.1 h with rfl | h
        · exact ⟨n, by omega, by omega, rfl, hp⟩
        · obtain ⟨i, h1, h2, h3⟩ := ih.1 h
          exact ⟨i, by omega, by omega, h3⟩
      · obtain ⟨i, h1, h2, h3⟩ := ih.1 h
        exact ⟨i, by omega, by omega, h3⟩
    · rintro ⟨i, h1, h2, h3, h4⟩
      by_cases e : i = n
      · subst e
        rw [if_pos h4, h3]
        exact List.mem_cons_self ..
      · have := ih.2 ⟨i, by omega, by omega, h3, h4⟩
        split
        · exact List.mem_cons_of_mem _ this
        · exact this
theorem rleft_l0 (g : Nat) (lies : Int) (arr : List Int) (hg : arr.length = g) (hg2 : g ≤ 1000) : ∀ m n k (acc : List Int), n + m = g → m < k → acc.length ≤ n →
    verditerref02_left.l0 k g lies arr acc n = some (acc ++ sel (fun c => decide (c ≤ lies)) arr m n)
  | m, n, 0, acc, _, hk, _ => by omega
  | 0, n, k + 1, acc, h, _, _ => by rw [verditerref02_left.l0, if_neg (by omega), sel, List.append_nil]
  | m + 1, n, k + 1, acc, h, hk, ha => by
    rw [verditerref02_left.l0, if_pos (by omega), if_pos (by omega), if_pos (by omega), rd_nat, sel]
    by_cases e : arr.getD n 0 ≤ lies
    · rw [if_pos e, if_pos (by omega), if_pos (decide_eq_true e), w_succ n (by omega), rleft_l0 g lies arr hg hg2 m (n + 1) k _ (by omega) (by omega) (by rw [List.length_append, List.length_singleton]; omega), List.append_assoc]
      rfl
    · rw [if_neg e, if_neg (by simpa using e), w_succ n (by omega), rleft_l0 g lies arr hg hg2 m (n + 1) k _ (by omega) (by omega) (by omega)]
theorem jleft_l0 (lo hi : Int) (arr : List Int) (hg2 : arr.length ≤ 1000) : ∀ m n k (acc : List Int), n + m = arr.length → m < k → acc.length ≤ n →
    judge_left.l0 k lo hi acc arr (arr.length : Int) n = some (acc ++ sel (fun c => decide (lo ≤ c ∧ c ≤ hi)) arr m n)
  | m, n, 0, acc, _, hk, _ => by omega
  | 0, n, k + 1, acc, h, _, _ => by rw [judge_left.l0, if_neg (by omega), sel, List.append_nil]
  | m + 1, n, k + 1, acc, h, hk, ha => by
    rw [judge_left.l0, if_pos (by omega), if_pos (by omega), if_pos (by omega), rd_nat, sel, jwithin, Option.bind_some]
    by_cases e : lo ≤ arr.getD n 0 ∧ arr.getD n 0 ≤ hi
    · rw [if_pos (decide_eq_true e), if_pos (by omega), if_pos (decide_eq_true e), w_succ n (by omega), jleft_l0 lo hi arr hg2 m (n + 1) k _ (by omega) (by omega) (by rw [List.length_append, List.length_singleton]; omega), List.append_assoc]
      rfl
    · rw [if_neg (by simpa using e), if_neg (by simpa using e), w_succ n (by omega), jleft_l0 lo hi arr hg2 m (n + 1) k _ (by omega) (by omega) (by omega)]
/-- The grades with at most so many answers against them. -/
def leftL (l : List S49) (g : Nat) (lies : Int) : List Int := sel (fun c => decide (c ≤ lies)) (agP l g) g 0
theorem leftL_length (l : List S49) (g : Nat) (lies : Int) : (leftL l g lies).length ≤ g := sel_length _ _ _ _
theorem rleft (g : Nat) (l : List S49) (hg : g ≤ 16) (hl : l.length ≤ 12) (hs : ∀ s ∈ l, s.f0.length ≤ 100) (lies : Int) (k : Nat) (hk : 400 ≤ k) : verditerref02_left.f k g l lies = some (leftL l g lies) := by
  unfold verditerref02_left.f
  rw [ragainst g l hg hl hs k hk, Option.bind_some]
  have := rleft_l0 g lies (agP l g) (agP_length l g) (by omega) g 0 k [] (by omega) (by omega) (Nat.le_refl _)
  exact this
theorem jleft (g : Nat) (l : List S49) (hg : g ≤ 16) (hl : l.length ≤ 12) (hs : ∀ s ∈ l, s.f0.length ≤ 100) (lo hi : Int) (k : Nat) (hk : 400 ≤ k) : judge_left.f k g l lo hi = some (sel (fun c => decide (lo ≤ c ∧ c ≤ hi)) (agP l g) g 0) := by
  unfold judge_left.f
  rw [jagainst g l hg hl hs k hk, Option.bind_some]
  have := jleft_l0 lo hi (agP l g) (by rw [agP_length]; omega) g 0 k [] (by rw [agP_length]; omega) (by omega) (Nat.le_refl _)
  exact this
theorem jleft0 (g : Nat) (l : List S49) (lies : Int) : sel (fun c => decide (0 ≤ c ∧ c ≤ lies)) (agP l g) g 0 = leftL l g lies := by
  refine sel_congr _ _ _ _ _ (fun i _ h => ?_)
  rw [agP_get l g i (by omega)]
  rw [decide_eq_decide]
  omega
/-- What Left answers. -/
def leftV (g : Int) (l : List S49) (lies : Int) : List Int × Int := if validV g l = 0 then (if 0 ≤ lies ∧ lies ≤ 12 then (leftL l g.toNat lies, 0) else ([], 1)) else ([], validV g l)
theorem rLeft (g : Int) (l : List S49) (hs : Short l) (lies : Int) (k : Nat) (hk : 400 ≤ k) : verditerref02_Left.f k g l lies = some (leftV g l lies) := by
  unfold verditerref02_Left.f leftV
  rw [rvalid g l k (by omega), Option.bind_some]
  by_cases h : validV g l = 0
  · rw [if_pos h, if_pos h, rwithin, Option.bind_some]
    obtain ⟨h1, h2, h3⟩ := valid_of h
    obtain ⟨n, rfl, h4, h5⟩ := nat_of ⟨h1, h2⟩
    by_cases h6 : 0 ≤ lies ∧ lies ≤ 12
    · rw [if_pos (decide_eq_true h6), if_pos h6, rleft n l h4 h3 hs.2 lies k hk]
      rfl
    · rw [if_neg (by simpa using h6), if_neg h6]
  · rw [if_neg h, if_neg h]
theorem jLeft (g : Int) (l : List S49) (hs : Short l) (lies : Int) (k : Nat) (hk : 400 ≤ k) : judge_Left.f k g l lies = some (leftV g l lies) := by
  unfold judge_Left.f leftV
  rw [jvalid g l, Option.bind_some]
  by_cases h : validV g l = 0
  · rw [if_pos h, if_pos h, jwithin, Option.bind_some]
    obtain ⟨h1, h2, h3⟩ := valid_of h
    obtain ⟨n, rfl, h4, h5⟩ := nat_of ⟨h1, h2⟩
    by_cases h6 : 0 ≤ lies ∧ lies ≤ 12
    · rw [if_pos (decide_eq_true h6), if_pos h6, jleft n l h4 h3 hs.2 0 lies k hk, jleft0]
      rfl
    · rw [if_neg (by simpa using h6), if_neg h6]
  · rw [if_neg h, if_neg h]
theorem leftV_length (g : Int) (l : List S49) (lies : Int) : (leftV g l lies).1.length ≤ 16 := by
  unfold leftV
  split
  · rename_i h
    obtain ⟨h1, h2, h3⟩ := valid_of h
    split
    · have := leftL_length l g.toNat lies
      show (leftL l g.toNat lies).length ≤ 16
      omega
    · exact Nat.zero_le _
  · exact Nat.zero_le _
/-- What Grade answers. -/
def gradeV (g : Int) (l : List S49) : Int × Bool × Int := if validV g l = 0 then (if (leftL l g.toNat 1).length = 1 then (rd (leftL l g.toNat 1) 0, true, 0) else (0, false, 0)) else (0, false, validV g l)
theorem rGrade (g : Int) (l : List S49) (hs : Short l) (k : Nat) (hk : 400 ≤ k) : verditerref02_Grade.f k g l = some (gradeV g l) := by
  unfold verditerref02_Grade.f gradeV
  rw [rvalid g l k (by omega), Option.bind_some]
  by_cases h : validV g l = 0
  · rw [if_pos h, if_pos h]
    obtain ⟨h1, h2, h3⟩ := valid_of h
    obtain ⟨n, rfl, h4, h5⟩ := nat_of ⟨h1, h2⟩
    rw [rleft n l h4 h3 hs.2 1 k hk, Option.bind_some, Int.toNat_natCast]
    by_cases h6 : (leftL l n 1).length = 1
    · rw [if_pos (by omega), if_pos (by omega), if_pos h6]
    · rw [if_neg (by omega), if_neg h6]
  · rw [if_neg h, if_neg h]
theorem jGrade (g : Int) (l : List S49) (hs : Short l) (k : Nat) (hk : 400 ≤ k) : judge_Grade.f k g l = some (gradeV g l) := by
  unfold judge_Grade.f gradeV
  rw [jvalid g l, Option.bind_some]
  by_cases h : validV g l = 0
  · rw [if_pos h, if_pos h]
    obtain ⟨h1, h2, h3⟩ := valid_of h
    obtain ⟨n, rfl, h4, h5⟩ := nat_of ⟨h1, h2⟩
    rw [jleft n l h4 h3 hs.2 0 1 k hk, jleft0, Option.bind_some, Int.toNat_natCast]
    by_cases h6 : (leftL l n 1).length = 1
    · rw [if_pos (by omega), if_pos (by omega), if_pos h6]
    · rw [if_neg (by omega), if_neg h6]
  · rw [if_neg h, if_neg h]
theorem sel_sum (arr : List Int) : ∀ m n, (∀ i, n ≤ i → i < n + m → 0 ≤ arr.getD i 0) → (sel (fun c => decide (c ≤ 1)) arr m n).length = (sel (fun c => decide (0 ≤ c ∧ c ≤ 0)) arr m n).length + (sel (fun c => decide (1 ≤ c ∧ c ≤ 1)) arr m n).length
  | 0, _, _ => rfl
  | m + 1, n, h => by
    have ih := sel_sum arr m (n + 1) (fun i h1 h2 => h i (by omega) (by omega))
    have h0 := h n (by omega) (by omega)
    simp only [sel]
    by_cases e0 : arr.getD n 0 = 0
    · rw [if_pos (decide_eq_true (by omega)), if_pos (decide_eq_true (by omega)), if_neg (by simp only [decide_eq_true_eq]; omega), List.length_cons, List.length_cons]; omega
    · by_cases e1 : arr.getD n 0 = 1
      · rw [if_pos (decide_eq_true (by omega)), if_neg (by simp only [decide_eq_true_eq]; omega), if_pos (decide_eq_true (by omega)), List.length_cons, List.length_cons]; omega
      · rw [if_neg (by simp only [decide_eq_true_eq]; omega), if_neg (by simp only [decide_eq_true_eq]; omega), if_neg (by simp only [decide_eq_true_eq]; omega)]; omega
theorem agP_nonneg (l : List S49) (g i : Nat) (h : i < g) : 0 ≤ (agP l g).getD i 0 := by rw [agP_get l g i h]; omega
/-- The grades with one answer against them. -/
def oneL (l : List S49) (g : Nat) : List Int := sel (fun c => decide (1 ≤ c ∧ c ≤ 1)) (agP l g) g 0
theorem left_sum (l : List S49) (g : Nat) : (leftL l g 1).length = (leftL l g 0).length + (oneL l g).length := by
  have := sel_sum (agP l g) g 0 (fun i _ h => agP_nonneg l g i (by omega))
  rw [jleft0] at this
  exact this
/-- What State answers. -/
def stateV (g : Int) (l : List S49) : Int × Int × Int := if validV g l = 0 then (((leftL l g.toNat 0).length : Nat), ((oneL l g.toNat).length : Nat), 0) else (0, 0, validV g l)
theorem rState (g : Int) (l : List S49) (hs : Short l) (k : Nat) (hk : 400 ≤ k) : verditerref02_State.f k g l = some (stateV g l) := by
  unfold verditerref02_State.f stateV
  rw [rvalid g l k (by omega), Option.bind_some]
  by_cases h : validV g l = 0
  · rw [if_pos h, if_pos h]
    obtain ⟨h1, h2, h3⟩ := valid_of h
    obtain ⟨n, rfl, h4, h5⟩ := nat_of ⟨h1, h2⟩
    rw [rleft n l h4 h3 hs.2 0 k hk, rleft n l h4 h3 hs.2 1 k hk, Option.bind_some, Option.bind_some, Int.toNat_natCast]
    have h6 := left_sum l n
    have h7 := leftL_length l n 1
    rw [wid (by omega) (by omega)]
    rw [h6, show (((leftL l n 0).length + (oneL l n).length : Nat) : Int) - ((leftL l n 0).length : Nat) = ((oneL l n).length : Nat) by omega]
  · rw [if_neg h, if_neg h]
theorem jState (g : Int) (l : List S49) (hs : Short l) (k : Nat) (hk : 400 ≤ k) : judge_State.f k g l = some (stateV g l) := by
  unfold judge_State.f stateV
  rw [jvalid g l, Option.bind_some]
  by_cases h : validV g l = 0
  · rw [if_pos h, if_pos h]
    obtain ⟨h1, h2, h3⟩ := valid_of h
    obtain ⟨n, rfl, h4, h5⟩ := nat_of ⟨h1, h2⟩
    rw [jleft n l h4 h3 hs.2 0 0 k hk, jleft n l h4 h3 hs.2 1 1 k hk, jleft0]
    rfl
  · rw [if_neg h, if_neg h]
theorem left_more (l : List S49) (g : Nat) (lies : Int) (x : Int) (h : x ∈ leftL l g lies) : x ∈ leftL l g (lies + 1) := by
  unfold leftL at h ⊢
  rw [mem_sel] at h ⊢
  obtain ⟨i, h1, h2, h3, h4⟩ := h
  simp only [decide_eq_true_eq] at h4
  exact ⟨i, h1, h2, h3, by simp only [decide_eq_true_eq]; omega⟩
end Go.Proofs.Ytfejfljgdeglgaa.K
