/- Plain: the law JudgeAnswers says true at every input. -/
import Derived.Test.YtfejfljgdeglgaaQL
import Derived.Test.YtfejfljgdeglgaaK11
import Derived.Test.YtfejfljgdeglgaaK3
namespace Go.Proofs.Ytfejfljgdeglgaa.K
open Go.RowKit Go.Proofs.YtfejfljgdeglgaaW.PrintWords Go.Proofs.YtfejfljgdeglgaaW.PrintLast Go.Proofs.YtfejfljgdeglgaaW.PrintMore
set_option linter.unusedVariables false
set_option linter.unusedSimpArgs false
/-- How many of m numbers from n on pass a test. -/
def num (p : Nat → Bool) : Nat → Nat → Nat
  | 0, _ => 0
  | m + 1, n => (if p n = true then 1 else 0) + num p m (n + 1)
theorem num_congr (p q : Nat → Bool) : ∀ m n, (∀ i, n ≤ i → i < n + m → p i = q i) → num p m n = num q m n
  | 0, _, _ => rfl
  | m + 1, n, h => by rw [num, num, h n (by omega) (by omega), num_congr p q m (n + 1) (fun i h1 h2 => h i (by omega) (by omega))]
theorem num_split (p q : Nat → Bool) : ∀ m n, num p m n = num (fun i => p i && q i) m n + num (fun i => p i && !q i) m n
  | 0, _ => rfl
  | m + 1, n => by
    have := num_split p q m (n + 1)
    simp only [num]
    by_cases hp : p n = true <;> by_cases hq : q n = true <;> simp [hp, hq] <;> omega
theorem num_or (p q r : Nat → Bool) : ∀ m n, (∀ i, n ≤ i → i < n + m → (r i = (p i || q i)) ∧ ¬ (p i = true ∧ q i = true)) → num r m n = num p m n + num q m n
  | 0, _, _ => rfl
  | m + 1, n, h => by
    have := num_or p q r m (n + 1) (fun i h1 h2 => h i (by omega) (by omega))
    obtain ⟨h1, h2⟩ := h n (by omega) (by omega)
    simp only [num]
    rw [h1]
    cases hp : p n <;> cases hq : q n <;> simp [hp, hq] at h2 ⊢ <;> omega
theorem sel_filter (p : Int → Bool) (f : Int → Bool) (arr : List Int) : ∀ m n, ((sel p arr m n).filter f).length = num (fun i => p (arr.getD i 0) && f (i : Int)) m n
  | 0, _ => rfl
  | m + 1, n => by
    have := sel_filter p f arr m (n + 1)
    rw [sel, num]
    by_cases hp : p (arr.getD n 0) = true
    · rw [if_pos hp, List.filter_cons]
      by_cases hf : f (n : Int) = true
      · rw [if_pos hf, List.length_cons, this, if_pos (by rw [hp, hf]; rfl)]; omega
      · rw [if_neg hf, this, if_neg (by rw [hp]; simpa using hf)]; omega
    · rw [if_neg hp, this, if_neg (by intro h; rw [Bool.and_eq_true] at h; exact hp h.1)]; omega
theorem sel_num (p : Int → Bool) (arr : List Int) (m n : Nat) : (sel p arr m n).length = num (fun i => p (arr.getD i 0)) m n := by
  have h := sel_filter p (fun _ => true) arr m n
  rw [List.filter_eq_self.2 (fun _ _ => rfl)] at h
  rw [h]
  exact num_congr _ _ _ _ (fun i _ _ => Bool.and_true _)
theorem cnt_append (l : List S49) (m : S49) (g : Int) : cnt (l ++ [m]) g = cnt l g + (if (decide (g ∈ m.f0) != m.f1) = true then 1 else 0) := by
  induction l with
  | nil => simp [cnt]
  | cons s l ih =>
    rw [List.cons_append, cnt, cnt, ih]
    omega
theorem copy_l0 (l : List S49) (hl : l.length ≤ 100) (hs : ∀ s ∈ l, s.f0.length ≤ 100) : ∀ m n : Nat, n + m = l.length → ∀ k, verditerref02_Copy.l0 (k + m + 1) l (l.take n) (n : Int) = some l
  | 0, n, h, k => by rw [verditerref02_Copy.l0, if_neg (by omega), List.take_of_length_le (by omega)]
  | m + 1, n, h, k => by
    have hn : n < l.length := by omega
    rw [verditerref02_Copy.l0, if_pos (by omega), Option.bind_some, if_pos (by omega), rd49_nat, getD_at l n z49 hn, if_pos (by have := hs _ (List.getElem_mem hn); simp; omega), if_pos (by rw [List.length_take]; omega), w_succ n (by omega)]
    have e : l.take n ++ [(⟨[] ++ l[n].f0, l[n].f1⟩ : S49)] = l.take (n + 1) := by
      rw [List.take_add_one, List.getElem?_eq_getElem hn]
      rfl
    rw [e]
    exact copy_l0 l hl hs m (n + 1) (by omega) k
theorem copy_ok (l : List S49) (hs : Short l) (k : Nat) (hk : 200 ≤ k) : verditerref02_Copy.f k l = some l := by
  unfold verditerref02_Copy.f
  have := copy_l0 l hs.1 hs.2 l.length 0 (by omega) (k - l.length - 1)
  rw [show k - l.length - 1 + l.length + 1 = k by have := hs.1; omega] at this
  exact this
/-- How many of a list are named, and in another list, or not in it. -/
def inX (M Z L : List Int) : Nat := (L.filter fun i => decide (i ∈ M) && decide (i ∈ Z)).length
def inY (M Z L : List Int) : Nat := (L.filter fun i => decide (i ∈ M) && !decide (i ∈ Z)).length
theorem ans_l0 (a b c d : Int) (Z L M : List Int) (hL : L.length ≤ 100) (hZ : Z.length ≤ 100) (hM : M.length ≤ 100) (yes : Bool) : ∀ m n x y k : Nat, n + m = L.length → x ≤ n → y ≤ n → 200 ≤ k →
    verditerlaw02_judgeAnswers.l0 (k + m + 1) a b c d Z L (x : Int) (y : Int) (n : Int) M yes = verditerlaw02_judgeAnswers.l0 (k + 1) a b c d Z L ((x + inX M Z (L.drop n) : Nat) : Int) ((y + inY M Z (L.drop n) : Nat) : Int) (L.length : Int) M yes
  | 0, n, x, y, k, h, hx, hy, hk => by
    rw [show n = L.length by omega, List.drop_length]
    rfl
  | m + 1, n, x, y, k, h, hx, hy, hk => by
    have hn : n < L.length := by omega
    rw [show k + (m + 1) + 1 = (k + m + 1) + 1 by omega, verditerlaw02_judgeAnswers.l0, if_pos (by omega), if_pos (by omega), rd_nat, getD_at L n 0 hn, has_ok M _ _ (by omega) (by omega), Option.bind_some, w_succ n (by omega)]
    have e : L.drop n = L[n] :: L.drop (n + 1) := List.drop_eq_getElem_cons hn
    by_cases h1 : L[n] ∈ M
    · rw [if_pos (decide_eq_true h1), has_ok Z _ _ (by omega) (by omega), Option.bind_some]
      by_cases h2 : L[n] ∈ Z
      · rw [if_pos (decide_eq_true h2), w_succ x (by omega), ans_l0 a b c d Z L M hL hZ hM yes m (n + 1) (x + 1) y k (by omega) (by omega) (by omega) hk, e]
        unfold inX inY
        rw [List.filter_cons_of_pos (by rw [decide_eq_true h1, decide_eq_true h2]; rfl), List.filter_cons_of_neg (by rw [decide_eq_true h1, decide_eq_true h2]; decide), List.length_cons, show x + 1 + (List.filter (fun i => decide (i ∈ M) && decide (i ∈ Z)) (L.drop (n + 1))).length = x + ((List.filter (fun i => decide (i ∈ M) && decide (i ∈ Z)) (L.drop (n + 1))).length + 1) by omega]
      · rw [if_neg (by simpa using h2), w_succ y (by omega), ans_l0 a b c d Z L M hL hZ hM yes m (n + 1) x (y + 1) k (by omega) (by omega) (by omega) hk, e]
        unfold inX inY
        rw [List.filter_cons_of_neg (by rw [decide_eq_true h1, decide_eq_false h2]; decide), List.filter_cons_of_pos (by rw [decide_eq_true h1, decide_eq_false h2]; rfl), List.length_cons, show y + 1 + (List.filter (fun i => decide (i ∈ M) && !decide (i ∈ Z)) (L.drop (n + 1))).length = y + ((List.filter (fun i => decide (i ∈ M) && !decide (i ∈ Z)) (L.drop (n + 1))).length + 1) by omega]
    · rw [if_neg (by simpa using h1), ans_l0 a b c d Z L M hL hZ hM yes m (n + 1) x y k (by omega) (by omega) (by omega) hk, e]
      unfold inX inY
      rw [List.filter_cons_of_neg (by rw [decide_eq_false h1]; simp), List.filter_cons_of_neg (by rw [decide_eq_false h1]; simp)]
theorem mem_left (l : List S49) (g i : Nat) (lies : Int) (hi : i < g) : (i : Int) ∈ leftL l g lies ↔ ((cnt l (i : Int) : Nat) : Int) ≤ lies := by
  unfold leftL
  rw [mem_sel]
  constructor
  · rintro ⟨j, _, h2, h3, h4⟩
    rw [← show i = j by omega, agP_get l g i hi] at h4
    simpa using h4
  · intro h
    exact ⟨i, by omega, by omega, rfl, by rw [agP_get l g i hi]; simpa using h⟩
theorem left_num (l : List S49) (g : Nat) : (leftL l g 0).length = num (fun i => decide (cnt l (i : Int) = 0)) g 0 := by
  unfold leftL
  rw [sel_num]
  refine num_congr _ _ _ _ (fun i _ h => ?_)
  rw [agP_get l g i (by omega), decide_eq_decide]
  omega
theorem one_num (l : List S49) (g : Nat) : (oneL l g).length = num (fun i => decide (cnt l (i : Int) = 1)) g 0 := by
  unfold oneL
  rw [sel_num]
  refine num_congr _ _ _ _ (fun i _ h => ?_)
  rw [agP_get l g i (by omega), decide_eq_decide]
  omega
theorem x_num (l : List S49) (g : Nat) (M : List Int) : inX M (leftL l g 0) (leftL l g 1) = num (fun i => decide (cnt l (i : Int) = 0) && decide ((i : Int) ∈ M)) g 0 := by
  unfold inX
  conv => lhs; rw [show leftL l g 1 = sel (fun c => decide (c ≤ 1)) (agP l g) g 0 from rfl]
  rw [sel_filter]
  refine num_congr _ _ _ _ (fun i _ h => ?_)
  rw [agP_get l g i (by omega)]
  have h0 : decide ((i : Int) ∈ leftL l g 0) = decide (cnt l (i : Int) = 0) := decide_eq_decide.2 ((mem_left l g i 0 (by omega)).trans (by omega))
  rw [h0, Bool.eq_iff_iff]
  simp only [Bool.and_eq_true, decide_eq_true_eq]
  exact ⟨fun ⟨_, h2, h3⟩ => ⟨h3, h2⟩, fun ⟨h3, h2⟩ => ⟨by omega, h2, h3⟩⟩
theorem y_num (l : List S49) (g : Nat) (M : List Int) : inY M (leftL l g 0) (leftL l g 1) = num (fun i => decide (cnt l (i : Int) = 1) && decide ((i : Int) ∈ M)) g 0 := by
  unfold inY
  conv => lhs; rw [show leftL l g 1 = sel (fun c => decide (c ≤ 1)) (agP l g) g 0 from rfl]
  rw [sel_filter]
  refine num_congr _ _ _ _ (fun i _ h => ?_)
  rw [agP_get l g i (by omega)]
  have h0 : decide ((i : Int) ∈ leftL l g 0) = decide (cnt l (i : Int) = 0) := decide_eq_decide.2 ((mem_left l g i 0 (by omega)).trans (by omega))
  rw [h0, Bool.eq_iff_iff]
  simp only [Bool.and_eq_true, decide_eq_true_eq, Bool.not_eq_true', decide_eq_false_iff_not]
  exact ⟨fun ⟨h1, h2, h3⟩ => ⟨by omega, h2⟩, fun ⟨h1, h2⟩ => ⟨by omega, h2, by omega⟩⟩
/-- A record with one more answer has the state that After tells. -/
theorem state_after (l : List S49) (m : S49) (g : Nat) :
    let a := (leftL l g 0).length; let b := (oneL l g).length; let x := inX m.f0 (leftL l g 0) (leftL l g 1); let y := inY m.f0 (leftL l g 0) (leftL l g 1)
    x ≤ a ∧ y ≤ b ∧ (m.f1 = true → (leftL (l ++ [m]) g 0).length = x ∧ (oneL (l ++ [m]) g).length = y + a - x) ∧ (m.f1 = false → (leftL (l ++ [m]) g 0).length = a - x ∧ (oneL (l ++ [m]) g).length = b - y + x) := by
  intro a b x y
  have ea : a = _ := left_num l g
  have eb : b = _ := one_num l g
  have ex : x = _ := x_num l g m.f0
  have ey : y = _ := y_num l g m.f0
  have sa := num_split (fun i => decide (cnt l (i : Int) = 0)) (fun i => decide ((i : Int) ∈ m.f0)) g 0
  have sb := num_split (fun i => decide (cnt l (i : Int) = 1)) (fun i => decide ((i : Int) ∈ m.f0)) g 0
  refine ⟨by omega, by omega, fun hy => ?_, fun hy => ?_⟩
  · have e0 : (leftL (l ++ [m]) g 0).length = num (fun i => decide (cnt l (i : Int) = 0) && decide ((i : Int) ∈ m.f0)) g 0 := by
      rw [left_num]
      refine num_congr _ _ _ _ (fun i _ _ => ?_)
      rw [cnt_append, hy]
      by_cases hm : (i : Int) ∈ m.f0
      · rw [decide_eq_true hm]; simp
      · rw [decide_eq_false hm]; simp
    have e1 : (oneL (l ++ [m]) g).length = num (fun i => decide (cnt l (i : Int) = 1) && decide ((i : Int) ∈ m.f0)) g 0 + num (fun i => decide (cnt l (i : Int) = 0) && !decide ((i : Int) ∈ m.f0)) g 0 := by
      rw [one_num]
      refine num_or _ _ _ _ _ (fun i _ _ => ?_)
      rw [cnt_append, hy]
      by_cases hm : (i : Int) ∈ m.f0
      · rw [decide_eq_true hm]; simp
      · rw [decide_eq_false hm]; simp
    omega
  · have e0 : (leftL (l ++ [m]) g 0).length = num (fun i => decide (cnt l (i : Int) = 0) && !decide ((i : Int) ∈ m.f0)) g 0 := by
      rw [left_num]
      refine num_congr _ _ _ _ (fun i _ _ => ?_)
      rw [cnt_append, hy]
      by_cases hm : (i : Int) ∈ m.f0
      · rw [decide_eq_true hm]; simp
      · rw [decide_eq_false hm]; simp
    have e1 : (oneL (l ++ [m]) g).length = num (fun i => decide (cnt l (i : Int) = 1) && !decide ((i : Int) ∈ m.f0)) g 0 + num (fun i => decide (cnt l (i : Int) = 0) && decide ((i : Int) ∈ m.f0)) g 0 := by
      rw [one_num]
      refine num_or _ _ _ _ _ (fun i _ _ => ?_)
      rw [cnt_append, hy]
      by_cases hm : (i : Int) ∈ m.f0
      · rw [decide_eq_true hm]; simp
      · rw [decide_eq_false hm]; simp
    omega
theorem Pure.JudgeAnswers (g : Int) (l : List S49) (M : List Int) (yes : Bool) (wg : (Lit.int .i64 g).wf = true) (wl : ∀ s ∈ l, ∀ z ∈ s.f0, (Lit.int .i64 z).wf = true) (wm : ∀ z ∈ M, (Lit.int .i64 z).wf = true) : ∃ k, verditerlaw02_judgeAnswers.f k g l M yes = some true := by
  refine ⟨600 + 1 + 1 + 1, ?_⟩
  unfold verditerlaw02_judgeAnswers.f
  have known : verditerlaw02_judgeAnswers.j0 (600 + 1 + 1 + 1) g l true M yes = some true := by
    rw [verditerlaw02_judgeAnswers.j0, if_pos rfl, known_ok (by omega)]; rfl
  rcases long_ok l (600 + 1 + 1 + 1) (by omega) with h | ⟨h, hs⟩
  · rw [h, Option.bind_some, if_pos rfl, known]
  · rw [h, Option.bind_some, if_neg (by decide)]
    by_cases hM : (M.length : Int) > 100
    · rw [decide_eq_true hM, known]
    · rw [decide_eq_false hM, verditerlaw02_judgeAnswers.j0, if_neg (by decide), copy_ok l hs _ (by omega)]
      simp only [Option.bind_some]
      rw [if_pos (by have := hs.1; simp; omega), jState g l hs _ (by omega)]
      simp only [Option.bind_some]
      have known1 : ∀ u1 u2 u3 u4, verditerlaw02_judgeAnswers.j1 (600 + 1 + 1) g l u1 u2 u3 u4 true M yes = some true := by
        intro u1 u2 u3 u4
        rw [verditerlaw02_judgeAnswers.j1, if_pos rfl, known_ok (by omega)]; rfl
      by_cases hv : validV g l = 0
      · obtain ⟨h1, h2, h3⟩ := valid_of hv
        have hs2 : Short (l ++ [(⟨M, yes⟩ : S49)]) := by
          refine ⟨by rw [List.length_append, List.length_singleton]; omega, fun s hs3 => ?_⟩
          rcases List.mem_append.1 hs3 with h4 | h4
          · exact hs.2 s h4
          · rw [List.mem_singleton.1 h4]; show M.length ≤ 100; omega
        rw [jState g (l ++ [(⟨M, yes⟩ : S49)]) hs2 _ (by omega)]
        simp only [Option.bind_some]
        have e : stateV g l = ((((leftL l g.toNat 0).length : Nat) : Int), (((oneL l g.toNat).length : Nat) : Int), (0 : Int)) := by unfold stateV; rw [if_pos hv]
        rw [e]
        simp only [if_true]
        by_cases hv2 : validV g (l ++ [(⟨M, yes⟩ : S49)]) = 0
        · have e2 : stateV g (l ++ [(⟨M, yes⟩ : S49)]) = ((((leftL (l ++ [(⟨M, yes⟩ : S49)]) g.toNat 0).length : Nat) : Int), (((oneL (l ++ [(⟨M, yes⟩ : S49)]) g.toNat).length : Nat) : Int), (0 : Int)) := by unfold stateV; rw [if_pos hv2]
          have e0 : leftV g l 0 = (leftL l g.toNat 0, 0) := by unfold leftV; rw [if_pos hv, if_pos (by omega)]
          have e1 : leftV g l 1 = (leftL l g.toNat 1, 0) := by unfold leftV; rw [if_pos hv, if_pos (by omega)]
          rw [e2]
          simp only [bne_self_eq_false]
          rw [verditerlaw02_judgeAnswers.j1, if_neg (by decide), jLeft g l hs _ _ (by omega), jLeft g l hs _ _ (by omega), e0, e1]
          simp only [Option.bind_some, if_true, bne_self_eq_false]
          rw [verditerlaw02_judgeAnswers.j2, if_neg (by decide)]
          have l0 := leftL_length l g.toNat 0
          have l1 := leftL_length l g.toNat 1
          have l2 := left_sum l g.toNat
          have ha := ans_l0 ((leftL l g.toNat 0).length : Nat) ((oneL l g.toNat).length : Nat) ((leftL (l ++ [(⟨M, yes⟩ : S49)]) g.toNat 0).length : Nat) ((oneL (l ++ [(⟨M, yes⟩ : S49)]) g.toNat).length : Nat) (leftL l g.toNat 0) (leftL l g.toNat 1) M (by omega) (by omega) (by omega) yes (leftL l g.toNat 1).length 0 0 0 (600 - (leftL l g.toNat 1).length - 1) (by omega) (by omega) (by omega) (by omega)
          rw [show 600 - (leftL l g.toNat 1).length - 1 + (leftL l g.toNat 1).length + 1 = 600 by omega, show ((0 : Nat) : Int) = 0 from rfl, List.drop_zero, Nat.zero_add, Nat.zero_add] at ha
          rw [ha, verditerlaw02_judgeAnswers.l0, if_neg (by omega), jafter]
          obtain ⟨s1, s2, s3, s4⟩ := state_after l (⟨M, yes⟩ : S49) g.toNat
          simp only at s1 s2 s3 s4
          generalize inX M (leftL l g.toNat 0) (leftL l g.toNat 1) = x at *
          generalize inY M (leftL l g.toNat 0) (leftL l g.toNat 1) = y at *
          simp only [Option.bind_some]
          have hst : St ((leftL l g.toNat 0).length : Nat) ((oneL l g.toNat).length : Nat) 0 := by unfold St; omega
          cases yes
          · obtain ⟨t1, t2⟩ := s4 rfl
            have ev : afterV ((leftL l g.toNat 0).length : Nat) ((oneL l g.toNat).length : Nat) (x : Nat) (y : Nat) false = (((leftL l g.toNat 0).length : Int) - x, ((oneL l g.toNat).length : Int) - y + x, 0) := by
              unfold afterV; rw [if_pos hst, if_pos (by omega), if_neg (by decide)]
            rw [ev]
            simp only [if_true]
            rw [if_pos (by omega), if_pos (by omega), known_ok (by omega)]
            rfl
          · obtain ⟨t1, t2⟩ := s3 rfl
            have ev : afterV ((leftL l g.toNat 0).length : Nat) ((oneL l g.toNat).length : Nat) (x : Nat) (y : Nat) true = ((x : Int), (y : Int) + ((leftL l g.toNat 0).length : Int) - x, 0) := by
              unfold afterV; rw [if_pos hst, if_pos (by omega), if_pos rfl]
            rw [ev]
            simp only [if_true]
            rw [if_pos (by omega), if_pos (by omega), known_ok (by omega)]
            rfl
        · have e2 : (stateV g (l ++ [(⟨M, yes⟩ : S49)])).2.2 ≠ 0 := by unfold stateV; rw [if_neg hv2]; exact hv2
          have e3 : ((stateV g (l ++ [(⟨M, yes⟩ : S49)])).2.2 != 0) = true := by simpa using e2
          rw [e3, known1]
      · have e : (stateV g l).2.2 ≠ 0 := by unfold stateV; rw [if_neg hv]; exact hv
        have hs2 : Short (l ++ [(⟨M, yes⟩ : S49)]) ∨ l.length = 100 := by
          by_cases h100 : l.length = 100
          · exact .inr h100
          · refine .inl ⟨by rw [List.length_append, List.length_singleton]; have := hs.1; omega, fun s hs3 => ?_⟩
            rcases List.mem_append.1 hs3 with h4 | h4
            · exact hs.2 s h4
            · rw [List.mem_singleton.1 h4]; show M.length ≤ 100; omega
        have : ∃ v, judge_State.f (600 + 1 + 1) g (l ++ [(⟨M, yes⟩ : S49)]) = some v := by
          rcases hs2 with hs2 | hs2
          · exact ⟨_, jState g _ hs2 _ (by omega)⟩
          · unfold judge_State.f
            rw [jvalid, Option.bind_some]
            have : validV g (l ++ [(⟨M, yes⟩ : S49)]) ≠ 0 := by
              intro h0
              obtain ⟨_, _, h3⟩ := valid_of h0
              rw [List.length_append, List.length_singleton] at h3
              omega
            rw [if_neg this]
            exact ⟨_, rfl⟩
        obtain ⟨v, hv3⟩ := this
        rw [hv3, Option.bind_some, if_neg e, known1]
end Go.Proofs.Ytfejfljgdeglgaa.K
