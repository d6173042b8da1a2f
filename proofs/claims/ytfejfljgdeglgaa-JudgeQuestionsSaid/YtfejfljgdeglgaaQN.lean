/- Plain: the laws JudgeNeeds, JudgeEnough and JudgeQuestions say true at every input. -/
import Derived.Test.YtfejfljgdeglgaaQE
import Derived.Test.YtfejfljgdeglgaaQK
import Derived.Test.YtfejfljgdeglgaaHT
import Derived.Test.YtfejfljgdeglgaaHE
import Derived.Test.YtfejfljgdeglgaaK1
import Derived.Test.YtfejfljgdeglgaaK4
import Derived.Test.YtfejfljgdeglgaaK5
import Derived.Test.YtfejfljgdeglgaaK6
import Derived.Test.YtfejfljgdeglgaaK7
import Derived.Test.YtfejfljgdeglgaaK8
import Derived.Test.YtfejfljgdeglgaaK9
namespace Go.Proofs.Ytfejfljgdeglgaa.K
open Go.RowKit Go.Proofs.YtfejfljgdeglgaaW.PrintWords Go.Proofs.YtfejfljgdeglgaaW.PrintLast Go.Proofs.YtfejfljgdeglgaaW.PrintMore
set_option linter.unusedVariables false
set_option linter.unusedSimpArgs false
theorem ry_spec (f : Nat → Bool) : ∀ m y v, ry f m y v = true ↔ v = true ∨ ∃ y', y ≤ y' ∧ y' < y + m ∧ f y' = true
  | 0, y, v => by
    rw [ry]
    constructor
    · exact .inl
    · rintro (h | ⟨y', h1, h2, _⟩)
      · exact h
      · omega
  | m + 1, y, v => by
    rw [ry]
    by_cases hv : v = true
    · rw [if_pos hv]; exact ⟨fun _ => .inl hv, fun _ => rfl⟩
    · rw [if_neg hv, ry_spec f m (y + 1) (f y)]
      constructor
      · rintro (h | ⟨y', h1, h2, h3⟩)
        · exact .inr ⟨y, by omega, by omega, h⟩
        · exact .inr ⟨y', by omega, by omega, h3⟩
      · rintro (h | ⟨y', h1, h2, h3⟩)
        · exact absurd h hv
        · by_cases e : y' = y
          · rw [e] at h3; exact .inl h3
          · exact .inr ⟨y', by omega, by omega, h3⟩
theorem rx_spec (f : Nat → Nat → Bool) (b : Nat) : ∀ m x v, rx f b m x v = true ↔ v = true ∨ ∃ x' y', x ≤ x' ∧ x' < x + m ∧ y' ≤ b ∧ f x' y' = true
  | 0, x, v => by
    rw [rx]
    constructor
    · exact .inl
    · rintro (h | ⟨x', y', h1, h2, _⟩)
      · exact h
      · omega
  | m + 1, x, v => by
    rw [rx]
    by_cases hv : v = true
    · rw [if_pos hv]; exact ⟨fun _ => .inl hv, fun _ => rfl⟩
    · have hv' : v = false := by simpa using hv
      rw [if_neg hv, rx_spec f b m (x + 1), ry_spec, hv']
      constructor
      · rintro ((h | ⟨y', h1, h2, h3⟩) | ⟨x', y', h1, h2, h3, h4⟩)
        · cases h
        · exact .inr ⟨x, y', by omega, by omega, by omega, h3⟩
        · exact .inr ⟨x', y', by omega, by omega, h3, h4⟩
      · rintro (h | ⟨x', y', h1, h2, h3, h4⟩)
        · cases h
        · by_cases e : x' = x
          · rw [e] at h4; exact .inl (.inr ⟨y', by omega, by omega, h4⟩)
          · exact .inr ⟨x', y', by omega, by omega, h3, h4⟩
/-- The document's table tells for which states so many questions are enough. -/
theorem tab_En : ∀ q n a b, n ≤ 32 → a + b ≤ n → (tabQ n q (a * 33 + b) = true ↔ En q a b)
  | 0, n, a, b, hn, h => by
    show T0 (a * 33 + b) = true ↔ a + b ≤ 1
    unfold T0
    simp only [Bool.or_eq_true, beq_iff_eq]
    omega
  | q + 1, n, a, b, hn, h => by
    have ih := fun a b => tab_En q n a b hn
    have e1 : (a * 33 + b) / 33 = a := by omega
    have e2 : (a * 33 + b) % 33 = b := by omega
    show Tab (tabQ n q) n (n + 1) 0 (a * 33 + b) = true ↔ _
    unfold Tab
    rw [e1, e2, if_pos (by omega)]
    unfold stepV
    rw [rx_spec, ih a b h]
    show _ ↔ En q a b ∨ _
    constructor
    · rintro (h1 | ⟨x, y, _, hx, hy, hf⟩)
      · exact .inl h1
      · unfold fT at hf
        rw [Bool.and_eq_true] at hf
        exact .inr ⟨x, y, by omega, hy, (ih _ _ (by omega)).1 hf.1, (ih _ _ (by omega)).1 hf.2⟩
    · rintro (h1 | ⟨x, y, hx, hy, h1, h2⟩)
      · exact .inl h1
      · refine .inr ⟨x, y, by omega, by omega, hy, ?_⟩
        unfold fT
        rw [Bool.and_eq_true]
        exact ⟨(ih _ _ (by omega)).2 h1, (ih _ _ (by omega)).2 h2⟩
theorem solve_tab (q a b : Nat) (ha : a ≤ 16) (hb : b ≤ 16) : (solveP q a b).2.2 = tabQ (a + b) q (a * 33 + b) := by
  rw [Bool.eq_iff_iff, solveP_ok, tab_En q (a + b) a b (by omega) (Nat.le_refl _)]
theorem jenough (a b q : Nat) (ha : a ≤ 16) (hb : b ≤ 16) (hq : q ≤ 12) : judge_enough.f a b q = some (tabQ (a + b) q (a * 33 + b)) := by
  unfold judge_enough.f
  rw [if_pos (by omega)]
  simp only [Int.toNat_natCast]
  rw [solve_tab q a b ha hb]
theorem needF_le (a b : Nat) : ∀ m q, needF a b m q ≤ q + m
  | 0, q => Nat.le_refl _
  | m + 1, q => by
    have := needF_le a b m (q + 1)
    rw [needF]
    split <;> omega
theorem needF_En (a b : Nat) (ha : a ≤ 16) (hb : b ≤ 16) : ∀ m q, q + m = 12 → En (needF a b m q) a b
  | 0, q, h => by rw [needF, show q = 12 by omega]; exact En.twelve ha hb
  | m + 1, q, h => by
    rw [needF]
    split
    · rename_i hs
      exact (tab_En q (a + b) a b (by omega) (Nat.le_refl _)).1 hs
    · exact needF_En a b ha hb m (q + 1) (by omega)
theorem jneed (a b : Nat) (ha : a ≤ 16) (hb : b ≤ 16) : ∀ m q k : Nat, q + m = 12 → m < k → judge_need.l0 k (q : Int) a b = some ((needF a b m q : Nat) : Int)
  | m, q, 0, _, h => by omega
  | 0, q, k + 1, h, hk => by
    rw [judge_need.l0, jenough a b q ha hb (by omega), Option.bind_some]
    have e : tabQ (a + b) q (a * 33 + b) = true := (tab_En q (a + b) a b (by omega) (Nat.le_refl _)).2 (by rw [show q = 12 by omega]; exact En.twelve ha hb)
    rw [if_pos e]
    rfl
  | m + 1, q, k + 1, h, hk => by
    rw [judge_need.l0, jenough a b q ha hb (by omega), Option.bind_some, needF]
    by_cases e : tabQ (a + b) q (a * 33 + b) = true
    · rw [if_pos e, if_pos e]
    · rw [if_neg e, if_neg e, show wrap64 ((q : Int) + 1) = ((q + 1 : Nat) : Int) by unfold wrap64; omega]
      exact jneed a b ha hb m (q + 1) k (by omega) (by omega)
/-- The smallest number of questions that the weight allows, from q on. -/
def bF (a b : Nat) : Nat → Nat → Nat
  | 0, q => q
  | m + 1, q => if 2 ^ q < a * (q + 1) + b then bF a b m (q + 1) else q
theorem pows : ∀ q : Nat, q ≤ 12 → shl .i64 1 (q : Int) = ((2 ^ q : Nat) : Int) := by
  have h : ∀ q : Nat, q ∈ List.range 13 → shl .i64 1 (q : Int) = ((2 ^ q : Nat) : Int) := by decide
  intro q hq
  exact h q (List.mem_range.2 (by omega))
theorem pow_le12 (q : Nat) (hq : q ≤ 13) : 2 ^ q ≤ 8192 := Nat.pow_le_pow_right (n := 2) (by omega) hq
theorem mulN (a q : Nat) (ha : a ≤ 16) (hq : q ≤ 12) : a * (q + 1) ≤ 208 := Nat.mul_le_mul ha (show q + 1 ≤ 13 by omega)
theorem weightN (a b q : Nat) (ha : a ≤ 16) (hb : b ≤ 16) (hq : q ≤ 12) : wrap64 (wrap64 ((a : Int) * wrap64 ((q : Int) + 1)) + b) = ((a * (q + 1) + b : Nat) : Int) := by
  have := mulN a q ha hq
  have e : (a : Int) * ((q : Int) + 1) = ((a * (q + 1) : Nat) : Int) := by simp
  rw [wid (x := (q : Int) + 1) (by omega) (by omega), e, wid (x := ((a * (q + 1) : Nat) : Int)) (by omega) (by omega), wid (x := ((a * (q + 1) : Nat) : Int) + b) (by omega) (by omega)]
  omega
theorem jbound (a b : Nat) (ha : a ≤ 16) (hb : b ≤ 16) : ∀ m q k : Nat, q + m = 12 → m < k → judge_Bound.l0 k a b (q : Int) = some (((bF a b m q : Nat) : Int), 0)
  | m, q, 0, _, h => by omega
  | 0, q, k + 1, h, hk => by
    have hw := mulN a q ha (by omega)
    rw [judge_Bound.l0]
    unfold judge_state_weight.f
    rw [Option.bind_some, weightN a b q ha hb (by omega), if_pos (by omega), pows q (by omega), if_neg (by rw [show q = 12 by omega]; rw [show q = 12 by omega] at hw; omega)]
    rfl
  | m + 1, q, k + 1, h, hk => by
    rw [judge_Bound.l0]
    unfold judge_state_weight.f
    rw [Option.bind_some, weightN a b q ha hb (by omega), if_pos (by omega), pows q (by omega), bF]
    by_cases e : 2 ^ q < a * (q + 1) + b
    · rw [if_pos (by omega), if_pos e, show wrap64 ((q : Int) + 1) = ((q + 1 : Nat) : Int) by unfold wrap64; omega]
      exact jbound a b ha hb m (q + 1) k (by omega) (by omega)
    · rw [if_neg (by omega), if_neg e]
theorem rbound (a b : Nat) (ha : a ≤ 16) (hb : b ≤ 16) : ∀ m q k : Nat, q + m = 12 → m < k → verditerref02_Bound.l0 k a b (q : Int) ((2 ^ q : Nat) : Int) = some (((bF a b m q : Nat) : Int), 0)
  | m, q, 0, _, h => by omega
  | 0, q, k + 1, h, hk => by
    have hw := mulN a q ha (by omega)
    rw [verditerref02_Bound.l0, weightN a b q ha hb (by omega), if_neg (by rw [show q = 12 by omega]; rw [show q = 12 by omega] at hw; omega)]
    rfl
  | m + 1, q, k + 1, h, hk => by
    have hp := pow_le12 (q + 1) (by omega)
    have hp2 : 2 ^ (q + 1) = 2 * 2 ^ q := by rw [Nat.pow_succ]; omega
    rw [verditerref02_Bound.l0, weightN a b q ha hb (by omega), bF]
    by_cases e : 2 ^ q < a * (q + 1) + b
    · rw [if_pos (by omega), if_pos e, show wrap64 ((q : Int) + 1) = ((q + 1 : Nat) : Int) by unfold wrap64; omega, show wrap64 (2 * ((2 ^ q : Nat) : Int)) = ((2 ^ (q + 1) : Nat) : Int) by rw [hp2]; unfold wrap64; omega]
      exact rbound a b ha hb m (q + 1) k (by omega) (by omega)
    · rw [if_neg (by omega), if_neg e]
theorem bF_le (a b N : Nat) (hN : a * (N + 1) + b ≤ 2 ^ N) : ∀ m q, q ≤ N → N ≤ q + m → bF a b m q ≤ N
  | 0, q, h, h2 => by rw [bF]; omega
  | m + 1, q, h, h2 => by
    rw [bF]
    split
    · rename_i hlt
      by_cases e : q = N
      · rw [e] at hlt; omega
      · exact bF_le a b N hN m (q + 1) (by omega) (by omega)
    · exact h
theorem St_nat {a b q : Int} (h : St a b q) : ∃ x y z : Nat, a = x ∧ b = y ∧ q = z ∧ x ≤ 16 ∧ y ≤ 16 ∧ z ≤ 12 := by
  unfold St at h
  exact ⟨a.toNat, b.toNat, q.toNat, by omega, by omega, by omega, by omega, by omega, by omega⟩
theorem Pure.JudgeNeeds (a b : Int) (wa : (Lit.int .i64 a).wf = true) (wb : (Lit.int .i64 b).wf = true) : ∃ k, verditerlaw02_JudgeNeeds.f k a b = some true := by
  refine ⟨60, ?_⟩
  unfold verditerlaw02_JudgeNeeds.f verditerref02_Need.f verditerref02_Bound.f judge_Need.f judge_Bound.f
  rw [rnum, jnum]
  simp only [Option.bind_some]
  by_cases h : St a b 0
  · obtain ⟨x, y, _, rfl, rfl, _, hx, hy, _⟩ := St_nat h
    simp only [if_pos h, if_true]
    have e1 : verditerref02_need.f (x : Int) (y : Int) = some ((needF x y 12 0 : Nat) : Int) := by unfold verditerref02_need.f; rw [if_pos (by omega)]; simp only [Int.toNat_natCast]
    have e2 := jneed x y hx hy 12 0 60 (by omega) (by omega)
    have e3 := jbound x y hx hy 12 0 60 (by omega) (by omega)
    have e4 := rbound x y hx hy 12 0 60 (by omega) (by omega)
    have n1 := needF_le x y 12 0
    have n2 := bF_le x y (needF x y 12 0) (needF_En x y hx hy 12 0 (by omega)).weight 12 0 (by omega) (by omega)
    rw [show ((0 : Nat) : Int) = 0 from rfl] at e2 e3 e4
    rw [show ((2 ^ 0 : Nat) : Int) = 1 from rfl] at e4
    unfold judge_need.f
    rw [e1, e2, e3, e4]
    simp only [Option.bind_some, if_true]
    rw [if_pos (by omega), if_pos (by omega), known_ok (by omega), if_pos (show ((needF x y 12 0 : Nat) : Int) ≥ ((bF x y 12 0 : Nat) : Int) by omega)]
    split <;> rfl
  · simp only [if_neg h]
    rw [known_ok (by omega)]
    rfl
theorem jEnough (a b q : Int) : judge_Enough.f a b q = verditerref02_Enough.f a b q := by
  unfold judge_Enough.f verditerref02_Enough.f
  rw [jnum, Option.bind_some]
  by_cases h : St a b q
  · obtain ⟨x, y, z, rfl, rfl, rfl, hx, hy, hz⟩ := St_nat h
    rw [if_pos h, if_pos rfl, jenough x y z hx hy hz, Option.bind_some, if_pos (by omega)]
    simp only [Int.toNat_natCast]
  · rw [if_neg h, if_neg (by decide)]
    unfold St at h
    rw [if_neg h]
theorem Pure.JudgeEnough (a b q : Int) (wa : (Lit.int .i64 a).wf = true) (wb : (Lit.int .i64 b).wf = true) (wq : (Lit.int .i64 q).wf = true) : ∃ k, verditerlaw02_JudgeEnough.f k a b q = some true := by
  refine ⟨58 + 1 + 1, ?_⟩
  unfold verditerlaw02_JudgeEnough.f
  rw [jEnough]
  have known : ∀ u1 u2 u3, verditerlaw02_JudgeEnough.j1 (58 + 1) u1 true u2 u3 = some true := by
    intro u1 u2 u3
    rw [verditerlaw02_JudgeEnough.j1, if_pos rfl, known_ok (by omega)]; rfl
  by_cases h : St a b q
  · obtain ⟨x, y, z, rfl, rfl, rfl, hx, hy, hz⟩ := St_nat h
    have e : verditerref02_Enough.f (x : Int) (y : Int) (z : Int) = some (tabQ (x + y) z (x * 33 + y), 0) := by unfold verditerref02_Enough.f; rw [if_pos (by omega)]; simp only [Int.toNat_natCast]
    rw [e]
    simp only [Option.bind_some, bne_self_eq_false, Bool.false_eq_true, if_false]
    rw [verditerlaw02_JudgeEnough.j0, if_neg (by decide)]
    by_cases ht : tabQ (x + y) z (x * 33 + y) = true
    · rw [if_pos ht]
      by_cases h12 : (z : Int) ≥ 12
      · rw [decide_eq_true h12, known]
      · rw [decide_eq_false h12, verditerlaw02_JudgeEnough.j1, if_neg (by decide), show wrap64 ((z : Int) + 1) = ((z + 1 : Nat) : Int) by unfold wrap64; omega, jEnough]
        have e2 : verditerref02_Enough.f (x : Int) (y : Int) ((z + 1 : Nat) : Int) = some (tabQ (x + y) (z + 1) (x * 33 + y), 0) := by unfold verditerref02_Enough.f; rw [if_pos (by omega)]; simp only [Int.toNat_natCast]
        have ht2 : tabQ (x + y) (z + 1) (x * 33 + y) = true := (tab_En _ _ _ _ (by omega) (Nat.le_refl _)).2 ((tab_En _ _ _ _ (by omega) (Nat.le_refl _)).1 ht).more
        rw [e2, Option.bind_some, if_pos rfl, if_pos ht2, known_ok (by omega)]
        rfl
    · rw [if_neg ht, known]
  · have e : verditerref02_Enough.f a b q = some (false, 1) := by unfold verditerref02_Enough.f; unfold St at h; rw [if_neg h]
    rw [e]
    simp only [Option.bind_some, bne_self_eq_false, Bool.false_eq_true, if_false]
    rw [verditerlaw02_JudgeEnough.j0, if_neg (by decide), if_neg (by decide), known]
theorem Pure.JudgeQuestions (a b q : Int) (wa : (Lit.int .i64 a).wf = true) (wb : (Lit.int .i64 b).wf = true) (wq : (Lit.int .i64 q).wf = true) : ∃ k, verditerlaw02_JudgeQuestions.f k a b q = some true := by
  refine ⟨58 + 1, ?_⟩
  unfold verditerlaw02_JudgeQuestions.f verditerref02_HasQuestion.f judge_Question.f
  rw [jnum, Option.bind_some]
  by_cases h : St a b q
  · obtain ⟨x, y, z, rfl, rfl, rfl, hx, hy, hz⟩ := St_nat h
    have e : verditerref02_Enough.f (x : Int) (y : Int) (z : Int) = some (tabQ (x + y) z (x * 33 + y), 0) := by unfold verditerref02_Enough.f; rw [if_pos (by omega)]; simp only [Int.toNat_natCast]
    rw [e, Option.bind_some, if_pos h, if_pos rfl, wid (by omega) (by omega)]
    by_cases hs : (x : Int) + (y : Int) ≤ 1
    · rw [if_pos hs, decide_eq_false (by omega)]
      simp only [ite_self, Option.bind_some, bne_self_eq_false, Bool.false_eq_true, if_false]
      rw [verditerlaw02_JudgeQuestions.j0, if_neg (by decide), if_neg (by decide), if_pos rfl, if_pos rfl, known_ok (by omega)]
      rfl
    · have hg : 0 ≤ (x : Int) ∧ 0 ≤ (y : Int) ∧ (x : Int) + (y : Int) ≤ 64 ∧ 0 ≤ (z : Int) ∧ (z : Int) ≤ 60 := by omega
      rw [if_neg hs, if_pos hg, decide_eq_true (show (x : Int) + (y : Int) > 1 by omega)]
      simp only [Int.toNat_natCast, Option.bind_some]
      have hst := solve_tab z x y hx hy
      by_cases ht : tabQ (x + y) z (x * 33 + y) = true
      · rw [if_pos ht]
        rw [ht] at hst
        simp only [Option.bind_some, hst, bne_self_eq_false, Bool.false_eq_true, if_false]
        rw [verditerlaw02_JudgeQuestions.j0, if_neg (by decide), if_pos rfl]
        cases z with
        | zero =>
          rw [solveP] at hst
          exact absurd (of_decide_eq_true hst) (by omega)
        | succ z =>
          obtain ⟨q1, q2, q3, q4⟩ := solveP_question hst (by omega)
          generalize hX : (solveP (z + 1) x y).1 = X at q1 q2 q3 q4 ⊢
          generalize hY : (solveP (z + 1) x y).2.1 = Y at q1 q2 q3 q4 ⊢
          have ec : verditerref02_CheckQuestion.f (x : Int) (y : Int) (X : Int) (Y : Int) ((z + 1 : Nat) : Int) = some 0 := by
            unfold verditerref02_CheckQuestion.f
            rw [if_pos (by omega), if_neg (by omega), if_pos (by omega), if_pos (by omega)]
            simp only [Int.toNat_natCast, Nat.add_sub_cancel]
            have hf : fT (tabQ (x + y) z) x y X Y = true := by
              unfold fT
              rw [Bool.and_eq_true]
              exact ⟨(tab_En _ _ _ _ (by omega) (by omega)).2 q3, (tab_En _ _ _ _ (by omega) (by omega)).2 q4⟩
            rw [hf]
            rfl
          rw [ec, Option.bind_some, if_pos rfl, known_ok (by omega)]
          rfl
      · rw [if_neg ht]
        have ht' : tabQ (x + y) z (x * 33 + y) = false := by simpa using ht
        rw [ht'] at hst
        obtain ⟨z1, z2⟩ := solveP_no hst
        simp only [Option.bind_some, hst, bne_self_eq_false, Bool.false_eq_true, if_false, z1, z2]
        rw [show ((0 : Nat) : Int) = 0 from rfl, verditerlaw02_JudgeQuestions.j0, if_neg (by decide), if_neg (by decide), if_pos rfl, if_pos rfl, known_ok (by omega)]
        rfl
  · have e : verditerref02_Enough.f a b q = some (false, 1) := by unfold verditerref02_Enough.f; unfold St at h; rw [if_neg h]
    rw [e, if_neg h, if_neg (by decide)]
    simp only [Option.bind_some, Bool.false_eq_true, if_false, bne_self_eq_false]
    rw [verditerlaw02_JudgeQuestions.j0, if_neg (by decide), if_neg (by decide), if_pos rfl, if_pos rfl, known_ok (by omega)]
    rfl
end Go.Proofs.Ytfejfljgdeglgaa.K
