/- Plain: the law JudgeLeft says true at every input. -/
import Derived.Test.YtfejfljgdeglgaaQL
import Derived.Test.YtfejfljgdeglgaaK8
namespace Go.Proofs.Ytfejfljgdeglgaa.K
open Go.RowKit Go.Proofs.YtfejfljgdeglgaaW.PrintWords Go.Proofs.YtfejfljgdeglgaaW.PrintLast Go.Proofs.YtfejfljgdeglgaaW.PrintMore
set_option linter.unusedVariables false
theorem jl_loop (a b : List Int) (ha : a.length ≤ 1000) (hb : b.length ≤ 100) (hab : ∀ x ∈ a, x ∈ b) : ∀ m n k : Nat, n + m = a.length → 200 < k → verditerlaw02_judgeLeft.l0 (k + m + 1) a b 0 n = some true
  | 0, n, k, h, hk => by rw [verditerlaw02_judgeLeft.l0, if_neg (by omega), if_pos rfl, known_ok (by omega)]; rfl
  | m + 1, n, k, h, hk => by
    rw [verditerlaw02_judgeLeft.l0, if_pos (by omega), if_pos (by omega), rd_nat, has_ok _ _ _ (by omega) (by omega), Option.bind_some, decide_eq_true (hab _ (by rw [getD_at a n 0 (by omega)]; exact List.getElem_mem _)), if_pos rfl, w_succ n (by omega)]
    exact jl_loop a b ha hb hab m (n + 1) k (by omega) hk
theorem Pure.JudgeLeft (g : Int) (l : List S49) (lies : Int) (wg : (Lit.int .i64 g).wf = true) (wl : ∀ s ∈ l, ∀ z ∈ s.f0, (Lit.int .i64 z).wf = true) (wz : (Lit.int .i64 lies).wf = true) : ∃ k, verditerlaw02_judgeLeft.f k g l lies = some true := by
  refine ⟨500 + 1 + 1, ?_⟩
  unfold verditerlaw02_judgeLeft.f
  rcases long_ok l (500 + 1 + 1) (by omega) with h | ⟨h, hs⟩
  · rw [h, Option.bind_some, if_pos rfl, known_ok (by omega)]; rfl
  · rw [h, Option.bind_some, if_neg (by decide), rLeft g l hs _ _ (by omega), jLeft g l hs _ _ (by omega), rGrade g l hs _ (by omega), jGrade g l hs _ (by omega)]
    simp only [Option.bind_some, if_true, bne_self_eq_false]
    rw [same_ok _ _ (by have := leftV_length g l lies; omega) (by have := leftV_length g l lies; omega)]
    simp only [Option.bind_some, if_true, Bool.false_eq_true, if_false]
    rw [verditerlaw02_judgeLeft.j0, if_neg (by decide)]
    have known : verditerlaw02_judgeLeft.j1 (500 + 1) g l lies (leftV g l lies).1 true = some true := by
      rw [verditerlaw02_judgeLeft.j1, if_pos rfl, known_ok (by omega)]; rfl
    by_cases e : (leftV g l lies).2 = 0
    · rw [if_pos e]
      by_cases h12 : lies ≥ 12
      · rw [decide_eq_true h12, known]
      · rw [decide_eq_false h12, verditerlaw02_judgeLeft.j1, if_neg (by decide)]
        have hv : validV g l = 0 ∧ 0 ≤ lies ∧ lies ≤ 12 := by
          unfold leftV at e
          split at e
          · rename_i hv
            split at e
            · rename_i h6; exact ⟨hv, h6⟩
            · cases e
          · rename_i hv; exact absurd e hv
        obtain ⟨hv, h0, h1⟩ := hv
        rw [wid (by omega) (by omega), jLeft g l hs _ _ (by omega), Option.bind_some]
        have e1 : leftV g l lies = (leftL l g.toNat lies, 0) := by unfold leftV; rw [if_pos hv, if_pos ⟨h0, h1⟩]
        have e2 : leftV g l (lies + 1) = (leftL l g.toNat (lies + 1), 0) := by unfold leftV; rw [if_pos hv, if_pos (by omega)]
        have l1 := leftV_length g l lies
        have l2 := leftV_length g l (lies + 1)
        rw [e1] at l1
        rw [e2] at l2
        rw [e1, e2]
        have := jl_loop (leftL l g.toNat lies) (leftL l g.toNat (lies + 1)) (by simpa using Nat.le_trans l1 (by omega)) (by simpa using Nat.le_trans l2 (by omega)) (left_more l g.toNat lies) (leftL l g.toNat lies).length 0 (500 - (leftL l g.toNat lies).length - 1) (by omega) (by simp only at l1; omega)
        rw [show 500 - (leftL l g.toNat lies).length - 1 + (leftL l g.toNat lies).length + 1 = 500 by simp only at l1; omega] at this
        exact this
    · rw [if_neg e, known]
end Go.Proofs.Ytfejfljgdeglgaa.K
