/- DERIVED by wip/pr.py: for each Go function named below a Lean function with the same answers, and that a call of it comes to these answers, for all arguments and memories, where the Lean function has an answer. -/
import Derived.Test.YtgnklmhjejbcoaaK0
namespace Go.Proofs.Ytgnklmhjejbcoaa.K
open Go.RowKit Go.Proofs.YtgnklmhjejbcoaaW.PrintWords Go.Proofs.YtgnklmhjejbcoaaW.PrintLast Go.Proofs.YtgnklmhjejbcoaaW.PrintMore
attribute [local go_sem] max2_int min2_int max_two min_two max_three min_three max_four min_four   -- for this text's walks alone
set_option linter.unusedVariables false
set_option linter.unusedSimpArgs false

/-! ### knead_sameSum: function 82 -/
def knead_sameSum.f (a0 : Int) (a1 : Int) (a2 : Int) (a3 : Int) : Option (Bool) := if (wrap64 ((wrap64 ((a0 / 2) + (a1 / 2))) + ((wrap64 ((Go.bits .and .i64 a0 1) + (Go.bits .and .i64 a1 1))) / 2))) = (wrap64 ((wrap64 ((a2 / 2) + (a3 / 2))) + ((wrap64 ((Go.bits .and .i64 a2 1) + (Go.bits .and .i64 a3 1))) / 2))) then (some ((Go.bits .and .i64 (wrap64 ((Go.bits .and .i64 a0 1) + (Go.bits .and .i64 a1 1))) 1) == (Go.bits .and .i64 (wrap64 ((Go.bits .and .i64 a2 1) + (Go.bits .and .i64 a3 1))) 1))) else (some false)
set_option maxHeartbeats 8000000 in
set_option maxRecDepth 100000 in
theorem knead_sameSum.calls (a0 : Int) (a1 : Int) (a2 : Int) (a3 : Int) (r : Bool) (w : World) (h : knead_sameSum.f a0 a1 a2 a3 = some r) :
    Calls Try.prog 82 #[.int .i64 a0, .int .i64 a1, .int .i64 a2, .int .i64 a3] w fun e w' => e = .returned (.bool r) ∧ Drawn0 w w' := by
  have H : (if (wrap64 ((wrap64 ((a0 / 2) + (a1 / 2))) + ((wrap64 ((Go.bits .and .i64 a0 1) + (Go.bits .and .i64 a1 1))) / 2))) = (wrap64 ((wrap64 ((a2 / 2) + (a3 / 2))) + ((wrap64 ((Go.bits .and .i64 a2 1) + (Go.bits .and .i64 a3 1))) / 2))) then (some ((Go.bits .and .i64 (wrap64 ((Go.bits .and .i64 a0 1) + (Go.bits .and .i64 a1 1))) 1) == (Go.bits .and .i64 (wrap64 ((Go.bits .and .i64 a2 1) + (Go.bits .and .i64 a3 1))) 1))) else (some false)) = some r := h
  clear h
  by_cases c5 : (wrap64 ((wrap64 ((a0 / 2) + (a1 / 2))) + ((wrap64 ((Go.bits .and .i64 a0 1) + (Go.bits .and .i64 a1 1))) / 2))) = (wrap64 ((wrap64 ((a2 / 2) + (a3 / 2))) + ((wrap64 ((Go.bits .and .i64 a2 1) + (Go.bits .and .i64 a3 1))) / 2)))
  · rw [if_pos c5] at H
    have c5b0 : ((wrap64 ((wrap64 ((a0 / 2) + (a1 / 2))) + ((wrap64 ((Go.bits .and .i64 a0 1) + (Go.bits .and .i64 a1 1))) / 2))) == (wrap64 ((wrap64 ((a2 / 2) + (a3 / 2))) + ((wrap64 ((Go.bits .and .i64 a2 1) + (Go.bits .and .i64 a3 1))) / 2)))) = true := beq_iff_eq.mpr c5
    have c5b1 : ((wrap64 ((wrap64 ((a0 / 2) + (a1 / 2))) + ((wrap64 ((Go.bits .and .i64 a0 1) + (Go.bits .and .i64 a1 1))) / 2))) != (wrap64 ((wrap64 ((a2 / 2) + (a3 / 2))) + ((wrap64 ((Go.bits .and .i64 a2 1) + (Go.bits .and .i64 a3 1))) / 2)))) = false := bne_eq_false_iff_eq.mpr c5
    clear c5
    obtain rfl := Option.some.inj H
    go_enter Try.func82, Try.ntmps82
    go_wp2
    go_ret
    exact ⟨by first | rfl | (simp; done) | (simp [*]; done), by repeat (first | exact Drawn0.refl _ | apply Drawn0.step)⟩
  · rw [if_neg c5] at H
    have c5b0 : ((wrap64 ((wrap64 ((a0 / 2) + (a1 / 2))) + ((wrap64 ((Go.bits .and .i64 a0 1) + (Go.bits .and .i64 a1 1))) / 2))) == (wrap64 ((wrap64 ((a2 / 2) + (a3 / 2))) + ((wrap64 ((Go.bits .and .i64 a2 1) + (Go.bits .and .i64 a3 1))) / 2)))) = false := beq_eq_false_iff_ne.mpr c5
    have c5b1 : ((wrap64 ((wrap64 ((a0 / 2) + (a1 / 2))) + ((wrap64 ((Go.bits .and .i64 a0 1) + (Go.bits .and .i64 a1 1))) / 2))) != (wrap64 ((wrap64 ((a2 / 2) + (a3 / 2))) + ((wrap64 ((Go.bits .and .i64 a2 1) + (Go.bits .and .i64 a3 1))) / 2)))) = true := bne_iff_ne.mpr c5
    obtain rfl := Option.some.inj H
    go_enter Try.func82, Try.ntmps82
    go_wp2
    go_ret
    exact ⟨by first | rfl | (simp; done) | (simp [*]; done), by repeat (first | exact Drawn0.refl _ | apply Drawn0.step)⟩

/-- THE ONE PURE STATEMENT of knead_sameSum: yours. -/
def knead_sameSum.Pure : Prop := ∀ (a0 : Int) (a1 : Int) (a2 : Int) (a3 : Int), (Lit.int .i64 a0).wf = true → (Lit.int .i64 a1).wf = true → (Lit.int .i64 a2).wf = true → (Lit.int .i64 a3).wf = true → knead_sameSum.f a0 a1 a2 a3 = some true
theorem knead_sameSum.walk (P : knead_sameSum.Pure) (a0 : Int) (a1 : Int) (a2 : Int) (a3 : Int) (w : World) (w0 : (Lit.int .i64 a0).wf = true) (w1 : (Lit.int .i64 a1).wf = true) (w2 : (Lit.int .i64 a2).wf = true) (w3 : (Lit.int .i64 a3).wf = true) :
    Calls Try.prog 82 #[.int .i64 a0, .int .i64 a1, .int .i64 a2, .int .i64 a3] w fun e w' => e = .returned (.bool true) ∧ Below w.heap.size w w' := by
  have h := P a0 a1 a2 a3 w0 w1 w2 w3
  refine (knead_sameSum.calls a0 a1 a2 a3 true w h).mono ?_
  rintro e w' ⟨rfl, hd⟩
  exact ⟨rfl, hd.below⟩

end Go.Proofs.Ytgnklmhjejbcoaa.K
