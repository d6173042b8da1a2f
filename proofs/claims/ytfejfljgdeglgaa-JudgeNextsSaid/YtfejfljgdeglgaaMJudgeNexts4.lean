/- Texts of this claim in one file: K13, K14, K15, K16, K17, QL, QAnA, QS, HSo, QSo. -/
import Derived.Test.YtfejfljgdeglgaaMJudgeNexts0
import Derived.Test.YtfejfljgdeglgaaMJudgeNexts1
import Derived.Test.YtfejfljgdeglgaaMJudgeNexts2
import Derived.Test.YtfejfljgdeglgaaMJudgeNexts3
import Derived.Shelf.Sort.Plain
import Derived.Shelf.Slices.In.SortNone
import Derived.Lib.RowBridge

/- DERIVED by wip/pr.py: for each Go function named below a Lean function with the same answers, and that a call of it comes to these answers, for all arguments and memories, where the Lean function has an answer. -/
namespace Go.Proofs.Ytfejfljgdeglgaa.K
open Go.RowKit Go.Proofs.YtfejfljgdeglgaaW.PrintWords Go.Proofs.YtfejfljgdeglgaaW.PrintLast Go.Proofs.YtfejfljgdeglgaaW.PrintMore
attribute [local go_sem] max2_int min2_int max_two min_two max_three min_three max_four min_four   -- for this text's walks alone
set_option linter.unusedVariables false
set_option linter.unusedSimpArgs false

/-! ### judge_Left: function 58 -/
def judge_Left.f (k : Nat) (a0 : Int) (l1 : List (S49)) (a2 : Int) : Option (List Int × Int) := (judge_Validate.f a0 l1).bind fun t189 => (if t189 = 0 then ((judge_within.f a2 0 12).bind fun t190 => (if t190 = true then ((judge_left.f k a0 l1 0 a2).bind fun t191 => (some (t191, 0))) else (some (([] : List Int), 1)))) else (some (([] : List Int), t189)))
theorem judge_Left.mono : ∀ a0 a1 a2 k, LeO (judge_Left.f k a0 a1 a2) (judge_Left.f (k + 1) a0 a1 a2) := by
  intro a0 a1 a2 k
  unfold judge_Left.f
  repeat' first
      | (with_reducible exact judge_left.mono _ _ _ _ _)
      | (with_reducible exact LeO.refl _)
      | (with_reducible exact LeO.none _)
      | (with_reducible refine LeO.ite ?_ ?_)
      | (with_reducible refine LeO.bind ?_ (fun _ => ?_))
      | exact judge_left.mono _ _ _ _ _
      | exact LeO.none _
      | refine LeO.ite ?_ ?_
      | refine LeO.bind ?_ (fun _ => ?_)
set_option maxHeartbeats 8000000 in
set_option maxRecDepth 100000 in
theorem judge_Left.calls (k : Nat) (a0 : Int) (A1 : Option Addr) (c1 : Nat) (l1 : List (S49)) (a2 : Int) (r1 : List Int) (r2 : Int) (w : World) (hr1 : Kd.C k49 w A1 l1.length l1) (hc1 : l1.length ≤ c1) (h : judge_Left.f k a0 l1 a2 = some (r1, r2)) :
    Calls Try.prog 58 #[.int .i64 a0, .slice A1 l1.length c1, .int .i64 a2] w fun e w' => ∃ v0_ : Value, e = .returned (.tuple #[v0_, .int .i64 r2]) ∧ Kd.R (Kd.int .i64) 3 w' w.heap.size (fun _ => True) v0_ r1 ∧ Below w.heap.size w w' := by
  have HR1 := Aside0.mk hr1
  have HC1 := Aside0.mk hc1
  clear hr1 hc1
  have HB := Aside0.mk (Below.refl w.heap.size w)
  have H : ((judge_Validate.f a0 l1).bind fun t189 => (if t189 = 0 then ((judge_within.f a2 0 12).bind fun t190 => (if t190 = true then ((judge_left.f k a0 l1 0 a2).bind fun t191 => (some (t191, 0))) else (some (([] : List Int), 1)))) else (some (([] : List Int), t189)))) = some (r1, r2) := h
  clear h
  replace H := Option.bind_eq_some_iff.mp H
  obtain ⟨t189, A40, H⟩ := H
  replace H : (if t189 = 0 then ((judge_within.f a2 0 12).bind fun t190 => (if t190 = true then ((judge_left.f k a0 l1 0 a2).bind fun t191 => (some (t191, 0))) else (some (([] : List Int), 1)))) else (some (([] : List Int), t189))) = some (r1, r2) := H
  have A4 := Aside0.mk A40
  clear A40
  by_cases c5 : t189 = 0
  · rw [if_pos c5] at H
    have c5b0 : (t189 == 0) = true := beq_iff_eq.mpr c5
    have c5b1 : (t189 != 0) = false := bne_eq_false_iff_eq.mpr c5
    clear c5
    replace H := Option.bind_eq_some_iff.mp H
    obtain ⟨t190, A60, H⟩ := H
    replace H : (if t190 = true then ((judge_left.f k a0 l1 0 a2).bind fun t191 => (some (t191, 0))) else (some (([] : List Int), 1))) = some (r1, r2) := H
    have A6 := Aside0.mk A60
    clear A60
    by_cases c7 : t190 = true
    · subst c7
      have H1 : ((judge_left.f k a0 l1 0 a2).bind fun t191 => (some (t191, 0))) = some (r1, r2) := by rw [if_pos rfl] at H; exact H
      clear H
      have H := H1
      clear H1
      replace H := Option.bind_eq_some_iff.mp H
      obtain ⟨t191, A80, H⟩ := H
      replace H : (some (t191, 0)) = some (r1, r2) := H
      have A8 := Aside0.mk A80
      clear A80
      simp only [Option.some.injEq, Prod.mk.injEq] at H
      obtain ⟨rfl, rfl⟩ := H
      go_enter Try.func58, Try.ntmps58
      go_wp2_with (first | ((with_reducible refine gate_callee (f := 51) rfl ?_); refine goesL_ (some 11) rfl rfl Try.func51 (by kernel_rfl) rfl #[.int .i64 a0, .slice A1 l1.length c1] rfl (by (try simp only [List.map_toArray, List.map_cons, List.map_nil]); first | done | rfl | (simp only [List.length_drop, List.length_take]; rfl)) ?_; (with_reducible refine (judge_Validate.calls a0 _ _ l1 t189 _ ?side1 ?side2 A4.out).mono ?_); (case side1 => repeat (first | exact HR1.out | (with_reducible refine Kd.C_alloc ?_ _) | (with_reducible refine Kd.C_drewN ?_ _) | (with_reducible refine Kd.C_drew ?_))); (case side2 => exact HC1.out); rintro e w9 ⟨rfl, hb⟩; refine ⟨_, rfl, ?_⟩; have n0_ := Aside0.mk (below_step (by repeat (first | (with_reducible first | exact HB.out | apply below_alloc | apply pw_below_drewN | apply below_drew1) | exact HB.out)) hb); clear HB; have HB := n0_; clear n0_; (try clear hb); (try clear hb2); (try clear hk); (try clear hi)) | ((with_reducible refine gate_callee (f := 78) rfl ?_); refine goesL_ (some 16) rfl rfl Try.func78 (by kernel_rfl) rfl #[.int .i64 a2, .int .i64 0, .int .i64 12] rfl (by (try simp only [List.map_toArray, List.map_cons, List.map_nil]); first | done | rfl | (simp only [List.length_drop, List.length_take]; rfl)) ?_; (with_reducible refine (judge_within.calls a2 0 12 true _ A6.out).mono ?_); rintro e w' ⟨rfl, ⟨nd, rfl⟩⟩; refine ⟨_, rfl, ?_⟩) | ((with_reducible refine gate_callee (f := 79) rfl ?_); refine goesL_ (some 21) rfl rfl Try.func79 (by kernel_rfl) rfl #[.int .i64 a0, .slice A1 l1.length c1, .int .i64 0, .int .i64 a2] rfl (by (try simp only [List.map_toArray, List.map_cons, List.map_nil]); first | done | rfl | (simp only [List.length_drop, List.length_take]; rfl)) ?_; (with_reducible refine (judge_left.calls k a0 _ _ l1 0 a2 t191 _ ?side1 ?side2 A8.out).mono ?_); (case side1 => repeat (first | exact (Kd.C_below HR1.out (by repeat (first | (with_reducible first | exact HB.out | apply below_alloc | apply pw_below_drewN | apply below_drew1) | exact HB.out))) | (with_reducible refine Kd.C_alloc ?_ _) | (with_reducible refine Kd.C_drewN ?_ _) | (with_reducible refine Kd.C_drew ?_))); (case side2 => exact HC1.out); rintro e w10 ⟨v192, rfl, ho0, hb⟩; refine ⟨_, rfl, ?_⟩; have n0_ := Aside0.mk (Kd.R_lower ho0 (below_size (by repeat (first | (with_reducible first | exact HB.out | apply below_alloc | apply pw_below_drewN | apply below_drew1) | exact HB.out)))); have n1_ := Aside0.mk (below_step (by repeat (first | (with_reducible first | exact HB.out | apply below_alloc | apply pw_below_drewN | apply below_drew1) | exact HB.out)) hb); clear HB; have HO193 := n0_; have HB := n1_; clear n0_ n1_; (try clear hb); (try clear hb2); (try clear hk); (try clear hi); (try clear ho0)))
      go_ret2
      exact ⟨_, by first | rfl | (simp [errW_none, errW_some] <;> rfl) | (simp [*, errW_none, errW_some] <;> rfl), by (with_reducible repeat (first | apply Kd.R_alloc | apply Kd.R_drewN | apply Kd.R_drew)); exact HO193.out, by repeat (first | (with_reducible first | exact HB.out | apply below_alloc | apply pw_below_drewN | apply below_drew1) | exact HB.out)⟩
    · replace c7 := Bool.eq_false_iff.mpr c7
      subst c7
      have H1 : (some (([] : List Int), 1)) = some (r1, r2) := by rw [if_neg (show ¬ (false = true) by decide)] at H; exact H
      clear H
      have H := H1
      clear H1
      simp only [Option.some.injEq, Prod.mk.injEq] at H
      obtain ⟨rfl, rfl⟩ := H
      go_enter Try.func58, Try.ntmps58
      go_wp2_with (first | ((with_reducible refine gate_callee (f := 51) rfl ?_); refine goesL_ (some 11) rfl rfl Try.func51 (by kernel_rfl) rfl #[.int .i64 a0, .slice A1 l1.length c1] rfl (by (try simp only [List.map_toArray, List.map_cons, List.map_nil]); first | done | rfl | (simp only [List.length_drop, List.length_take]; rfl)) ?_; (with_reducible refine (judge_Validate.calls a0 _ _ l1 t189 _ ?side1 ?side2 A4.out).mono ?_); (case side1 => repeat (first | exact HR1.out | (with_reducible refine Kd.C_alloc ?_ _) | (with_reducible refine Kd.C_drewN ?_ _) | (with_reducible refine Kd.C_drew ?_))); (case side2 => exact HC1.out); rintro e w11 ⟨rfl, hb⟩; refine ⟨_, rfl, ?_⟩; have n0_ := Aside0.mk (below_step (by repeat (first | (with_reducible first | exact HB.out | apply below_alloc | apply pw_below_drewN | apply below_drew1) | exact HB.out)) hb); clear HB; have HB := n0_; clear n0_; (try clear hb); (try clear hb2); (try clear hk); (try clear hi)) | ((with_reducible refine gate_callee (f := 78) rfl ?_); refine goesL_ (some 16) rfl rfl Try.func78 (by kernel_rfl) rfl #[.int .i64 a2, .int .i64 0, .int .i64 12] rfl (by (try simp only [List.map_toArray, List.map_cons, List.map_nil]); first | done | rfl | (simp only [List.length_drop, List.length_take]; rfl)) ?_; (with_reducible refine (judge_within.calls a2 0 12 false _ A6.out).mono ?_); rintro e w' ⟨rfl, ⟨nd, rfl⟩⟩; refine ⟨_, rfl, ?_⟩))
      go_ret2
      exact ⟨_, by first | rfl | (simp [errW_none, errW_some] <;> rfl) | (simp [*, errW_none, errW_some] <;> rfl), by first | exact Kd.R_nil _ _ _ _ _ | exact Kd.N_nil _ _ _ _ _ | exact Kd.V_nil _ _ _ _ _ | exact Kd.Q_nil _ _ _ _ _ | exact Kd.S_nil _ _ _ _ _, by repeat (first | (with_reducible first | exact HB.out | apply below_alloc | apply pw_below_drewN | apply below_drew1) | exact HB.out)⟩
  · rw [if_neg c5] at H
    have c5b0 : (t189 == 0) = false := beq_eq_false_iff_ne.mpr c5
    have c5b1 : (t189 != 0) = true := bne_iff_ne.mpr c5
    simp only [Option.some.injEq, Prod.mk.injEq] at H
    obtain ⟨rfl, rfl⟩ := H
    go_enter Try.func58, Try.ntmps58
    go_wp2_with (first | ((with_reducible refine gate_callee (f := 51) rfl ?_); refine goesL_ (some 11) rfl rfl Try.func51 (by kernel_rfl) rfl #[.int .i64 a0, .slice A1 l1.length c1] rfl (by (try simp only [List.map_toArray, List.map_cons, List.map_nil]); first | done | rfl | (simp only [List.length_drop, List.length_take]; rfl)) ?_; (with_reducible refine (judge_Validate.calls a0 _ _ l1 t189 _ ?side1 ?side2 A4.out).mono ?_); (case side1 => repeat (first | exact HR1.out | (with_reducible refine Kd.C_alloc ?_ _) | (with_reducible refine Kd.C_drewN ?_ _) | (with_reducible refine Kd.C_drew ?_))); (case side2 => exact HC1.out); rintro e w12 ⟨rfl, hb⟩; refine ⟨_, rfl, ?_⟩; have n0_ := Aside0.mk (below_step (by repeat (first | (with_reducible first | exact HB.out | apply below_alloc | apply pw_below_drewN | apply below_drew1) | exact HB.out)) hb); clear HB; have HB := n0_; clear n0_; (try clear hb); (try clear hb2); (try clear hk); (try clear hi)))
    go_ret2
    exact ⟨_, by first | rfl | (simp [errW_none, errW_some] <;> rfl) | (simp [*, errW_none, errW_some] <;> rfl), by first | exact Kd.R_nil _ _ _ _ _ | exact Kd.N_nil _ _ _ _ _ | exact Kd.V_nil _ _ _ _ _ | exact Kd.Q_nil _ _ _ _ _ | exact Kd.S_nil _ _ _ _ _, by repeat (first | (with_reducible first | exact HB.out | apply below_alloc | apply pw_below_drewN | apply below_drew1) | exact HB.out)⟩

end Go.Proofs.Ytfejfljgdeglgaa.K

/- DERIVED by wip/pr.py: for each Go function named below a Lean function with the same answers, and that a call of it comes to these answers, for all arguments and memories, where the Lean function has an answer. -/
namespace Go.Proofs.Ytfejfljgdeglgaa.K
open Go.RowKit Go.Proofs.YtfejfljgdeglgaaW.PrintWords Go.Proofs.YtfejfljgdeglgaaW.PrintLast Go.Proofs.YtfejfljgdeglgaaW.PrintMore
attribute [local go_sem] max2_int min2_int max_two min_two max_three min_three max_four min_four   -- for this text's walks alone
set_option linter.unusedVariables false
set_option linter.unusedSimpArgs false

/-! ### judge_State: function 64 -/
def judge_State.f (k : Nat) (a0 : Int) (l1 : List (S49)) : Option (Int × Int × Int) := (judge_Validate.f a0 l1).bind fun t194 => (if t194 = 0 then ((judge_left.f k a0 l1 0 0).bind fun t195 => ((judge_left.f k a0 l1 1 1).bind fun t198 => (some ((t195.length : Int), (t198.length : Int), 0)))) else (some (0, 0, t194)))
theorem judge_State.mono : ∀ a0 a1 k, LeO (judge_State.f k a0 a1) (judge_State.f (k + 1) a0 a1) := by
  intro a0 a1 k
  unfold judge_State.f
  repeat' first
      | (with_reducible exact judge_left.mono _ _ _ _ _)
      | (with_reducible exact LeO.refl _)
      | (with_reducible exact LeO.none _)
      | (with_reducible refine LeO.ite ?_ ?_)
      | (with_reducible refine LeO.bind ?_ (fun _ => ?_))
      | exact judge_left.mono _ _ _ _ _
      | exact LeO.none _
      | refine LeO.ite ?_ ?_
      | refine LeO.bind ?_ (fun _ => ?_)
set_option maxHeartbeats 8000000 in
set_option maxRecDepth 100000 in
theorem judge_State.calls (k : Nat) (a0 : Int) (A1 : Option Addr) (c1 : Nat) (l1 : List (S49)) (r1 : Int) (r2 : Int) (r3 : Int) (w : World) (hr1 : Kd.C k49 w A1 l1.length l1) (hc1 : l1.length ≤ c1) (h : judge_State.f k a0 l1 = some (r1, r2, r3)) :
    Calls Try.prog 64 #[.int .i64 a0, .slice A1 l1.length c1] w fun e w' => e = .returned (.tuple #[.int .i64 r1, .int .i64 r2, .int .i64 r3]) ∧ Below w.heap.size w w' := by
  have HR1 := Aside0.mk hr1
  have HC1 := Aside0.mk hc1
  clear hr1 hc1
  have HB := Aside0.mk (Below.refl w.heap.size w)
  have H : ((judge_Validate.f a0 l1).bind fun t194 => (if t194 = 0 then ((judge_left.f k a0 l1 0 0).bind fun t195 => ((judge_left.f k a0 l1 1 1).bind fun t198 => (some ((t195.length : Int), (t198.length : Int), 0)))) else (some (0, 0, t194)))) = some (r1, r2, r3) := h
  clear h
  replace H := Option.bind_eq_some_iff.mp H
  obtain ⟨t194, A30, H⟩ := H
  replace H : (if t194 = 0 then ((judge_left.f k a0 l1 0 0).bind fun t195 => ((judge_left.f k a0 l1 1 1).bind fun t198 => (some ((t195.length : Int), (t198.length : Int), 0)))) else (some (0, 0, t194))) = some (r1, r2, r3) := H
  have A3 := Aside0.mk A30
  clear A30
  by_cases c4 : t194 = 0
  · rw [if_pos c4] at H
    have c4b0 : (t194 == 0) = true := beq_iff_eq.mpr c4
    have c4b1 : (t194 != 0) = false := bne_eq_false_iff_eq.mpr c4
    clear c4
    replace H := Option.bind_eq_some_iff.mp H
    obtain ⟨t195, A50, H⟩ := H
    replace H : ((judge_left.f k a0 l1 1 1).bind fun t198 => (some ((t195.length : Int), (t198.length : Int), 0))) = some (r1, r2, r3) := H
    have A5 := Aside0.mk A50
    clear A50
    replace H := Option.bind_eq_some_iff.mp H
    obtain ⟨t198, A60, H⟩ := H
    replace H : (some ((t195.length : Int), (t198.length : Int), 0)) = some (r1, r2, r3) := H
    have A6 := Aside0.mk A60
    clear A60
    simp only [Option.some.injEq, Prod.mk.injEq] at H
    obtain ⟨rfl, rfl, rfl⟩ := H
    go_enter Try.func64, Try.ntmps64
    go_wp2_with (first | ((with_reducible refine gate_callee (f := 51) rfl ?_); refine goesL_ (some 10) rfl rfl Try.func51 (by kernel_rfl) rfl #[.int .i64 a0, .slice A1 l1.length c1] rfl (by (try simp only [List.map_toArray, List.map_cons, List.map_nil]); first | done | rfl | (simp only [List.length_drop, List.length_take]; rfl)) ?_; (with_reducible refine (judge_Validate.calls a0 _ _ l1 t194 _ ?side1 ?side2 A3.out).mono ?_); (case side1 => repeat (first | exact HR1.out | (with_reducible refine Kd.C_alloc ?_ _) | (with_reducible refine Kd.C_drewN ?_ _) | (with_reducible refine Kd.C_drew ?_))); (case side2 => exact HC1.out); rintro e w7 ⟨rfl, hb⟩; refine ⟨_, rfl, ?_⟩; have n0_ := Aside0.mk (below_step (by repeat (first | (with_reducible first | exact HB.out | apply below_alloc | apply pw_below_drewN | apply below_drew1) | exact HB.out)) hb); clear HB; have HB := n0_; clear n0_; (try clear hb); (try clear hb2); (try clear hk); (try clear hi)) | ((with_reducible refine gate_callee (f := 79) rfl ?_); refine goesL_ (some 16) rfl rfl Try.func79 (by kernel_rfl) rfl #[.int .i64 a0, .slice A1 l1.length c1, .int .i64 0, .int .i64 0] rfl (by (try simp only [List.map_toArray, List.map_cons, List.map_nil]); first | done | rfl | (simp only [List.length_drop, List.length_take]; rfl)) ?_; (with_reducible refine (judge_left.calls k a0 _ _ l1 0 0 t195 _ ?side1 ?side2 A5.out).mono ?_); (case side1 => repeat (first | exact (Kd.C_below HR1.out HB.out) | (with_reducible refine Kd.C_alloc ?_ _) | (with_reducible refine Kd.C_drewN ?_ _) | (with_reducible refine Kd.C_drew ?_))); (case side2 => exact HC1.out); rintro e w8 ⟨v196, rfl, ho0, hb⟩; refine ⟨_, rfl, ?_⟩; have n0_ := Aside0.mk (Kd.R_lower ho0 (below_size (by repeat (first | (with_reducible first | exact HB.out | apply below_alloc | apply pw_below_drewN | apply below_drew1) | exact HB.out)))); have n1_ := Aside0.mk (below_step (by repeat (first | (with_reducible first | exact HB.out | apply below_alloc | apply pw_below_drewN | apply below_drew1) | exact HB.out)) hb); clear HB; have HO197 := n0_; have HB := n1_; clear n0_ n1_; (try clear hb); (try clear hb2); (try clear hk); (try clear hi); (try clear ho0); obtain ⟨Ao9, co9, eo9⟩ := Kd.R_slice HO197.out; subst eo9) | ((with_reducible refine gate_callee (f := 79) rfl ?_); refine goesL_ (some 20) rfl rfl Try.func79 (by kernel_rfl) rfl #[.int .i64 a0, .slice A1 l1.length c1, .int .i64 1, .int .i64 1] rfl (by (try simp only [List.map_toArray, List.map_cons, List.map_nil]); first | done | rfl | (simp only [List.length_drop, List.length_take]; rfl)) ?_; (with_reducible refine (judge_left.calls k a0 _ _ l1 1 1 t198 _ ?side1 ?side2 A6.out).mono ?_); (case side1 => repeat (first | exact (Kd.C_below HR1.out HB.out) | (with_reducible refine Kd.C_alloc ?_ _) | (with_reducible refine Kd.C_drewN ?_ _) | (with_reducible refine Kd.C_drew ?_))); (case side2 => exact HC1.out); rintro e w10 ⟨v199, rfl, ho0, hb⟩; refine ⟨_, rfl, ?_⟩; have n0_ := Aside0.mk (Kd.R_elder' (by (with_reducible repeat (first | apply Kd.R_alloc | apply Kd.R_drewN | apply Kd.R_drew)); exact HO197.out) (Kd.R_base ho0) hb); have n1_ := Aside0.mk (Kd.R_lower (Kd.R_new' ho0 (Kd.R_lt (by (with_reducible repeat (first | apply Kd.R_alloc | apply Kd.R_drewN | apply Kd.R_drew)); exact HO197.out))) (below_size (by repeat (first | (with_reducible first | exact HB.out | apply below_alloc | apply pw_below_drewN | apply below_drew1) | exact HB.out)))); have n2_ := Aside0.mk (below_step (by repeat (first | (with_reducible first | exact HB.out | apply below_alloc | apply pw_below_drewN | apply below_drew1) | exact HB.out)) hb); clear HO197; clear HB; have HO197 := n0_; have HO200 := n1_; have HB := n2_; clear n0_ n1_ n2_; (try clear hb); (try clear hb2); (try clear hk); (try clear hi); (try clear ho0); obtain ⟨Ao11, co11, eo11⟩ := Kd.R_slice HO200.out; subst eo11))
    go_ret3
    exact ⟨by first | rfl | (simp [errW_none, errW_some] <;> rfl) | (simp [*, errW_none, errW_some] <;> rfl), by repeat (first | (with_reducible first | exact HB.out | apply below_alloc | apply pw_below_drewN | apply below_drew1) | exact HB.out)⟩
  · rw [if_neg c4] at H
    have c4b0 : (t194 == 0) = false := beq_eq_false_iff_ne.mpr c4
    have c4b1 : (t194 != 0) = true := bne_iff_ne.mpr c4
    simp only [Option.some.injEq, Prod.mk.injEq] at H
    obtain ⟨rfl, rfl, rfl⟩ := H
    go_enter Try.func64, Try.ntmps64
    go_wp2_with (first | ((with_reducible refine gate_callee (f := 51) rfl ?_); refine goesL_ (some 10) rfl rfl Try.func51 (by kernel_rfl) rfl #[.int .i64 a0, .slice A1 l1.length c1] rfl (by (try simp only [List.map_toArray, List.map_cons, List.map_nil]); first | done | rfl | (simp only [List.length_drop, List.length_take]; rfl)) ?_; (with_reducible refine (judge_Validate.calls a0 _ _ l1 t194 _ ?side1 ?side2 A3.out).mono ?_); (case side1 => repeat (first | exact HR1.out | (with_reducible refine Kd.C_alloc ?_ _) | (with_reducible refine Kd.C_drewN ?_ _) | (with_reducible refine Kd.C_drew ?_))); (case side2 => exact HC1.out); rintro e w12 ⟨rfl, hb⟩; refine ⟨_, rfl, ?_⟩; have n0_ := Aside0.mk (below_step (by repeat (first | (with_reducible first | exact HB.out | apply below_alloc | apply pw_below_drewN | apply below_drew1) | exact HB.out)) hb); clear HB; have HB := n0_; clear n0_; (try clear hb); (try clear hb2); (try clear hk); (try clear hi)))
    go_ret3
    exact ⟨by first | rfl | (simp [errW_none, errW_some] <;> rfl) | (simp [*, errW_none, errW_some] <;> rfl), by repeat (first | (with_reducible first | exact HB.out | apply below_alloc | apply pw_below_drewN | apply below_drew1) | exact HB.out)⟩

end Go.Proofs.Ytfejfljgdeglgaa.K

/- DERIVED by wip/pr.py: for each Go function named below a Lean function with the same answers, and that a call of it comes to these answers, for all arguments and memories, where the Lean function has an answer. -/
namespace Go.Proofs.Ytfejfljgdeglgaa.K
open Go.RowKit Go.Proofs.YtfejfljgdeglgaaW.PrintWords Go.Proofs.YtfejfljgdeglgaaW.PrintLast Go.Proofs.YtfejfljgdeglgaaW.PrintMore
attribute [local go_sem] max2_int min2_int max_two min_two max_three min_three max_four min_four   -- for this text's walks alone
set_option linter.unusedVariables false
set_option linter.unusedSimpArgs false

/-! ### verditerref02_Left: function 56 -/
def verditerref02_Left.f (k : Nat) (a0 : Int) (l1 : List (S49)) (a2 : Int) : Option (List Int × Int) := (verditerref02_Validate.f k a0 l1).bind fun t208 => (if t208 = 0 then ((verditerref02_within.f a2 0 12).bind fun t209 => (if t209 = true then ((verditerref02_left.f k a0 l1 a2).bind fun t210 => (some (t210, 0))) else (some (([] : List Int), 1)))) else (some (([] : List Int), t208)))
theorem verditerref02_Left.mono : ∀ a0 a1 a2 k, LeO (verditerref02_Left.f k a0 a1 a2) (verditerref02_Left.f (k + 1) a0 a1 a2) := by
  intro a0 a1 a2 k
  unfold verditerref02_Left.f
  repeat' first
      | (with_reducible exact verditerref02_Validate.mono _ _ _)
      | (with_reducible exact verditerref02_left.mono _ _ _ _)
      | (with_reducible exact LeO.refl _)
      | (with_reducible exact LeO.none _)
      | (with_reducible refine LeO.ite ?_ ?_)
      | (with_reducible refine LeO.bind ?_ (fun _ => ?_))
      | exact verditerref02_Validate.mono _ _ _
      | exact verditerref02_left.mono _ _ _ _
      | exact LeO.none _
      | refine LeO.ite ?_ ?_
      | refine LeO.bind ?_ (fun _ => ?_)
set_option maxHeartbeats 8000000 in
set_option maxRecDepth 100000 in
theorem verditerref02_Left.calls (k : Nat) (a0 : Int) (A1 : Option Addr) (c1 : Nat) (l1 : List (S49)) (a2 : Int) (r1 : List Int) (r2 : Int) (w : World) (hr1 : Kd.C k49 w A1 l1.length l1) (hc1 : l1.length ≤ c1) (h : verditerref02_Left.f k a0 l1 a2 = some (r1, r2)) :
    Calls Try.prog 56 #[.int .i64 a0, .slice A1 l1.length c1, .int .i64 a2] w fun e w' => ∃ v0_ : Value, e = .returned (.tuple #[v0_, .int .i64 r2]) ∧ Kd.R (Kd.int .i64) 3 w' w.heap.size (fun _ => True) v0_ r1 ∧ Below w.heap.size w w' := by
  have HR1 := Aside0.mk hr1
  have HC1 := Aside0.mk hc1
  clear hr1 hc1
  have HB := Aside0.mk (Below.refl w.heap.size w)
  have H : ((verditerref02_Validate.f k a0 l1).bind fun t208 => (if t208 = 0 then ((verditerref02_within.f a2 0 12).bind fun t209 => (if t209 = true then ((verditerref02_left.f k a0 l1 a2).bind fun t210 => (some (t210, 0))) else (some (([] : List Int), 1)))) else (some (([] : List Int), t208)))) = some (r1, r2) := h
  clear h
  replace H := Option.bind_eq_some_iff.mp H
  obtain ⟨t208, A40, H⟩ := H
  replace H : (if t208 = 0 then ((verditerref02_within.f a2 0 12).bind fun t209 => (if t209 = true then ((verditerref02_left.f k a0 l1 a2).bind fun t210 => (some (t210, 0))) else (some (([] : List Int), 1)))) else (some (([] : List Int), t208))) = some (r1, r2) := H
  have A4 := Aside0.mk A40
  clear A40
  by_cases c5 : t208 = 0
  · rw [if_pos c5] at H
    have c5b0 : (t208 == 0) = true := beq_iff_eq.mpr c5
    have c5b1 : (t208 != 0) = false := bne_eq_false_iff_eq.mpr c5
    clear c5
    replace H := Option.bind_eq_some_iff.mp H
    obtain ⟨t209, A60, H⟩ := H
    replace H : (if t209 = true then ((verditerref02_left.f k a0 l1 a2).bind fun t210 => (some (t210, 0))) else (some (([] : List Int), 1))) = some (r1, r2) := H
    have A6 := Aside0.mk A60
    clear A60
    by_cases c7 : t209 = true
    · subst c7
      have H1 : ((verditerref02_left.f k a0 l1 a2).bind fun t210 => (some (t210, 0))) = some (r1, r2) := by rw [if_pos rfl] at H; exact H
      clear H
      have H := H1
      clear H1
      replace H := Option.bind_eq_some_iff.mp H
      obtain ⟨t210, A80, H⟩ := H
      replace H : (some (t210, 0)) = some (r1, r2) := H
      have A8 := Aside0.mk A80
      clear A80
      simp only [Option.some.injEq, Prod.mk.injEq] at H
      obtain ⟨rfl, rfl⟩ := H
      go_enter Try.func56, Try.ntmps56
      go_wp2_with (first | ((with_reducible refine gate_callee (f := 52) rfl ?_); refine goesL_ (some 11) rfl rfl Try.func52 (by kernel_rfl) rfl #[.int .i64 a0, .slice A1 l1.length c1] rfl (by (try simp only [List.map_toArray, List.map_cons, List.map_nil]); first | done | rfl | (simp only [List.length_drop, List.length_take]; rfl)) ?_; (with_reducible refine (verditerref02_Validate.calls k a0 _ _ l1 t208 _ ?side1 ?side2 A4.out).mono ?_); (case side1 => repeat (first | exact HR1.out | (with_reducible refine Kd.C_alloc ?_ _) | (with_reducible refine Kd.C_drewN ?_ _) | (with_reducible refine Kd.C_drew ?_))); (case side2 => exact HC1.out); rintro e w' ⟨rfl, ⟨nd, rfl⟩⟩; refine ⟨_, rfl, ?_⟩) | ((with_reducible refine gate_callee (f := 61) rfl ?_); refine goesL_ (some 16) rfl rfl Try.func61 (by kernel_rfl) rfl #[.int .i64 a2, .int .i64 0, .int .i64 12] rfl (by (try simp only [List.map_toArray, List.map_cons, List.map_nil]); first | done | rfl | (simp only [List.length_drop, List.length_take]; rfl)) ?_; (with_reducible refine (verditerref02_within.calls a2 0 12 true _ A6.out).mono ?_); rintro e w' ⟨rfl, ⟨nd, rfl⟩⟩; refine ⟨_, rfl, ?_⟩) | ((with_reducible refine gate_callee (f := 86) rfl ?_); refine goesL_ (some 21) rfl rfl Try.func86 (by kernel_rfl) rfl #[.int .i64 a0, .slice A1 l1.length c1, .int .i64 a2] rfl (by (try simp only [List.map_toArray, List.map_cons, List.map_nil]); first | done | rfl | (simp only [List.length_drop, List.length_take]; rfl)) ?_; (with_reducible refine (verditerref02_left.calls k a0 _ _ l1 a2 t210 _ ?side1 ?side2 A8.out).mono ?_); (case side1 => repeat (first | exact HR1.out | (with_reducible refine Kd.C_alloc ?_ _) | (with_reducible refine Kd.C_drewN ?_ _) | (with_reducible refine Kd.C_drew ?_))); (case side2 => exact HC1.out); rintro e w9 ⟨v211, rfl, ho0, hb⟩; refine ⟨_, rfl, ?_⟩; have n0_ := Aside0.mk (Kd.R_lower ho0 (below_size (by repeat (first | (with_reducible first | exact HB.out | apply below_alloc | apply pw_below_drewN | apply below_drew1) | exact HB.out)))); have n1_ := Aside0.mk (below_step (by repeat (first | (with_reducible first | exact HB.out | apply below_alloc | apply pw_below_drewN | apply below_drew1) | exact HB.out)) hb); clear HB; have HO212 := n0_; have HB := n1_; clear n0_ n1_; (try clear hb); (try clear hb2); (try clear hk); (try clear hi); (try clear ho0)))
      go_ret2
      exact ⟨_, by first | rfl | (simp [errW_none, errW_some] <;> rfl) | (simp [*, errW_none, errW_some] <;> rfl), by (with_reducible repeat (first | apply Kd.R_alloc | apply Kd.R_drewN | apply Kd.R_drew)); exact HO212.out, by repeat (first | (with_reducible first | exact HB.out | apply below_alloc | apply pw_below_drewN | apply below_drew1) | exact HB.out)⟩
    · replace c7 := Bool.eq_false_iff.mpr c7
      subst c7
      have H1 : (some (([] : List Int), 1)) = some (r1, r2) := by rw [if_neg (show ¬ (false = true) by decide)] at H; exact H
      clear H
      have H := H1
      clear H1
      simp only [Option.some.injEq, Prod.mk.injEq] at H
      obtain ⟨rfl, rfl⟩ := H
      go_enter Try.func56, Try.ntmps56
      go_wp2_with (first | ((with_reducible refine gate_callee (f := 52) rfl ?_); refine goesL_ (some 11) rfl rfl Try.func52 (by kernel_rfl) rfl #[.int .i64 a0, .slice A1 l1.length c1] rfl (by (try simp only [List.map_toArray, List.map_cons, List.map_nil]); first | done | rfl | (simp only [List.length_drop, List.length_take]; rfl)) ?_; (with_reducible refine (verditerref02_Validate.calls k a0 _ _ l1 t208 _ ?side1 ?side2 A4.out).mono ?_); (case side1 => repeat (first | exact HR1.out | (with_reducible refine Kd.C_alloc ?_ _) | (with_reducible refine Kd.C_drewN ?_ _) | (with_reducible refine Kd.C_drew ?_))); (case side2 => exact HC1.out); rintro e w' ⟨rfl, ⟨nd, rfl⟩⟩; refine ⟨_, rfl, ?_⟩) | ((with_reducible refine gate_callee (f := 61) rfl ?_); refine goesL_ (some 16) rfl rfl Try.func61 (by kernel_rfl) rfl #[.int .i64 a2, .int .i64 0, .int .i64 12] rfl (by (try simp only [List.map_toArray, List.map_cons, List.map_nil]); first | done | rfl | (simp only [List.length_drop, List.length_take]; rfl)) ?_; (with_reducible refine (verditerref02_within.calls a2 0 12 false _ A6.out).mono ?_); rintro e w' ⟨rfl, ⟨nd, rfl⟩⟩; refine ⟨_, rfl, ?_⟩))
      go_ret2
      exact ⟨_, by first | rfl | (simp [errW_none, errW_some] <;> rfl) | (simp [*, errW_none, errW_some] <;> rfl), by first | exact Kd.R_nil _ _ _ _ _ | exact Kd.N_nil _ _ _ _ _ | exact Kd.V_nil _ _ _ _ _ | exact Kd.Q_nil _ _ _ _ _ | exact Kd.S_nil _ _ _ _ _, by repeat (first | (with_reducible first | exact HB.out | apply below_alloc | apply pw_below_drewN | apply below_drew1) | exact HB.out)⟩
  · rw [if_neg c5] at H
    have c5b0 : (t208 == 0) = false := beq_eq_false_iff_ne.mpr c5
    have c5b1 : (t208 != 0) = true := bne_iff_ne.mpr c5
    simp only [Option.some.injEq, Prod.mk.injEq] at H
    obtain ⟨rfl, rfl⟩ := H
    go_enter Try.func56, Try.ntmps56
    go_wp2_with (first | ((with_reducible refine gate_callee (f := 52) rfl ?_); refine goesL_ (some 11) rfl rfl Try.func52 (by kernel_rfl) rfl #[.int .i64 a0, .slice A1 l1.length c1] rfl (by (try simp only [List.map_toArray, List.map_cons, List.map_nil]); first | done | rfl | (simp only [List.length_drop, List.length_take]; rfl)) ?_; (with_reducible refine (verditerref02_Validate.calls k a0 _ _ l1 t208 _ ?side1 ?side2 A4.out).mono ?_); (case side1 => repeat (first | exact HR1.out | (with_reducible refine Kd.C_alloc ?_ _) | (with_reducible refine Kd.C_drewN ?_ _) | (with_reducible refine Kd.C_drew ?_))); (case side2 => exact HC1.out); rintro e w' ⟨rfl, ⟨nd, rfl⟩⟩; refine ⟨_, rfl, ?_⟩))
    go_ret2
    exact ⟨_, by first | rfl | (simp [errW_none, errW_some] <;> rfl) | (simp [*, errW_none, errW_some] <;> rfl), by first | exact Kd.R_nil _ _ _ _ _ | exact Kd.N_nil _ _ _ _ _ | exact Kd.V_nil _ _ _ _ _ | exact Kd.Q_nil _ _ _ _ _ | exact Kd.S_nil _ _ _ _ _, by repeat (first | (with_reducible first | exact HB.out | apply below_alloc | apply pw_below_drewN | apply below_drew1) | exact HB.out)⟩

end Go.Proofs.Ytfejfljgdeglgaa.K

/- DERIVED by wip/pr.py: for each Go function named below a Lean function with the same answers, and that a call of it comes to these answers, for all arguments and memories, where the Lean function has an answer. -/
namespace Go.Proofs.Ytfejfljgdeglgaa.K
open Go.RowKit Go.Proofs.YtfejfljgdeglgaaW.PrintWords Go.Proofs.YtfejfljgdeglgaaW.PrintLast Go.Proofs.YtfejfljgdeglgaaW.PrintMore
attribute [local go_sem] max2_int min2_int max_two min_two max_three min_three max_four min_four   -- for this text's walks alone
set_option linter.unusedVariables false
set_option linter.unusedSimpArgs false

/-! ### verditerref02_Grade: function 57 -/
def verditerref02_Grade.f (k : Nat) (a0 : Int) (l1 : List (S49)) : Option (Int × Bool × Int) := (verditerref02_Validate.f k a0 l1).bind fun t213 => (if t213 = 0 then ((verditerref02_left.f k a0 l1 1).bind fun t214 => (if (t214.length : Int) = 1 then (if 0 < (t214.length : Int) then (some (rd t214 0, true, 0)) else (none)) else (some (0, false, 0)))) else (some (0, false, t213)))
theorem verditerref02_Grade.mono : ∀ a0 a1 k, LeO (verditerref02_Grade.f k a0 a1) (verditerref02_Grade.f (k + 1) a0 a1) := by
  intro a0 a1 k
  unfold verditerref02_Grade.f
  repeat' first
      | (with_reducible exact verditerref02_Validate.mono _ _ _)
      | (with_reducible exact verditerref02_left.mono _ _ _ _)
      | (with_reducible exact LeO.refl _)
      | (with_reducible exact LeO.none _)
      | (with_reducible refine LeO.ite ?_ ?_)
      | (with_reducible refine LeO.bind ?_ (fun _ => ?_))
      | exact verditerref02_Validate.mono _ _ _
      | exact verditerref02_left.mono _ _ _ _
      | exact LeO.none _
      | refine LeO.ite ?_ ?_
      | refine LeO.bind ?_ (fun _ => ?_)
set_option maxHeartbeats 8000000 in
set_option maxRecDepth 100000 in
theorem verditerref02_Grade.calls (k : Nat) (a0 : Int) (A1 : Option Addr) (c1 : Nat) (l1 : List (S49)) (r1 : Int) (r2 : Bool) (r3 : Int) (w : World) (hr1 : Kd.C k49 w A1 l1.length l1) (hc1 : l1.length ≤ c1) (h : verditerref02_Grade.f k a0 l1 = some (r1, r2, r3)) :
    Calls Try.prog 57 #[.int .i64 a0, .slice A1 l1.length c1] w fun e w' => e = .returned (.tuple #[.int .i64 r1, .bool r2, .int .i64 r3]) ∧ Below w.heap.size w w' := by
  have HR1 := Aside0.mk hr1
  have HC1 := Aside0.mk hc1
  clear hr1 hc1
  have HB := Aside0.mk (Below.refl w.heap.size w)
  have H : ((verditerref02_Validate.f k a0 l1).bind fun t213 => (if t213 = 0 then ((verditerref02_left.f k a0 l1 1).bind fun t214 => (if (t214.length : Int) = 1 then (if 0 < (t214.length : Int) then (some (rd t214 0, true, 0)) else (none)) else (some (0, false, 0)))) else (some (0, false, t213)))) = some (r1, r2, r3) := h
  clear h
  replace H := Option.bind_eq_some_iff.mp H
  obtain ⟨t213, A30, H⟩ := H
  replace H : (if t213 = 0 then ((verditerref02_left.f k a0 l1 1).bind fun t214 => (if (t214.length : Int) = 1 then (if 0 < (t214.length : Int) then (some (rd t214 0, true, 0)) else (none)) else (some (0, false, 0)))) else (some (0, false, t213))) = some (r1, r2, r3) := H
  have A3 := Aside0.mk A30
  clear A30
  by_cases c4 : t213 = 0
  · rw [if_pos c4] at H
    have c4b0 : (t213 == 0) = true := beq_iff_eq.mpr c4
    have c4b1 : (t213 != 0) = false := bne_eq_false_iff_eq.mpr c4
    clear c4
    replace H := Option.bind_eq_some_iff.mp H
    obtain ⟨t214, A50, H⟩ := H
    replace H : (if (t214.length : Int) = 1 then (if 0 < (t214.length : Int) then (some (rd t214 0, true, 0)) else (none)) else (some (0, false, 0))) = some (r1, r2, r3) := H
    have A5 := Aside0.mk A50
    clear A50
    by_cases c6 : (t214.length : Int) = 1
    · rw [if_pos c6] at H
      have c6b0 : ((t214.length : Int) == 1) = true := beq_iff_eq.mpr c6
      have c6b1 : ((t214.length : Int) != 1) = false := bne_eq_false_iff_eq.mpr c6
      clear c6
      by_cases c7 : 0 < (t214.length : Int)
      · rw [if_pos c7] at H
        have c7b0 : decide (0 < (t214.length : Int)) = true := decide_eq_true c7
        have c7b1 : decide (0 < t214.length) = true := decide_eq_true (by omega)
        clear c7
        simp only [Option.some.injEq, Prod.mk.injEq] at H
        obtain ⟨rfl, rfl, rfl⟩ := H
        go_enter Try.func57, Try.ntmps57
        go_wp2_with (first | ((with_reducible refine gate_callee (f := 52) rfl ?_); refine goesL_ (some 11) rfl rfl Try.func52 (by kernel_rfl) rfl #[.int .i64 a0, .slice A1 l1.length c1] rfl (by (try simp only [List.map_toArray, List.map_cons, List.map_nil]); first | done | rfl | (simp only [List.length_drop, List.length_take]; rfl)) ?_; (with_reducible refine (verditerref02_Validate.calls k a0 _ _ l1 t213 _ ?side1 ?side2 A3.out).mono ?_); (case side1 => repeat (first | exact HR1.out | (with_reducible refine Kd.C_alloc ?_ _) | (with_reducible refine Kd.C_drewN ?_ _) | (with_reducible refine Kd.C_drew ?_))); (case side2 => exact HC1.out); rintro e w' ⟨rfl, ⟨nd, rfl⟩⟩; refine ⟨_, rfl, ?_⟩) | ((with_reducible refine gate_callee (f := 86) rfl ?_); refine goesL_ (some 17) rfl rfl Try.func86 (by kernel_rfl) rfl #[.int .i64 a0, .slice A1 l1.length c1, .int .i64 1] rfl (by (try simp only [List.map_toArray, List.map_cons, List.map_nil]); first | done | rfl | (simp only [List.length_drop, List.length_take]; rfl)) ?_; (with_reducible refine (verditerref02_left.calls k a0 _ _ l1 1 t214 _ ?side1 ?side2 A5.out).mono ?_); (case side1 => repeat (first | exact HR1.out | (with_reducible refine Kd.C_alloc ?_ _) | (with_reducible refine Kd.C_drewN ?_ _) | (with_reducible refine Kd.C_drew ?_))); (case side2 => exact HC1.out); rintro e w8 ⟨v215, rfl, ho0, hb⟩; refine ⟨_, rfl, ?_⟩; have n0_ := Aside0.mk (Kd.R_lower ho0 (below_size (by repeat (first | (with_reducible first | exact HB.out | apply below_alloc | apply pw_below_drewN | apply below_drew1) | exact HB.out)))); have n1_ := Aside0.mk (below_step (by repeat (first | (with_reducible first | exact HB.out | apply below_alloc | apply pw_below_drewN | apply below_drew1) | exact HB.out)) hb); clear HB; have HO216 := n0_; have HB := n1_; clear n0_ n1_; (try clear hb); (try clear hb2); (try clear hk); (try clear hi); (try clear ho0); obtain ⟨Ao9, co9, eo9⟩ := Kd.R_slice HO216.out; subst eo9; have p217 : 0 ≤ (0 : Int) := (by omega); have q217 : 0 < (t214.length : Int) := of_decide_eq_true (by first | (with_reducible assumption) | assumption); obtain ⟨ad217, e217, hx217_0⟩ := Kd.at_int (Kd.R_reads' HO216.out).2.2 0 p217 q217; cases e217; have qi217 : (0 < t214.length) = True := eq_true (by omega); (try rw [show ((0 : Int)).toNat = 0 from rfl] at hx217_0); (try rw [Addr.add_zero'] at hx217_0); replace p217 := eq_true p217; replace q217 := eq_true q217))
        go_ret3
        exact ⟨by first | rfl | (simp [errW_none, errW_some] <;> rfl) | (simp [*, errW_none, errW_some] <;> rfl), by repeat (first | (with_reducible first | exact HB.out | apply below_alloc | apply pw_below_drewN | apply below_drew1) | exact HB.out)⟩
      · rw [if_neg c7] at H
        exact absurd H (by simp)
    · rw [if_neg c6] at H
      have c6b0 : ((t214.length : Int) == 1) = false := beq_eq_false_iff_ne.mpr c6
      have c6b1 : ((t214.length : Int) != 1) = true := bne_iff_ne.mpr c6
      simp only [Option.some.injEq, Prod.mk.injEq] at H
      obtain ⟨rfl, rfl, rfl⟩ := H
      go_enter Try.func57, Try.ntmps57
      go_wp2_with (first | ((with_reducible refine gate_callee (f := 52) rfl ?_); refine goesL_ (some 11) rfl rfl Try.func52 (by kernel_rfl) rfl #[.int .i64 a0, .slice A1 l1.length c1] rfl (by (try simp only [List.map_toArray, List.map_cons, List.map_nil]); first | done | rfl | (simp only [List.length_drop, List.length_take]; rfl)) ?_; (with_reducible refine (verditerref02_Validate.calls k a0 _ _ l1 t213 _ ?side1 ?side2 A3.out).mono ?_); (case side1 => repeat (first | exact HR1.out | (with_reducible refine Kd.C_alloc ?_ _) | (with_reducible refine Kd.C_drewN ?_ _) | (with_reducible refine Kd.C_drew ?_))); (case side2 => exact HC1.out); rintro e w' ⟨rfl, ⟨nd, rfl⟩⟩; refine ⟨_, rfl, ?_⟩) | ((with_reducible refine gate_callee (f := 86) rfl ?_); refine goesL_ (some 17) rfl rfl Try.func86 (by kernel_rfl) rfl #[.int .i64 a0, .slice A1 l1.length c1, .int .i64 1] rfl (by (try simp only [List.map_toArray, List.map_cons, List.map_nil]); first | done | rfl | (simp only [List.length_drop, List.length_take]; rfl)) ?_; (with_reducible refine (verditerref02_left.calls k a0 _ _ l1 1 t214 _ ?side1 ?side2 A5.out).mono ?_); (case side1 => repeat (first | exact HR1.out | (with_reducible refine Kd.C_alloc ?_ _) | (with_reducible refine Kd.C_drewN ?_ _) | (with_reducible refine Kd.C_drew ?_))); (case side2 => exact HC1.out); rintro e w10 ⟨v215, rfl, ho0, hb⟩; refine ⟨_, rfl, ?_⟩; have n0_ := Aside0.mk (Kd.R_lower ho0 (below_size (by repeat (first | (with_reducible first | exact HB.out | apply below_alloc | apply pw_below_drewN | apply below_drew1) | exact HB.out)))); have n1_ := Aside0.mk (below_step (by repeat (first | (with_reducible first | exact HB.out | apply below_alloc | apply pw_below_drewN | apply below_drew1) | exact HB.out)) hb); clear HB; have HO216 := n0_; have HB := n1_; clear n0_ n1_; (try clear hb); (try clear hb2); (try clear hk); (try clear hi); (try clear ho0); obtain ⟨Ao11, co11, eo11⟩ := Kd.R_slice HO216.out; subst eo11))
      go_ret3
      exact ⟨by first | rfl | (simp [errW_none, errW_some] <;> rfl) | (simp [*, errW_none, errW_some] <;> rfl), by repeat (first | (with_reducible first | exact HB.out | apply below_alloc | apply pw_below_drewN | apply below_drew1) | exact HB.out)⟩
  · rw [if_neg c4] at H
    have c4b0 : (t213 == 0) = false := beq_eq_false_iff_ne.mpr c4
    have c4b1 : (t213 != 0) = true := bne_iff_ne.mpr c4
    simp only [Option.some.injEq, Prod.mk.injEq] at H
    obtain ⟨rfl, rfl, rfl⟩ := H
    go_enter Try.func57, Try.ntmps57
    go_wp2_with (first | ((with_reducible refine gate_callee (f := 52) rfl ?_); refine goesL_ (some 11) rfl rfl Try.func52 (by kernel_rfl) rfl #[.int .i64 a0, .slice A1 l1.length c1] rfl (by (try simp only [List.map_toArray, List.map_cons, List.map_nil]); first | done | rfl | (simp only [List.length_drop, List.length_take]; rfl)) ?_; (with_reducible refine (verditerref02_Validate.calls k a0 _ _ l1 t213 _ ?side1 ?side2 A3.out).mono ?_); (case side1 => repeat (first | exact HR1.out | (with_reducible refine Kd.C_alloc ?_ _) | (with_reducible refine Kd.C_drewN ?_ _) | (with_reducible refine Kd.C_drew ?_))); (case side2 => exact HC1.out); rintro e w' ⟨rfl, ⟨nd, rfl⟩⟩; refine ⟨_, rfl, ?_⟩))
    go_ret3
    exact ⟨by first | rfl | (simp [errW_none, errW_some] <;> rfl) | (simp [*, errW_none, errW_some] <;> rfl), by repeat (first | (with_reducible first | exact HB.out | apply below_alloc | apply pw_below_drewN | apply below_drew1) | exact HB.out)⟩

end Go.Proofs.Ytfejfljgdeglgaa.K

/- DERIVED by wip/pr.py: for each Go function named below a Lean function with the same answers, and that a call of it comes to these answers, for all arguments and memories, where the Lean function has an answer. -/
namespace Go.Proofs.Ytfejfljgdeglgaa.K
open Go.RowKit Go.Proofs.YtfejfljgdeglgaaW.PrintWords Go.Proofs.YtfejfljgdeglgaaW.PrintLast Go.Proofs.YtfejfljgdeglgaaW.PrintMore
attribute [local go_sem] max2_int min2_int max_two min_two max_three min_three max_four min_four   -- for this text's walks alone
set_option linter.unusedVariables false
set_option linter.unusedSimpArgs false

/-! ### verditerref02_State: function 63 -/
def verditerref02_State.f (k : Nat) (a0 : Int) (l1 : List (S49)) : Option (Int × Int × Int) := (verditerref02_Validate.f k a0 l1).bind fun t218 => (if t218 = 0 then ((verditerref02_left.f k a0 l1 0).bind fun t219 => ((verditerref02_left.f k a0 l1 1).bind fun t222 => (some ((t219.length : Int), wrap64 ((t222.length : Int) - (t219.length : Int)), 0)))) else (some (0, 0, t218)))
theorem verditerref02_State.mono : ∀ a0 a1 k, LeO (verditerref02_State.f k a0 a1) (verditerref02_State.f (k + 1) a0 a1) := by
  intro a0 a1 k
  unfold verditerref02_State.f
  repeat' first
      | (with_reducible exact verditerref02_Validate.mono _ _ _)
      | (with_reducible exact verditerref02_left.mono _ _ _ _)
      | (with_reducible exact LeO.refl _)
      | (with_reducible exact LeO.none _)
      | (with_reducible refine LeO.ite ?_ ?_)
      | (with_reducible refine LeO.bind ?_ (fun _ => ?_))
      | exact verditerref02_Validate.mono _ _ _
      | exact verditerref02_left.mono _ _ _ _
      | exact LeO.none _
      | refine LeO.ite ?_ ?_
      | refine LeO.bind ?_ (fun _ => ?_)
set_option maxHeartbeats 8000000 in
set_option maxRecDepth 100000 in
theorem verditerref02_State.calls (k : Nat) (a0 : Int) (A1 : Option Addr) (c1 : Nat) (l1 : List (S49)) (r1 : Int) (r2 : Int) (r3 : Int) (w : World) (hr1 : Kd.C k49 w A1 l1.length l1) (hc1 : l1.length ≤ c1) (h : verditerref02_State.f k a0 l1 = some (r1, r2, r3)) :
    Calls Try.prog 63 #[.int .i64 a0, .slice A1 l1.length c1] w fun e w' => e = .returned (.tuple #[.int .i64 r1, .int .i64 r2, .int .i64 r3]) ∧ Below w.heap.size w w' := by
  have HR1 := Aside0.mk hr1
  have HC1 := Aside0.mk hc1
  clear hr1 hc1
  have HB := Aside0.mk (Below.refl w.heap.size w)
  have H : ((verditerref02_Validate.f k a0 l1).bind fun t218 => (if t218 = 0 then ((verditerref02_left.f k a0 l1 0).bind fun t219 => ((verditerref02_left.f k a0 l1 1).bind fun t222 => (some ((t219.length : Int), wrap64 ((t222.length : Int) - (t219.length : Int)), 0)))) else (some (0, 0, t218)))) = some (r1, r2, r3) := h
  clear h
  replace H := Option.bind_eq_some_iff.mp H
  obtain ⟨t218, A30, H⟩ := H
  replace H : (if t218 = 0 then ((verditerref02_left.f k a0 l1 0).bind fun t219 => ((verditerref02_left.f k a0 l1 1).bind fun t222 => (some ((t219.length : Int), wrap64 ((t222.length : Int) - (t219.length : Int)), 0)))) else (some (0, 0, t218))) = some (r1, r2, r3) := H
  have A3 := Aside0.mk A30
  clear A30
  by_cases c4 : t218 = 0
  · rw [if_pos c4] at H
    have c4b0 : (t218 == 0) = true := beq_iff_eq.mpr c4
    have c4b1 : (t218 != 0) = false := bne_eq_false_iff_eq.mpr c4
    clear c4
    replace H := Option.bind_eq_some_iff.mp H
    obtain ⟨t219, A50, H⟩ := H
    replace H : ((verditerref02_left.f k a0 l1 1).bind fun t222 => (some ((t219.length : Int), wrap64 ((t222.length : Int) - (t219.length : Int)), 0))) = some (r1, r2, r3) := H
    have A5 := Aside0.mk A50
    clear A50
    replace H := Option.bind_eq_some_iff.mp H
    obtain ⟨t222, A60, H⟩ := H
    replace H : (some ((t219.length : Int), wrap64 ((t222.length : Int) - (t219.length : Int)), 0)) = some (r1, r2, r3) := H
    have A6 := Aside0.mk A60
    clear A60
    simp only [Option.some.injEq, Prod.mk.injEq] at H
    obtain ⟨rfl, rfl, rfl⟩ := H
    go_enter Try.func63, Try.ntmps63
    go_wp2_with (first | ((with_reducible refine gate_callee (f := 52) rfl ?_); refine goesL_ (some 11) rfl rfl Try.func52 (by kernel_rfl) rfl #[.int .i64 a0, .slice A1 l1.length c1] rfl (by (try simp only [List.map_toArray, List.map_cons, List.map_nil]); first | done | rfl | (simp only [List.length_drop, List.length_take]; rfl)) ?_; (with_reducible refine (verditerref02_Validate.calls k a0 _ _ l1 t218 _ ?side1 ?side2 A3.out).mono ?_); (case side1 => repeat (first | exact HR1.out | (with_reducible refine Kd.C_alloc ?_ _) | (with_reducible refine Kd.C_drewN ?_ _) | (with_reducible refine Kd.C_drew ?_))); (case side2 => exact HC1.out); rintro e w' ⟨rfl, ⟨nd, rfl⟩⟩; refine ⟨_, rfl, ?_⟩) | ((with_reducible refine gate_callee (f := 86) rfl ?_); refine goesL_ (some 17) rfl rfl Try.func86 (by kernel_rfl) rfl #[.int .i64 a0, .slice A1 l1.length c1, .int .i64 0] rfl (by (try simp only [List.map_toArray, List.map_cons, List.map_nil]); first | done | rfl | (simp only [List.length_drop, List.length_take]; rfl)) ?_; (with_reducible refine (verditerref02_left.calls k a0 _ _ l1 0 t219 _ ?side1 ?side2 A5.out).mono ?_); (case side1 => repeat (first | exact HR1.out | (with_reducible refine Kd.C_alloc ?_ _) | (with_reducible refine Kd.C_drewN ?_ _) | (with_reducible refine Kd.C_drew ?_))); (case side2 => exact HC1.out); rintro e w7 ⟨v220, rfl, ho0, hb⟩; refine ⟨_, rfl, ?_⟩; have n0_ := Aside0.mk (Kd.R_lower ho0 (below_size (by repeat (first | (with_reducible first | exact HB.out | apply below_alloc | apply pw_below_drewN | apply below_drew1) | exact HB.out)))); have n1_ := Aside0.mk (below_step (by repeat (first | (with_reducible first | exact HB.out | apply below_alloc | apply pw_below_drewN | apply below_drew1) | exact HB.out)) hb); clear HB; have HO221 := n0_; have HB := n1_; clear n0_ n1_; (try clear hb); (try clear hb2); (try clear hk); (try clear hi); (try clear ho0); obtain ⟨Ao8, co8, eo8⟩ := Kd.R_slice HO221.out; subst eo8) | ((with_reducible refine gate_callee (f := 86) rfl ?_); refine goesL_ (some 22) rfl rfl Try.func86 (by kernel_rfl) rfl #[.int .i64 a0, .slice A1 l1.length c1, .int .i64 1] rfl (by (try simp only [List.map_toArray, List.map_cons, List.map_nil]); first | done | rfl | (simp only [List.length_drop, List.length_take]; rfl)) ?_; (with_reducible refine (verditerref02_left.calls k a0 _ _ l1 1 t222 _ ?side1 ?side2 A6.out).mono ?_); (case side1 => repeat (first | exact (Kd.C_below HR1.out HB.out) | (with_reducible refine Kd.C_alloc ?_ _) | (with_reducible refine Kd.C_drewN ?_ _) | (with_reducible refine Kd.C_drew ?_))); (case side2 => exact HC1.out); rintro e w9 ⟨v223, rfl, ho0, hb⟩; refine ⟨_, rfl, ?_⟩; have n0_ := Aside0.mk (Kd.R_elder' (by (with_reducible repeat (first | apply Kd.R_alloc | apply Kd.R_drewN | apply Kd.R_drew)); exact HO221.out) (Kd.R_base ho0) hb); have n1_ := Aside0.mk (Kd.R_lower (Kd.R_new' ho0 (Kd.R_lt (by (with_reducible repeat (first | apply Kd.R_alloc | apply Kd.R_drewN | apply Kd.R_drew)); exact HO221.out))) (below_size (by repeat (first | (with_reducible first | exact HB.out | apply below_alloc | apply pw_below_drewN | apply below_drew1) | exact HB.out)))); have n2_ := Aside0.mk (below_step (by repeat (first | (with_reducible first | exact HB.out | apply below_alloc | apply pw_below_drewN | apply below_drew1) | exact HB.out)) hb); clear HO221; clear HB; have HO221 := n0_; have HO224 := n1_; have HB := n2_; clear n0_ n1_ n2_; (try clear hb); (try clear hb2); (try clear hk); (try clear hi); (try clear ho0); obtain ⟨Ao10, co10, eo10⟩ := Kd.R_slice HO224.out; subst eo10))
    go_ret3
    exact ⟨by first | rfl | (simp [errW_none, errW_some] <;> rfl) | (simp [*, errW_none, errW_some] <;> rfl), by repeat (first | (with_reducible first | exact HB.out | apply below_alloc | apply pw_below_drewN | apply below_drew1) | exact HB.out)⟩
  · rw [if_neg c4] at H
    have c4b0 : (t218 == 0) = false := beq_eq_false_iff_ne.mpr c4
    have c4b1 : (t218 != 0) = true := bne_iff_ne.mpr c4
    simp only [Option.some.injEq, Prod.mk.injEq] at H
    obtain ⟨rfl, rfl, rfl⟩ := H
    go_enter Try.func63, Try.ntmps63
    go_wp2_with (first | ((with_reducible refine gate_callee (f := 52) rfl ?_); refine goesL_ (some 11) rfl rfl Try.func52 (by kernel_rfl) rfl #[.int .i64 a0, .slice A1 l1.length c1] rfl (by (try simp only [List.map_toArray, List.map_cons, List.map_nil]); first | done | rfl | (simp only [List.length_drop, List.length_take]; rfl)) ?_; (with_reducible refine (verditerref02_Validate.calls k a0 _ _ l1 t218 _ ?side1 ?side2 A3.out).mono ?_); (case side1 => repeat (first | exact HR1.out | (with_reducible refine Kd.C_alloc ?_ _) | (with_reducible refine Kd.C_drewN ?_ _) | (with_reducible refine Kd.C_drew ?_))); (case side2 => exact HC1.out); rintro e w' ⟨rfl, ⟨nd, rfl⟩⟩; refine ⟨_, rfl, ?_⟩))
    go_ret3
    exact ⟨by first | rfl | (simp [errW_none, errW_some] <;> rfl) | (simp [*, errW_none, errW_some] <;> rfl), by repeat (first | (with_reducible first | exact HB.out | apply below_alloc | apply pw_below_drewN | apply below_drew1) | exact HB.out)⟩

end Go.Proofs.Ytfejfljgdeglgaa.K

/- Plain: what Left, Grade and State answer for a record that is not long. -/
namespace Go.Proofs.Ytfejfljgdeglgaa.K
open Go.RowKit Go.Proofs.YtfejfljgdeglgaaW.PrintWords Go.Proofs.YtfejfljgdeglgaaW.PrintLast Go.Proofs.YtfejfljgdeglgaaW.PrintMore
set_option linter.unusedVariables false
set_option linter.unusedSimpArgs false
/-- The places from n on, m of them, at which a test holds. -/
def sel (p : Int → Bool) (arr : List Int) : Nat → Nat → List Int
  | 0, _ => []
  | m + 1, n => if p (arr.getD n 0) = true then (n : Int) :: sel p arr m (n + 1) else sel p arr m (n + 1)
theorem sel_length (p : Int → Bool) (arr : List Int) : ∀ m n, (sel p arr m n).length ≤ m
  | 0, _ => Nat.le_refl _
  | m + 1, n => by
    have := sel_length p arr m (n + 1)
    rw [sel]
    split
    · rw [List.length_cons]; omega
    · omega
theorem sel_congr (p q : Int → Bool) (arr : List Int) : ∀ m n, (∀ i, n ≤ i → i < n + m → p (arr.getD i 0) = q (arr.getD i 0)) → sel p arr m n = sel q arr m n
  | 0, _, _ => rfl
  | m + 1, n, h => by
    rw [sel, sel, h n (by omega) (by omega), sel_congr p q arr m (n + 1) (fun i h1 h2 => h i (by omega) (by omega))]
theorem mem_sel (p : Int → Bool) (arr : List Int) (x : Int) : ∀ m n, x ∈ sel p arr m n ↔ ∃ i : Nat, n ≤ i ∧ i < n + m ∧ x = i ∧ p (arr.getD i 0) = true
  | 0, n => by
    rw [sel]
    constructor
    · intro h; cases h
    · rintro ⟨i, h1, h2, _⟩; omega
  | m + 1, n => by
    have ih := mem_sel p arr x m (n + 1)
    rw [sel]
    constructor
    · intro h
      split at h
      · rename_i hp
        rcases List.mem_cons.1 h with rfl | h
        · exact ⟨n, by omega, by omega, rfl, hp⟩
        · obtain ⟨i, h1, h2, h3⟩ := ih.1 h
          exact ⟨i, by omega, by omega, h3⟩
      · obtain ⟨i, h1, h2, h3⟩ := ih.1 h
        exact ⟨i, by omega, by omega, h3⟩
    · rintro ⟨i, h1, h2, h3, h4⟩
      by_cases e : i = n
      · subst e
        rw [if_pos h4, h3]
        exact List.mem_cons_self ..
      · have := ih.2 ⟨i, by omega, by omega, h3, h4⟩
        split
        · exact List.mem_cons_of_mem _ this
        · exact this
theorem rleft_l0 (g : Nat) (lies : Int) (arr : List Int) (hg : arr.length = g) (hg2 : g ≤ 1000) : ∀ m n k (acc : List Int), n + m = g → m < k → acc.length ≤ n →
    verditerref02_left.l0 k g lies arr acc n = some (acc ++ sel (fun c => decide (c ≤ lies)) arr m n)
  | m, n, 0, acc, _, hk, _ => by omega
  | 0, n, k + 1, acc, h, _, _ => by rw [verditerref02_left.l0, if_neg (by omega), sel, List.append_nil]
  | m + 1, n, k + 1, acc, h, hk, ha => by
    rw [verditerref02_left.l0, if_pos (by omega), if_pos (by omega), if_pos (by omega), rd_nat, sel]
    by_cases e : arr.getD n 0 ≤ lies
    · rw [if_pos e, if_pos (by omega), if_pos (decide_eq_true e), w_succ n (by omega), rleft_l0 g lies arr hg hg2 m (n + 1) k _ (by omega) (by omega) (by rw [List.length_append, List.length_singleton]; omega), List.append_assoc]
      rfl
    · rw [if_neg e, if_neg (by simpa using e), w_succ n (by omega), rleft_l0 g lies arr hg hg2 m (n + 1) k _ (by omega) (by omega) (by omega)]
theorem jleft_l0 (lo hi : Int) (arr : List Int) (hg2 : arr.length ≤ 1000) : ∀ m n k (acc : List Int), n + m = arr.length → m < k → acc.length ≤ n →
    judge_left.l0 k lo hi acc arr (arr.length : Int) n = some (acc ++ sel (fun c => decide (lo ≤ c ∧ c ≤ hi)) arr m n)
  | m, n, 0, acc, _, hk, _ => by omega
  | 0, n, k + 1, acc, h, _, _ => by rw [judge_left.l0, if_neg (by omega), sel, List.append_nil]
  | m + 1, n, k + 1, acc, h, hk, ha => by
    rw [judge_left.l0, if_pos (by omega), if_pos (by omega), if_pos (by omega), rd_nat, sel, jwithin, Option.bind_some]
    by_cases e : lo ≤ arr.getD n 0 ∧ arr.getD n 0 ≤ hi
    · rw [if_pos (decide_eq_true e), if_pos (by omega), if_pos (decide_eq_true e), w_succ n (by omega), jleft_l0 lo hi arr hg2 m (n + 1) k _ (by omega) (by omega) (by rw [List.length_append, List.length_singleton]; omega), List.append_assoc]
      rfl
    · rw [if_neg (by simpa using e), if_neg (by simpa using e), w_succ n (by omega), jleft_l0 lo hi arr hg2 m (n + 1) k _ (by omega) (by omega) (by omega)]
/-- The grades with at most so many answers against them. -/
def leftL (l : List S49) (g : Nat) (lies : Int) : List Int := sel (fun c => decide (c ≤ lies)) (agP l g) g 0
theorem leftL_length (l : List S49) (g : Nat) (lies : Int) : (leftL l g lies).length ≤ g := sel_length _ _ _ _
theorem rleft (g : Nat) (l : List S49) (hg : g ≤ 16) (hl : l.length ≤ 12) (hs : ∀ s ∈ l, s.f0.length ≤ 100) (lies : Int) (k : Nat) (hk : 400 ≤ k) : verditerref02_left.f k g l lies = some (leftL l g lies) := by
  unfold verditerref02_left.f
  rw [ragainst g l hg hl hs k hk, Option.bind_some]
  have := rleft_l0 g lies (agP l g) (agP_length l g) (by omega) g 0 k [] (by omega) (by omega) (Nat.le_refl _)
  exact this
theorem jleft (g : Nat) (l : List S49) (hg : g ≤ 16) (hl : l.length ≤ 12) (hs : ∀ s ∈ l, s.f0.length ≤ 100) (lo hi : Int) (k : Nat) (hk : 400 ≤ k) : judge_left.f k g l lo hi = some (sel (fun c => decide (lo ≤ c ∧ c ≤ hi)) (agP l g) g 0) := by
  unfold judge_left.f
  rw [jagainst g l hg hl hs k hk, Option.bind_some]
  have := jleft_l0 lo hi (agP l g) (by rw [agP_length]; omega) g 0 k [] (by rw [agP_length]; omega) (by omega) (Nat.le_refl _)
  exact this
theorem jleft0 (g : Nat) (l : List S49) (lies : Int) : sel (fun c => decide (0 ≤ c ∧ c ≤ lies)) (agP l g) g 0 = leftL l g lies := by
  refine sel_congr _ _ _ _ _ (fun i _ h => ?_)
  rw [agP_get l g i (by omega)]
  rw [decide_eq_decide]
  omega
/-- What Left answers. -/
def leftV (g : Int) (l : List S49) (lies : Int) : List Int × Int := if validV g l = 0 then (if 0 ≤ lies ∧ lies ≤ 12 then (leftL l g.toNat lies, 0) else ([], 1)) else ([], validV g l)
theorem rLeft (g : Int) (l : List S49) (hs : Short l) (lies : Int) (k : Nat) (hk : 400 ≤ k) : verditerref02_Left.f k g l lies = some (leftV g l lies) := by
  unfold verditerref02_Left.f leftV
  rw [rvalid g l k (by omega), Option.bind_some]
  by_cases h : validV g l = 0
  · rw [if_pos h, if_pos h, rwithin, Option.bind_some]
    obtain ⟨h1, h2, h3⟩ := valid_of h
    obtain ⟨n, rfl, h4, h5⟩ := nat_of ⟨h1, h2⟩
    by_cases h6 : 0 ≤ lies ∧ lies ≤ 12
    · rw [if_pos (decide_eq_true h6), if_pos h6, rleft n l h4 h3 hs.2 lies k hk]
      rfl
    · rw [if_neg (by simpa using h6), if_neg h6]
  · rw [if_neg h, if_neg h]
theorem jLeft (g : Int) (l : List S49) (hs : Short l) (lies : Int) (k : Nat) (hk : 400 ≤ k) : judge_Left.f k g l lies = some (leftV g l lies) := by
  unfold judge_Left.f leftV
  rw [jvalid g l, Option.bind_some]
  by_cases h : validV g l = 0
  · rw [if_pos h, if_pos h, jwithin, Option.bind_some]
    obtain ⟨h1, h2, h3⟩ := valid_of h
    obtain ⟨n, rfl, h4, h5⟩ := nat_of ⟨h1, h2⟩
    by_cases h6 : 0 ≤ lies ∧ lies ≤ 12
    · rw [if_pos (decide_eq_true h6), if_pos h6, jleft n l h4 h3 hs.2 0 lies k hk, jleft0]
      rfl
    · rw [if_neg (by simpa using h6), if_neg h6]
  · rw [if_neg h, if_neg h]
theorem leftV_length (g : Int) (l : List S49) (lies : Int) : (leftV g l lies).1.length ≤ 16 := by
  unfold leftV
  split
  · rename_i h
    obtain ⟨h1, h2, h3⟩ := valid_of h
    split
    · have := leftL_length l g.toNat lies
      show (leftL l g.toNat lies).length ≤ 16
      omega
    · exact Nat.zero_le _
  · exact Nat.zero_le _
/-- What Grade answers. -/
def gradeV (g : Int) (l : List S49) : Int × Bool × Int := if validV g l = 0 then (if (leftL l g.toNat 1).length = 1 then (rd (leftL l g.toNat 1) 0, true, 0) else (0, false, 0)) else (0, false, validV g l)
theorem rGrade (g : Int) (l : List S49) (hs : Short l) (k : Nat) (hk : 400 ≤ k) : verditerref02_Grade.f k g l = some (gradeV g l) := by
  unfold verditerref02_Grade.f gradeV
  rw [rvalid g l k (by omega), Option.bind_some]
  by_cases h : validV g l = 0
  · rw [if_pos h, if_pos h]
    obtain ⟨h1, h2, h3⟩ := valid_of h
    obtain ⟨n, rfl, h4, h5⟩ := nat_of ⟨h1, h2⟩
    rw [rleft n l h4 h3 hs.2 1 k hk, Option.bind_some, Int.toNat_natCast]
    by_cases h6 : (leftL l n 1).length = 1
    · rw [if_pos (by omega), if_pos (by omega), if_pos h6]
    · rw [if_neg (by omega), if_neg h6]
  · rw [if_neg h, if_neg h]
theorem jGrade (g : Int) (l : List S49) (hs : Short l) (k : Nat) (hk : 400 ≤ k) : judge_Grade.f k g l = some (gradeV g l) := by
  unfold judge_Grade.f gradeV
  rw [jvalid g l, Option.bind_some]
  by_cases h : validV g l = 0
  · rw [if_pos h, if_pos h]
    obtain ⟨h1, h2, h3⟩ := valid_of h
    obtain ⟨n, rfl, h4, h5⟩ := nat_of ⟨h1, h2⟩
    rw [jleft n l h4 h3 hs.2 0 1 k hk, jleft0, Option.bind_some, Int.toNat_natCast]
    by_cases h6 : (leftL l n 1).length = 1
    · rw [if_pos (by omega), if_pos (by omega), if_pos h6]
    · rw [if_neg (by omega), if_neg h6]
  · rw [if_neg h, if_neg h]
theorem sel_sum (arr : List Int) : ∀ m n, (∀ i, n ≤ i → i < n + m → 0 ≤ arr.getD i 0) → (sel (fun c => decide (c ≤ 1)) arr m n).length = (sel (fun c => decide (0 ≤ c ∧ c ≤ 0)) arr m n).length + (sel (fun c => decide (1 ≤ c ∧ c ≤ 1)) arr m n).length
  | 0, _, _ => rfl
  | m + 1, n, h => by
    have ih := sel_sum arr m (n + 1) (fun i h1 h2 => h i (by omega) (by omega))
    have h0 := h n (by omega) (by omega)
    simp only [sel]
    by_cases e0 : arr.getD n 0 = 0
    · rw [if_pos (decide_eq_true (by omega)), if_pos (decide_eq_true (by omega)), if_neg (by simp only [decide_eq_true_eq]; omega), List.length_cons, List.length_cons]; omega
    · by_cases e1 : arr.getD n 0 = 1
      · rw [if_pos (decide_eq_true (by omega)), if_neg (by simp only [decide_eq_true_eq]; omega), if_pos (decide_eq_true (by omega)), List.length_cons, List.length_cons]; omega
      · rw [if_neg (by simp only [decide_eq_true_eq]; omega), if_neg (by simp only [decide_eq_true_eq]; omega), if_neg (by simp only [decide_eq_true_eq]; omega)]; omega
theorem agP_nonneg (l : List S49) (g i : Nat) (h : i < g) : 0 ≤ (agP l g).getD i 0 := by rw [agP_get l g i h]; omega
/-- The grades with one answer against them. -/
def oneL (l : List S49) (g : Nat) : List Int := sel (fun c => decide (1 ≤ c ∧ c ≤ 1)) (agP l g) g 0
theorem left_sum (l : List S49) (g : Nat) : (leftL l g 1).length = (leftL l g 0).length + (oneL l g).length := by
  have := sel_sum (agP l g) g 0 (fun i _ h => agP_nonneg l g i (by omega))
  rw [jleft0] at this
  exact this
/-- What State answers. -/
def stateV (g : Int) (l : List S49) : Int × Int × Int := if validV g l = 0 then (((leftL l g.toNat 0).length : Nat), ((oneL l g.toNat).length : Nat), 0) else (0, 0, validV g l)
theorem rState (g : Int) (l : List S49) (hs : Short l) (k : Nat) (hk : 400 ≤ k) : verditerref02_State.f k g l = some (stateV g l) := by
  unfold verditerref02_State.f stateV
  rw [rvalid g l k (by omega), Option.bind_some]
  by_cases h : validV g l = 0
  · rw [if_pos h, if_pos h]
    obtain ⟨h1, h2, h3⟩ := valid_of h
    obtain ⟨n, rfl, h4, h5⟩ := nat_of ⟨h1, h2⟩
    rw [rleft n l h4 h3 hs.2 0 k hk, rleft n l h4 h3 hs.2 1 k hk, Option.bind_some, Option.bind_some, Int.toNat_natCast]
    have h6 := left_sum l n
    have h7 := leftL_length l n 1
    rw [wid (by omega) (by omega)]
    rw [h6, show (((leftL l n 0).length + (oneL l n).length : Nat) : Int) - ((leftL l n 0).length : Nat) = ((oneL l n).length : Nat) by omega]
  · rw [if_neg h, if_neg h]
theorem jState (g : Int) (l : List S49) (hs : Short l) (k : Nat) (hk : 400 ≤ k) : judge_State.f k g l = some (stateV g l) := by
  unfold judge_State.f stateV
  rw [jvalid g l, Option.bind_some]
  by_cases h : validV g l = 0
  · rw [if_pos h, if_pos h]
    obtain ⟨h1, h2, h3⟩ := valid_of h
    obtain ⟨n, rfl, h4, h5⟩ := nat_of ⟨h1, h2⟩
    rw [jleft n l h4 h3 hs.2 0 0 k hk, jleft n l h4 h3 hs.2 1 1 k hk, jleft0]
    rfl
  · rw [if_neg h, if_neg h]
theorem left_more (l : List S49) (g : Nat) (lies : Int) (x : Int) (h : x ∈ leftL l g lies) : x ∈ leftL l g (lies + 1) := by
  unfold leftL at h ⊢
  rw [mem_sel] at h ⊢
  obtain ⟨i, h1, h2, h3, h4⟩ := h
  simp only [decide_eq_true_eq] at h4
  exact ⟨i, h1, h2, h3, by simp only [decide_eq_true_eq]; omega⟩
end Go.Proofs.Ytfejfljgdeglgaa.K

/- Plain: a record with one more answer has the state that After tells. -/
namespace Go.Proofs.Ytfejfljgdeglgaa.K
open Go.RowKit Go.Proofs.YtfejfljgdeglgaaW.PrintWords Go.Proofs.YtfejfljgdeglgaaW.PrintLast Go.Proofs.YtfejfljgdeglgaaW.PrintMore
set_option linter.unusedVariables false
set_option linter.unusedSimpArgs false
/-- How many of m numbers from n on pass a test. -/
def num (p : Nat → Bool) : Nat → Nat → Nat
  | 0, _ => 0
  | m + 1, n => (if p n = true then 1 else 0) + num p m (n + 1)
theorem num_congr (p q : Nat → Bool) : ∀ m n, (∀ i, n ≤ i → i < n + m → p i = q i) → num p m n = num q m n
  | 0, _, _ => rfl
  | m + 1, n, h => by rw [num, num, h n (by omega) (by omega), num_congr p q m (n + 1) (fun i h1 h2 => h i (by omega) (by omega))]
theorem num_split (p q : Nat → Bool) : ∀ m n, num p m n = num (fun i => p i && q i) m n + num (fun i => p i && !q i) m n
  | 0, _ => rfl
  | m + 1, n => by
    have := num_split p q m (n + 1)
    simp only [num]
    by_cases hp : p n = true <;> by_cases hq : q n = true <;> simp [hp, hq] <;> omega
theorem num_or (p q r : Nat → Bool) : ∀ m n, (∀ i, n ≤ i → i < n + m → (r i = (p i || q i)) ∧ ¬ (p i = true ∧ q i = true)) → num r m n = num p m n + num q m n
  | 0, _, _ => rfl
  | m + 1, n, h => by
    have := num_or p q r m (n + 1) (fun i h1 h2 => h i (by omega) (by omega))
    obtain ⟨h1, h2⟩ := h n (by omega) (by omega)
    simp only [num]
    rw [h1]
    cases hp : p n <;> cases hq : q n <;> simp [hp, hq] at h2 ⊢ <;> omega
theorem sel_filter (p : Int → Bool) (f : Int → Bool) (arr : List Int) : ∀ m n, ((sel p arr m n).filter f).length = num (fun i => p (arr.getD i 0) && f (i : Int)) m n
  | 0, _ => rfl
  | m + 1, n => by
    have := sel_filter p f arr m (n + 1)
    rw [sel, num]
    by_cases hp : p (arr.getD n 0) = true
    · rw [if_pos hp, List.filter_cons]
      by_cases hf : f (n : Int) = true
      · rw [if_pos hf, List.length_cons, this, if_pos (by rw [hp, hf]; rfl)]; omega
      · rw [if_neg hf, this, if_neg (by rw [hp]; simpa using hf)]; omega
    · rw [if_neg hp, this, if_neg (by intro h; rw [Bool.and_eq_true] at h; exact hp h.1)]; omega
theorem sel_num (p : Int → Bool) (arr : List Int) (m n : Nat) : (sel p arr m n).length = num (fun i => p (arr.getD i 0)) m n := by
  have h := sel_filter p (fun _ => true) arr m n
  rw [List.filter_eq_self.2 (fun _ _ => rfl)] at h
  rw [h]
  exact num_congr _ _ _ _ (fun i _ _ => Bool.and_true _)
theorem cnt_append (l : List S49) (m : S49) (g : Int) : cnt (l ++ [m]) g = cnt l g + (if (decide (g ∈ m.f0) != m.f1) = true then 1 else 0) := by
  induction l with
  | nil => simp [cnt]
  | cons s l ih =>
    rw [List.cons_append, cnt, cnt, ih]
    omega
/-- How many of a list are named, and in another list, or not in it. -/
def inX (M Z L : List Int) : Nat := (L.filter fun i => decide (i ∈ M) && decide (i ∈ Z)).length
def inY (M Z L : List Int) : Nat := (L.filter fun i => decide (i ∈ M) && !decide (i ∈ Z)).length
theorem mem_left (l : List S49) (g i : Nat) (lies : Int) (hi : i < g) : (i : Int) ∈ leftL l g lies ↔ ((cnt l (i : Int) : Nat) : Int) ≤ lies := by
  unfold leftL
  rw [mem_sel]
  constructor
  · rintro ⟨j, _, h2, h3, h4⟩
    rw [← show i = j by omega, agP_get l g i hi] at h4
    simpa using h4
  · intro h
    exact ⟨i, by omega, by omega, rfl, by rw [agP_get l g i hi]; simpa using h⟩
theorem left_num (l : List S49) (g : Nat) : (leftL l g 0).length = num (fun i => decide (cnt l (i : Int) = 0)) g 0 := by
  unfold leftL
  rw [sel_num]
  refine num_congr _ _ _ _ (fun i _ h => ?_)
  rw [agP_get l g i (by omega), decide_eq_decide]
  omega
theorem one_num (l : List S49) (g : Nat) : (oneL l g).length = num (fun i => decide (cnt l (i : Int) = 1)) g 0 := by
  unfold oneL
  rw [sel_num]
  refine num_congr _ _ _ _ (fun i _ h => ?_)
  rw [agP_get l g i (by omega), decide_eq_decide]
  omega
theorem x_num (l : List S49) (g : Nat) (M : List Int) : inX M (leftL l g 0) (leftL l g 1) = num (fun i => decide (cnt l (i : Int) = 0) && decide ((i : Int) ∈ M)) g 0 := by
  unfold inX
  conv => lhs; rw [show leftL l g 1 = sel (fun c => decide (c ≤ 1)) (agP l g) g 0 from rfl]
  rw [sel_filter]
  refine num_congr _ _ _ _ (fun i _ h => ?_)
  rw [agP_get l g i (by omega)]
  have h0 : decide ((i : Int) ∈ leftL l g 0) = decide (cnt l (i : Int) = 0) := decide_eq_decide.2 ((mem_left l g i 0 (by omega)).trans (by omega))
  rw [h0, Bool.eq_iff_iff]
  simp only [Bool.and_eq_true, decide_eq_true_eq]
  exact ⟨fun ⟨_, h2, h3⟩ => ⟨h3, h2⟩, fun ⟨h3, h2⟩ => ⟨by omega, h2, h3⟩⟩
theorem y_num (l : List S49) (g : Nat) (M : List Int) : inY M (leftL l g 0) (leftL l g 1) = num (fun i => decide (cnt l (i : Int) = 1) && decide ((i : Int) ∈ M)) g 0 := by
  unfold inY
  conv => lhs; rw [show leftL l g 1 = sel (fun c => decide (c ≤ 1)) (agP l g) g 0 from rfl]
  rw [sel_filter]
  refine num_congr _ _ _ _ (fun i _ h => ?_)
  rw [agP_get l g i (by omega)]
  have h0 : decide ((i : Int) ∈ leftL l g 0) = decide (cnt l (i : Int) = 0) := decide_eq_decide.2 ((mem_left l g i 0 (by omega)).trans (by omega))
  rw [h0, Bool.eq_iff_iff]
  simp only [Bool.and_eq_true, decide_eq_true_eq, Bool.not_eq_true', decide_eq_false_iff_not]
  exact ⟨fun ⟨h1, h2, h3⟩ => ⟨by omega, h2⟩, fun ⟨h1, h2⟩ => ⟨by omega, h2, by omega⟩⟩
/-- A record with one more answer has the state that After tells. -/
theorem state_after (l : List S49) (m : S49) (g : Nat) :
    let a := (leftL l g 0).length; let b := (oneL l g).length; let x := inX m.f0 (leftL l g 0) (leftL l g 1); let y := inY m.f0 (leftL l g 0) (leftL l g 1)
    x ≤ a ∧ y ≤ b ∧ (m.f1 = true → (leftL (l ++ [m]) g 0).length = x ∧ (oneL (l ++ [m]) g).length = y + a - x) ∧ (m.f1 = false → (leftL (l ++ [m]) g 0).length = a - x ∧ (oneL (l ++ [m]) g).length = b - y + x) := by
  intro a b x y
  have ea : a = _ := left_num l g
  have eb : b = _ := one_num l g
  have ex : x = _ := x_num l g m.f0
  have ey : y = _ := y_num l g m.f0
  have sa := num_split (fun i => decide (cnt l (i : Int) = 0)) (fun i => decide ((i : Int) ∈ m.f0)) g 0
  have sb := num_split (fun i => decide (cnt l (i : Int) = 1)) (fun i => decide ((i : Int) ∈ m.f0)) g 0
  refine ⟨by omega, by omega, fun hy => ?_, fun hy => ?_⟩
  · have e0 : (leftL (l ++ [m]) g 0).length = num (fun i => decide (cnt l (i : Int) = 0) && decide ((i : Int) ∈ m.f0)) g 0 := by
      rw [left_num]
      refine num_congr _ _ _ _ (fun i _ _ => ?_)
      rw [cnt_append, hy]
      by_cases hm : (i : Int) ∈ m.f0
      · rw [decide_eq_true hm]; simp
      · rw [decide_eq_false hm]; simp
    have e1 : (oneL (l ++ [m]) g).length = num (fun i => decide (cnt l (i : Int) = 1) && decide ((i : Int) ∈ m.f0)) g 0 + num (fun i => decide (cnt l (i : Int) = 0) && !decide ((i : Int) ∈ m.f0)) g 0 := by
      rw [one_num]
      refine num_or _ _ _ _ _ (fun i _ _ => ?_)
      rw [cnt_append, hy]
      by_cases hm : (i : Int) ∈ m.f0
      · rw [decide_eq_true hm]; simp
      · rw [decide_eq_false hm]; simp
    omega
  · have e0 : (leftL (l ++ [m]) g 0).length = num (fun i => decide (cnt l (i : Int) = 0) && !decide ((i : Int) ∈ m.f0)) g 0 := by
      rw [left_num]
      refine num_congr _ _ _ _ (fun i _ _ => ?_)
      rw [cnt_append, hy]
      by_cases hm : (i : Int) ∈ m.f0
      · rw [decide_eq_true hm]; simp
      · rw [decide_eq_false hm]; simp
    have e1 : (oneL (l ++ [m]) g).length = num (fun i => decide (cnt l (i : Int) = 1) && !decide ((i : Int) ∈ m.f0)) g 0 + num (fun i => decide (cnt l (i : Int) = 0) && decide ((i : Int) ∈ m.f0)) g 0 := by
      rw [one_num]
      refine num_or _ _ _ _ _ (fun i _ _ => ?_)
      rw [cnt_append, hy]
      by_cases hm : (i : Int) ∈ m.f0
      · rw [decide_eq_true hm]; simp
      · rw [decide_eq_false hm]; simp
    omega
end Go.Proofs.Ytfejfljgdeglgaa.K

/- Plain: what isSet says of a list. -/
namespace Go.Proofs.Ytfejfljgdeglgaa.K
open Go.RowKit Go.Proofs.YtfejfljgdeglgaaW.PrintWords Go.Proofs.YtfejfljgdeglgaaW.PrintLast Go.Proofs.YtfejfljgdeglgaaW.PrintMore
set_option linter.unusedVariables false
set_option linter.unusedSimpArgs false
theorem setF_iff (l : List Int) (g : Int) : ∀ m n, isSetF l g m n = true ↔ ∀ i, n ≤ i → i < n + m → setAt l g i = true
  | 0, n => by
    rw [isSetF]
    exact ⟨fun _ i h1 h2 => by omega, fun _ => rfl⟩
  | m + 1, n => by
    by_cases h : setAt l g n = true
    · rw [isSetF_yes h, setF_iff l g m (n + 1)]
      exact ⟨fun h2 i h3 h4 => if e : i = n then e ▸ h else h2 i (by omega) (by omega), fun h2 i h3 h4 => h2 i (by omega) (by omega)⟩
    · rw [isSetF_no (Bool.eq_false_iff.mpr h)]
      exact ⟨fun h2 => (by cases h2), fun h2 => absurd (h2 n (Nat.le_refl _) (by omega)) h⟩
theorem isSet_iff (l : List Int) (g : Int) : isSetP l g = true ↔ l.Pairwise (· < ·) ∧ ∀ x ∈ l, 0 ≤ x ∧ x ≤ g - 1 := by
  unfold isSetP
  rw [setF_iff]
  constructor
  · intro h
    have h1 : ∀ i (hi : i < l.length), 0 ≤ l[i] ∧ l[i] ≤ g - 1 ∧ ∀ hp : 0 < i, l[i - 1] < l[i] := by
      intro i hi
      have := h i (Nat.zero_le _) (by omega)
      unfold setAt at this
      rw [Bool.and_eq_true, decide_eq_true_eq, Bool.or_eq_true, decide_eq_true_eq, decide_eq_true_eq, List.getD_eq_getElem?_getD, List.getElem?_eq_getElem hi, List.getD_eq_getElem?_getD, List.getElem?_eq_getElem (show i - 1 < l.length by omega)] at this
      obtain ⟨⟨h2, h3⟩, h4⟩ := this
      refine ⟨h2, h3, fun hp => ?_⟩
      rcases h4 with h4 | h4
      · omega
      · exact h4
    refine ⟨?_, ?_⟩
    · rw [List.pairwise_iff_getElem]
      intro i j hi hj hij
      obtain ⟨d, rfl⟩ := Nat.exists_eq_add_of_lt hij
      clear hij
      induction d with
      | zero => exact (h1 (i + 0 + 1) hj).2.2 (by omega)
      | succ d ih =>
        have h5 := ih (by omega)
        have h6 := (h1 (i + (d + 1) + 1) hj).2.2 (by omega)
        have h7 : l[i + (d + 1) + 1 - 1] = l[i + d + 1] := rfl
        rw [h7] at h6
        omega
    · intro x hx
      obtain ⟨i, hi, rfl⟩ := List.getElem_of_mem hx
      exact ⟨(h1 i hi).1, (h1 i hi).2.1⟩
  · rintro ⟨h1, h2⟩ i _ hi
    have hi : i < l.length := by omega
    unfold setAt
    rw [Bool.and_eq_true, decide_eq_true_eq, Bool.or_eq_true, decide_eq_true_eq, decide_eq_true_eq, List.getD_eq_getElem?_getD, List.getElem?_eq_getElem hi, List.getD_eq_getElem?_getD, List.getElem?_eq_getElem (show i - 1 < l.length by omega)]
    refine ⟨h2 _ (List.getElem_mem hi), ?_⟩
    by_cases h0 : i = 0
    · exact .inl h0
    · exact .inr ((List.pairwise_iff_getElem.mp h1) (i - 1) i (by omega) hi (by omega))
theorem allSet_iff (l : List S49) (g : Int) : allSet l g = true ↔ ∀ s ∈ l, isSetP s.f0 g = true := by
  have key : ∀ m n, n + m = l.length → (allSetF l g m n = true ↔ ∀ s ∈ l.drop n, isSetP s.f0 g = true) := by
    intro m
    induction m with
    | zero => intro n h; rw [allSetF, List.drop_of_length_le (by omega)]; simp
    | succ m ih =>
      intro n h
      have hn : n < l.length := by omega
      rw [allSetF, rd49_nat, getD_at l n z49 hn, List.drop_eq_getElem_cons hn, List.forall_mem_cons]
      by_cases hp : isSetP l[n].f0 g = true
      · rw [if_pos hp, ih (n + 1) (by omega)]
        exact ⟨fun h => ⟨hp, h⟩, fun h => h.2⟩
      · rw [if_neg hp]
        exact ⟨fun h => (by cases h), fun h => absurd h.1 hp⟩
  have := key l.length 0 (by omega)
  rw [List.drop_zero] at this
  exact this
theorem validV_zero (g : Int) (l : List S49) : validV g l = 0 ↔ 1 ≤ g ∧ g ≤ 16 ∧ l.length ≤ 12 ∧ ∀ s ∈ l, isSetP s.f0 g = true := by
  rw [← allSet_iff]
  constructor
  · intro h
    obtain ⟨h1, h2, h3⟩ := valid_of h
    refine ⟨h1, h2, h3, ?_⟩
    unfold validV at h
    rw [if_pos ⟨h1, h2⟩, if_neg (by omega)] at h
    by_cases ha : allSet l g = true
    · exact ha
    · rw [if_neg ha] at h; cases h
  · rintro ⟨h1, h2, h3, h4⟩
    unfold validV
    rw [if_pos ⟨h1, h2⟩, if_neg (by omega), if_pos h4]
/-- A set of numbers below g has no more than g of them. -/
theorem set_length {l : List Int} {g : Nat} (h : isSetP l g = true) : l.length ≤ g := by
  obtain ⟨h1, h2⟩ := (isSet_iff l g).mp h
  have key : ∀ i (hi : i < l.length), (i : Int) ≤ l[i] := by
    intro i
    induction i with
    | zero => intro hi; have := (h2 _ (List.getElem_mem hi)).1; simpa using this
    | succ i ih =>
      intro hi
      have h3 := ih (by omega)
      have h4 := (List.pairwise_iff_getElem.mp h1) i (i + 1) (by omega) hi (by omega)
      omega
  rcases Nat.eq_zero_or_pos l.length with h0 | h0
  · omega
  · have h3 := key (l.length - 1) (by omega)
    have h4 := (h2 _ (List.getElem_mem (show l.length - 1 < l.length by omega))).2
    omega
end Go.Proofs.Ytfejfljgdeglgaa.K

/- What slices.Sort does to a row of the call's own: off the shelf. (The table lays189 is written by the shelf's one command.) -/
namespace Go.Proofs.Ytfejfljgdeglgaa.K
open Go.Shelf Go.RowKit Go.Sort Go.Lib Go.Proofs.YtfejfljgdeglgaaW.PrintWords Go.Proofs.YtfejfljgdeglgaaW.PrintLast Go.Proofs.YtfejfljgdeglgaaW.PrintMore
set_option linter.unusedVariables false
set_option linter.unusedSimpArgs false
def lays189_ren : Go.Shelf.Ren := ⟨fun | 189 => 92 | 125 => 98 | 257 => 97 | 128 => 109 | 129 => 110 | 294 => 100 | 295 => 101 | 296 => 102 | 297 => 103 | 298 => 104 | 299 => 105 | 216 => 106 | 300 => 107 | 301 => 108 | 328 => 111 | 329 => 112 | 330 => 113 | 331 => 114 | 332 => 115 | 215 => 116 | 343 => 117 | n => n, fun | 28 => 47 | 3 => 3 | 46 => 108 | 0 => 0 | 51 => 121 | 53 => 123 | 4 => 4 | 183 => 113 | 182 => 112 | 131 => 118 | 5 => 5 | 9 => 9 | 218 => 124 | 222 => 128 | 228 => 131 | 229 => 76 | n => n, fun | n => n⟩
theorem lays189 : Go.Proofs.Lays.n189 Try.prog lays189_ren := {
  mixed := by kernel_rfl
  f125 := Try.func98.trans (congrArg some (by kernel_rfl))
  f128 := Try.func109.trans (congrArg some (by kernel_rfl))
  f129 := Try.func110.trans (congrArg some (by kernel_rfl))
  f189 := Try.func92.trans (congrArg some (by kernel_rfl))
  f215 := Try.func116.trans (congrArg some (by kernel_rfl))
  f216 := Try.func106.trans (congrArg some (by kernel_rfl))
  f257 := Try.func97.trans (congrArg some (by kernel_rfl))
  f294 := Try.func100.trans (congrArg some (by kernel_rfl))
  f295 := Try.func101.trans (congrArg some (by kernel_rfl))
  f296 := Try.func102.trans (congrArg some (by kernel_rfl))
  f297 := Try.func103.trans (congrArg some (by kernel_rfl))
  f298 := Try.func104.trans (congrArg some (by kernel_rfl))
  f299 := Try.func105.trans (congrArg some (by kernel_rfl))
  f300 := Try.func107.trans (congrArg some (by kernel_rfl))
  f301 := Try.func108.trans (congrArg some (by kernel_rfl))
  f328 := Try.func111.trans (congrArg some (by kernel_rfl))
  f329 := Try.func112.trans (congrArg some (by kernel_rfl))
  f330 := Try.func113.trans (congrArg some (by kernel_rfl))
  f331 := Try.func114.trans (congrArg some (by kernel_rfl))
  f332 := Try.func115.trans (congrArg some (by kernel_rfl))
  f343 := Try.func117.trans (congrArg some (by kernel_rfl))
  t0 := Try.underlying0
  a0 := Try.isAgg0
  z0 := Try.sizeOf0
  v0 := Try.zeroValue0
  t3 := Try.underlying3
  a3 := Try.isAgg3
  z3 := Try.sizeOf3
  v3 := Try.zeroValue3
  t4 := Try.underlying4
  a4 := Try.isAgg4
  z4 := Try.sizeOf4
  v4 := Try.zeroValue4
  t5 := Try.underlying5
  a5 := Try.isAgg5
  z5 := Try.sizeOf5
  v5 := Try.zeroValue5
  t9 := Try.underlying9
  a9 := Try.isAgg9
  z9 := Try.sizeOf9
  v9 := Try.zeroValue9
  t28 := Try.underlying47
  a28 := Try.isAgg47
  z28 := Try.sizeOf47
  v28 := Try.zeroValue47
  t46 := Try.underlying108
  a46 := Try.isAgg108
  z46 := Try.sizeOf108
  v46 := Try.zeroValue108
  t51 := Try.underlying121
  a51 := Try.isAgg121
  z51 := Try.sizeOf121
  v51 := Try.zeroValue121
  t53 := Try.underlying123
  a53 := Try.isAgg123
  z53 := Try.sizeOf123
  v53 := Try.zeroValue123
  t131 := Try.underlying118
  a131 := Try.isAgg118
  z131 := Try.sizeOf118
  v131 := Try.zeroValue118
  t182 := Try.underlying112
  a182 := Try.isAgg112
  z182 := Try.sizeOf112
  v182 := Try.zeroValue112
  t183 := Try.underlying113
  a183 := Try.isAgg113
  z183 := Try.sizeOf113
  v183 := Try.zeroValue113
  t218 := Try.underlying124
  a218 := Try.isAgg124
  z218 := Try.sizeOf124
  v218 := Try.zeroValue124
  t222 := Try.underlying128
  a222 := Try.isAgg128
  z222 := Try.sizeOf128
  v222 := Try.zeroValue128
  t228 := Try.underlying131
  a228 := Try.isAgg131
  z228 := Try.sizeOf131
  v228 := Try.zeroValue131
  t229 := Try.underlying76
  a229 := Try.isAgg76
  z229 := Try.sizeOf76
  v229 := Try.zeroValue76 }
open Go.Sort Go.RowKit in
theorem R_setCells {base g n cap : Nat} {ok : Nat → Prop} : ∀ (ys pre post : List Int) (w : World) (hl : post.length = ys.length), Kd.R (Kd.int .i64) 3 w base ok (.slice (some ⟨g, 0, none⟩) n cap) (pre ++ post) →
    Kd.R (Kd.int .i64) 3 (w.setCells g pre.length (ys.map (.int .i64))) base ok (.slice (some ⟨g, 0, none⟩) n cap) (pre ++ ys) ∧ w.grownBy (w.setCells g pre.length (ys.map (.int .i64))) (some g)
  | [], pre, post, w, hl, h => by
    have : post = [] := List.eq_nil_of_length_eq_zero hl
    subst this
    exact ⟨h, ⟨rfl, rfl, rfl, Nat.le_refl _, fun _ _ _ => rfl⟩⟩
  | y :: ys, pre, [], w, hl, h => by simp at hl
  | y :: ys, pre, p :: post, w, hl, h => by
    obtain ⟨hn, _, _⟩ := Kd.R_reads' h
    have hp : Kd.R (Kd.int .i64) 3 (w.setCell ⟨g, pre.length, none⟩ (.int .i64 y)) base ok (.slice (some ⟨g, 0, none⟩) n cap) ((pre ++ p :: post).set pre.length y) ∧ w.grownBy (w.setCell ⟨g, pre.length, none⟩ (.int .i64 y)) (some g) := by
      subst hn
      have hp := Kd.R_put h (pre.length : Int) y
      rw [Int.toNat_natCast] at hp
      exact hp
    obtain ⟨h1, h2⟩ := hp
    have he : (pre ++ p :: post).set pre.length y = (pre ++ [y]) ++ post := by simp
    rw [he] at h1
    have ih := R_setCells ys (pre ++ [y]) post (w.setCell ⟨g, pre.length, none⟩ (.int .i64 y)) (by simpa using hl) h1
    simp only [List.length_append, List.length_singleton, List.append_assoc, List.singleton_append] at ih
    refine ⟨ih.1, ?_⟩
    have h3 := ih.2
    exact ⟨h3.os.trans h2.os, h3.tape.trans h2.tape, h3.output.trans h2.output, Nat.le_trans h2.size h3.size, fun k hk hne => (h3.block k (Nat.lt_of_lt_of_le hk h2.size) hne).trans (h2.block k hk hne)⟩
theorem R_holds {base g n cap : Nat} {ok : Nat → Prop} {xs : List Int} {w : World} (h : Kd.R (Kd.int .i64) 3 w base ok (.slice (some ⟨g, 0, none⟩) n cap) xs) : Holds (Value.int .i64) w g 0 xs.toArray := by
  intro j hj
  obtain ⟨hn, _, _⟩ := Kd.R_reads' h
  subst hn
  have hj' : j < xs.length := by simpa using hj
  have := Kd.R_cell (d := (0 : Int)) h (j : Int) (by omega) (by omega)
  rw [Int.toNat_natCast] at this
  refine ⟨?_, by simpa using this.2⟩
  have h1 := this.1
  rw [Nat.zero_add, h1]
  have e1 : rdOf (0 : Int) xs (j : Int) = xs[j] := by simp [rdOf, hj']
  rw [e1]
  simp [hj']
theorem R_block0 {base : Nat} {ok : Nat → Prop} {A : Option Addr} {n cap : Nat} {xs : List Int} {w : World} (h : Kd.R (Kd.int .i64) 3 w base ok (.slice A n cap) xs) : A = none ∨ ∃ g, A = some ⟨g, 0, none⟩ := by
  obtain ⟨_, inner, ho, _⟩ := h
  rcases ho.2 with ⟨hv, _⟩ | ⟨g, cap', cur, hv, _⟩
  · injection hv with ha _ _
    exact .inl ha
  · injection hv with ha _ _
    exact .inr ⟨g, ha⟩
theorem grown_refl (w : World) (row : Option Nat) : w.grownBy w row := ⟨rfl, rfl, rfl, Nat.le_refl _, fun _ _ _ => rfl⟩
def sortL (xs : List Int) : List Int := xs.mergeSort fun x y => decide (x ≤ y)
theorem sortL_length (xs : List Int) : (sortL xs).length = xs.length := List.length_mergeSort _
theorem sort_R {base cap : Nat} {ok : Nat → Prop} {A : Option Addr} {xs : List Int} {w : World} (h : Kd.R (Kd.int .i64) 3 w base ok (.slice A xs.length cap) xs) (hsz : xs.length < 4611686018427387904) :
    Calls Try.prog 92 #[.slice A xs.length cap] w fun e w' => e = .returned (.tuple #[]) ∧ Kd.R (Kd.int .i64) 3 w' base ok (.slice A xs.length cap) (sortL xs) ∧ w.grownBy w' (Value.slice A xs.length cap).ownBlock := by
  rcases Nat.eq_zero_or_pos xs.length with h0 | h0
  · obtain rfl : xs = [] := List.eq_nil_of_length_eq_zero h0
    refine (Any.slices_Sort_int_none lays189 A cap w).mono ?_
    rintro e w' ⟨rfl, rfl⟩
    exact ⟨rfl, by rw [show sortL [] = [] by simp [sortL]]; exact h, grown_refl _ _⟩
  rcases R_block0 h with rfl | ⟨g, rfl⟩
  · exfalso
    obtain ⟨_, inner, ho, hr⟩ := h
    rcases ho.2 with ⟨hv, h2⟩ | ⟨g, cap', cur, hv, _⟩
    · injection hv with _ ha _
      omega
    · injection hv with ha _ _
      cases ha
  · have hg : g < w.heap.size := Kd.R_lt h g rfl
    refine (Any.slices_Sort_int lays189 g 0 cap xs w (R_holds h) hg hsz).mono ?_
    rintro e w' ⟨rfl, q, os, rfl⟩
    have hp := Lib.putRow_eq_setCells (Value.int .i64) w g 0 xs.toArray (sortL xs) q (R_holds h) (by simp [sortL_length])
    unfold sortL at hp
    rw [hp]
    obtain ⟨h1, h2⟩ := R_setCells (sortL xs) [] xs (w.drewN q) (sortL_length xs).symm (Kd.R_drewN h q)
    unfold sortL at h1 h2
    have hgr : (((w.drewN q).setCells g 0 ((xs.mergeSort fun x y => decide (x ≤ y)).map (.int .i64)))).grownBy (grow ((w.drewN q).setCells g 0 ((xs.mergeSort fun x y => decide (x ≤ y)).map (.int .i64))) os) none := ⟨rfl, rfl, rfl, by simp [grow], fun k hk _ => by simp [grow, Array.getElem?_append, hk]⟩
    refine ⟨rfl, Kd.R_grown h1 hgr (fun _ _ e => by cases e), ?_⟩
    exact ⟨h2.os, h2.tape, h2.output, Nat.le_trans h2.size hgr.size, fun k hk hne => (hgr.block k (Nat.lt_of_lt_of_le hk h2.size) (by simp)).trans (h2.block k hk hne)⟩
end Go.Proofs.Ytfejfljgdeglgaa.K

/- Plain: a sorted list. -/
namespace Go.Proofs.Ytfejfljgdeglgaa.K
open Go.RowKit Go.Proofs.YtfejfljgdeglgaaW.PrintWords Go.Proofs.YtfejfljgdeglgaaW.PrintLast Go.Proofs.YtfejfljgdeglgaaW.PrintMore
set_option linter.unusedVariables false
set_option linter.unusedSimpArgs false
theorem sortL_perm (xs : List Int) : (sortL xs).Perm xs := List.mergeSort_perm _ _
theorem mem_sortL (xs : List Int) (x : Int) : x ∈ sortL xs ↔ x ∈ xs := (sortL_perm xs).mem_iff
theorem sortL_strict {xs : List Int} (h : xs.Nodup) : (sortL xs).Pairwise (· < ·) := by
  have h1 : (sortL xs).Pairwise (fun a b => decide (a ≤ b) = true) := List.pairwise_mergeSort (le := fun x y : Int => decide (x ≤ y)) (fun a b c h1 h2 => by simp only [decide_eq_true_eq] at h1 h2 ⊢; omega) (fun a b => by simp only [Bool.or_eq_true, decide_eq_true_eq]; omega) xs
  have h2 : (sortL xs).Nodup := (sortL_perm xs).nodup_iff.mpr h
  have h3 := List.Pairwise.and h1 h2
  exact h3.imp (fun {a b} hab => by
    obtain ⟨h4, h5⟩ := hab
    simp only [decide_eq_true_eq] at h4
    have : a ≠ b := h5
    omega)
/-- Two rising lists with the same numbers are the same. -/
theorem pair_ext : ∀ {xs ys : List Int}, xs.Pairwise (· < ·) → ys.Pairwise (· < ·) → (∀ x, x ∈ xs ↔ x ∈ ys) → xs = ys
  | [], [], _, _, _ => rfl
  | [], y :: ys, _, _, h => by have := (h y).mpr (List.mem_cons_self ..); cases this
  | x :: xs, [], _, _, h => by have := (h x).mp (List.mem_cons_self ..); cases this
  | x :: xs, y :: ys, hx, hy, h => by
    obtain ⟨hx1, hx2⟩ := List.pairwise_cons.mp hx
    obtain ⟨hy1, hy2⟩ := List.pairwise_cons.mp hy
    have e : x = y := by
      have h1 := (h x).mp (List.mem_cons_self ..)
      have h2 := (h y).mpr (List.mem_cons_self ..)
      rcases List.mem_cons.mp h1 with h1 | h1
      · exact h1
      · rcases List.mem_cons.mp h2 with h2 | h2
        · exact h2.symm
        · have h3 := hy1 x h1
          have h4 := hx1 y h2
          omega
    subst e
    have ih : xs = ys := pair_ext hx2 hy2 (fun z => by
      constructor
      · intro hz
        rcases List.mem_cons.mp ((h z).mp (List.mem_cons_of_mem _ hz)) with h1 | h1
        · have := hx1 z hz; omega
        · exact h1
      · intro hz
        rcases List.mem_cons.mp ((h z).mpr (List.mem_cons_of_mem _ hz)) with h1 | h1
        · have := hy1 z hz; omega
        · exact h1)
    rw [ih]
theorem nodup_of_strict {xs : List Int} (h : xs.Pairwise (· < ·)) : xs.Nodup := h.imp (fun {a b} hab => by omega)
/-- A list of n numbers that has each number below n has no others, and each once. -/
theorem order_nodup : ∀ (n : Nat) (t : List Int), t.length = n → (∀ i, i < n → ((i : Nat) : Int) ∈ t) → t.Nodup ∧ ∀ x ∈ t, 0 ≤ x ∧ x < (n : Int)
  | 0, t, hl, _ => by
    obtain rfl := List.eq_nil_of_length_eq_zero hl
    exact ⟨List.nodup_nil, fun x hx => by cases hx⟩
  | n + 1, t, hl, h => by
    have hm := h n (by omega)
    have hp := List.perm_cons_erase hm
    have ih := order_nodup n (t.erase (n : Int)) (by rw [List.length_erase_of_mem hm]; omega) (fun i hi => (List.mem_erase_of_ne (by omega)).mpr (h i (by omega)))
    refine ⟨hp.nodup_iff.mpr (List.nodup_cons.mpr ⟨fun h2 => by have := (ih.2 _ h2).2; omega, ih.1⟩), fun x hx => ?_⟩
    rcases List.mem_cons.mp (hp.mem_iff.mp hx) with rfl | h2
    · omega
    · have := ih.2 x h2; omega
end Go.Proofs.Ytfejfljgdeglgaa.K
