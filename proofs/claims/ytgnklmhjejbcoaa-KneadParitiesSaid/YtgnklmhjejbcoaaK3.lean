/- DERIVED by wip/pr.py: for each Go function named below a Lean function with the same answers, and that a call of it comes to these answers, for all arguments and memories, where the Lean function has an answer. -/
import Derived.Test.YtgnklmhjejbcoaaK0
import Derived.Test.YtgnklmhjejbcoaaK1
import Derived.Test.YtgnklmhjejbcoaaK2
namespace Go.Proofs.Ytgnklmhjejbcoaa.K
open Go.RowKit Go.Proofs.YtgnklmhjejbcoaaW.PrintWords Go.Proofs.YtgnklmhjejbcoaaW.PrintLast Go.Proofs.YtgnklmhjejbcoaaW.PrintMore
attribute [local go_sem] max2_int min2_int max_two min_two max_three min_three max_four min_four   -- for this text's walks alone
set_option linter.unusedVariables false
set_option linter.unusedSimpArgs false

/-! ### verditerref07_Place: function 49 -/
def verditerref07_Place.f (k : Nat) (a0 : Int) (l1 : List Int) (a2 : Int) : Option (Int × Int) := (verditerref07_isLumps.f a0).bind fun t285 => (if t285 = true then ((verditerref01_Within.f a2 0 (wrap64 (a0 - 1))).bind fun t286 => (if t286 = true then ((verditerref07_worded.f k l1).bind fun t287 => (if t287 = 0 then ((verditerref07_along.f k a0 l1 a2).bind fun t288 => (some (t288, 0))) else (some (0, t287)))) else (some (0, 4)))) else (some (0, 1)))
theorem verditerref07_Place.mono : ∀ a0 a1 a2 k, LeO (verditerref07_Place.f k a0 a1 a2) (verditerref07_Place.f (k + 1) a0 a1 a2) := by
  intro a0 a1 a2 k
  unfold verditerref07_Place.f
  repeat' first
      | (with_reducible exact verditerref07_along.mono _ _ _ _)
      | (with_reducible exact verditerref07_worded.mono _ _)
      | (with_reducible exact LeO.refl _)
      | (with_reducible exact LeO.none _)
      | (with_reducible refine LeO.ite ?_ ?_)
      | (with_reducible refine LeO.bind ?_ (fun _ => ?_))
      | exact verditerref07_along.mono _ _ _ _
      | exact verditerref07_worded.mono _ _
      | exact LeO.none _
      | refine LeO.ite ?_ ?_
      | refine LeO.bind ?_ (fun _ => ?_)
set_option maxHeartbeats 8000000 in
set_option maxRecDepth 100000 in
theorem verditerref07_Place.calls (k : Nat) (a0 : Int) (A1 : Option Addr) (c1 : Nat) (l1 : List Int) (a2 : Int) (r1 : Int) (r2 : Int) (w : World) (hr1 : Kd.C (Kd.int .i64) w A1 l1.length l1) (hc1 : l1.length ≤ c1) (h : verditerref07_Place.f k a0 l1 a2 = some (r1, r2)) :
    Calls Try.prog 49 #[.int .i64 a0, .slice A1 l1.length c1, .int .i64 a2] w fun e w' => e = .returned (.tuple #[.int .i64 r1, .int .i64 r2]) ∧ Drawn0 w w' := by
  have HR1 := Aside0.mk hr1
  have HC1 := Aside0.mk hc1
  clear hr1 hc1
  have H : ((verditerref07_isLumps.f a0).bind fun t285 => (if t285 = true then ((verditerref01_Within.f a2 0 (wrap64 (a0 - 1))).bind fun t286 => (if t286 = true then ((verditerref07_worded.f k l1).bind fun t287 => (if t287 = 0 then ((verditerref07_along.f k a0 l1 a2).bind fun t288 => (some (t288, 0))) else (some (0, t287)))) else (some (0, 4)))) else (some (0, 1)))) = some (r1, r2) := h
  clear h
  replace H := Option.bind_eq_some_iff.mp H
  obtain ⟨t285, A40, H⟩ := H
  replace H : (if t285 = true then ((verditerref01_Within.f a2 0 (wrap64 (a0 - 1))).bind fun t286 => (if t286 = true then ((verditerref07_worded.f k l1).bind fun t287 => (if t287 = 0 then ((verditerref07_along.f k a0 l1 a2).bind fun t288 => (some (t288, 0))) else (some (0, t287)))) else (some (0, 4)))) else (some (0, 1))) = some (r1, r2) := H
  have A4 := Aside0.mk A40
  clear A40
  by_cases c5 : t285 = true
  · subst c5
    have H1 : ((verditerref01_Within.f a2 0 (wrap64 (a0 - 1))).bind fun t286 => (if t286 = true then ((verditerref07_worded.f k l1).bind fun t287 => (if t287 = 0 then ((verditerref07_along.f k a0 l1 a2).bind fun t288 => (some (t288, 0))) else (some (0, t287)))) else (some (0, 4)))) = some (r1, r2) := by rw [if_pos rfl] at H; exact H
    clear H
    have H := H1
    clear H1
    replace H := Option.bind_eq_some_iff.mp H
    obtain ⟨t286, A60, H⟩ := H
    replace H : (if t286 = true then ((verditerref07_worded.f k l1).bind fun t287 => (if t287 = 0 then ((verditerref07_along.f k a0 l1 a2).bind fun t288 => (some (t288, 0))) else (some (0, t287)))) else (some (0, 4))) = some (r1, r2) := H
    have A6 := Aside0.mk A60
    clear A60
    by_cases c7 : t286 = true
    · subst c7
      have H1 : ((verditerref07_worded.f k l1).bind fun t287 => (if t287 = 0 then ((verditerref07_along.f k a0 l1 a2).bind fun t288 => (some (t288, 0))) else (some (0, t287)))) = some (r1, r2) := by rw [if_pos rfl] at H; exact H
      clear H
      have H := H1
      clear H1
      replace H := Option.bind_eq_some_iff.mp H
      obtain ⟨t287, A80, H⟩ := H
      replace H : (if t287 = 0 then ((verditerref07_along.f k a0 l1 a2).bind fun t288 => (some (t288, 0))) else (some (0, t287))) = some (r1, r2) := H
      have A8 := Aside0.mk A80
      clear A80
      by_cases c9 : t287 = 0
      · rw [if_pos c9] at H
        have c9b0 : (t287 == 0) = true := beq_iff_eq.mpr c9
        have c9b1 : (t287 != 0) = false := bne_eq_false_iff_eq.mpr c9
        clear c9
        replace H := Option.bind_eq_some_iff.mp H
        obtain ⟨t288, A100, H⟩ := H
        replace H : (some (t288, 0)) = some (r1, r2) := H
        have A10 := Aside0.mk A100
        clear A100
        simp only [Option.some.injEq, Prod.mk.injEq] at H
        obtain ⟨rfl, rfl⟩ := H
        go_enter Try.func49, Try.ntmps49
        go_wp2_with (first | ((with_reducible refine gate_callee (f := 50) rfl ?_); refine goesL_ (some 10) rfl rfl Try.func50 (by kernel_rfl) rfl #[.int .i64 a0] rfl (by (try simp only [List.map_toArray, List.map_cons, List.map_nil]); first | done | rfl | (simp only [List.length_drop, List.length_take]; rfl)) ?_; (with_reducible refine (verditerref07_isLumps.calls a0 true _ A4.out).mono ?_); rintro e w' ⟨rfl, ⟨nd, rfl⟩⟩; refine ⟨_, rfl, ?_⟩) | ((with_reducible refine gate_callee (f := 51) rfl ?_); refine goesL_ (some 15) rfl rfl Try.func51 (by kernel_rfl) rfl #[.int .i64 a2, .int .i64 0, .int .i64 (wrap64 (a0 - 1))] rfl (by (try simp only [List.map_toArray, List.map_cons, List.map_nil]); first | done | rfl | (simp only [List.length_drop, List.length_take]; rfl)) ?_; (with_reducible refine (verditerref01_Within.calls a2 0 (wrap64 (a0 - 1)) true _ A6.out).mono ?_); rintro e w' ⟨rfl, ⟨nd, rfl⟩⟩; refine ⟨_, rfl, ?_⟩) | ((with_reducible refine gate_callee (f := 83) rfl ?_); refine goesL_ (some 18) rfl rfl Try.func83 (by kernel_rfl) rfl #[.slice A1 l1.length c1] rfl (by (try simp only [List.map_toArray, List.map_cons, List.map_nil]); first | done | rfl | (simp only [List.length_drop, List.length_take]; rfl)) ?_; (with_reducible refine (verditerref07_worded.calls k _ _ l1 t287 _ ?side1 ?side2 A8.out).mono ?_); (case side1 => repeat (first | exact HR1.out | (with_reducible refine Kd.C_alloc ?_ _) | (with_reducible refine Kd.C_drewN ?_ _) | (with_reducible refine Kd.C_drew ?_))); (case side2 => exact HC1.out); rintro e w' ⟨rfl, ⟨nd, rfl⟩⟩; refine ⟨_, rfl, ?_⟩) | ((with_reducible refine gate_callee (f := 84) rfl ?_); refine goesL_ (some 25) rfl rfl Try.func84 (by kernel_rfl) rfl #[.int .i64 a0, .slice A1 l1.length c1, .int .i64 a2] rfl (by (try simp only [List.map_toArray, List.map_cons, List.map_nil]); first | done | rfl | (simp only [List.length_drop, List.length_take]; rfl)) ?_; (with_reducible refine (verditerref07_along.calls k a0 _ _ l1 a2 t288 _ ?side1 ?side2 A10.out).mono ?_); (case side1 => repeat (first | exact HR1.out | (with_reducible refine Kd.C_alloc ?_ _) | (with_reducible refine Kd.C_drewN ?_ _) | (with_reducible refine Kd.C_drew ?_))); (case side2 => exact HC1.out); rintro e w' ⟨rfl, ⟨nd, rfl⟩⟩; refine ⟨_, rfl, ?_⟩))
        go_ret2
        exact ⟨by first | rfl | (simp; done) | (simp [*]; done), by repeat (first | exact Drawn0.refl _ | apply Drawn0.step)⟩
      · rw [if_neg c9] at H
        have c9b0 : (t287 == 0) = false := beq_eq_false_iff_ne.mpr c9
        have c9b1 : (t287 != 0) = true := bne_iff_ne.mpr c9
        simp only [Option.some.injEq, Prod.mk.injEq] at H
        obtain ⟨rfl, rfl⟩ := H
        go_enter Try.func49, Try.ntmps49
        go_wp2_with (first | ((with_reducible refine gate_callee (f := 50) rfl ?_); refine goesL_ (some 10) rfl rfl Try.func50 (by kernel_rfl) rfl #[.int .i64 a0] rfl (by (try simp only [List.map_toArray, List.map_cons, List.map_nil]); first | done | rfl | (simp only [List.length_drop, List.length_take]; rfl)) ?_; (with_reducible refine (verditerref07_isLumps.calls a0 true _ A4.out).mono ?_); rintro e w' ⟨rfl, ⟨nd, rfl⟩⟩; refine ⟨_, rfl, ?_⟩) | ((with_reducible refine gate_callee (f := 51) rfl ?_); refine goesL_ (some 15) rfl rfl Try.func51 (by kernel_rfl) rfl #[.int .i64 a2, .int .i64 0, .int .i64 (wrap64 (a0 - 1))] rfl (by (try simp only [List.map_toArray, List.map_cons, List.map_nil]); first | done | rfl | (simp only [List.length_drop, List.length_take]; rfl)) ?_; (with_reducible refine (verditerref01_Within.calls a2 0 (wrap64 (a0 - 1)) true _ A6.out).mono ?_); rintro e w' ⟨rfl, ⟨nd, rfl⟩⟩; refine ⟨_, rfl, ?_⟩) | ((with_reducible refine gate_callee (f := 83) rfl ?_); refine goesL_ (some 18) rfl rfl Try.func83 (by kernel_rfl) rfl #[.slice A1 l1.length c1] rfl (by (try simp only [List.map_toArray, List.map_cons, List.map_nil]); first | done | rfl | (simp only [List.length_drop, List.length_take]; rfl)) ?_; (with_reducible refine (verditerref07_worded.calls k _ _ l1 t287 _ ?side1 ?side2 A8.out).mono ?_); (case side1 => repeat (first | exact HR1.out | (with_reducible refine Kd.C_alloc ?_ _) | (with_reducible refine Kd.C_drewN ?_ _) | (with_reducible refine Kd.C_drew ?_))); (case side2 => exact HC1.out); rintro e w' ⟨rfl, ⟨nd, rfl⟩⟩; refine ⟨_, rfl, ?_⟩))
        go_ret2
        exact ⟨by first | rfl | (simp; done) | (simp [*]; done), by repeat (first | exact Drawn0.refl _ | apply Drawn0.step)⟩
    · replace c7 := Bool.eq_false_iff.mpr c7
      subst c7
      have H1 : (some (0, 4)) = some (r1, r2) := by rw [if_neg (show ¬ (false = true) by decide)] at H; exact H
      clear H
      have H := H1
      clear H1
      simp only [Option.some.injEq, Prod.mk.injEq] at H
      obtain ⟨rfl, rfl⟩ := H
      go_enter Try.func49, Try.ntmps49
      go_wp2_with (first | ((with_reducible refine gate_callee (f := 50) rfl ?_); refine goesL_ (some 10) rfl rfl Try.func50 (by kernel_rfl) rfl #[.int .i64 a0] rfl (by (try simp only [List.map_toArray, List.map_cons, List.map_nil]); first | done | rfl | (simp only [List.length_drop, List.length_take]; rfl)) ?_; (with_reducible refine (verditerref07_isLumps.calls a0 true _ A4.out).mono ?_); rintro e w' ⟨rfl, ⟨nd, rfl⟩⟩; refine ⟨_, rfl, ?_⟩) | ((with_reducible refine gate_callee (f := 51) rfl ?_); refine goesL_ (some 15) rfl rfl Try.func51 (by kernel_rfl) rfl #[.int .i64 a2, .int .i64 0, .int .i64 (wrap64 (a0 - 1))] rfl (by (try simp only [List.map_toArray, List.map_cons, List.map_nil]); first | done | rfl | (simp only [List.length_drop, List.length_take]; rfl)) ?_; (with_reducible refine (verditerref01_Within.calls a2 0 (wrap64 (a0 - 1)) false _ A6.out).mono ?_); rintro e w' ⟨rfl, ⟨nd, rfl⟩⟩; refine ⟨_, rfl, ?_⟩))
      go_ret2
      exact ⟨by first | rfl | (simp; done) | (simp [*]; done), by repeat (first | exact Drawn0.refl _ | apply Drawn0.step)⟩
  · replace c5 := Bool.eq_false_iff.mpr c5
    subst c5
    have H1 : (some (0, 1)) = some (r1, r2) := by rw [if_neg (show ¬ (false = true) by decide)] at H; exact H
    clear H
    have H := H1
    clear H1
    simp only [Option.some.injEq, Prod.mk.injEq] at H
    obtain ⟨rfl, rfl⟩ := H
    go_enter Try.func49, Try.ntmps49
    go_wp2_with (first | ((with_reducible refine gate_callee (f := 50) rfl ?_); refine goesL_ (some 10) rfl rfl Try.func50 (by kernel_rfl) rfl #[.int .i64 a0] rfl (by (try simp only [List.map_toArray, List.map_cons, List.map_nil]); first | done | rfl | (simp only [List.length_drop, List.length_take]; rfl)) ?_; (with_reducible refine (verditerref07_isLumps.calls a0 false _ A4.out).mono ?_); rintro e w' ⟨rfl, ⟨nd, rfl⟩⟩; refine ⟨_, rfl, ?_⟩))
    go_ret2
    exact ⟨by first | rfl | (simp; done) | (simp [*]; done), by repeat (first | exact Drawn0.refl _ | apply Drawn0.step)⟩

end Go.Proofs.Ytgnklmhjejbcoaa.K
