/- DERIVED by wip/pr.py: for each Go function named below a Lean function with the same answers, and that a call of it comes to these answers, for all arguments and memories, where the Lean function has an answer. -/
import Derived.Test.YtfejfljgdeglgaaK0
import Derived.Test.YtfejfljgdeglgaaK2
import Derived.Test.YtfejfljgdeglgaaK5
import Derived.Test.YtfejfljgdeglgaaK7
namespace Go.Proofs.Ytfejfljgdeglgaa.K
open Go.RowKit Go.Proofs.YtfejfljgdeglgaaW.PrintWords Go.Proofs.YtfejfljgdeglgaaW.PrintLast Go.Proofs.YtfejfljgdeglgaaW.PrintMore
attribute [local go_sem] max2_int min2_int max_two min_two max_three min_three max_four min_four   -- for this text's walks alone
set_option linter.unusedVariables false
set_option linter.unusedSimpArgs false

/-! ### verditerlaw02_judgeLeft: function 26 -/
mutual
def verditerlaw02_judgeLeft.j0 : Nat → Int → List (S49) → Int → List Int → Int → Bool → Option (Bool)
  | 0, _, _, _, _, _, _ => none
  | k + 1, x0, x1, x2, x12, x13, x74 => if x74 = true then (some false) else (if x13 = 0 then (verditerlaw02_judgeLeft.j1 k x0 x1 x2 x12 (decide (x2 ≥ 12))) else (verditerlaw02_judgeLeft.j1 k x0 x1 x2 x12 true))
def verditerlaw02_judgeLeft.j1 : Nat → Int → List (S49) → Int → List Int → Bool → Option (Bool)
  | 0, _, _, _, _, _ => none
  | k + 1, x0, x1, x2, x12, x80 => if x80 = true then ((verditerlaw02_known.f k).bind fun t228 => (some t228)) else ((judge_Left.f k x0 x1 (wrap64 (x2 + 1))).bind fun bt229 => (verditerlaw02_judgeLeft.l0 k x12 bt229.1 bt229.2 0))
def verditerlaw02_judgeLeft.l0 : Nat → List Int → List Int → Int → Int → Option (Bool)
  | 0, _, _, _, _ => none
  | k + 1, x12, x17, x18, x19 => if x19 < (x12.length : Int) then (if 0 ≤ x19 then ((verditerref02_Has.f k x17 (rd x12 x19)).bind fun t234 => (if t234 = true then (verditerlaw02_judgeLeft.l0 k x12 x17 x18 (wrap64 (x19 + 1))) else (some false))) else (none)) else (if x18 = 0 then ((verditerlaw02_known.f k).bind fun t235 => (some t235)) else (some false))
end
def verditerlaw02_judgeLeft.f (k : Nat) (a0 : Int) (l1 : List (S49)) (a2 : Int) : Option (Bool) := (verditerlaw02_Long.f k l1).bind fun t211 => (if t211 = true then ((verditerlaw02_known.f k).bind fun t212 => (some t212)) else ((verditerref02_Left.f k a0 l1 a2).bind fun bt213 => ((verditerref02_Grade.f k a0 l1).bind fun bt217 => ((judge_Left.f k a0 l1 a2).bind fun bt220 => ((judge_Grade.f k a0 l1).bind fun bt224 => (if bt220.2 = bt213.2 then ((verditerref02_SameInts.f k bt220.1 bt213.1).bind fun t227 => (if t227 = true then (if bt224.1 = bt217.1 then (if (bt224.2.1 != bt217.2.1) = true then (verditerlaw02_judgeLeft.j0 k a0 l1 a2 bt220.1 bt220.2 true) else (verditerlaw02_judgeLeft.j0 k a0 l1 a2 bt220.1 bt220.2 (bt224.2.2 != bt217.2.2))) else (verditerlaw02_judgeLeft.j0 k a0 l1 a2 bt220.1 bt220.2 true)) else (verditerlaw02_judgeLeft.j0 k a0 l1 a2 bt220.1 bt220.2 true))) else (verditerlaw02_judgeLeft.j0 k a0 l1 a2 bt220.1 bt220.2 true)))))))
theorem verditerlaw02_judgeLeft.mono_l : ∀ k, (∀ y0 y1 y2 y3 y4 y5, LeO (verditerlaw02_judgeLeft.j0 k y0 y1 y2 y3 y4 y5) (verditerlaw02_judgeLeft.j0 (k + 1) y0 y1 y2 y3 y4 y5)) ∧ (∀ y0 y1 y2 y3 y4, LeO (verditerlaw02_judgeLeft.j1 k y0 y1 y2 y3 y4) (verditerlaw02_judgeLeft.j1 (k + 1) y0 y1 y2 y3 y4)) ∧ (∀ y0 y1 y2 y3, LeO (verditerlaw02_judgeLeft.l0 k y0 y1 y2 y3) (verditerlaw02_judgeLeft.l0 (k + 1) y0 y1 y2 y3))
  | 0 => ⟨fun _ _ _ _ _ _ r h => by simp [verditerlaw02_judgeLeft.j0] at h, fun _ _ _ _ _ r h => by simp [verditerlaw02_judgeLeft.j1] at h, fun _ _ _ _ r h => by simp [verditerlaw02_judgeLeft.l0] at h⟩
  | k + 1 => by
    obtain ⟨ih0, ih1, ih2⟩ := verditerlaw02_judgeLeft.mono_l k
    refine ⟨?_, ?_, ?_⟩
    · intro y0 y1 y2 y3 y4 y5
      unfold verditerlaw02_judgeLeft.j0
      repeat' first
      | (with_reducible exact ih0 _ _ _ _ _ _)
      | (with_reducible exact ih1 _ _ _ _ _)
      | (with_reducible exact ih2 _ _ _ _)
      | (with_reducible exact judge_Grade.mono _ _ _)
      | (with_reducible exact judge_Left.mono _ _ _ _)
      | (with_reducible exact verditerlaw02_Long.mono _ _)
      | (with_reducible exact verditerlaw02_known.mono _)
      | (with_reducible exact verditerref02_Grade.mono _ _ _)
      | (with_reducible exact verditerref02_Has.mono _ _ _)
      | (with_reducible exact verditerref02_Left.mono _ _ _ _)
      | (with_reducible exact verditerref02_SameInts.mono _ _ _)
      | (with_reducible exact LeO.refl _)
      | (with_reducible exact LeO.none _)
      | (with_reducible refine LeO.ite ?_ ?_)
      | (with_reducible refine LeO.bind ?_ (fun _ => ?_))
      | exact ih0 _ _ _ _ _ _
      | exact ih1 _ _ _ _ _
      | exact ih2 _ _ _ _
      | exact judge_Grade.mono _ _ _
      | exact judge_Left.mono _ _ _ _
      | exact verditerlaw02_Long.mono _ _
      | exact verditerlaw02_known.mono _
      | exact verditerref02_Grade.mono _ _ _
      | exact verditerref02_Has.mono _ _ _
      | exact verditerref02_Left.mono _ _ _ _
      | exact verditerref02_SameInts.mono _ _ _
      | exact LeO.none _
      | refine LeO.ite ?_ ?_
      | refine LeO.bind ?_ (fun _ => ?_)
    · intro y0 y1 y2 y3 y4
      unfold verditerlaw02_judgeLeft.j1
      repeat' first
      | (with_reducible exact ih0 _ _ _ _ _ _)
      | (with_reducible exact ih1 _ _ _ _ _)
      | (with_reducible exact ih2 _ _ _ _)
      | (with_reducible exact judge_Grade.mono _ _ _)
      | (with_reducible exact judge_Left.mono _ _ _ _)
      | (with_reducible exact verditerlaw02_Long.mono _ _)
      | (with_reducible exact verditerlaw02_known.mono _)
      | (with_reducible exact verditerref02_Grade.mono _ _ _)
      | (with_reducible exact verditerref02_Has.mono _ _ _)
      | (with_reducible exact verditerref02_Left.mono _ _ _ _)
      | (with_reducible exact verditerref02_SameInts.mono _ _ _)
      | (with_reducible exact LeO.refl _)
      | (with_reducible exact LeO.none _)
      | (with_reducible refine LeO.ite ?_ ?_)
      | (with_reducible refine LeO.bind ?_ (fun _ => ?_))
      | exact ih0 _ _ _ _ _ _
      | exact ih1 _ _ _ _ _
      | exact ih2 _ _ _ _
      | exact judge_Grade.mono _ _ _
      | exact judge_Left.mono _ _ _ _
      | exact verditerlaw02_Long.mono _ _
      | exact verditerlaw02_known.mono _
      | exact verditerref02_Grade.mono _ _ _
      | exact verditerref02_Has.mono _ _ _
      | exact verditerref02_Left.mono _ _ _ _
      | exact verditerref02_SameInts.mono _ _ _
      | exact LeO.none _
      | refine LeO.ite ?_ ?_
      | refine LeO.bind ?_ (fun _ => ?_)
    · intro y0 y1 y2 y3
      unfold verditerlaw02_judgeLeft.l0
      repeat' first
      | (with_reducible exact ih0 _ _ _ _ _ _)
      | (with_reducible exact ih1 _ _ _ _ _)
      | (with_reducible exact ih2 _ _ _ _)
      | (with_reducible exact judge_Grade.mono _ _ _)
      | (with_reducible exact judge_Left.mono _ _ _ _)
      | (with_reducible exact verditerlaw02_Long.mono _ _)
      | (with_reducible exact verditerlaw02_known.mono _)
      | (with_reducible exact verditerref02_Grade.mono _ _ _)
      | (with_reducible exact verditerref02_Has.mono _ _ _)
      | (with_reducible exact verditerref02_Left.mono _ _ _ _)
      | (with_reducible exact verditerref02_SameInts.mono _ _ _)
      | (with_reducible exact LeO.refl _)
      | (with_reducible exact LeO.none _)
      | (with_reducible refine LeO.ite ?_ ?_)
      | (with_reducible refine LeO.bind ?_ (fun _ => ?_))
      | exact ih0 _ _ _ _ _ _
      | exact ih1 _ _ _ _ _
      | exact ih2 _ _ _ _
      | exact judge_Grade.mono _ _ _
      | exact judge_Left.mono _ _ _ _
      | exact verditerlaw02_Long.mono _ _
      | exact verditerlaw02_known.mono _
      | exact verditerref02_Grade.mono _ _ _
      | exact verditerref02_Has.mono _ _ _
      | exact verditerref02_Left.mono _ _ _ _
      | exact verditerref02_SameInts.mono _ _ _
      | exact LeO.none _
      | refine LeO.ite ?_ ?_
      | refine LeO.bind ?_ (fun _ => ?_)
theorem verditerlaw02_judgeLeft.mono : ∀ a0 a1 a2 k, LeO (verditerlaw02_judgeLeft.f k a0 a1 a2) (verditerlaw02_judgeLeft.f (k + 1) a0 a1 a2) := by
  intro a0 a1 a2 k
  obtain ⟨ih0, ih1, ih2⟩ := verditerlaw02_judgeLeft.mono_l k
  unfold verditerlaw02_judgeLeft.f
  repeat' first
      | (with_reducible exact ih0 _ _ _ _ _ _)
      | (with_reducible exact ih1 _ _ _ _ _)
      | (with_reducible exact ih2 _ _ _ _)
      | (with_reducible exact judge_Grade.mono _ _ _)
      | (with_reducible exact judge_Left.mono _ _ _ _)
      | (with_reducible exact verditerlaw02_Long.mono _ _)
      | (with_reducible exact verditerlaw02_known.mono _)
      | (with_reducible exact verditerref02_Grade.mono _ _ _)
      | (with_reducible exact verditerref02_Has.mono _ _ _)
      | (with_reducible exact verditerref02_Left.mono _ _ _ _)
      | (with_reducible exact verditerref02_SameInts.mono _ _ _)
      | (with_reducible exact LeO.refl _)
      | (with_reducible exact LeO.none _)
      | (with_reducible refine LeO.ite ?_ ?_)
      | (with_reducible refine LeO.bind ?_ (fun _ => ?_))
      | exact ih0 _ _ _ _ _ _
      | exact ih1 _ _ _ _ _
      | exact ih2 _ _ _ _
      | exact judge_Grade.mono _ _ _
      | exact judge_Left.mono _ _ _ _
      | exact verditerlaw02_Long.mono _ _
      | exact verditerlaw02_known.mono _
      | exact verditerref02_Grade.mono _ _ _
      | exact verditerref02_Has.mono _ _ _
      | exact verditerref02_Left.mono _ _ _ _
      | exact verditerref02_SameInts.mono _ _ _
      | exact LeO.none _
      | refine LeO.ite ?_ ?_
      | refine LeO.bind ?_ (fun _ => ?_)
set_option maxHeartbeats 8000000 in
set_option maxRecDepth 100000 in
theorem verditerlaw02_judgeLeft.calls (k : Nat) (a0 : Int) (A1 : Option Addr) (c1 : Nat) (l1 : List (S49)) (a2 : Int) (r : Bool) (w : World) (hr1 : Kd.C k49 w A1 l1.length l1) (hc1 : l1.length ≤ c1) (h : verditerlaw02_judgeLeft.f k a0 l1 a2 = some r) :
    Calls Try.prog 26 #[.int .i64 a0, .slice A1 l1.length c1, .int .i64 a2] w fun e w' => e = .returned (.bool r) ∧ Below w.heap.size w w' := by
  have HR1 := Aside0.mk hr1
  have HC1 := Aside0.mk hc1
  clear hr1 hc1
  have HB := Aside0.mk (Below.refl w.heap.size w)
  have H : ((verditerlaw02_Long.f k l1).bind fun t211 => (if t211 = true then ((verditerlaw02_known.f k).bind fun t212 => (some t212)) else ((verditerref02_Left.f k a0 l1 a2).bind fun bt213 => ((verditerref02_Grade.f k a0 l1).bind fun bt217 => ((judge_Left.f k a0 l1 a2).bind fun bt220 => ((judge_Grade.f k a0 l1).bind fun bt224 => (if bt220.2 = bt213.2 then ((verditerref02_SameInts.f k bt220.1 bt213.1).bind fun t227 => (if t227 = true then (if bt224.1 = bt217.1 then (if (bt224.2.1 != bt217.2.1) = true then (verditerlaw02_judgeLeft.j0 k a0 l1 a2 bt220.1 bt220.2 true) else (verditerlaw02_judgeLeft.j0 k a0 l1 a2 bt220.1 bt220.2 (bt224.2.2 != bt217.2.2))) else (verditerlaw02_judgeLeft.j0 k a0 l1 a2 bt220.1 bt220.2 true)) else (verditerlaw02_judgeLeft.j0 k a0 l1 a2 bt220.1 bt220.2 true))) else (verditerlaw02_judgeLeft.j0 k a0 l1 a2 bt220.1 bt220.2 true)))))))) = some r := h
  clear h
  replace H := Option.bind_eq_some_iff.mp H
  obtain ⟨t211, A40, H⟩ := H
  replace H : (if t211 = true then ((verditerlaw02_known.f k).bind fun t212 => (some t212)) else ((verditerref02_Left.f k a0 l1 a2).bind fun bt213 => ((verditerref02_Grade.f k a0 l1).bind fun bt217 => ((judge_Left.f k a0 l1 a2).bind fun bt220 => ((judge_Grade.f k a0 l1).bind fun bt224 => (if bt220.2 = bt213.2 then ((verditerref02_SameInts.f k bt220.1 bt213.1).bind fun t227 => (if t227 = true then (if bt224.1 = bt217.1 then (if (bt224.2.1 != bt217.2.1) = true then (verditerlaw02_judgeLeft.j0 k a0 l1 a2 bt220.1 bt220.2 true) else (verditerlaw02_judgeLeft.j0 k a0 l1 a2 bt220.1 bt220.2 (bt224.2.2 != bt217.2.2))) else (verditerlaw02_judgeLeft.j0 k a0 l1 a2 bt220.1 bt220.2 true)) else (verditerlaw02_judgeLeft.j0 k a0 l1 a2 bt220.1 bt220.2 true))) else (verditerlaw02_judgeLeft.j0 k a0 l1 a2 bt220.1 bt220.2 true))))))) = some r := H
  have A4 := Aside0.mk A40
  clear A40
  by_cases c5 : t211 = true
  · subst c5
    have H1 : ((verditerlaw02_known.f k).bind fun t212 => (some t212)) = some r := by rw [if_pos rfl] at H; exact H
    clear H
    have H := H1
    clear H1
    replace H := Option.bind_eq_some_iff.mp H
    obtain ⟨t212, A60, H⟩ := H
    replace H : (some t212) = some r := H
    have A6 := Aside0.mk A60
    clear A60
    obtain rfl := Option.some.inj H
    go_enter Try.func26, Try.ntmps26
    go_wp2_with (first | ((with_reducible refine gate_callee (f := 48) rfl ?_); refine goesL_ (some 21) rfl rfl Try.func48 (by kernel_rfl) rfl #[.slice A1 l1.length c1] rfl (by (try simp only [List.map_toArray, List.map_cons, List.map_nil]); first | done | rfl | (simp only [List.length_drop, List.length_take]; rfl)) ?_; (with_reducible refine (verditerlaw02_Long.calls k _ _ l1 true _ ?side1 ?side2 A4.out).mono ?_); (case side1 => repeat (first | exact HR1.out | (with_reducible refine Kd.C_alloc ?_ _) | (with_reducible refine Kd.C_drewN ?_ _) | (with_reducible refine Kd.C_drew ?_))); (case side2 => exact HC1.out); rintro e w' ⟨rfl, ⟨nd, rfl⟩⟩; refine ⟨_, rfl, ?_⟩) | ((with_reducible refine gate_callee (f := 20) rfl ?_); refine goesL_ (some 22) rfl rfl Try.func20 (by kernel_rfl) rfl #[] rfl (by (try simp only [List.map_toArray, List.map_cons, List.map_nil]); first | done | rfl | (simp only [List.length_drop, List.length_take]; rfl)) ?_; (with_reducible refine (verditerlaw02_known.calls k  t212 _ A6.out).mono ?_); rintro e w7 ⟨rfl, hb⟩; refine ⟨_, rfl, ?_⟩; have n0_ := Aside0.mk (below_step (by repeat (first | (with_reducible first | exact HB.out | apply below_alloc | apply pw_below_drewN | apply below_drew1) | exact HB.out)) hb); clear HB; have HB := n0_; clear n0_; (try clear hb); (try clear hb2); (try clear hk); (try clear hi)))
    go_ret
    exact ⟨by first | rfl | (simp [errW_none, errW_some] <;> rfl) | (simp [*, errW_none, errW_some] <;> rfl), by repeat (first | (with_reducible first | exact HB.out | apply below_alloc | apply pw_below_drewN | apply below_drew1) | exact HB.out)⟩
  · replace c5 := Bool.eq_false_iff.mpr c5
    subst c5
    have H1 : ((verditerref02_Left.f k a0 l1 a2).bind fun bt213 => ((verditerref02_Grade.f k a0 l1).bind fun bt217 => ((judge_Left.f k a0 l1 a2).bind fun bt220 => ((judge_Grade.f k a0 l1).bind fun bt224 => (if bt220.2 = bt213.2 then ((verditerref02_SameInts.f k bt220.1 bt213.1).bind fun t227 => (if t227 = true then (if bt224.1 = bt217.1 then (if (bt224.2.1 != bt217.2.1) = true then (verditerlaw02_judgeLeft.j0 k a0 l1 a2 bt220.1 bt220.2 true) else (verditerlaw02_judgeLeft.j0 k a0 l1 a2 bt220.1 bt220.2 (bt224.2.2 != bt217.2.2))) else (verditerlaw02_judgeLeft.j0 k a0 l1 a2 bt220.1 bt220.2 true)) else (verditerlaw02_judgeLeft.j0 k a0 l1 a2 bt220.1 bt220.2 true))) else (verditerlaw02_judgeLeft.j0 k a0 l1 a2 bt220.1 bt220.2 true)))))) = some r := by rw [if_neg (show ¬ (false = true) by decide)] at H; exact H
    clear H
    have H := H1
    clear H1
    replace H := Option.bind_eq_some_iff.mp H
    obtain ⟨⟨t213, t214⟩, A80, H⟩ := H
    replace H : ((verditerref02_Grade.f k a0 l1).bind fun bt217 => ((judge_Left.f k a0 l1 a2).bind fun bt220 => ((judge_Grade.f k a0 l1).bind fun bt224 => (if bt220.2 = t214 then ((verditerref02_SameInts.f k bt220.1 t213).bind fun t227 => (if t227 = true then (if bt224.1 = bt217.1 then (if (bt224.2.1 != bt217.2.1) = true then (verditerlaw02_judgeLeft.j0 k a0 l1 a2 bt220.1 bt220.2 true) else (verditerlaw02_judgeLeft.j0 k a0 l1 a2 bt220.1 bt220.2 (bt224.2.2 != bt217.2.2))) else (verditerlaw02_judgeLeft.j0 k a0 l1 a2 bt220.1 bt220.2 true)) else (verditerlaw02_judgeLeft.j0 k a0 l1 a2 bt220.1 bt220.2 true))) else (verditerlaw02_judgeLeft.j0 k a0 l1 a2 bt220.1 bt220.2 true))))) = some r := H
    have A8 := Aside0.mk A80
    clear A80
    replace H := Option.bind_eq_some_iff.mp H
    obtain ⟨⟨t217, t218, t219⟩, A90, H⟩ := H
    replace H : ((judge_Left.f k a0 l1 a2).bind fun bt220 => ((judge_Grade.f k a0 l1).bind fun bt224 => (if bt220.2 = t214 then ((verditerref02_SameInts.f k bt220.1 t213).bind fun t227 => (if t227 = true then (if bt224.1 = t217 then (if (bt224.2.1 != t218) = true then (verditerlaw02_judgeLeft.j0 k a0 l1 a2 bt220.1 bt220.2 true) else (verditerlaw02_judgeLeft.j0 k a0 l1 a2 bt220.1 bt220.2 (bt224.2.2 != t219))) else (verditerlaw02_judgeLeft.j0 k a0 l1 a2 bt220.1 bt220.2 true)) else (verditerlaw02_judgeLeft.j0 k a0 l1 a2 bt220.1 bt220.2 true))) else (verditerlaw02_judgeLeft.j0 k a0 l1 a2 bt220.1 bt220.2 true)))) = some r := H
    have A9 := Aside0.mk A90
    clear A90
    replace H := Option.bind_eq_some_iff.mp H
    obtain ⟨⟨t220, t221⟩, A100, H⟩ := H
    replace H : ((judge_Grade.f k a0 l1).bind fun bt224 => (if t221 = t214 then ((verditerref02_SameInts.f k t220 t213).bind fun t227 => (if t227 = true then (if bt224.1 = t217 then (if (bt224.2.1 != t218) = true then (verditerlaw02_judgeLeft.j0 k a0 l1 a2 t220 t221 true) else (verditerlaw02_judgeLeft.j0 k a0 l1 a2 t220 t221 (bt224.2.2 != t219))) else (verditerlaw02_judgeLeft.j0 k a0 l1 a2 t220 t221 true)) else (verditerlaw02_judgeLeft.j0 k a0 l1 a2 t220 t221 true))) else (verditerlaw02_judgeLeft.j0 k a0 l1 a2 t220 t221 true))) = some r := H
    have A10 := Aside0.mk A100
    clear A100
    replace H := Option.bind_eq_some_iff.mp H
    obtain ⟨⟨t224, t225, t226⟩, A110, H⟩ := H
    replace H : (if t221 = t214 then ((verditerref02_SameInts.f k t220 t213).bind fun t227 => (if t227 = true then (if t224 = t217 then (if (t225 != t218) = true then (verditerlaw02_judgeLeft.j0 k a0 l1 a2 t220 t221 true) else (verditerlaw02_judgeLeft.j0 k a0 l1 a2 t220 t221 (t226 != t219))) else (verditerlaw02_judgeLeft.j0 k a0 l1 a2 t220 t221 true)) else (verditerlaw02_judgeLeft.j0 k a0 l1 a2 t220 t221 true))) else (verditerlaw02_judgeLeft.j0 k a0 l1 a2 t220 t221 true)) = some r := H
    have A11 := Aside0.mk A110
    clear A110
    have HC12 := Aside0.mk H
    clear H
    go_enter Try.func26, Try.ntmps26
    go_upto_region 7 with (first | ((with_reducible refine gate_callee (f := 48) rfl ?_); refine goesL_ (some 21) rfl rfl Try.func48 (by kernel_rfl) rfl #[.slice A1 l1.length c1] rfl (by (try simp only [List.map_toArray, List.map_cons, List.map_nil]); first | done | rfl | (simp only [List.length_drop, List.length_take]; rfl)) ?_; (with_reducible refine (verditerlaw02_Long.calls k _ _ l1 false _ ?side1 ?side2 A4.out).mono ?_); (case side1 => repeat (first | exact HR1.out | (with_reducible refine Kd.C_alloc ?_ _) | (with_reducible refine Kd.C_drewN ?_ _) | (with_reducible refine Kd.C_drew ?_))); (case side2 => exact HC1.out); rintro e w' ⟨rfl, ⟨nd, rfl⟩⟩; refine ⟨_, rfl, ?_⟩) | ((with_reducible refine gate_callee (f := 56) rfl ?_); refine goesL_ (some 27) rfl rfl Try.func56 (by kernel_rfl) rfl #[.int .i64 a0, .slice A1 l1.length c1, .int .i64 a2] rfl (by (try simp only [List.map_toArray, List.map_cons, List.map_nil]); first | done | rfl | (simp only [List.length_drop, List.length_take]; rfl)) ?_; (with_reducible refine (verditerref02_Left.calls k a0 _ _ l1 a2 t213 t214 _ ?side1 ?side2 A8.out).mono ?_); (case side1 => repeat (first | exact HR1.out | (with_reducible refine Kd.C_alloc ?_ _) | (with_reducible refine Kd.C_drewN ?_ _) | (with_reducible refine Kd.C_drew ?_))); (case side2 => exact HC1.out); rintro e w13 ⟨v215, rfl, ho0, hb⟩; refine ⟨_, rfl, ?_⟩; have n0_ := Aside0.mk (Kd.R_lower ho0 (below_size (by repeat (first | (with_reducible first | exact HB.out | apply below_alloc | apply pw_below_drewN | apply below_drew1) | exact HB.out)))); have n1_ := Aside0.mk (below_step (by repeat (first | (with_reducible first | exact HB.out | apply below_alloc | apply pw_below_drewN | apply below_drew1) | exact HB.out)) hb); clear HB; have HO216 := n0_; have HB := n1_; clear n0_ n1_; (try clear hb); (try clear hb2); (try clear hk); (try clear hi); (try clear ho0)) | ((with_reducible refine gate_callee (f := 57) rfl ?_); refine goesL_ (some 33) rfl rfl Try.func57 (by kernel_rfl) rfl #[.int .i64 a0, .slice A1 l1.length c1] rfl (by (try simp only [List.map_toArray, List.map_cons, List.map_nil]); first | done | rfl | (simp only [List.length_drop, List.length_take]; rfl)) ?_; (with_reducible refine (verditerref02_Grade.calls k a0 _ _ l1 t217 t218 t219 _ ?side1 ?side2 A9.out).mono ?_); (case side1 => repeat (first | exact (Kd.C_below HR1.out HB.out) | (with_reducible refine Kd.C_alloc ?_ _) | (with_reducible refine Kd.C_drewN ?_ _) | (with_reducible refine Kd.C_drew ?_))); (case side2 => exact HC1.out); rintro e w14 ⟨rfl, hb⟩; refine ⟨_, rfl, ?_⟩; have n0_ := Aside0.mk (Kd.R_below (by (with_reducible repeat (first | apply Kd.R_alloc | apply Kd.R_drewN | apply Kd.R_drew)); exact HO216.out) hb); have n1_ := Aside0.mk (below_step (by repeat (first | (with_reducible first | exact HB.out | apply below_alloc | apply pw_below_drewN | apply below_drew1) | exact HB.out)) hb); clear HO216; clear HB; have HO216 := n0_; have HB := n1_; clear n0_ n1_; (try clear hb); (try clear hb2); (try clear hk); (try clear hi)) | ((with_reducible refine gate_callee (f := 58) rfl ?_); refine goesL_ (some 41) rfl rfl Try.func58 (by kernel_rfl) rfl #[.int .i64 a0, .slice A1 l1.length c1, .int .i64 a2] rfl (by (try simp only [List.map_toArray, List.map_cons, List.map_nil]); first | done | rfl | (simp only [List.length_drop, List.length_take]; rfl)) ?_; (with_reducible refine (judge_Left.calls k a0 _ _ l1 a2 t220 t221 _ ?side1 ?side2 A10.out).mono ?_); (case side1 => repeat (first | exact (Kd.C_below HR1.out HB.out) | (with_reducible refine Kd.C_alloc ?_ _) | (with_reducible refine Kd.C_drewN ?_ _) | (with_reducible refine Kd.C_drew ?_))); (case side2 => exact HC1.out); rintro e w15 ⟨v222, rfl, ho0, hb⟩; refine ⟨_, rfl, ?_⟩; have n0_ := Aside0.mk (Kd.R_elder' (by (with_reducible repeat (first | apply Kd.R_alloc | apply Kd.R_drewN | apply Kd.R_drew)); exact HO216.out) (Kd.R_base ho0) hb); have n1_ := Aside0.mk (Kd.R_lower (Kd.R_new' ho0 (Kd.R_lt (by (with_reducible repeat (first | apply Kd.R_alloc | apply Kd.R_drewN | apply Kd.R_drew)); exact HO216.out))) (below_size (by repeat (first | (with_reducible first | exact HB.out | apply below_alloc | apply pw_below_drewN | apply below_drew1) | exact HB.out)))); have n2_ := Aside0.mk (below_step (by repeat (first | (with_reducible first | exact HB.out | apply below_alloc | apply pw_below_drewN | apply below_drew1) | exact HB.out)) hb); clear HO216; clear HB; have HO216 := n0_; have HO223 := n1_; have HB := n2_; clear n0_ n1_ n2_; (try clear hb); (try clear hb2); (try clear hk); (try clear hi); (try clear ho0)) | ((with_reducible refine gate_callee (f := 47) rfl ?_); refine goesL_ (some 47) rfl rfl Try.func47 (by kernel_rfl) rfl #[.int .i64 a0, .slice A1 l1.length c1] rfl (by (try simp only [List.map_toArray, List.map_cons, List.map_nil]); first | done | rfl | (simp only [List.length_drop, List.length_take]; rfl)) ?_; (with_reducible refine (judge_Grade.calls k a0 _ _ l1 t224 t225 t226 _ ?side1 ?side2 A11.out).mono ?_); (case side1 => repeat (first | exact (Kd.C_below HR1.out HB.out) | (with_reducible refine Kd.C_alloc ?_ _) | (with_reducible refine Kd.C_drewN ?_ _) | (with_reducible refine Kd.C_drew ?_))); (case side2 => exact HC1.out); rintro e w16 ⟨rfl, hb⟩; refine ⟨_, rfl, ?_⟩; have n0_ := Aside0.mk (Kd.R_below (by (with_reducible repeat (first | apply Kd.R_alloc | apply Kd.R_drewN | apply Kd.R_drew)); exact HO216.out) hb); have n1_ := Aside0.mk (Kd.R_below (by (with_reducible repeat (first | apply Kd.R_alloc | apply Kd.R_drewN | apply Kd.R_drew)); exact HO223.out) hb); have n2_ := Aside0.mk (below_step (by repeat (first | (with_reducible first | exact HB.out | apply below_alloc | apply pw_below_drewN | apply below_drew1) | exact HB.out)) hb); clear HO216; clear HO223; clear HB; have HO216 := n0_; have HO223 := n1_; have HB := n2_; clear n0_ n1_ n2_; (try clear hb); (try clear hb2); (try clear hk); (try clear hi)))
    (try simp only [Act.put, List.setIfInBounds_toArray, List.set_cons_zero, List.set_cons_succ])
    go_cut [74] (fun v74 wc => ∃ (kq : Nat) (x74_11 : Bool), v74 = .bool x74_11 ∧ Aside0 (verditerlaw02_judgeLeft.j0 kq a0 l1 a2 t220 t221 x74_11 = some r) ∧ Aside0 (kq ≤ k) ∧ Aside0 (Kd.R (Kd.int .i64) 3 wc w.heap.size (fun _ => True) v222 t220) ∧ Aside0 (Below w.heap.size w wc))
    case first =>
      have H := HC12.out
      clear HC12
      by_cases c17 : t221 = t214
      · rw [if_pos c17] at H
        have c17b0 : (t221 == t214) = true := beq_iff_eq.mpr c17
        have c17b1 : (t221 != t214) = false := bne_eq_false_iff_eq.mpr c17
        clear c17
        (first | rw [c17b0] | (simp only [i64_w, i32_w]; rw [c17b0]) | skip)
        replace H := Option.bind_eq_some_iff.mp H
        obtain ⟨t227, A180, H⟩ := H
        replace H : (if t227 = true then (if t224 = t217 then (if (t225 != t218) = true then (verditerlaw02_judgeLeft.j0 k a0 l1 a2 t220 t221 true) else (verditerlaw02_judgeLeft.j0 k a0 l1 a2 t220 t221 (t226 != t219))) else (verditerlaw02_judgeLeft.j0 k a0 l1 a2 t220 t221 true)) else (verditerlaw02_judgeLeft.j0 k a0 l1 a2 t220 t221 true)) = some r := H
        have A18 := Aside0.mk A180
        clear A180
        by_cases c19 : t227 = true
        · subst c19
          have H1 : (if t224 = t217 then (if (t225 != t218) = true then (verditerlaw02_judgeLeft.j0 k a0 l1 a2 t220 t221 true) else (verditerlaw02_judgeLeft.j0 k a0 l1 a2 t220 t221 (t226 != t219))) else (verditerlaw02_judgeLeft.j0 k a0 l1 a2 t220 t221 true)) = some r := by rw [if_pos rfl] at H; exact H
          clear H
          have H := H1
          clear H1
          by_cases c20 : t224 = t217
          · rw [if_pos c20] at H
            have c20b0 : (t224 == t217) = true := beq_iff_eq.mpr c20
            have c20b1 : (t224 != t217) = false := bne_eq_false_iff_eq.mpr c20
            clear c20
            by_cases c21 : (t225 != t218) = true
            · rw [if_pos c21] at H
              have c21b0 : (t225 != t218) = true := c21
              (try (have c21b1 : decide (t225 = t218) = false := by simpa using c21))
              (try (have c21b2 : (t225 == t218) = false := by simpa using c21))
              (try (have c21b3 : ¬ (t225 = t218) := by simpa using c21))
              clear c21
              have H' := Aside0.mk H
              clear H
              obtain ⟨Ao22, co22, eo22⟩ := Kd.R_slice HO223.out
              subst eo22
              obtain ⟨Ao23, co23, eo23⟩ := Kd.R_slice HO216.out
              subst eo23
              go_wp2_with (first | (go_at_call 53; (with_reducible refine (verditerref02_SameInts.calls k _ _ t220 _ _ t213 true _ ?side1 ?side2 ?side3 ?side4 A18.out).mono ?_); (case side1 => repeat (first | exact (Kd.R_reads' HO223.out).2.2 | (with_reducible refine Kd.C_alloc ?_ _) | (with_reducible refine Kd.C_drewN ?_ _) | (with_reducible refine Kd.C_drew ?_))); (case side2 => exact (Kd.R_reads' HO223.out).2.1); (case side3 => repeat (first | exact (Kd.R_reads' HO216.out).2.2 | (with_reducible refine Kd.C_alloc ?_ _) | (with_reducible refine Kd.C_drewN ?_ _) | (with_reducible refine Kd.C_drew ?_))); (case side4 => exact (Kd.R_reads' HO216.out).2.1); rintro e w' ⟨rfl, ⟨nd, rfl⟩⟩))
              go_meet
              case rel => exact ⟨_, (true), (by first | rfl | (simp; done) | (simp [*]; done)), H', ⟨by first | omega | exact Nat.le_refl _⟩, ⟨by (with_reducible repeat (first | apply Kd.R_alloc | apply Kd.R_drewN | apply Kd.R_drew)); exact Kd.R_mono HO223.out (fun _ hk => trivial)⟩, ⟨by repeat (first | (with_reducible first | exact HB.out | apply below_alloc | apply pw_below_drewN | apply below_drew1) | exact HB.out)⟩⟩
            · rw [if_neg c21] at H
              have c21b0 : (t225 != t218) = false := by simpa using c21
              (try (have c21b1 : decide (t225 = t218) = true := by simpa using c21))
              (try (have c21b2 : (t225 == t218) = true := by simpa using c21))
              clear c21
              have H' := Aside0.mk H
              clear H
              obtain ⟨Ao24, co24, eo24⟩ := Kd.R_slice HO223.out
              subst eo24
              obtain ⟨Ao25, co25, eo25⟩ := Kd.R_slice HO216.out
              subst eo25
              go_wp2_with (first | (go_at_call 53; (with_reducible refine (verditerref02_SameInts.calls k _ _ t220 _ _ t213 true _ ?side1 ?side2 ?side3 ?side4 A18.out).mono ?_); (case side1 => repeat (first | exact (Kd.R_reads' HO223.out).2.2 | (with_reducible refine Kd.C_alloc ?_ _) | (with_reducible refine Kd.C_drewN ?_ _) | (with_reducible refine Kd.C_drew ?_))); (case side2 => exact (Kd.R_reads' HO223.out).2.1); (case side3 => repeat (first | exact (Kd.R_reads' HO216.out).2.2 | (with_reducible refine Kd.C_alloc ?_ _) | (with_reducible refine Kd.C_drewN ?_ _) | (with_reducible refine Kd.C_drew ?_))); (case side4 => exact (Kd.R_reads' HO216.out).2.1); rintro e w' ⟨rfl, ⟨nd, rfl⟩⟩))
              go_meet
              case rel => exact ⟨_, ((t226 != t219)), (by first | rfl | (simp; done) | (simp [*]; done)), H', ⟨by first | omega | exact Nat.le_refl _⟩, ⟨by (with_reducible repeat (first | apply Kd.R_alloc | apply Kd.R_drewN | apply Kd.R_drew)); exact Kd.R_mono HO223.out (fun _ hk => trivial)⟩, ⟨by repeat (first | (with_reducible first | exact HB.out | apply below_alloc | apply pw_below_drewN | apply below_drew1) | exact HB.out)⟩⟩
          · rw [if_neg c20] at H
            have c20b0 : (t224 == t217) = false := beq_eq_false_iff_ne.mpr c20
            have c20b1 : (t224 != t217) = true := bne_iff_ne.mpr c20
            have H' := Aside0.mk H
            clear H
            obtain ⟨Ao26, co26, eo26⟩ := Kd.R_slice HO223.out
            subst eo26
            obtain ⟨Ao27, co27, eo27⟩ := Kd.R_slice HO216.out
            subst eo27
            go_wp2_with (first | (go_at_call 53; (with_reducible refine (verditerref02_SameInts.calls k _ _ t220 _ _ t213 true _ ?side1 ?side2 ?side3 ?side4 A18.out).mono ?_); (case side1 => repeat (first | exact (Kd.R_reads' HO223.out).2.2 | (with_reducible refine Kd.C_alloc ?_ _) | (with_reducible refine Kd.C_drewN ?_ _) | (with_reducible refine Kd.C_drew ?_))); (case side2 => exact (Kd.R_reads' HO223.out).2.1); (case side3 => repeat (first | exact (Kd.R_reads' HO216.out).2.2 | (with_reducible refine Kd.C_alloc ?_ _) | (with_reducible refine Kd.C_drewN ?_ _) | (with_reducible refine Kd.C_drew ?_))); (case side4 => exact (Kd.R_reads' HO216.out).2.1); rintro e w' ⟨rfl, ⟨nd, rfl⟩⟩))
            go_meet
            case rel => exact ⟨_, (true), (by first | rfl | (simp; done) | (simp [*]; done)), H', ⟨by first | omega | exact Nat.le_refl _⟩, ⟨by (with_reducible repeat (first | apply Kd.R_alloc | apply Kd.R_drewN | apply Kd.R_drew)); exact Kd.R_mono HO223.out (fun _ hk => trivial)⟩, ⟨by repeat (first | (with_reducible first | exact HB.out | apply below_alloc | apply pw_below_drewN | apply below_drew1) | exact HB.out)⟩⟩
        · replace c19 := Bool.eq_false_iff.mpr c19
          subst c19
          have H1 : (verditerlaw02_judgeLeft.j0 k a0 l1 a2 t220 t221 true) = some r := by rw [if_neg (show ¬ (false = true) by decide)] at H; exact H
          clear H
          have H := H1
          clear H1
          have H' := Aside0.mk H
          clear H
          obtain ⟨Ao28, co28, eo28⟩ := Kd.R_slice HO223.out
          subst eo28
          obtain ⟨Ao29, co29, eo29⟩ := Kd.R_slice HO216.out
          subst eo29
          go_wp2_with (first | (go_at_call 53; (with_reducible refine (verditerref02_SameInts.calls k _ _ t220 _ _ t213 false _ ?side1 ?side2 ?side3 ?side4 A18.out).mono ?_); (case side1 => repeat (first | exact (Kd.R_reads' HO223.out).2.2 | (with_reducible refine Kd.C_alloc ?_ _) | (with_reducible refine Kd.C_drewN ?_ _) | (with_reducible refine Kd.C_drew ?_))); (case side2 => exact (Kd.R_reads' HO223.out).2.1); (case side3 => repeat (first | exact (Kd.R_reads' HO216.out).2.2 | (with_reducible refine Kd.C_alloc ?_ _) | (with_reducible refine Kd.C_drewN ?_ _) | (with_reducible refine Kd.C_drew ?_))); (case side4 => exact (Kd.R_reads' HO216.out).2.1); rintro e w' ⟨rfl, ⟨nd, rfl⟩⟩))
          go_meet
          case rel => exact ⟨_, (true), (by first | rfl | (simp; done) | (simp [*]; done)), H', ⟨by first | omega | exact Nat.le_refl _⟩, ⟨by (with_reducible repeat (first | apply Kd.R_alloc | apply Kd.R_drewN | apply Kd.R_drew)); exact Kd.R_mono HO223.out (fun _ hk => trivial)⟩, ⟨by repeat (first | (with_reducible first | exact HB.out | apply below_alloc | apply pw_below_drewN | apply below_drew1) | exact HB.out)⟩⟩
      · rw [if_neg c17] at H
        have c17b0 : (t221 == t214) = false := beq_eq_false_iff_ne.mpr c17
        have c17b1 : (t221 != t214) = true := bne_iff_ne.mpr c17
        (first | rw [c17b0] | (simp only [i64_w, i32_w]; rw [c17b0]) | skip)
        have H' := Aside0.mk H
        clear H
        go_wp2
        go_meet
        case rel => exact ⟨_, (true), (by first | rfl | (simp; done) | (simp [*]; done)), H', ⟨by first | omega | exact Nat.le_refl _⟩, ⟨by (with_reducible repeat (first | apply Kd.R_alloc | apply Kd.R_drewN | apply Kd.R_drew)); exact Kd.R_mono HO223.out (fun _ hk => trivial)⟩, ⟨by repeat (first | (with_reducible first | exact HB.out | apply below_alloc | apply pw_below_drewN | apply below_drew1) | exact HB.out)⟩⟩
    case rest =>
      clear HC12
      try clear c1
      try clear c2
      try clear p2
      try clear c4
      try clear c5
      try clear c17
      try clear c17b0
      try clear c17b1
      try clear c19
      try clear c20
      try clear c20b0
      try clear c20b1
      try clear c21
      try clear c21b0
      try clear c21b1
      try clear c21b2
      try clear c26
      obtain ⟨kq, x74_11, rfl, HA, HJ11, HO_12, HB⟩ := hcut
      cases kq with
      | zero => exact absurd HA.out (by simp [verditerlaw02_judgeLeft.j0])
      | succ kj11 =>
        have H := HA.out
        clear HA
        simp only [verditerlaw02_judgeLeft.j0] at H
        by_cases c30 : x74_11 = true
        · subst c30
          have H1 : (some false) = some r := by rw [if_pos rfl] at H; exact H
          clear H
          have H := H1
          clear H1
          obtain rfl := Option.some.inj H
          go_wp2
          go_ret
          exact ⟨by first | rfl | (simp [errW_none, errW_some] <;> rfl) | (simp [*, errW_none, errW_some] <;> rfl), by repeat (first | (with_reducible first | exact HB.out | apply below_alloc | apply pw_below_drewN | apply below_drew1) | exact HB.out)⟩
        · replace c30 := Bool.eq_false_iff.mpr c30
          subst c30
          have H1 : (if t221 = 0 then (verditerlaw02_judgeLeft.j1 kj11 a0 l1 a2 t220 (decide (a2 ≥ 12))) else (verditerlaw02_judgeLeft.j1 kj11 a0 l1 a2 t220 true)) = some r := by rw [if_neg (show ¬ (false = true) by decide)] at H; exact H
          clear H
          have H := H1
          clear H1
          have HC31 := Aside0.mk H
          clear H
          go_upto_region 9 with (fail)
          go_cut [80] (fun v80 wc => ∃ (kq : Nat) (x80_30 : Bool), v80 = .bool x80_30 ∧ Aside0 (verditerlaw02_judgeLeft.j1 kq a0 l1 a2 t220 x80_30 = some r) ∧ Aside0 (kq ≤ kj11) ∧ Aside0 (Kd.R (Kd.int .i64) 3 wc w.heap.size (fun _ => True) v222 t220) ∧ Aside0 (Below w.heap.size w wc))
          case first =>
            have H := HC31.out
            clear HC31
            by_cases c32 : t221 = 0
            · rw [if_pos c32] at H
              have c32b0 : (t221 == 0) = true := beq_iff_eq.mpr c32
              have c32b1 : (t221 != 0) = false := bne_eq_false_iff_eq.mpr c32
              clear c32
              (first | rw [c32b0] | (simp only [i64_w, i32_w]; rw [c32b0]) | skip)
              have H' := Aside0.mk H
              clear H
              go_wp2
              go_meet
              case rel => exact ⟨_, (decide (a2 ≥ 12)), (by first | rfl | (simp; done) | (simp [*]; done)), H', ⟨by have := HJ11.out; first | omega | exact Nat.le_refl _⟩, ⟨by (with_reducible repeat (first | apply Kd.R_alloc | apply Kd.R_drewN | apply Kd.R_drew)); exact HO_12.out⟩, ⟨by repeat (first | (with_reducible first | exact HB.out | apply below_alloc | apply pw_below_drewN | apply below_drew1) | exact HB.out)⟩⟩
            · rw [if_neg c32] at H
              have c32b0 : (t221 == 0) = false := beq_eq_false_iff_ne.mpr c32
              have c32b1 : (t221 != 0) = true := bne_iff_ne.mpr c32
              (first | rw [c32b0] | (simp only [i64_w, i32_w]; rw [c32b0]) | skip)
              have H' := Aside0.mk H
              clear H
              go_wp2
              go_meet
              case rel => exact ⟨_, (true), (by first | rfl | (simp; done) | (simp [*]; done)), H', ⟨by have := HJ11.out; first | omega | exact Nat.le_refl _⟩, ⟨by (with_reducible repeat (first | apply Kd.R_alloc | apply Kd.R_drewN | apply Kd.R_drew)); exact HO_12.out⟩, ⟨by repeat (first | (with_reducible first | exact HB.out | apply below_alloc | apply pw_below_drewN | apply below_drew1) | exact HB.out)⟩⟩
          case rest =>
            clear HC31
            try clear c1
            try clear c2
            try clear p2
            try clear c3
            try clear c4
            try clear c5
            try clear c17
            try clear c17b0
            try clear c17b1
            try clear c19
            try clear c20
            try clear c20b0
            try clear c20b1
            try clear c21
            try clear c21b0
            try clear c21b1
            try clear c21b2
            try clear c26
            try clear c30
            try clear c32
            try clear c32b0
            try clear c32b1
            try clear p2
            obtain ⟨kq, x80_30, rfl, HA, HJ30, HO_12, HB⟩ := hcut
            cases kq with
            | zero => exact absurd HA.out (by simp [verditerlaw02_judgeLeft.j1])
            | succ kj30 =>
              have H := HA.out
              clear HA
              simp only [verditerlaw02_judgeLeft.j1] at H
              by_cases c33 : x80_30 = true
              · subst c33
                have H1 : ((verditerlaw02_known.f kj30).bind fun t228 => (some t228)) = some r := by rw [if_pos rfl] at H; exact H
                clear H
                have H := H1
                clear H1
                replace H := Option.bind_eq_some_iff.mp H
                obtain ⟨t228, A340, H⟩ := H
                replace H : (some t228) = some r := H
                have A34 := Aside0.mk A340
                clear A340
                obtain rfl := Option.some.inj H
                go_wp2_with (first | ((with_reducible refine gate_callee (f := 20) rfl ?_); refine goesL_ (some 81) rfl rfl Try.func20 (by kernel_rfl) rfl #[] rfl (by (try simp only [List.map_toArray, List.map_cons, List.map_nil]); first | done | rfl | (simp only [List.length_drop, List.length_take]; rfl)) ?_; (with_reducible refine (verditerlaw02_known.calls kj30  t228 _ A34.out).mono ?_); rintro e w35 ⟨rfl, hb⟩; refine ⟨_, rfl, ?_⟩; have n0_ := Aside0.mk (Kd.R_below (by (with_reducible repeat (first | apply Kd.R_alloc | apply Kd.R_drewN | apply Kd.R_drew)); exact HO_12.out) hb); have n1_ := Aside0.mk (below_step (by repeat (first | (with_reducible first | exact HB.out | apply below_alloc | apply pw_below_drewN | apply below_drew1) | exact HB.out)) hb); clear HO_12; clear HB; have HO_12 := n0_; have HB := n1_; clear n0_ n1_; (try clear hb); (try clear hb2); (try clear hk); (try clear hi)))
                go_ret
                exact ⟨by first | rfl | (simp [errW_none, errW_some] <;> rfl) | (simp [*, errW_none, errW_some] <;> rfl), by repeat (first | (with_reducible first | exact HB.out | apply below_alloc | apply pw_below_drewN | apply below_drew1) | exact HB.out)⟩
              · replace c33 := Bool.eq_false_iff.mpr c33
                subst c33
                have H1 : ((judge_Left.f kj30 a0 l1 (wrap64 (a2 + 1))).bind fun bt229 => (verditerlaw02_judgeLeft.l0 kj30 t220 bt229.1 bt229.2 0)) = some r := by rw [if_neg (show ¬ (false = true) by decide)] at H; exact H
                clear H
                have H := H1
                clear H1
                replace H := Option.bind_eq_some_iff.mp H
                obtain ⟨⟨t229, t230⟩, A360, H⟩ := H
                replace H : (verditerlaw02_judgeLeft.l0 kj30 t220 t229 t230 0) = some r := H
                have A36 := Aside0.mk A360
                clear A360
                have H' := Aside0.mk H
                clear H
                go_wp2_with (first | ((with_reducible refine gate_callee (f := 58) rfl ?_); refine goesL_ (some 87) rfl rfl Try.func58 (by kernel_rfl) rfl #[.int .i64 a0, .slice A1 l1.length c1, .int .i64 (wrap64 (a2 + 1))] rfl (by (try simp only [List.map_toArray, List.map_cons, List.map_nil]); first | done | rfl | (simp only [List.length_drop, List.length_take]; rfl)) ?_; (with_reducible refine (judge_Left.calls kj30 a0 _ _ l1 (wrap64 (a2 + 1)) t229 t230 _ ?side1 ?side2 A36.out).mono ?_); (case side1 => repeat (first | exact (Kd.C_below HR1.out HB.out) | (with_reducible refine Kd.C_alloc ?_ _) | (with_reducible refine Kd.C_drewN ?_ _) | (with_reducible refine Kd.C_drew ?_))); (case side2 => exact HC1.out); rintro e w37 ⟨v231, rfl, ho0, hb⟩; refine ⟨_, rfl, ?_⟩; have n0_ := Aside0.mk (Kd.R_elder' (by (with_reducible repeat (first | apply Kd.R_alloc | apply Kd.R_drewN | apply Kd.R_drew)); exact HO_12.out) (Kd.R_base ho0) hb); have n1_ := Aside0.mk (Kd.R_lower (Kd.R_new' ho0 (Kd.R_lt (by (with_reducible repeat (first | apply Kd.R_alloc | apply Kd.R_drewN | apply Kd.R_drew)); exact HO_12.out))) (below_size (by repeat (first | (with_reducible first | exact HB.out | apply below_alloc | apply pw_below_drewN | apply below_drew1) | exact HB.out)))); have n2_ := Aside0.mk (below_step (by repeat (first | (with_reducible first | exact HB.out | apply below_alloc | apply pw_below_drewN | apply below_drew1) | exact HB.out)) hb); clear HO_12; clear HB; have HO_12 := n0_; have HO232 := n1_; have HB := n2_; clear n0_ n1_ n2_; (try clear hb); (try clear hb2); (try clear hk); (try clear hi); (try clear ho0)))
                go_loopg [19] kj30 (fun kq v19 w' => ∃ (x19_3 : Int), v19 = .int .i64 x19_3 ∧ Aside0 (verditerlaw02_judgeLeft.l0 kq t220 t229 t230 x19_3 = some r) ∧ Aside0 (kq ≤ kj30) ∧ Aside0 (Kd.R (Kd.int .i64) 3 w' w.heap.size (fun k_ => some k_ ≠ (v231 : Value).ownBlock) v222 t220) ∧ Aside0 (Kd.R (Kd.int .i64) 3 w' w.heap.size (fun k_ => some k_ ≠ (v222 : Value).ownBlock) v231 t229) ∧ Aside0 (Below w.heap.size w w'))
                case atStart => exact ⟨(0), (by first | rfl | (simp; done) | (simp [*]; done)), H', ⟨Nat.le_refl _⟩, ⟨by (with_reducible repeat (first | apply Kd.R_alloc | apply Kd.R_drewN | apply Kd.R_drew)); exact Kd.R_mono HO_12.out (fun _ hk => hk.2)⟩, ⟨by (with_reducible repeat (first | apply Kd.R_alloc | apply Kd.R_drewN | apply Kd.R_drew)); exact Kd.R_mono HO232.out (fun _ hk => hk.2)⟩, ⟨by repeat (first | (with_reducible first | exact HB.out | apply below_alloc | apply pw_below_drewN | apply below_drew1) | exact HB.out)⟩⟩
                case round =>
                  clear H'
                  try clear c1
                  try clear c2
                  try clear p2
                  try clear c3
                  try clear c4
                  try clear c5
                  try clear p6
                  try clear c17
                  try clear c17b0
                  try clear c17b1
                  try clear c19
                  try clear c20
                  try clear c20b0
                  try clear c20b1
                  try clear c21
                  try clear c21b0
                  try clear c21b1
                  try clear c21b2
                  try clear c26
                  try clear c30
                  try clear c32
                  try clear c32b0
                  try clear c32b1
                  try clear c33
                  try clear p2
                  obtain ⟨x19_3, rfl, HA, HK3, HO_12, HO_17, HB⟩ := hrel
                  cases gk with
                  | zero => exact absurd HA.out (by simp [verditerlaw02_judgeLeft.l0])
                  | succ k3 =>
                    have H := HA.out
                    clear HA
                    simp only [verditerlaw02_judgeLeft.l0] at H
                    by_cases c38 : x19_3 < (t220.length : Int)
                    · rw [if_pos c38] at H
                      have c38b0 : decide (x19_3 < (t220.length : Int)) = true := decide_eq_true c38
                      clear c38
                      by_cases c39 : 0 ≤ x19_3
                      · rw [if_pos c39] at H
                        have c39b0 : decide (0 ≤ x19_3) = true := decide_eq_true c39
                        clear c39
                        replace H := Option.bind_eq_some_iff.mp H
                        obtain ⟨t234, A400, H⟩ := H
                        replace H : (if t234 = true then (verditerlaw02_judgeLeft.l0 k3 t220 t229 t230 (wrap64 (x19_3 + 1))) else (some false)) = some r := H
                        have A40 := Aside0.mk A400
                        clear A400
                        by_cases c41 : t234 = true
                        · subst c41
                          have H1 : (verditerlaw02_judgeLeft.l0 k3 t220 t229 t230 (wrap64 (x19_3 + 1))) = some r := by rw [if_pos rfl] at H; exact H
                          clear H
                          have H := H1
                          clear H1
                          have H' := Aside0.mk H
                          clear H
                          obtain ⟨Ao42, co42, eo42⟩ := Kd.R_slice HO_12.out
                          subst eo42
                          have p233 : 0 ≤ (x19_3 : Int) := of_decide_eq_true (by first | (with_reducible assumption) | assumption)
                          have q233 : x19_3 < (t220.length : Int) := of_decide_eq_true (by first | (with_reducible assumption) | assumption)
                          obtain ⟨ad233, e233, hx233_0⟩ := Kd.at_int (Kd.R_reads' HO_12.out).2.2 x19_3 p233 q233
                          cases e233
                          replace p233 := eq_true p233
                          replace q233 := eq_true q233
                          obtain ⟨Ao43, co43, eo43⟩ := Kd.R_slice HO_17.out
                          subst eo43
                          go_wp2_with (first | ((with_reducible refine gate_callee (f := 59) rfl ?_); refine goesL_ (some 101) rfl rfl Try.func59 (by kernel_rfl) rfl #[.slice Ao43 t229.length co43, .int .i64 (rd t220 x19_3)] rfl (by (try simp only [List.map_toArray, List.map_cons, List.map_nil]); first | done | rfl | (simp only [List.length_drop, List.length_take]; rfl)) ?_; (with_reducible refine (verditerref02_Has.calls k3 _ _ t229 (rd t220 x19_3) true _ ?side1 ?side2 A40.out).mono ?_); (case side1 => repeat (first | exact (Kd.R_reads' HO_17.out).2.2 | (with_reducible refine Kd.C_alloc ?_ _) | (with_reducible refine Kd.C_drewN ?_ _) | (with_reducible refine Kd.C_drew ?_))); (case side2 => exact (Kd.R_reads' HO_17.out).2.1); rintro e w' ⟨rfl, ⟨nd, rfl⟩⟩; refine ⟨_, rfl, ?_⟩))
                          go_roundg k3
                          case measure => have := HJ11.out; have := HJ30.out; have := HK3.out; omega
                          case rel => exact ⟨(wrap64 (x19_3 + 1)), (by first | rfl | (simp; done) | (simp [*]; done)), H', ⟨by have := HJ11.out; have := HJ30.out; have := HK3.out; omega⟩, ⟨by (with_reducible repeat (first | apply Kd.R_alloc | apply Kd.R_drewN | apply Kd.R_drew)); exact HO_12.out⟩, ⟨by (with_reducible repeat (first | apply Kd.R_alloc | apply Kd.R_drewN | apply Kd.R_drew)); exact HO_17.out⟩, ⟨by repeat (first | (with_reducible first | exact HB.out | apply below_alloc | apply pw_below_drewN | apply below_drew1) | exact HB.out)⟩⟩
                        · replace c41 := Bool.eq_false_iff.mpr c41
                          subst c41
                          have H1 : (some false) = some r := by rw [if_neg (show ¬ (false = true) by decide)] at H; exact H
                          clear H
                          have H := H1
                          clear H1
                          obtain rfl := Option.some.inj H
                          obtain ⟨Ao44, co44, eo44⟩ := Kd.R_slice HO_12.out
                          subst eo44
                          have p233 : 0 ≤ (x19_3 : Int) := of_decide_eq_true (by first | (with_reducible assumption) | assumption)
                          have q233 : x19_3 < (t220.length : Int) := of_decide_eq_true (by first | (with_reducible assumption) | assumption)
                          obtain ⟨ad233, e233, hx233_0⟩ := Kd.at_int (Kd.R_reads' HO_12.out).2.2 x19_3 p233 q233
                          cases e233
                          replace p233 := eq_true p233
                          replace q233 := eq_true q233
                          obtain ⟨Ao45, co45, eo45⟩ := Kd.R_slice HO_17.out
                          subst eo45
                          go_wp2_with (first | ((with_reducible refine gate_callee (f := 59) rfl ?_); refine goesL_ (some 101) rfl rfl Try.func59 (by kernel_rfl) rfl #[.slice Ao45 t229.length co45, .int .i64 (rd t220 x19_3)] rfl (by (try simp only [List.map_toArray, List.map_cons, List.map_nil]); first | done | rfl | (simp only [List.length_drop, List.length_take]; rfl)) ?_; (with_reducible refine (verditerref02_Has.calls k3 _ _ t229 (rd t220 x19_3) false _ ?side1 ?side2 A40.out).mono ?_); (case side1 => repeat (first | exact (Kd.R_reads' HO_17.out).2.2 | (with_reducible refine Kd.C_alloc ?_ _) | (with_reducible refine Kd.C_drewN ?_ _) | (with_reducible refine Kd.C_drew ?_))); (case side2 => exact (Kd.R_reads' HO_17.out).2.1); rintro e w' ⟨rfl, ⟨nd, rfl⟩⟩; refine ⟨_, rfl, ?_⟩))
                          go_ret
                          exact ⟨by first | rfl | (simp [errW_none, errW_some] <;> rfl) | (simp [*, errW_none, errW_some] <;> rfl), by repeat (first | (with_reducible first | exact HB.out | apply below_alloc | apply pw_below_drewN | apply below_drew1) | exact HB.out)⟩
                      · rw [if_neg c39] at H
                        exact absurd H (by simp)
                    · rw [if_neg c38] at H
                      have c38b0 : decide (x19_3 < (t220.length : Int)) = false := decide_eq_false c38
                      clear c38
                      by_cases c46 : t230 = 0
                      · rw [if_pos c46] at H
                        have c46b0 : (t230 == 0) = true := beq_iff_eq.mpr c46
                        have c46b1 : (t230 != 0) = false := bne_eq_false_iff_eq.mpr c46
                        clear c46
                        replace H := Option.bind_eq_some_iff.mp H
                        obtain ⟨t235, A470, H⟩ := H
                        replace H : (some t235) = some r := H
                        have A47 := Aside0.mk A470
                        clear A470
                        obtain rfl := Option.some.inj H
                        obtain ⟨Ao48, co48, eo48⟩ := Kd.R_slice HO_12.out
                        subst eo48
                        go_wp2_with (first | (go_at_call 20; (with_reducible refine (verditerlaw02_known.calls k3  t235 _ A47.out).mono ?_); rintro e w49 ⟨rfl, hb⟩; have n0_ := Aside0.mk (Kd.R_below (by (with_reducible repeat (first | apply Kd.R_alloc | apply Kd.R_drewN | apply Kd.R_drew)); exact HO_12.out) hb); have n1_ := Aside0.mk (Kd.R_below (by (with_reducible repeat (first | apply Kd.R_alloc | apply Kd.R_drewN | apply Kd.R_drew)); exact HO_17.out) hb); have n2_ := Aside0.mk (below_step (by repeat (first | (with_reducible first | exact HB.out | apply below_alloc | apply pw_below_drewN | apply below_drew1) | exact HB.out)) hb); clear HO_12; clear HO_17; clear HB; have HO_12 := n0_; have HO_17 := n1_; have HB := n2_; clear n0_ n1_ n2_; (try clear hb); (try clear hb2); (try clear hk); (try clear hi)))
                        go_ret
                        exact ⟨by first | rfl | (simp [errW_none, errW_some] <;> rfl) | (simp [*, errW_none, errW_some] <;> rfl), by repeat (first | (with_reducible first | exact HB.out | apply below_alloc | apply pw_below_drewN | apply below_drew1) | exact HB.out)⟩
                      · rw [if_neg c46] at H
                        have c46b0 : (t230 == 0) = false := beq_eq_false_iff_ne.mpr c46
                        have c46b1 : (t230 != 0) = true := bne_iff_ne.mpr c46
                        obtain rfl := Option.some.inj H
                        obtain ⟨Ao50, co50, eo50⟩ := Kd.R_slice HO_12.out
                        subst eo50
                        go_wp2
                        go_ret
                        exact ⟨by first | rfl | (simp [errW_none, errW_some] <;> rfl) | (simp [*, errW_none, errW_some] <;> rfl), by repeat (first | (with_reducible first | exact HB.out | apply below_alloc | apply pw_below_drewN | apply below_drew1) | exact HB.out)⟩

end Go.Proofs.Ytfejfljgdeglgaa.K
