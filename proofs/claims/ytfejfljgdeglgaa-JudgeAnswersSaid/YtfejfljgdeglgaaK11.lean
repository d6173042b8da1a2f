/- DERIVED by wip/pr.py: for each Go function named below a Lean function with the same answers, and that a call of it comes to these answers, for all arguments and memories, where the Lean function has an answer. -/
import Derived.Test.YtfejfljgdeglgaaK0
import Derived.Test.YtfejfljgdeglgaaK2
import Derived.Test.YtfejfljgdeglgaaK3
import Derived.Test.YtfejfljgdeglgaaK5
import Derived.Test.YtfejfljgdeglgaaK7
import Derived.Test.YtfejfljgdeglgaaK9
namespace Go.Proofs.Ytfejfljgdeglgaa.K
open Go.RowKit Go.Proofs.YtfejfljgdeglgaaW.PrintWords Go.Proofs.YtfejfljgdeglgaaW.PrintLast Go.Proofs.YtfejfljgdeglgaaW.PrintMore
attribute [local go_sem] max2_int min2_int max_two min_two max_three min_three max_four min_four   -- for this text's walks alone
set_option linter.unusedVariables false
set_option linter.unusedSimpArgs false

/-! ### verditerlaw02_judgeAnswers: function 37 -/
mutual
def verditerlaw02_judgeAnswers.j0 : Nat → Int → List (S49) → Bool → List Int → Bool → Option (Bool)
  | 0, _, _, _, _, _ => none
  | k + 1, x0, x1, x31, x293000, x293001 => if x31 = true then ((verditerlaw02_known.f k).bind fun t294 => (some t294)) else ((verditerref02_Copy.f k x1).bind fun t295 => ((some (([(⟨x293000, x293001⟩ : S49)] : List (S49)) : List (S49))).bind fun y298 => (if t295.length + y298.length < 4398046511104 then ((judge_State.f k x0 x1).bind fun bt304 => ((judge_State.f k x0 (t295 ++ y298)).bind fun bt307 => (if bt304.2.2 = 0 then (verditerlaw02_judgeAnswers.j1 k x0 x1 bt304.1 bt304.2.1 bt307.1 bt307.2.1 (bt307.2.2 != 0) x293000 x293001) else (verditerlaw02_judgeAnswers.j1 k x0 x1 bt304.1 bt304.2.1 bt307.1 bt307.2.1 true x293000 x293001)))) else (none))))
def verditerlaw02_judgeAnswers.j1 : Nat → Int → List (S49) → Int → Int → Int → Int → Bool → List Int → Bool → Option (Bool)
  | 0, _, _, _, _, _, _, _, _, _ => none
  | k + 1, x0, x1, x8, x9, x11, x12, x57, x293000, x293001 => if x57 = true then ((verditerlaw02_known.f k).bind fun t310 => (some t310)) else ((judge_Left.f k x0 x1 0).bind fun bt311 => ((judge_Left.f k x0 x1 1).bind fun bt315 => (if bt311.2 = 0 then (verditerlaw02_judgeAnswers.j2 k x8 x9 x11 x12 bt311.1 bt315.1 (bt315.2 != 0) x293000 x293001) else (verditerlaw02_judgeAnswers.j2 k x8 x9 x11 x12 bt311.1 bt315.1 true x293000 x293001))))
def verditerlaw02_judgeAnswers.j2 : Nat → Int → Int → Int → Int → List Int → List Int → Bool → List Int → Bool → Option (Bool)
  | 0, _, _, _, _, _, _, _, _, _ => none
  | k + 1, x8, x9, x11, x12, x14, x16, x76, x293000, x293001 => if x76 = true then (some false) else (verditerlaw02_judgeAnswers.l0 k x8 x9 x11 x12 x14 x16 0 0 0 x293000 x293001)
def verditerlaw02_judgeAnswers.l0 : Nat → Int → Int → Int → Int → List Int → List Int → Int → Int → Int → List Int → Bool → Option (Bool)
  | 0, _, _, _, _, _, _, _, _, _, _, _ => none
  | k + 1, x8, x9, x11, x12, x14, x16, x18, x19, x20, x293000, x293001 => if x20 < (x16.length : Int) then (if 0 ≤ x20 then ((verditerref02_Has.f k x293000 (rd x16 x20)).bind fun t324 => (if t324 = true then ((verditerref02_Has.f k x14 (rd x16 x20)).bind fun t326 => (if t326 = true then (verditerlaw02_judgeAnswers.l0 k x8 x9 x11 x12 x14 x16 (wrap64 (x18 + 1)) x19 (wrap64 (x20 + 1)) x293000 x293001) else (verditerlaw02_judgeAnswers.l0 k x8 x9 x11 x12 x14 x16 x18 (wrap64 (x19 + 1)) (wrap64 (x20 + 1)) x293000 x293001))) else (verditerlaw02_judgeAnswers.l0 k x8 x9 x11 x12 x14 x16 x18 x19 (wrap64 (x20 + 1)) x293000 x293001))) else (none)) else ((judge_After.f x8 x9 x18 x19 x293001).bind fun bt319 => (if bt319.2.2 = 0 then (if bt319.1 = x11 then (if bt319.2.1 = x12 then ((verditerlaw02_known.f k).bind fun t322 => (some t322)) else (some false)) else (some false)) else (some false)))
end
def verditerlaw02_judgeAnswers.f (k : Nat) (a0 : Int) (l1 : List (S49)) (l2_0 : List Int) (a2_1 : Bool) : Option (Bool) := (verditerlaw02_Long.f k l1).bind fun t293 => (if t293 = true then (verditerlaw02_judgeAnswers.j0 k a0 l1 true l2_0 a2_1) else (verditerlaw02_judgeAnswers.j0 k a0 l1 (decide ((l2_0.length : Int) > 100)) l2_0 a2_1))
theorem verditerlaw02_judgeAnswers.mono_l : ∀ k, (∀ y0 y1 y2 y3 y4, LeO (verditerlaw02_judgeAnswers.j0 k y0 y1 y2 y3 y4) (verditerlaw02_judgeAnswers.j0 (k + 1) y0 y1 y2 y3 y4)) ∧ (∀ y0 y1 y2 y3 y4 y5 y6 y7 y8, LeO (verditerlaw02_judgeAnswers.j1 k y0 y1 y2 y3 y4 y5 y6 y7 y8) (verditerlaw02_judgeAnswers.j1 (k + 1) y0 y1 y2 y3 y4 y5 y6 y7 y8)) ∧ (∀ y0 y1 y2 y3 y4 y5 y6 y7 y8, LeO (verditerlaw02_judgeAnswers.j2 k y0 y1 y2 y3 y4 y5 y6 y7 y8) (verditerlaw02_judgeAnswers.j2 (k + 1) y0 y1 y2 y3 y4 y5 y6 y7 y8)) ∧ (∀ y0 y1 y2 y3 y4 y5 y6 y7 y8 y9 y10, LeO (verditerlaw02_judgeAnswers.l0 k y0 y1 y2 y3 y4 y5 y6 y7 y8 y9 y10) (verditerlaw02_judgeAnswers.l0 (k + 1) y0 y1 y2 y3 y4 y5 y6 y7 y8 y9 y10))
  | 0 => ⟨fun _ _ _ _ _ r h => by simp [verditerlaw02_judgeAnswers.j0] at h, fun _ _ _ _ _ _ _ _ _ r h => by simp [verditerlaw02_judgeAnswers.j1] at h, fun _ _ _ _ _ _ _ _ _ r h => by simp [verditerlaw02_judgeAnswers.j2] at h, fun _ _ _ _ _ _ _ _ _ _ _ r h => by simp [verditerlaw02_judgeAnswers.l0] at h⟩
  | k + 1 => by
    obtain ⟨ih0, ih1, ih2, ih3⟩ := verditerlaw02_judgeAnswers.mono_l k
    refine ⟨?_, ?_, ?_, ?_⟩
    · intro y0 y1 y2 y3 y4
      unfold verditerlaw02_judgeAnswers.j0
      repeat' first
      | (with_reducible exact ih0 _ _ _ _ _)
      | (with_reducible exact ih1 _ _ _ _ _ _ _ _ _)
      | (with_reducible exact ih2 _ _ _ _ _ _ _ _ _)
      | (with_reducible exact ih3 _ _ _ _ _ _ _ _ _ _ _)
      | (with_reducible exact judge_Left.mono _ _ _ _)
      | (with_reducible exact judge_State.mono _ _ _)
      | (with_reducible exact verditerlaw02_Long.mono _ _)
      | (with_reducible exact verditerlaw02_known.mono _)
      | (with_reducible exact verditerref02_Copy.mono _ _)
      | (with_reducible exact verditerref02_Has.mono _ _ _)
      | (with_reducible exact LeO.refl _)
      | (with_reducible exact LeO.none _)
      | (with_reducible refine LeO.ite ?_ ?_)
      | (with_reducible refine LeO.bind ?_ (fun _ => ?_))
      | exact ih0 _ _ _ _ _
      | exact ih1 _ _ _ _ _ _ _ _ _
      | exact ih2 _ _ _ _ _ _ _ _ _
      | exact ih3 _ _ _ _ _ _ _ _ _ _ _
      | exact judge_Left.mono _ _ _ _
      | exact judge_State.mono _ _ _
      | exact verditerlaw02_Long.mono _ _
      | exact verditerlaw02_known.mono _
      | exact verditerref02_Copy.mono _ _
      | exact verditerref02_Has.mono _ _ _
      | exact LeO.none _
      | refine LeO.ite ?_ ?_
      | refine LeO.bind ?_ (fun _ => ?_)
    · intro y0 y1 y2 y3 y4 y5 y6 y7 y8
      unfold verditerlaw02_judgeAnswers.j1
      repeat' first
      | (with_reducible exact ih0 _ _ _ _ _)
      | (with_reducible exact ih1 _ _ _ _ _ _ _ _ _)
      | (with_reducible exact ih2 _ _ _ _ _ _ _ _ _)
      | (with_reducible exact ih3 _ _ _ _ _ _ _ _ _ _ _)
      | (with_reducible exact judge_Left.mono _ _ _ _)
      | (with_reducible exact judge_State.mono _ _ _)
      | (with_reducible exact verditerlaw02_Long.mono _ _)
      | (with_reducible exact verditerlaw02_known.mono _)
      | (with_reducible exact verditerref02_Copy.mono _ _)
      | (with_reducible exact verditerref02_Has.mono _ _ _)
      | (with_reducible exact LeO.refl _)
      | (with_reducible exact LeO.none _)
      | (with_reducible refine LeO.ite ?_ ?_)
      | (with_reducible refine LeO.bind ?_ (fun _ => ?_))
      | exact ih0 _ _ _ _ _
      | exact ih1 _ _ _ _ _ _ _ _ _
      | exact ih2 _ _ _ _ _ _ _ _ _
      | exact ih3 _ _ _ _ _ _ _ _ _ _ _
      | exact judge_Left.mono _ _ _ _
      | exact judge_State.mono _ _ _
      | exact verditerlaw02_Long.mono _ _
      | exact verditerlaw02_known.mono _
      | exact verditerref02_Copy.mono _ _
      | exact verditerref02_Has.mono _ _ _
      | exact LeO.none _
      | refine LeO.ite ?_ ?_
      | refine LeO.bind ?_ (fun _ => ?_)
    · intro y0 y1 y2 y3 y4 y5 y6 y7 y8
      unfold verditerlaw02_judgeAnswers.j2
      repeat' first
      | (with_reducible exact ih0 _ _ _ _ _)
      | (with_reducible exact ih1 _ _ _ _ _ _ _ _ _)
      | (with_reducible exact ih2 _ _ _ _ _ _ _ _ _)
      | (with_reducible exact ih3 _ _ _ _ _ _ _ _ _ _ _)
      | (with_reducible exact judge_Left.mono _ _ _ _)
      | (with_reducible exact judge_State.mono _ _ _)
      | (with_reducible exact verditerlaw02_Long.mono _ _)
      | (with_reducible exact verditerlaw02_known.mono _)
      | (with_reducible exact verditerref02_Copy.mono _ _)
      | (with_reducible exact verditerref02_Has.mono _ _ _)
      | (with_reducible exact LeO.refl _)
      | (with_reducible exact LeO.none _)
      | (with_reducible refine LeO.ite ?_ ?_)
      | (with_reducible refine LeO.bind ?_ (fun _ => ?_))
      | exact ih0 _ _ _ _ _
      | exact ih1 _ _ _ _ _ _ _ _ _
      | exact ih2 _ _ _ _ _ _ _ _ _
      | exact ih3 _ _ _ _ _ _ _ _ _ _ _
      | exact judge_Left.mono _ _ _ _
      | exact judge_State.mono _ _ _
      | exact verditerlaw02_Long.mono _ _
      | exact verditerlaw02_known.mono _
      | exact verditerref02_Copy.mono _ _
      | exact verditerref02_Has.mono _ _ _
      | exact LeO.none _
      | refine LeO.ite ?_ ?_
      | refine LeO.bind ?_ (fun _ => ?_)
    · intro y0 y1 y2 y3 y4 y5 y6 y7 y8 y9 y10
      unfold verditerlaw02_judgeAnswers.l0
      repeat' first
      | (with_reducible exact ih0 _ _ _ _ _)
      | (with_reducible exact ih1 _ _ _ _ _ _ _ _ _)
      | (with_reducible exact ih2 _ _ _ _ _ _ _ _ _)
      | (with_reducible exact ih3 _ _ _ _ _ _ _ _ _ _ _)
      | (with_reducible exact judge_Left.mono _ _ _ _)
      | (with_reducible exact judge_State.mono _ _ _)
      | (with_reducible exact verditerlaw02_Long.mono _ _)
      | (with_reducible exact verditerlaw02_known.mono _)
      | (with_reducible exact verditerref02_Copy.mono _ _)
      | (with_reducible exact verditerref02_Has.mono _ _ _)
      | (with_reducible exact LeO.refl _)
      | (with_reducible exact LeO.none _)
      | (with_reducible refine LeO.ite ?_ ?_)
      | (with_reducible refine LeO.bind ?_ (fun _ => ?_))
      | exact ih0 _ _ _ _ _
      | exact ih1 _ _ _ _ _ _ _ _ _
      | exact ih2 _ _ _ _ _ _ _ _ _
      | exact ih3 _ _ _ _ _ _ _ _ _ _ _
      | exact judge_Left.mono _ _ _ _
      | exact judge_State.mono _ _ _
      | exact verditerlaw02_Long.mono _ _
      | exact verditerlaw02_known.mono _
      | exact verditerref02_Copy.mono _ _
      | exact verditerref02_Has.mono _ _ _
      | exact LeO.none _
      | refine LeO.ite ?_ ?_
      | refine LeO.bind ?_ (fun _ => ?_)
theorem verditerlaw02_judgeAnswers.mono : ∀ a0 a1 a2 a3 k, LeO (verditerlaw02_judgeAnswers.f k a0 a1 a2 a3) (verditerlaw02_judgeAnswers.f (k + 1) a0 a1 a2 a3) := by
  intro a0 a1 a2 a3 k
  obtain ⟨ih0, ih1, ih2, ih3⟩ := verditerlaw02_judgeAnswers.mono_l k
  unfold verditerlaw02_judgeAnswers.f
  repeat' first
      | (with_reducible exact ih0 _ _ _ _ _)
      | (with_reducible exact ih1 _ _ _ _ _ _ _ _ _)
      | (with_reducible exact ih2 _ _ _ _ _ _ _ _ _)
      | (with_reducible exact ih3 _ _ _ _ _ _ _ _ _ _ _)
      | (with_reducible exact judge_Left.mono _ _ _ _)
      | (with_reducible exact judge_State.mono _ _ _)
      | (with_reducible exact verditerlaw02_Long.mono _ _)
      | (with_reducible exact verditerlaw02_known.mono _)
      | (with_reducible exact verditerref02_Copy.mono _ _)
      | (with_reducible exact verditerref02_Has.mono _ _ _)
      | (with_reducible exact LeO.refl _)
      | (with_reducible exact LeO.none _)
      | (with_reducible refine LeO.ite ?_ ?_)
      | (with_reducible refine LeO.bind ?_ (fun _ => ?_))
      | exact ih0 _ _ _ _ _
      | exact ih1 _ _ _ _ _ _ _ _ _
      | exact ih2 _ _ _ _ _ _ _ _ _
      | exact ih3 _ _ _ _ _ _ _ _ _ _ _
      | exact judge_Left.mono _ _ _ _
      | exact judge_State.mono _ _ _
      | exact verditerlaw02_Long.mono _ _
      | exact verditerlaw02_known.mono _
      | exact verditerref02_Copy.mono _ _
      | exact verditerref02_Has.mono _ _ _
      | exact LeO.none _
      | refine LeO.ite ?_ ?_
      | refine LeO.bind ?_ (fun _ => ?_)
def verditerlaw02_judgeAnswers.T16 : Bool × List (List Nat × List Nat) := (true, [([], []), ([0], [0]), ([], []), ([], []), ([2, 3], [2, 3]), ([4], [4]), ([1, 5], [1, 5]), ([6], [6])])
def verditerlaw02_judgeAnswers.B16 : List Nat := [0, 1, 0, 0, 12, 28, 63, 127]
theorem verditerlaw02_judgeAnswers.tab16 : rtab .any (opsOf Try.f37 16) = verditerlaw02_judgeAnswers.T16 := by kernel_rfl
theorem verditerlaw02_judgeAnswers.bits16 : waitsOk verditerlaw02_judgeAnswers.T16.2 verditerlaw02_judgeAnswers.B16 = true := by kernel_rfl
set_option maxHeartbeats 8000000 in
set_option maxRecDepth 100000 in
theorem verditerlaw02_judgeAnswers.calls (k : Nat) (a0 : Int) (A1 : Option Addr) (c1 : Nat) (l1 : List (S49)) (P2_0_ : Nat → Prop) (A2_0 : Option Addr) (c2_0 : Nat) (l2_0 : List Int) (a2_1 : Bool) (r : Bool) (w : World) (hr1 : Kd.C k49 w A1 l1.length l1) (hc1 : l1.length ≤ c1) (hs2_0 : Kd.V (Kd.int .i64) 3 w w.heap.size (fun k_ => P2_0_ k_) (.slice A2_0 l2_0.length c2_0) l2_0) (h : verditerlaw02_judgeAnswers.f k a0 l1 l2_0 a2_1 = some r) :
    Calls Try.prog 37 #[.int .i64 a0, .slice A1 l1.length c1, .agg #[.slice A2_0 l2_0.length c2_0, .bool a2_1]] w fun e w' => e = .returned (.bool r) ∧ Below w.heap.size w w' := by
  have hu49 := Try.underlying49
  have HR1 := Aside0.mk hr1
  have HC1 := Aside0.mk hc1
  clear hr1 hc1
  have HO2_0 := Aside0.mk (show Kd.V (Kd.int .i64) 3 w w.heap.size (fun k_ => (P2_0_ k_ ∨ w.heap.size ≤ k_)) (.slice A2_0 l2_0.length c2_0) l2_0 from Kd.V_mono hs2_0 (fun k_ hk => .inl hk))
  have HB := Aside0.mk (Below.refl w.heap.size w)
  have H : ((verditerlaw02_Long.f k l1).bind fun t293 => (if t293 = true then (verditerlaw02_judgeAnswers.j0 k a0 l1 true l2_0 a2_1) else (verditerlaw02_judgeAnswers.j0 k a0 l1 (decide ((l2_0.length : Int) > 100)) l2_0 a2_1))) = some r := h
  clear h
  have HC4 := Aside0.mk H
  clear H
  go_enter Try.func37, Try.ntmps37
  go_upto_region 1 with (first | ((with_reducible refine gate_dst (N := 5) rfl ?_); (try (refine gate_guard (by rfl) ?_; dsimp only)); refine box_event ?hg (N := 5) ?hd (cs := #[.slice A2_0 l2_0.length c2_0, .bool a2_1]) (t := 49) ?hr ?_; (case hd => rfl); (case hg => rfl); (case hr => first | (go_simp; done) | (go_simp; rfl)); intro gb292 hg w5 hbox hb; have n0_ := Aside0.mk (Kd.V_below (Kd.V_elderB (by (with_reducible repeat (first | apply Kd.V_alloc | apply Kd.V_drewN | apply Kd.V_drew)); exact HO2_0.out) gb292 (Nat.le_of_eq hg.symm)) hb); have n1_ := Aside0.mk (below_step (by repeat (first | (with_reducible first | exact HB.out | apply below_alloc | apply pw_below_drewN | apply below_drew1) | exact HB.out)) hb); have n2_ := Aside0.mk (hbox); have n3_ := Aside0.mk ((by rw [hg]; exact (below_size (by repeat (first | (with_reducible first | exact HB.out | apply below_alloc | apply pw_below_drewN | apply below_drew1) | exact HB.out))) : w.heap.size ≤ gb292)); have n4_ := Aside0.mk ((by rw [hg]; exact (below_size (by repeat (first | (with_reducible first | exact HB.out | apply below_alloc | apply pw_below_drewN | apply below_drew1) | exact HB.out))) : w.heap.size ≤ gb292)); clear HO2_0; clear HB; have HO2_0 := n0_; have HB := n1_; have BK292 := n2_; have GW292 := n3_; have GE292 := n4_; clear n0_ n1_ n2_ n3_ n4_; clear hb hbox hg))
  (try simp only [Act.put, List.setIfInBounds_toArray, List.set_cons_zero, List.set_cons_succ])
  go_cut [31] (fun v31 wc => ∃ (kq : Nat) (x31_3 : Bool), v31 = .bool x31_3 ∧ Aside0 (verditerlaw02_judgeAnswers.j0 kq a0 l1 x31_3 l2_0 a2_1 = some r) ∧ Aside0 (kq ≤ k) ∧ Aside0 (Kd.V (Kd.int .i64) 3 wc w.heap.size (fun k_ => (P2_0_ k_ ∨ w.heap.size ≤ k_) ∧ k_ ≠ gb292) (.slice A2_0 l2_0.length c2_0) l2_0) ∧ Aside0 (wc.heap[gb292]? = some (.cells #[(.slice A2_0 l2_0.length c2_0), .bool a2_1] 49 (0, 0))) ∧ Aside0 (Below w.heap.size w wc))
  case first =>
    have H := HC4.out
    clear HC4
    replace H := Option.bind_eq_some_iff.mp H
    obtain ⟨t293, A60, H⟩ := H
    replace H : (if t293 = true then (verditerlaw02_judgeAnswers.j0 k a0 l1 true l2_0 a2_1) else (verditerlaw02_judgeAnswers.j0 k a0 l1 (decide ((l2_0.length : Int) > 100)) l2_0 a2_1)) = some r := H
    have A6 := Aside0.mk A60
    clear A60
    by_cases c7 : t293 = true
    · subst c7
      have H1 : (verditerlaw02_judgeAnswers.j0 k a0 l1 true l2_0 a2_1) = some r := by rw [if_pos rfl] at H; exact H
      clear H
      have H := H1
      clear H1
      have H' := Aside0.mk H
      clear H
      go_wp2_with (first | ((with_reducible refine gate_callee (f := 48) rfl ?_); refine goesL_ (some 25) rfl rfl Try.func48 (by kernel_rfl) rfl #[.slice A1 l1.length c1] rfl (by (try simp only [List.map_toArray, List.map_cons, List.map_nil]); first | done | rfl | (simp only [List.length_drop, List.length_take]; rfl)) ?_; (with_reducible refine (verditerlaw02_Long.calls k _ _ l1 true _ ?side1 ?side2 A6.out).mono ?_); (case side1 => repeat (first | exact (Kd.C_below HR1.out HB.out) | (with_reducible refine Kd.C_alloc ?_ _) | (with_reducible refine Kd.C_drewN ?_ _) | (with_reducible refine Kd.C_drew ?_))); (case side2 => exact HC1.out); rintro e w' ⟨rfl, ⟨nd, rfl⟩⟩; refine ⟨_, rfl, ?_⟩))
      go_meet
      case rel => exact ⟨_, (true), (by first | rfl | (simp; done) | (simp [*]; done)), H', ⟨by first | omega | exact Nat.le_refl _⟩, ⟨by (with_reducible repeat (first | apply Kd.V_alloc | apply Kd.V_drewN | apply Kd.V_drew)); exact HO2_0.out⟩, ⟨by (with_reducible repeat (first | refine blk_drewN ?_ _ | refine blk_drew ?_ | refine blk_alloc ?_ _)); exact BK292.out⟩, ⟨by repeat (first | (with_reducible first | exact HB.out | apply below_alloc | apply pw_below_drewN | apply below_drew1 | refine below_set ?_ GE292.out) | exact HB.out)⟩⟩
    · replace c7 := Bool.eq_false_iff.mpr c7
      subst c7
      have H1 : (verditerlaw02_judgeAnswers.j0 k a0 l1 (decide ((l2_0.length : Int) > 100)) l2_0 a2_1) = some r := by rw [if_neg (show ¬ (false = true) by decide)] at H; exact H
      clear H
      have H := H1
      clear H1
      have H' := Aside0.mk H
      clear H
      go_wp2_with (first | ((with_reducible refine gate_callee (f := 48) rfl ?_); refine goesL_ (some 25) rfl rfl Try.func48 (by kernel_rfl) rfl #[.slice A1 l1.length c1] rfl (by (try simp only [List.map_toArray, List.map_cons, List.map_nil]); first | done | rfl | (simp only [List.length_drop, List.length_take]; rfl)) ?_; (with_reducible refine (verditerlaw02_Long.calls k _ _ l1 false _ ?side1 ?side2 A6.out).mono ?_); (case side1 => repeat (first | exact (Kd.C_below HR1.out HB.out) | (with_reducible refine Kd.C_alloc ?_ _) | (with_reducible refine Kd.C_drewN ?_ _) | (with_reducible refine Kd.C_drew ?_))); (case side2 => exact HC1.out); rintro e w' ⟨rfl, ⟨nd, rfl⟩⟩; refine ⟨_, rfl, ?_⟩; have hcz8_0 : w5.cell? ⟨gb292, 0, none⟩ = some (.slice A2_0 l2_0.length c2_0) := (blk_cell BK292.out 0).trans rfl; have hcz8_1 : w5.cell? ⟨gb292, 1, none⟩ = some (.bool a2_1) := (blk_cell BK292.out 1).trans rfl; have hfz8_0 := blk_frozen BK292.out 0; have hfz8_1 := blk_frozen BK292.out 1))
      go_meet
      case rel => exact ⟨_, (decide ((l2_0.length : Int) > 100)), (by first | rfl | (simp; done) | (simp [*]; done)), H', ⟨by first | omega | exact Nat.le_refl _⟩, ⟨by (with_reducible repeat (first | apply Kd.V_alloc | apply Kd.V_drewN | apply Kd.V_drew)); exact HO2_0.out⟩, ⟨by (with_reducible repeat (first | refine blk_drewN ?_ _ | refine blk_drew ?_ | refine blk_alloc ?_ _)); exact BK292.out⟩, ⟨by repeat (first | (with_reducible first | exact HB.out | apply below_alloc | apply pw_below_drewN | apply below_drew1 | refine below_set ?_ GE292.out) | exact HB.out)⟩⟩
  case rest =>
    clear HC4
    try clear c1
    try clear c2
    try clear p2
    try clear c3
    try clear c4
    try clear c7
    try clear hcz8_0
    try clear hcz8_1
    try clear hfz8_0
    try clear hfz8_1
    obtain ⟨kq, x31_3, rfl, HA, HJ3, HO_293000, BK292, HB⟩ := hcut
    cases kq with
    | zero => exact absurd HA.out (by simp [verditerlaw02_judgeAnswers.j0])
    | succ kj3 =>
      have H := HA.out
      clear HA
      simp only [verditerlaw02_judgeAnswers.j0] at H
      by_cases c9 : x31_3 = true
      · subst c9
        have H1 : ((verditerlaw02_known.f kj3).bind fun t294 => (some t294)) = some r := by rw [if_pos rfl] at H; exact H
        clear H
        have H := H1
        clear H1
        replace H := Option.bind_eq_some_iff.mp H
        obtain ⟨t294, A100, H⟩ := H
        replace H : (some t294) = some r := H
        have A10 := Aside0.mk A100
        clear A100
        obtain rfl := Option.some.inj H
        go_wp2_with (first | ((with_reducible refine gate_callee (f := 20) rfl ?_); refine goesL_ (some 32) rfl rfl Try.func20 (by kernel_rfl) rfl #[] rfl (by (try simp only [List.map_toArray, List.map_cons, List.map_nil]); first | done | rfl | (simp only [List.length_drop, List.length_take]; rfl)) ?_; (with_reducible refine (verditerlaw02_known.calls kj3  t294 _ A10.out).mono ?_); rintro e w11 ⟨rfl, hb⟩; refine ⟨_, rfl, ?_⟩; have n0_ := Aside0.mk (Kd.V_below (by (with_reducible repeat (first | apply Kd.V_alloc | apply Kd.V_drewN | apply Kd.V_drew)); exact HO_293000.out) hb); have n1_ := Aside0.mk (blk_below (g := gb292) (o := .cells #[.slice A2_0 l2_0.length c2_0, .bool a2_1] 49 (0, 0)) (by (with_reducible repeat (first | refine blk_drewN ?_ _ | refine blk_drew ?_ | refine blk_alloc ?_ _)); exact BK292.out) hb); have n2_ := Aside0.mk (below_step (by repeat (first | (with_reducible first | exact HB.out | apply below_alloc | apply pw_below_drewN | apply below_drew1 | refine below_set ?_ GE292.out) | exact HB.out)) hb); clear HO_293000; clear BK292; clear HB; have HO_293000 := n0_; have BK292 := n1_; have HB := n2_; clear n0_ n1_ n2_; (try clear hb); (try clear hb2); (try clear hk); (try clear hi)))
        go_ret
        exact ⟨by first | rfl | (simp [errW_none, errW_some] <;> rfl) | (simp [*, errW_none, errW_some] <;> rfl), by repeat (first | (with_reducible first | exact HB.out | apply below_alloc | apply pw_below_drewN | apply below_drew1 | refine below_set ?_ GE292.out) | exact HB.out)⟩
      · replace c9 := Bool.eq_false_iff.mpr c9
        subst c9
        have H1 : ((verditerref02_Copy.f kj3 l1).bind fun t295 => ((some (([(⟨l2_0, a2_1⟩ : S49)] : List (S49)) : List (S49))).bind fun y298 => (if t295.length + y298.length < 4398046511104 then ((judge_State.f kj3 a0 l1).bind fun bt304 => ((judge_State.f kj3 a0 (t295 ++ y298)).bind fun bt307 => (if bt304.2.2 = 0 then (verditerlaw02_judgeAnswers.j1 kj3 a0 l1 bt304.1 bt304.2.1 bt307.1 bt307.2.1 (bt307.2.2 != 0) l2_0 a2_1) else (verditerlaw02_judgeAnswers.j1 kj3 a0 l1 bt304.1 bt304.2.1 bt307.1 bt307.2.1 true l2_0 a2_1)))) else (none)))) = some r := by rw [if_neg (show ¬ (false = true) by decide)] at H; exact H
        clear H
        have H := H1
        clear H1
        replace H := Option.bind_eq_some_iff.mp H
        obtain ⟨t295, A120, H⟩ := H
        replace H : ((some (([(⟨l2_0, a2_1⟩ : S49)] : List (S49)) : List (S49))).bind fun y298 => (if t295.length + y298.length < 4398046511104 then ((judge_State.f kj3 a0 l1).bind fun bt304 => ((judge_State.f kj3 a0 (t295 ++ y298)).bind fun bt307 => (if bt304.2.2 = 0 then (verditerlaw02_judgeAnswers.j1 kj3 a0 l1 bt304.1 bt304.2.1 bt307.1 bt307.2.1 (bt307.2.2 != 0) l2_0 a2_1) else (verditerlaw02_judgeAnswers.j1 kj3 a0 l1 bt304.1 bt304.2.1 bt307.1 bt307.2.1 true l2_0 a2_1)))) else (none))) = some r := H
        have A12 := Aside0.mk A120
        clear A120
        obtain ⟨y298, hy298⟩ : ∃ y_ : List (S49), y_ = (([(⟨l2_0, a2_1⟩ : S49)] : List (S49))) := ⟨_, rfl⟩
        replace H : (if t295.length + y298.length < 4398046511104 then ((judge_State.f kj3 a0 l1).bind fun bt304 => ((judge_State.f kj3 a0 (t295 ++ y298)).bind fun bt307 => (if bt304.2.2 = 0 then (verditerlaw02_judgeAnswers.j1 kj3 a0 l1 bt304.1 bt304.2.1 bt307.1 bt307.2.1 (bt307.2.2 != 0) l2_0 a2_1) else (verditerlaw02_judgeAnswers.j1 kj3 a0 l1 bt304.1 bt304.2.1 bt307.1 bt307.2.1 true l2_0 a2_1)))) else (none)) = some r := by first | (rw [hy298]; with_reducible exact H) | (have H2_ := (Option.bind_some _ _).symm.trans H; rw [hy298]; with_reducible exact H2_) | (have H2_ := (Option.bind_some _ _).symm.trans H; with_reducible exact H2_) | with_reducible exact H | (rw [hy298]; exact H) | exact H
        have Ny298 := Aside0.mk hy298
        clear hy298
        by_cases c13 : t295.length + y298.length < 4398046511104
        · rw [if_pos c13] at H
          have LMc13 := Aside0.mk c13
          clear c13
          obtain ⟨y301, hy301⟩ : ∃ y_ : List (S49), y_ = (t295 ++ y298) := ⟨_, rfl⟩
          replace H : ((judge_State.f kj3 a0 l1).bind fun bt304 => ((judge_State.f kj3 a0 y301).bind fun bt307 => (if bt304.2.2 = 0 then (verditerlaw02_judgeAnswers.j1 kj3 a0 l1 bt304.1 bt304.2.1 bt307.1 bt307.2.1 (bt307.2.2 != 0) l2_0 a2_1) else (verditerlaw02_judgeAnswers.j1 kj3 a0 l1 bt304.1 bt304.2.1 bt307.1 bt307.2.1 true l2_0 a2_1)))) = some r := by first | (rw [hy301]; with_reducible exact H) | (have H2_ := (Option.bind_some _ _).symm.trans H; rw [hy301]; with_reducible exact H2_) | (have H2_ := (Option.bind_some _ _).symm.trans H; with_reducible exact H2_) | with_reducible exact H | (rw [hy301]; exact H) | exact H
          have Ny301 := Aside0.mk hy301
          clear hy301
          replace H := Option.bind_eq_some_iff.mp H
          obtain ⟨⟨t304, t305, t306⟩, A140, H⟩ := H
          replace H : ((judge_State.f kj3 a0 y301).bind fun bt307 => (if t306 = 0 then (verditerlaw02_judgeAnswers.j1 kj3 a0 l1 t304 t305 bt307.1 bt307.2.1 (bt307.2.2 != 0) l2_0 a2_1) else (verditerlaw02_judgeAnswers.j1 kj3 a0 l1 t304 t305 bt307.1 bt307.2.1 true l2_0 a2_1))) = some r := H
          have A14 := Aside0.mk A140
          clear A140
          replace H := Option.bind_eq_some_iff.mp H
          obtain ⟨⟨t307, t308, t309⟩, A150, H⟩ := H
          replace H : (if t306 = 0 then (verditerlaw02_judgeAnswers.j1 kj3 a0 l1 t304 t305 t307 t308 (t309 != 0) l2_0 a2_1) else (verditerlaw02_judgeAnswers.j1 kj3 a0 l1 t304 t305 t307 t308 true l2_0 a2_1)) = some r := H
          have A15 := Aside0.mk A150
          clear A150
          have HC16 := Aside0.mk H
          clear H
          try go_wp2
          have n0_ := Aside0.mk (Kd.V_drew HO_293000.out)
          have n1_ := Aside0.mk (blk_drew BK292.out)
          have n2_ := Aside0.mk (below_drew1 HB.out)
          clear HO_293000
          clear BK292
          clear HB
          have HO_293000 := n0_
          have BK292 := n1_
          have HB := n2_
          clear n0_ n1_ n2_
          refine start_ (n := 6) (S := fun w' => w'.cell? ⟨gb292, 0, none⟩ = some (.slice A2_0 l2_0.length c2_0) ∧ w'.cell? ⟨gb292, 1, none⟩ = some (.bool a2_1)) (ds := []) #[false, false, false, false, false, false] (by kernel_rfl) rfl rfl ⟨(blk_cell BK292.out 0).trans rfl, (blk_cell BK292.out 1).trans rfl⟩ (fun hHeld => ?_)
          generalize wc.drew = w17 at HO_293000 BK292 HB hHeld ⊢
          refine pure_ (i := 0) (N := some 33) (v := ?_) (a' := ?_) #[true, false, false, false, false, false] rfl rfl (by kernel_rfl) (fun _ _ _ h => h) (Or.inl ⟨by rfl, ?_⟩) ?_ ?_
          rotate_left
          · intro w'
            go_simp
            with_reducible rfl
          rotate_left
          · simp only [Act.put, List.setIfInBounds_toArray, List.set_cons_zero, List.set_cons_succ, i64_w, i32_w]
            rfl
          refine take_ (i := 2) (N := some 35) (v := ?_) (a' := ?_) #[true, false, true, false, false, false] rfl rfl (by kernel_rfl) (fun _ _ _ h => h) (Or.inl ⟨by rfl, ?_⟩) hHeld ?_ ?_
          rotate_left
          · rintro w' ⟨s0, s1⟩
            go_simp
            with_reducible rfl
          rotate_left
          · simp only [Act.put, List.setIfInBounds_toArray, List.set_cons_zero, List.set_cons_succ, i64_w, i32_w]
            rfl
          refine join_ (σ := Value × Value) 2 #[true, true, true, true, false, false] (fun s_ => [(34, s_.1), (36, s_.2)]) (fun s_ w' => (w'.cell? ⟨gb292, 0, none⟩ = some (.slice A2_0 l2_0.length c2_0) ∧ w'.cell? ⟨gb292, 1, none⟩ = some (.bool a2_1)) ∧ (Kd.N k49 49 w' w.heap.size (fun k_ => (P2_0_ k_ ∨ w.heap.size ≤ k_) ∧ some k_ ≠ (s_.2 : Value).ownBlock ∧ k_ ≠ gb292) s_.1 t295) ∧ (Kd.N k49 49 w' w.heap.size (fun k_ => (P2_0_ k_ ∨ w.heap.size ≤ k_) ∧ some k_ ≠ (s_.1 : Value).ownBlock ∧ k_ ≠ gb292) s_.2 y298) ∧ (Kd.V (Kd.int .i64) 3 w' w.heap.size (fun k_ => (P2_0_ k_ ∨ w.heap.size ≤ k_) ∧ some k_ ≠ (s_.1 : Value).ownBlock ∧ some k_ ≠ (s_.2 : Value).ownBlock ∧ k_ ≠ gb292) (.slice A2_0 l2_0.length c2_0) l2_0) ∧ (w'.heap[gb292]? = some (.cells #[.slice A2_0 l2_0.length c2_0, .bool a2_1] 49 (0, 0))) ∧ (Below w.heap.size w w')) ?_ ?_
          rotate_left
          · intro hCont
            refine two_ (i := 1) (j := 3) (Ni := some 34) (Nj := some 36) #[true, true, true, false, false, false] #[true, false, true, true, false, false] rfl rfl rfl rfl (by kernel_rfl) (by decide) (by decide) (fun K hK => ?_) (fun K hK => ?_)
            · skip
              refine goes_ Try.func67 (by kernel_rfl) rfl #[.slice A1 l1.length c1] (by rfl) rfl rfl (by (try simp only [List.map_toArray, List.map_cons, List.map_nil]); first | done | rfl | (simp only [List.length_drop, List.length_take]; rfl)) ?_
              with_reducible refine (verditerref02_Copy.calls kj3 _ _ l1 t295 _ ?side1 ?side2 A12.out).mono ?_
              (case side1 => repeat (first | exact (Kd.C_below HR1.out HB.out) | (with_reducible refine Kd.C_alloc ?_ _) | (with_reducible refine Kd.C_drewN ?_ _) | (with_reducible refine Kd.C_drew ?_)))
              (case side2 => exact HC1.out)
              rintro e w18 ⟨v296, rfl, ho0, hb⟩
              refine ⟨_, rfl, ?_⟩
              have n0_ := Aside0.mk (Kd.V_elder' (by (with_reducible repeat (first | apply Kd.V_alloc | apply Kd.V_drewN | apply Kd.V_drew)); exact HO_293000.out) (Kd.S_base ho0) hb)
              have n1_ := Aside0.mk (Kd.N_lower (Kd.N_mono (ok' := fun k_ => (P2_0_ k_ ∨ w.heap.size ≤ k_) ∧ k_ ≠ gb292) (Kd.S_N (Kd.S_bound ho0)) (fun k_ hk_ => ⟨(.inr (Nat.le_trans (below_size (by repeat (first | (with_reducible first | exact HB.out | apply below_alloc | apply pw_below_drewN | apply below_drew1 | refine below_set ?_ GE292.out) | exact HB.out))) hk_.2.1)), (Kd.freshB (g := gb292) (o := .cells #[.slice A2_0 l2_0.length c2_0, .bool a2_1] 49 (0, 0)) (by (with_reducible repeat (first | refine blk_drewN ?_ _ | refine blk_drew ?_ | refine blk_alloc ?_ _)); exact BK292.out) k_ hk_.2.1)⟩)) (below_size (by repeat (first | (with_reducible first | exact HB.out | apply below_alloc | apply pw_below_drewN | apply below_drew1 | refine below_set ?_ GE292.out) | exact HB.out))))
              have n2_ := Aside0.mk (blk_below (g := gb292) (o := .cells #[.slice A2_0 l2_0.length c2_0, .bool a2_1] 49 (0, 0)) (by (with_reducible repeat (first | refine blk_drewN ?_ _ | refine blk_drew ?_ | refine blk_alloc ?_ _)); exact BK292.out) hb)
              have n3_ := Aside0.mk (below_step (by repeat (first | (with_reducible first | exact HB.out | apply below_alloc | apply pw_below_drewN | apply below_drew1 | refine below_set ?_ GE292.out) | exact HB.out)) hb)
              clear HO_293000
              clear BK292
              clear HB
              have HO_293000 := n0_
              have HO297 := n1_
              have BK292 := n2_
              have HB := n3_
              clear n0_ n1_ n2_ n3_
              (try clear hb)
              (try clear hb2)
              (try clear hk)
              (try clear hi)
              (try clear ho0)
              refine hK.out _ _ ⟨(blk_cell BK292.out 0).trans rfl, (blk_cell BK292.out 1).trans rfl⟩ (fun hHeld => ?_)
              clear hK K
              refine norm_ (a' := ?_) ?_ ?_
              rotate_left
              · show Act.put _ (some 34) _ = _
                simp only [Act.put, List.setIfInBounds_toArray, List.set_cons_zero, List.set_cons_succ, i64_w, i32_w]
                rfl
              refine one_ (i := 3) (N := some 36) #[true, true, true, true, false, false] rfl rfl (by kernel_rfl) (by decide) (fun K hK => ?_)
              refine Kd.N_lit_step k49 _ 49 ?hg (N' := 36) ?hd (xs := ([(⟨l2_0, a2_1⟩ : S49)] : List (S49))) (inner := [.slice A2_0 l2_0.length c2_0, .bool a2_1]) (ok := (fun k_ => (P2_0_ k_ ∨ w.heap.size ≤ k_) ∧ some k_ ≠ (v296 : Value).ownBlock ∧ k_ ≠ gb292)) (okp := (fun k_ => (P2_0_ k_ ∨ w.heap.size ≤ k_) ∧ some k_ ≠ (v296 : Value).ownBlock ∧ k_ ≠ gb292)) ?hr ?hp (fun _ hk => hk) ((show ∀ k_, w18.heap.size ≤ k_ → (fun k_ => (P2_0_ k_ ∨ w.heap.size ≤ k_) ∧ some k_ ≠ (v296 : Value).ownBlock ∧ k_ ≠ gb292) k_ from fun k_ hk => ⟨(.inr (Nat.le_trans (below_size (by repeat (first | (with_reducible first | exact HB.out | apply below_alloc | apply pw_below_drewN | apply below_drew1 | refine below_set ?_ GE292.out) | exact HB.out))) hk)), Kd.fresh' (Kd.N_lt (by (with_reducible repeat (first | apply Kd.N_alloc | apply Kd.N_drewN | apply Kd.N_drew)); exact HO297.out)) k_ hk, Kd.freshB (g := gb292) (o := .cells #[.slice A2_0 l2_0.length c2_0, .bool a2_1] 49 (0, 0)) (by (with_reducible repeat (first | refine blk_drewN ?_ _ | refine blk_drew ?_ | refine blk_alloc ?_ _)); exact BK292.out) k_ hk⟩) _ (Nat.le_refl _)) (Below.refl _ _) (Nat.le_refl _) (by simp) ?_; (case hd => rfl); (case hg => rfl); (case hr => first | (go_simp; done) | (go_simp; rfl)); (case hp => exact (Reps.c2 (show Kd.FK k49 _ _ (⟨l2_0, a2_1⟩ : S49) [.slice A2_0 l2_0.length c2_0, .bool a2_1] from (k49_mkF _ _ (⟨l2_0, a2_1⟩ : S49) (Kd.V_reads' (Kd.V_mono (ok' := (fun k_ => (P2_0_ k_ ∨ w.heap.size ≤ k_) ∧ some k_ ≠ (v296 : Value).ownBlock ∧ k_ ≠ gb292)) (HO_293000.out) (fun k_ hk => ⟨hk.1.1, ⟨hk.2, hk.1.2⟩⟩))).2.1 (Kd.V_F (Kd.V_mono (ok' := (fun k_ => (P2_0_ k_ ∨ w.heap.size ≤ k_) ∧ some k_ ≠ (v296 : Value).ownBlock ∧ k_ ≠ gb292)) (HO_293000.out) (fun k_ hk => ⟨hk.1.1, ⟨hk.2, hk.1.2⟩⟩))))) (Reps.none _ _)))
              intro v299 w19 ho20 hb hg_ hnew_
              clear hg_ hnew_
              (first | rw [← Ny298.out] at ho20 | (simp only [Int.reduceToNat] at ho20; rw [← Ny298.out] at ho20))
              have n0_ := Aside0.mk (Kd.V_elder' (by (with_reducible repeat (first | apply Kd.V_alloc | apply Kd.V_drewN | apply Kd.V_drew)); exact HO_293000.out) (Kd.N_base ho20) hb)
              have n1_ := Aside0.mk (Kd.N_elder' (by (with_reducible repeat (first | apply Kd.N_alloc | apply Kd.N_drewN | apply Kd.N_drew)); exact HO297.out) (Kd.N_base ho20) hb)
              have n2_ := Aside0.mk (Kd.N_lower ho20 (below_size (by repeat (first | (with_reducible first | exact HB.out | apply below_alloc | apply pw_below_drewN | apply below_drew1 | refine below_set ?_ GE292.out) | exact HB.out))))
              have n3_ := Aside0.mk (blk_below (g := gb292) (o := .cells #[.slice A2_0 l2_0.length c2_0, .bool a2_1] 49 (0, 0)) (by (with_reducible repeat (first | refine blk_drewN ?_ _ | refine blk_drew ?_ | refine blk_alloc ?_ _)); exact BK292.out) hb)
              have n4_ := Aside0.mk (below_step (by repeat (first | (with_reducible first | exact HB.out | apply below_alloc | apply pw_below_drewN | apply below_drew1 | refine below_set ?_ GE292.out) | exact HB.out)) hb)
              clear HO_293000
              clear HO297
              clear BK292
              clear HB
              have HO_293000 := n0_
              have HO297 := n1_
              have HO300 := n2_
              have BK292 := n3_
              have HB := n4_
              clear n0_ n1_ n2_ n3_ n4_
              clear hb ho20
              refine hK.out _ _ ⟨(blk_cell BK292.out 0).trans rfl, (blk_cell BK292.out 1).trans rfl⟩ (fun hHeld => ?_)
              clear hK K
              refine norm_ (a' := ?_) ?_ ?_
              rotate_left
              · show Act.put _ (some 36) _ = _
                simp only [Act.put, List.setIfInBounds_toArray, List.set_cons_zero, List.set_cons_succ, i64_w, i32_w]
                rfl
              exact norm_ (by simp only [putAll, Act.put, List.setIfInBounds_toArray, List.set_cons_zero, List.set_cons_succ]) (hCont (v296, v299) _ ⟨hHeld, (by (with_reducible repeat (first | apply Kd.N_alloc | apply Kd.N_drewN | apply Kd.N_drew)); exact Kd.N_mono HO297.out (fun _ hk => ⟨hk.1.1, ⟨hk.2, hk.1.2⟩⟩)), (by (with_reducible repeat (first | apply Kd.N_alloc | apply Kd.N_drewN | apply Kd.N_drew)); exact HO300.out), (by (with_reducible repeat (first | apply Kd.V_alloc | apply Kd.V_drewN | apply Kd.V_drew)); exact Kd.V_mono HO_293000.out (fun _ hk => ⟨hk.1.1.1, ⟨hk.1.2, ⟨hk.2, hk.1.1.2⟩⟩⟩)), (by (with_reducible repeat (first | refine blk_drewN ?_ _ | refine blk_drew ?_ | refine blk_alloc ?_ _)); exact BK292.out), (by repeat (first | (with_reducible first | exact HB.out | apply below_alloc | apply pw_below_drewN | apply below_drew1 | refine below_set ?_ GE292.out) | exact HB.out))⟩)
            · skip
              refine Kd.N_lit_step k49 _ 49 ?hg (N' := 36) ?hd (xs := ([(⟨l2_0, a2_1⟩ : S49)] : List (S49))) (inner := [.slice A2_0 l2_0.length c2_0, .bool a2_1]) (ok := (fun k_ => (P2_0_ k_ ∨ w.heap.size ≤ k_) ∧ k_ ≠ gb292)) (okp := (fun k_ => (P2_0_ k_ ∨ w.heap.size ≤ k_) ∧ k_ ≠ gb292)) ?hr ?hp (fun _ hk => hk) ((show ∀ k_, w17.heap.size ≤ k_ → (fun k_ => (P2_0_ k_ ∨ w.heap.size ≤ k_) ∧ k_ ≠ gb292) k_ from fun k_ hk => ⟨(.inr (Nat.le_trans (below_size (by repeat (first | (with_reducible first | exact HB.out | apply below_alloc | apply pw_below_drewN | apply below_drew1 | refine below_set ?_ GE292.out) | exact HB.out))) hk)), Kd.freshB (g := gb292) (o := .cells #[.slice A2_0 l2_0.length c2_0, .bool a2_1] 49 (0, 0)) (by (with_reducible repeat (first | refine blk_drewN ?_ _ | refine blk_drew ?_ | refine blk_alloc ?_ _)); exact BK292.out) k_ hk⟩) _ (Nat.le_refl _)) (Below.refl _ _) (Nat.le_refl _) (by simp) ?_; (case hd => rfl); (case hg => rfl); (case hr => first | (go_simp; done) | (go_simp; rfl)); (case hp => exact (Reps.c2 (show Kd.FK k49 _ _ (⟨l2_0, a2_1⟩ : S49) [.slice A2_0 l2_0.length c2_0, .bool a2_1] from (k49_mkF _ _ (⟨l2_0, a2_1⟩ : S49) (Kd.V_reads' (Kd.V_mono (ok' := (fun k_ => (P2_0_ k_ ∨ w.heap.size ≤ k_) ∧ k_ ≠ gb292)) (HO_293000.out) (fun k_ hk => ⟨hk.1, hk.2⟩))).2.1 (Kd.V_F (Kd.V_mono (ok' := (fun k_ => (P2_0_ k_ ∨ w.heap.size ≤ k_) ∧ k_ ≠ gb292)) (HO_293000.out) (fun k_ hk => ⟨hk.1, hk.2⟩))))) (Reps.none _ _)))
              intro v299 w18 ho19 hb hg_ hnew_
              clear hg_ hnew_
              (first | rw [← Ny298.out] at ho19 | (simp only [Int.reduceToNat] at ho19; rw [← Ny298.out] at ho19))
              have n0_ := Aside0.mk (Kd.V_elder' (by (with_reducible repeat (first | apply Kd.V_alloc | apply Kd.V_drewN | apply Kd.V_drew)); exact HO_293000.out) (Kd.N_base ho19) hb)
              have n1_ := Aside0.mk (Kd.N_lower ho19 (below_size (by repeat (first | (with_reducible first | exact HB.out | apply below_alloc | apply pw_below_drewN | apply below_drew1 | refine below_set ?_ GE292.out) | exact HB.out))))
              have n2_ := Aside0.mk (blk_below (g := gb292) (o := .cells #[.slice A2_0 l2_0.length c2_0, .bool a2_1] 49 (0, 0)) (by (with_reducible repeat (first | refine blk_drewN ?_ _ | refine blk_drew ?_ | refine blk_alloc ?_ _)); exact BK292.out) hb)
              have n3_ := Aside0.mk (below_step (by repeat (first | (with_reducible first | exact HB.out | apply below_alloc | apply pw_below_drewN | apply below_drew1 | refine below_set ?_ GE292.out) | exact HB.out)) hb)
              clear HO_293000
              clear BK292
              clear HB
              have HO_293000 := n0_
              have HO300 := n1_
              have BK292 := n2_
              have HB := n3_
              clear n0_ n1_ n2_ n3_
              clear hb ho19
              refine hK.out _ _ ⟨(blk_cell BK292.out 0).trans rfl, (blk_cell BK292.out 1).trans rfl⟩ (fun hHeld => ?_)
              clear hK K
              refine norm_ (a' := ?_) ?_ ?_
              rotate_left
              · show Act.put _ (some 36) _ = _
                simp only [Act.put, List.setIfInBounds_toArray, List.set_cons_zero, List.set_cons_succ, i64_w, i32_w]
                rfl
              refine one_ (i := 1) (N := some 34) #[true, true, true, true, false, false] rfl rfl (by kernel_rfl) (by decide) (fun K hK => ?_)
              refine goes_ Try.func67 (by kernel_rfl) rfl #[.slice A1 l1.length c1] (by rfl) rfl rfl (by (try simp only [List.map_toArray, List.map_cons, List.map_nil]); first | done | rfl | (simp only [List.length_drop, List.length_take]; rfl)) ?_
              with_reducible refine (verditerref02_Copy.calls kj3 _ _ l1 t295 _ ?side1 ?side2 A12.out).mono ?_
              (case side1 => repeat (first | exact (Kd.C_below HR1.out HB.out) | (with_reducible refine Kd.C_alloc ?_ _) | (with_reducible refine Kd.C_drewN ?_ _) | (with_reducible refine Kd.C_drew ?_)))
              (case side2 => exact HC1.out)
              rintro e w20 ⟨v296, rfl, ho0, hb⟩
              refine ⟨_, rfl, ?_⟩
              have n0_ := Aside0.mk (Kd.V_elder' (by (with_reducible repeat (first | apply Kd.V_alloc | apply Kd.V_drewN | apply Kd.V_drew)); exact HO_293000.out) (Kd.S_base ho0) hb)
              have n1_ := Aside0.mk (Kd.N_elder' (by (with_reducible repeat (first | apply Kd.N_alloc | apply Kd.N_drewN | apply Kd.N_drew)); exact HO300.out) (Kd.S_base ho0) hb)
              have n2_ := Aside0.mk (Kd.N_lower (Kd.N_mono (ok' := fun k_ => (P2_0_ k_ ∨ w.heap.size ≤ k_) ∧ some k_ ≠ (v299 : Value).ownBlock ∧ k_ ≠ gb292) (Kd.S_N (Kd.S_bound ho0)) (fun k_ hk_ => ⟨(.inr (Nat.le_trans (below_size (by repeat (first | (with_reducible first | exact HB.out | apply below_alloc | apply pw_below_drewN | apply below_drew1 | refine below_set ?_ GE292.out) | exact HB.out))) hk_.2.1)), (Kd.fresh' (Kd.N_lt (by (with_reducible repeat (first | apply Kd.N_alloc | apply Kd.N_drewN | apply Kd.N_drew)); exact HO300.out)) k_ hk_.2.1), (Kd.freshB (g := gb292) (o := .cells #[.slice A2_0 l2_0.length c2_0, .bool a2_1] 49 (0, 0)) (by (with_reducible repeat (first | refine blk_drewN ?_ _ | refine blk_drew ?_ | refine blk_alloc ?_ _)); exact BK292.out) k_ hk_.2.1)⟩)) (below_size (by repeat (first | (with_reducible first | exact HB.out | apply below_alloc | apply pw_below_drewN | apply below_drew1 | refine below_set ?_ GE292.out) | exact HB.out))))
              have n3_ := Aside0.mk (blk_below (g := gb292) (o := .cells #[.slice A2_0 l2_0.length c2_0, .bool a2_1] 49 (0, 0)) (by (with_reducible repeat (first | refine blk_drewN ?_ _ | refine blk_drew ?_ | refine blk_alloc ?_ _)); exact BK292.out) hb)
              have n4_ := Aside0.mk (below_step (by repeat (first | (with_reducible first | exact HB.out | apply below_alloc | apply pw_below_drewN | apply below_drew1 | refine below_set ?_ GE292.out) | exact HB.out)) hb)
              clear HO_293000
              clear HO300
              clear BK292
              clear HB
              have HO_293000 := n0_
              have HO300 := n1_
              have HO297 := n2_
              have BK292 := n3_
              have HB := n4_
              clear n0_ n1_ n2_ n3_ n4_
              (try clear hb)
              (try clear hb2)
              (try clear hk)
              (try clear hi)
              (try clear ho0)
              refine hK.out _ _ ⟨(blk_cell BK292.out 0).trans rfl, (blk_cell BK292.out 1).trans rfl⟩ (fun hHeld => ?_)
              clear hK K
              refine norm_ (a' := ?_) ?_ ?_
              rotate_left
              · show Act.put _ (some 34) _ = _
                simp only [Act.put, List.setIfInBounds_toArray, List.set_cons_zero, List.set_cons_succ, i64_w, i32_w]
                rfl
              exact norm_ (by simp only [putAll, Act.put, List.setIfInBounds_toArray, List.set_cons_zero, List.set_cons_succ]) (hCont (v296, v299) _ ⟨hHeld, (by (with_reducible repeat (first | apply Kd.N_alloc | apply Kd.N_drewN | apply Kd.N_drew)); exact HO297.out), (by (with_reducible repeat (first | apply Kd.N_alloc | apply Kd.N_drewN | apply Kd.N_drew)); exact Kd.N_mono HO300.out (fun _ hk => ⟨hk.1.1, ⟨hk.2, hk.1.2⟩⟩)), (by (with_reducible repeat (first | apply Kd.V_alloc | apply Kd.V_drewN | apply Kd.V_drew)); exact Kd.V_mono HO_293000.out (fun _ hk => ⟨hk.1.1.1, ⟨hk.2, ⟨hk.1.2, hk.1.1.2⟩⟩⟩)), (by (with_reducible repeat (first | refine blk_drewN ?_ _ | refine blk_drew ?_ | refine blk_alloc ?_ _)); exact BK292.out), (by repeat (first | (with_reducible first | exact HB.out | apply below_alloc | apply pw_below_drewN | apply below_drew1 | refine below_set ?_ GE292.out) | exact HB.out))⟩)
          rintro ⟨v296, v299⟩ w21 ⟨hS_, h0_, h1_, h2_, h3_, h4_⟩
          have n0_ : Aside0 (Kd.N k49 49 w21 w.heap.size (fun k_ => (P2_0_ k_ ∨ w.heap.size ≤ k_) ∧ some k_ ≠ (v299 : Value).ownBlock ∧ k_ ≠ gb292) v296 t295) := ⟨h0_⟩
          have n1_ : Aside0 (Kd.N k49 49 w21 w.heap.size (fun k_ => (P2_0_ k_ ∨ w.heap.size ≤ k_) ∧ some k_ ≠ (v296 : Value).ownBlock ∧ k_ ≠ gb292) v299 y298) := ⟨h1_⟩
          have n2_ : Aside0 (Kd.V (Kd.int .i64) 3 w21 w.heap.size (fun k_ => (P2_0_ k_ ∨ w.heap.size ≤ k_) ∧ some k_ ≠ (v296 : Value).ownBlock ∧ some k_ ≠ (v299 : Value).ownBlock ∧ k_ ≠ gb292) (.slice A2_0 l2_0.length c2_0) l2_0) := ⟨h2_⟩
          have n3_ : Aside0 (w21.heap[gb292]? = some (.cells #[.slice A2_0 l2_0.length c2_0, .bool a2_1] 49 (0, 0))) := ⟨h3_⟩
          have n4_ : Aside0 (Below w.heap.size w w21) := ⟨h4_⟩
          clear HO_293000
          clear BK292
          clear HB
          clear h0_ h1_ h2_ h3_ h4_
          have HO297 := n0_
          have HO300 := n1_
          have HO_293000 := n2_
          have BK292 := n3_
          have HB := n4_
          clear n0_ n1_ n2_ n3_ n4_
          have hHeld : w21.cell? ⟨gb292, 0, none⟩ = some (.slice A2_0 l2_0.length c2_0) ∧ w21.cell? ⟨gb292, 1, none⟩ = some (.bool a2_1) := hS_
          obtain ⟨Ao23, co23, eo23⟩ := Kd.N_slice HO300.out
          (first | subst eo23 | (injection eo23 with f1_ f2_ f3_; have f4_ := f1_.symm; have f5_ := f3_.symm; clear f1_ f2_ f3_; subst f4_; subst f5_))
          refine norm_ (a' := ?_) ?_ ?_
          rotate_left
          · simp only [putAll, Act.put, List.setIfInBounds_toArray, List.set_cons_zero, List.set_cons_succ]
            rfl
          refine one_ (i := 4) (N := some 37) #[true, true, true, true, true, false] rfl rfl (by kernel_rfl) (by decide) (fun K hK => ?_)
          refine Kd.N_append_rows_step k49 (w0 := w) w.heap.size (by rfl) (.tmp 34) (.tmp 36) 29 49 (.agg #[(.slice none 0 0), (.bool false)]) 32 rfl Try.underlying29 info49 rfl (by decide) (by omega) v296 t295 y298 _ _ _ (fun k_ => (P2_0_ k_ ∨ w.heap.size ≤ k_) ∧ k_ ≠ gb292) (fun k_ => ((fun k_ => (P2_0_ k_ ∨ w.heap.size ≤ k_) ∧ k_ ≠ gb292)) k_ ∧ some k_ ≠ (v296 : Value).ownBlock) rfl rfl ?aO ?aR (fun _ hk => hk) ?aF ?aB ?aS ?aL ?_
          (case aR => exact (by skip; exact Kd.N_F (Kd.N_mono (ok' := (fun k_ => ((fun k_ => (P2_0_ k_ ∨ w.heap.size ≤ k_) ∧ k_ ≠ gb292)) k_ ∧ some k_ ≠ (v296 : Value).ownBlock)) (HO300.out) (fun k_ hk => ⟨⟨hk.1, hk.2.2⟩, hk.2.1⟩))))
          (case aB => exact (by repeat (first | (with_reducible first | exact HB.out | apply below_alloc | apply pw_below_drewN | apply below_drew1 | refine below_set ?_ GE292.out) | exact HB.out)))
          (case aF => exact (fun k_ hk => ⟨(.inr (Nat.le_trans (below_size (by repeat (first | (with_reducible first | exact HB.out | apply below_alloc | apply pw_below_drewN | apply below_drew1 | refine below_set ?_ GE292.out) | exact HB.out))) hk)), Kd.freshB (g := gb292) (o := .cells #[.slice A2_0 l2_0.length c2_0, .bool a2_1] 49 (0, 0)) (by (with_reducible repeat (first | refine blk_drewN ?_ _ | refine blk_drew ?_ | refine blk_alloc ?_ _)); exact BK292.out) k_ hk⟩))
          (case aO => exact (by (with_reducible repeat (first | apply Kd.N_alloc | apply Kd.N_drewN | apply Kd.N_drew)); exact Kd.N_mono HO297.out (fun _ hk => ⟨hk.1, hk.2.2⟩)))
          (case aS => exact (below_size (by repeat (first | (with_reducible first | exact HB.out | apply below_alloc | apply pw_below_drewN | apply below_drew1 | refine below_set ?_ GE292.out) | exact HB.out))))
          (case aL => have := LMc13.out; omega)
          intro v302 w22 ho hb hg hat
          rw [← Ny301.out] at ho
          have n0_ := Aside0.mk (Kd.V_afterv (ok := (fun k_ => (P2_0_ k_ ∨ w.heap.size ≤ k_) ∧ some k_ ≠ (.slice Ao23 y298.length co23 : Value).ownBlock ∧ k_ ≠ gb292)) (by (with_reducible repeat (first | apply Kd.V_alloc | apply Kd.V_drewN | apply Kd.V_drew)); exact Kd.V_mono HO_293000.out (fun _ hk => ⟨⟨hk.1, ⟨hk.2.2.1, hk.2.2.2⟩⟩, hk.2.1⟩)) hg hat)
          have n1_ := Aside0.mk (blk_grown (g := gb292) (o := .cells #[.slice A2_0 l2_0.length c2_0, .bool a2_1] 49 (0, 0)) (by (with_reducible repeat (first | refine blk_drewN ?_ _ | refine blk_drew ?_ | refine blk_alloc ?_ _)); exact BK292.out) hg (Kd.N_away HO297.out (fun _ hk => hk.2.2)))
          have n2_ := Aside0.mk (Kd.N_afterv (ok := (fun k_ => (P2_0_ k_ ∨ w.heap.size ≤ k_) ∧ k_ ≠ gb292)) (by (with_reducible repeat (first | apply Kd.N_alloc | apply Kd.N_drewN | apply Kd.N_drew)); exact Kd.N_mono HO300.out (fun _ hk => ⟨⟨hk.1, hk.2.2⟩, hk.2.1⟩)) hg hat)
          have n3_ := Aside0.mk (hb)
          have n4_ := Aside0.mk (ho)
          clear HO_293000
          clear BK292
          clear HO300
          clear HB
          clear HO297
          have HO_293000 := n0_
          have BK292 := n1_
          have HO300 := n2_
          have HB := n3_
          have HO303 := n4_
          clear n0_ n1_ n2_ n3_ n4_
          clear ho hb hg hat
          refine hK.out _ _ ⟨(blk_cell BK292.out 0).trans rfl, (blk_cell BK292.out 1).trans rfl⟩ (fun hHeld => ?_)
          clear hK K
          refine norm_ (a' := ?_) ?_ ?_
          rotate_left
          · show Act.put _ (some 37) _ = _
            simp only [Act.put, List.setIfInBounds_toArray, List.set_cons_zero, List.set_cons_succ, i64_w, i32_w]
            rfl
          refine pure_ (i := 5) (N := some 7) (v := ?_) (a' := ?_) #[true, true, true, true, true, true] rfl rfl (by kernel_rfl) (fun _ _ _ h => h) (Or.inl ⟨by rfl, ?_⟩) ?_ ?_
          rotate_left
          · intro w'
            go_simp
            with_reducible rfl
          rotate_left
          · simp only [Act.put, List.setIfInBounds_toArray, List.set_cons_zero, List.set_cons_succ, i64_w, i32_w]
            rfl
          refine done_ (by kernel_rfl) ?_
          go_upto_region 6 with (first | ((with_reducible refine gate_callee (f := 64) rfl ?_); refine goesL_ (some 41) rfl rfl Try.func64 (by kernel_rfl) rfl #[.int .i64 a0, .slice A1 l1.length c1] rfl (by (try simp only [List.map_toArray, List.map_cons, List.map_nil]); first | done | rfl | (simp only [List.length_drop, List.length_take]; rfl)) ?_; (with_reducible refine (judge_State.calls kj3 a0 _ _ l1 t304 t305 t306 _ ?side1 ?side2 A14.out).mono ?_); (case side1 => repeat (first | exact (Kd.C_below HR1.out HB.out) | (with_reducible refine Kd.C_alloc ?_ _) | (with_reducible refine Kd.C_drewN ?_ _) | (with_reducible refine Kd.C_drew ?_))); (case side2 => exact HC1.out); rintro e w24 ⟨rfl, hb⟩; refine ⟨_, rfl, ?_⟩; have n0_ := Aside0.mk (Kd.V_below (by (with_reducible repeat (first | apply Kd.V_alloc | apply Kd.V_drewN | apply Kd.V_drew)); exact HO_293000.out) hb); have n1_ := Aside0.mk (Kd.N_below (by (with_reducible repeat (first | apply Kd.N_alloc | apply Kd.N_drewN | apply Kd.N_drew)); exact HO300.out) hb); have n2_ := Aside0.mk (Kd.N_below (by (with_reducible repeat (first | apply Kd.N_alloc | apply Kd.N_drewN | apply Kd.N_drew)); exact HO303.out) hb); have n3_ := Aside0.mk (blk_below (g := gb292) (o := .cells #[.slice A2_0 l2_0.length c2_0, .bool a2_1] 49 (0, 0)) (by (with_reducible repeat (first | refine blk_drewN ?_ _ | refine blk_drew ?_ | refine blk_alloc ?_ _)); exact BK292.out) hb); have n4_ := Aside0.mk (below_step (by repeat (first | (with_reducible first | exact HB.out | apply below_alloc | apply pw_below_drewN | apply below_drew1 | refine below_set ?_ GE292.out) | exact HB.out)) hb); clear HO_293000; clear HO300; clear HO303; clear BK292; clear HB; have HO_293000 := n0_; have HO300 := n1_; have HO303 := n2_; have BK292 := n3_; have HB := n4_; clear n0_ n1_ n2_ n3_ n4_; (try clear hb); (try clear hb2); (try clear hk); (try clear hi); obtain ⟨Ao25, co25, eo25⟩ := Kd.N_slice HO303.out; subst eo25) | ((with_reducible refine gate_callee (f := 64) rfl ?_); refine goesL_ (some 48) rfl rfl Try.func64 (by kernel_rfl) rfl #[.int .i64 a0, .slice Ao25 y301.length co25] rfl (by (try simp only [List.map_toArray, List.map_cons, List.map_nil]); first | done | rfl | (simp only [List.length_drop, List.length_take]; rfl)) ?_; (with_reducible refine (judge_State.calls kj3 a0 _ _ y301 t307 t308 t309 _ ?side1 ?side2 A15.out).mono ?_); (case side1 => repeat (first | exact (Kd.N_reads' HO303.out).2.2 | (with_reducible refine Kd.C_alloc ?_ _) | (with_reducible refine Kd.C_drewN ?_ _) | (with_reducible refine Kd.C_drew ?_))); (case side2 => exact (Kd.N_reads' HO303.out).2.1); rintro e w26 ⟨rfl, hb⟩; refine ⟨_, rfl, ?_⟩; have n0_ := Aside0.mk (Kd.V_below (by (with_reducible repeat (first | apply Kd.V_alloc | apply Kd.V_drewN | apply Kd.V_drew)); exact HO_293000.out) hb); have n1_ := Aside0.mk (Kd.N_below (by (with_reducible repeat (first | apply Kd.N_alloc | apply Kd.N_drewN | apply Kd.N_drew)); exact HO300.out) hb); have n2_ := Aside0.mk (Kd.N_below (by (with_reducible repeat (first | apply Kd.N_alloc | apply Kd.N_drewN | apply Kd.N_drew)); exact HO303.out) hb); have n3_ := Aside0.mk (blk_below (g := gb292) (o := .cells #[.slice A2_0 l2_0.length c2_0, .bool a2_1] 49 (0, 0)) (by (with_reducible repeat (first | refine blk_drewN ?_ _ | refine blk_drew ?_ | refine blk_alloc ?_ _)); exact BK292.out) hb); have n4_ := Aside0.mk (below_step (by repeat (first | (with_reducible first | exact HB.out | apply below_alloc | apply pw_below_drewN | apply below_drew1 | refine below_set ?_ GE292.out) | exact HB.out)) hb); clear HO_293000; clear HO300; clear HO303; clear BK292; clear HB; have HO_293000 := n0_; have HO300 := n1_; have HO303 := n2_; have BK292 := n3_; have HB := n4_; clear n0_ n1_ n2_ n3_ n4_; (try clear hb); (try clear hb2); (try clear hk); (try clear hi)))
          (try simp only [Act.put, List.setIfInBounds_toArray, List.set_cons_zero, List.set_cons_succ])
          go_cut [57] (fun v57 wc => ∃ (kq : Nat) (x57_15 : Bool), v57 = .bool x57_15 ∧ Aside0 (verditerlaw02_judgeAnswers.j1 kq a0 l1 t304 t305 t307 t308 x57_15 l2_0 a2_1 = some r) ∧ Aside0 (kq ≤ kj3) ∧ Aside0 (Kd.V (Kd.int .i64) 3 wc w.heap.size (fun k_ => (P2_0_ k_ ∨ w.heap.size ≤ k_) ∧ k_ ≠ gb292) (.slice A2_0 l2_0.length c2_0) l2_0) ∧ Aside0 (wc.heap[gb292]? = some (.cells #[(.slice A2_0 l2_0.length c2_0), .bool a2_1] 49 (0, 0))) ∧ Aside0 (Below w.heap.size w wc))
          case first =>
            have H := HC16.out
            clear HC16
            by_cases c27 : t306 = 0
            · rw [if_pos c27] at H
              have c27b0 : (t306 == 0) = true := beq_iff_eq.mpr c27
              have c27b1 : (t306 != 0) = false := bne_eq_false_iff_eq.mpr c27
              clear c27
              (first | rw [c27b0] | (simp only [i64_w, i32_w]; rw [c27b0]) | skip)
              have H' := Aside0.mk H
              clear H
              go_wp2
              go_meet
              case rel => exact ⟨_, ((t309 != 0)), (by first | rfl | (simp; done) | (simp [*]; done)), H', ⟨by have := HJ3.out; first | omega | exact Nat.le_refl _⟩, ⟨by (with_reducible repeat (first | apply Kd.V_alloc | apply Kd.V_drewN | apply Kd.V_drew)); exact Kd.V_mono HO_293000.out (fun _ hk => ⟨hk.1.1, hk.1.2.2⟩)⟩, ⟨by (with_reducible repeat (first | refine blk_drewN ?_ _ | refine blk_drew ?_ | refine blk_alloc ?_ _)); exact BK292.out⟩, ⟨by repeat (first | (with_reducible first | exact HB.out | apply below_alloc | apply pw_below_drewN | apply below_drew1 | refine below_set ?_ GE292.out) | exact HB.out)⟩⟩
            · rw [if_neg c27] at H
              have c27b0 : (t306 == 0) = false := beq_eq_false_iff_ne.mpr c27
              have c27b1 : (t306 != 0) = true := bne_iff_ne.mpr c27
              (first | rw [c27b0] | (simp only [i64_w, i32_w]; rw [c27b0]) | skip)
              have H' := Aside0.mk H
              clear H
              go_wp2
              go_meet
              case rel => exact ⟨_, (true), (by first | rfl | (simp; done) | (simp [*]; done)), H', ⟨by have := HJ3.out; first | omega | exact Nat.le_refl _⟩, ⟨by (with_reducible repeat (first | apply Kd.V_alloc | apply Kd.V_drewN | apply Kd.V_drew)); exact Kd.V_mono HO_293000.out (fun _ hk => ⟨hk.1.1, hk.1.2.2⟩)⟩, ⟨by (with_reducible repeat (first | refine blk_drewN ?_ _ | refine blk_drew ?_ | refine blk_alloc ?_ _)); exact BK292.out⟩, ⟨by repeat (first | (with_reducible first | exact HB.out | apply below_alloc | apply pw_below_drewN | apply below_drew1 | refine below_set ?_ GE292.out) | exact HB.out)⟩⟩
          case rest =>
            clear HC16
            try clear c1
            try clear c2
            try clear p2
            try clear c3
            try clear c4
            try clear c6
            try clear c7
            try clear c9
            try clear c13
            try clear c20
            try clear c27
            try clear c27b0
            try clear c27b1
            try clear hcz8_0
            try clear hcz8_1
            try clear hfz8_0
            try clear hfz8_1
            try clear p2
            obtain ⟨kq, x57_15, rfl, HA, HJ15, HO_293000, BK292, HB⟩ := hcut
            cases kq with
            | zero => exact absurd HA.out (by simp [verditerlaw02_judgeAnswers.j1])
            | succ kj15 =>
              have H := HA.out
              clear HA
              simp only [verditerlaw02_judgeAnswers.j1] at H
              by_cases c28 : x57_15 = true
              · subst c28
                have H1 : ((verditerlaw02_known.f kj15).bind fun t310 => (some t310)) = some r := by rw [if_pos rfl] at H; exact H
                clear H
                have H := H1
                clear H1
                replace H := Option.bind_eq_some_iff.mp H
                obtain ⟨t310, A290, H⟩ := H
                replace H : (some t310) = some r := H
                have A29 := Aside0.mk A290
                clear A290
                obtain rfl := Option.some.inj H
                go_wp2_with (first | ((with_reducible refine gate_callee (f := 20) rfl ?_); refine goesL_ (some 58) rfl rfl Try.func20 (by kernel_rfl) rfl #[] rfl (by (try simp only [List.map_toArray, List.map_cons, List.map_nil]); first | done | rfl | (simp only [List.length_drop, List.length_take]; rfl)) ?_; (with_reducible refine (verditerlaw02_known.calls kj15  t310 _ A29.out).mono ?_); rintro e w30 ⟨rfl, hb⟩; refine ⟨_, rfl, ?_⟩; have n0_ := Aside0.mk (Kd.V_below (by (with_reducible repeat (first | apply Kd.V_alloc | apply Kd.V_drewN | apply Kd.V_drew)); exact HO_293000.out) hb); have n1_ := Aside0.mk (blk_below (g := gb292) (o := .cells #[.slice A2_0 l2_0.length c2_0, .bool a2_1] 49 (0, 0)) (by (with_reducible repeat (first | refine blk_drewN ?_ _ | refine blk_drew ?_ | refine blk_alloc ?_ _)); exact BK292.out) hb); have n2_ := Aside0.mk (below_step (by repeat (first | (with_reducible first | exact HB.out | apply below_alloc | apply pw_below_drewN | apply below_drew1 | refine below_set ?_ GE292.out) | exact HB.out)) hb); clear HO_293000; clear BK292; clear HB; have HO_293000 := n0_; have BK292 := n1_; have HB := n2_; clear n0_ n1_ n2_; (try clear hb); (try clear hb2); (try clear hk); (try clear hi)))
                go_ret
                exact ⟨by first | rfl | (simp [errW_none, errW_some] <;> rfl) | (simp [*, errW_none, errW_some] <;> rfl), by repeat (first | (with_reducible first | exact HB.out | apply below_alloc | apply pw_below_drewN | apply below_drew1 | refine below_set ?_ GE292.out) | exact HB.out)⟩
              · replace c28 := Bool.eq_false_iff.mpr c28
                subst c28
                have H1 : ((judge_Left.f kj15 a0 l1 0).bind fun bt311 => ((judge_Left.f kj15 a0 l1 1).bind fun bt315 => (if bt311.2 = 0 then (verditerlaw02_judgeAnswers.j2 kj15 t304 t305 t307 t308 bt311.1 bt315.1 (bt315.2 != 0) l2_0 a2_1) else (verditerlaw02_judgeAnswers.j2 kj15 t304 t305 t307 t308 bt311.1 bt315.1 true l2_0 a2_1)))) = some r := by rw [if_neg (show ¬ (false = true) by decide)] at H; exact H
                clear H
                have H := H1
                clear H1
                replace H := Option.bind_eq_some_iff.mp H
                obtain ⟨⟨t311, t312⟩, A310, H⟩ := H
                replace H : ((judge_Left.f kj15 a0 l1 1).bind fun bt315 => (if t312 = 0 then (verditerlaw02_judgeAnswers.j2 kj15 t304 t305 t307 t308 t311 bt315.1 (bt315.2 != 0) l2_0 a2_1) else (verditerlaw02_judgeAnswers.j2 kj15 t304 t305 t307 t308 t311 bt315.1 true l2_0 a2_1))) = some r := H
                have A31 := Aside0.mk A310
                clear A310
                replace H := Option.bind_eq_some_iff.mp H
                obtain ⟨⟨t315, t316⟩, A320, H⟩ := H
                replace H : (if t312 = 0 then (verditerlaw02_judgeAnswers.j2 kj15 t304 t305 t307 t308 t311 t315 (t316 != 0) l2_0 a2_1) else (verditerlaw02_judgeAnswers.j2 kj15 t304 t305 t307 t308 t311 t315 true l2_0 a2_1)) = some r := H
                have A32 := Aside0.mk A320
                clear A320
                have HC33 := Aside0.mk H
                clear H
                go_upto_region 10 with (first | ((with_reducible refine gate_callee (f := 58) rfl ?_); refine goesL_ (some 62) rfl rfl Try.func58 (by kernel_rfl) rfl #[.int .i64 a0, .slice A1 l1.length c1, .int .i64 0] rfl (by (try simp only [List.map_toArray, List.map_cons, List.map_nil]); first | done | rfl | (simp only [List.length_drop, List.length_take]; rfl)) ?_; (with_reducible refine (judge_Left.calls kj15 a0 _ _ l1 0 t311 t312 _ ?side1 ?side2 A31.out).mono ?_); (case side1 => repeat (first | exact (Kd.C_below HR1.out HB.out) | (with_reducible refine Kd.C_alloc ?_ _) | (with_reducible refine Kd.C_drewN ?_ _) | (with_reducible refine Kd.C_drew ?_))); (case side2 => exact HC1.out); rintro e w34 ⟨v313, rfl, ho0, hb⟩; refine ⟨_, rfl, ?_⟩; have n0_ := Aside0.mk (Kd.V_elder' (by (with_reducible repeat (first | apply Kd.V_alloc | apply Kd.V_drewN | apply Kd.V_drew)); exact HO_293000.out) (Kd.R_base ho0) hb); have n1_ := Aside0.mk (Kd.R_lower (Kd.R_newM (M := fun k_ => (w.heap.size ≤ k_)) ho0 (below_size (by repeat (first | (with_reducible first | exact HB.out | apply below_alloc | apply pw_below_drewN | apply below_drew1 | refine below_set ?_ GE292.out) | exact HB.out))) (fun k_ h_ => h_)) (below_size (by repeat (first | (with_reducible first | exact HB.out | apply below_alloc | apply pw_below_drewN | apply below_drew1 | refine below_set ?_ GE292.out) | exact HB.out)))); have n2_ := Aside0.mk (blk_below (g := gb292) (o := .cells #[.slice A2_0 l2_0.length c2_0, .bool a2_1] 49 (0, 0)) (by (with_reducible repeat (first | refine blk_drewN ?_ _ | refine blk_drew ?_ | refine blk_alloc ?_ _)); exact BK292.out) hb); have n3_ := Aside0.mk (below_step (by repeat (first | (with_reducible first | exact HB.out | apply below_alloc | apply pw_below_drewN | apply below_drew1 | refine below_set ?_ GE292.out) | exact HB.out)) hb); clear HO_293000; clear BK292; clear HB; have HO_293000 := n0_; have HO314 := n1_; have BK292 := n2_; have HB := n3_; clear n0_ n1_ n2_ n3_; (try clear hb); (try clear hb2); (try clear hk); (try clear hi); (try clear ho0)) | ((with_reducible refine gate_callee (f := 58) rfl ?_); refine goesL_ (some 68) rfl rfl Try.func58 (by kernel_rfl) rfl #[.int .i64 a0, .slice A1 l1.length c1, .int .i64 1] rfl (by (try simp only [List.map_toArray, List.map_cons, List.map_nil]); first | done | rfl | (simp only [List.length_drop, List.length_take]; rfl)) ?_; (with_reducible refine (judge_Left.calls kj15 a0 _ _ l1 1 t315 t316 _ ?side1 ?side2 A32.out).mono ?_); (case side1 => repeat (first | exact (Kd.C_below HR1.out HB.out) | (with_reducible refine Kd.C_alloc ?_ _) | (with_reducible refine Kd.C_drewN ?_ _) | (with_reducible refine Kd.C_drew ?_))); (case side2 => exact HC1.out); rintro e w35 ⟨v317, rfl, ho0, hb⟩; refine ⟨_, rfl, ?_⟩; have n0_ := Aside0.mk (Kd.V_elder' (by (with_reducible repeat (first | apply Kd.V_alloc | apply Kd.V_drewN | apply Kd.V_drew)); exact HO_293000.out) (Kd.R_base ho0) hb); have n1_ := Aside0.mk (Kd.R_elder' (by (with_reducible repeat (first | apply Kd.R_alloc | apply Kd.R_drewN | apply Kd.R_drew)); exact HO314.out) (Kd.R_base ho0) hb); have n2_ := Aside0.mk (Kd.R_lower (Kd.R_new' (Kd.R_newM (M := fun k_ => (w.heap.size ≤ k_)) ho0 (below_size (by repeat (first | (with_reducible first | exact HB.out | apply below_alloc | apply pw_below_drewN | apply below_drew1 | refine below_set ?_ GE292.out) | exact HB.out))) (fun k_ h_ => h_)) (Kd.R_lt (by (with_reducible repeat (first | apply Kd.R_alloc | apply Kd.R_drewN | apply Kd.R_drew)); exact HO314.out))) (below_size (by repeat (first | (with_reducible first | exact HB.out | apply below_alloc | apply pw_below_drewN | apply below_drew1 | refine below_set ?_ GE292.out) | exact HB.out)))); have n3_ := Aside0.mk (blk_below (g := gb292) (o := .cells #[.slice A2_0 l2_0.length c2_0, .bool a2_1] 49 (0, 0)) (by (with_reducible repeat (first | refine blk_drewN ?_ _ | refine blk_drew ?_ | refine blk_alloc ?_ _)); exact BK292.out) hb); have n4_ := Aside0.mk (below_step (by repeat (first | (with_reducible first | exact HB.out | apply below_alloc | apply pw_below_drewN | apply below_drew1 | refine below_set ?_ GE292.out) | exact HB.out)) hb); clear HO_293000; clear HO314; clear BK292; clear HB; have HO_293000 := n0_; have HO314 := n1_; have HO318 := n2_; have BK292 := n3_; have HB := n4_; clear n0_ n1_ n2_ n3_ n4_; (try clear hb); (try clear hb2); (try clear hk); (try clear hi); (try clear ho0)))
                (try simp only [Act.put, List.setIfInBounds_toArray, List.set_cons_zero, List.set_cons_succ])
                go_cut [76] (fun v76 wc => ∃ (kq : Nat) (x76_32 : Bool), v76 = .bool x76_32 ∧ Aside0 (verditerlaw02_judgeAnswers.j2 kq t304 t305 t307 t308 t311 t315 x76_32 l2_0 a2_1 = some r) ∧ Aside0 (kq ≤ kj15) ∧ Aside0 (Kd.R (Kd.int .i64) 3 wc w.heap.size (fun k_ => (w.heap.size ≤ k_) ∧ some k_ ≠ (v317 : Value).ownBlock) v313 t311) ∧ Aside0 (Kd.R (Kd.int .i64) 3 wc w.heap.size (fun k_ => (w.heap.size ≤ k_) ∧ some k_ ≠ (v313 : Value).ownBlock) v317 t315) ∧ Aside0 (Kd.V (Kd.int .i64) 3 wc w.heap.size (fun k_ => (P2_0_ k_ ∨ w.heap.size ≤ k_) ∧ some k_ ≠ (v313 : Value).ownBlock ∧ some k_ ≠ (v317 : Value).ownBlock ∧ k_ ≠ gb292) (.slice A2_0 l2_0.length c2_0) l2_0) ∧ Aside0 (wc.heap[gb292]? = some (.cells #[(.slice A2_0 l2_0.length c2_0), .bool a2_1] 49 (0, 0))) ∧ Aside0 (Below w.heap.size w wc))
                case first =>
                  have H := HC33.out
                  clear HC33
                  by_cases c36 : t312 = 0
                  · rw [if_pos c36] at H
                    have c36b0 : (t312 == 0) = true := beq_iff_eq.mpr c36
                    have c36b1 : (t312 != 0) = false := bne_eq_false_iff_eq.mpr c36
                    clear c36
                    (first | rw [c36b0] | (simp only [i64_w, i32_w]; rw [c36b0]) | skip)
                    have H' := Aside0.mk H
                    clear H
                    go_wp2
                    go_meet
                    case rel => exact ⟨_, ((t316 != 0)), (by first | rfl | (simp; done) | (simp [*]; done)), H', ⟨by have := HJ3.out; have := HJ15.out; first | omega | exact Nat.le_refl _⟩, ⟨by (with_reducible repeat (first | apply Kd.R_alloc | apply Kd.R_drewN | apply Kd.R_drew)); exact Kd.R_mono HO314.out (fun _ hk => ⟨hk.1.1, hk.2⟩)⟩, ⟨by (with_reducible repeat (first | apply Kd.R_alloc | apply Kd.R_drewN | apply Kd.R_drew)); exact Kd.R_mono HO318.out (fun _ hk => ⟨hk.1.1, hk.2⟩)⟩, ⟨by (with_reducible repeat (first | apply Kd.V_alloc | apply Kd.V_drewN | apply Kd.V_drew)); exact Kd.V_mono HO_293000.out (fun _ hk => ⟨hk.1.1.1, ⟨hk.1.2, ⟨hk.2, hk.1.1.2⟩⟩⟩)⟩, ⟨by (with_reducible repeat (first | refine blk_drewN ?_ _ | refine blk_drew ?_ | refine blk_alloc ?_ _)); exact BK292.out⟩, ⟨by repeat (first | (with_reducible first | exact HB.out | apply below_alloc | apply pw_below_drewN | apply below_drew1 | refine below_set ?_ GE292.out) | exact HB.out)⟩⟩
                  · rw [if_neg c36] at H
                    have c36b0 : (t312 == 0) = false := beq_eq_false_iff_ne.mpr c36
                    have c36b1 : (t312 != 0) = true := bne_iff_ne.mpr c36
                    (first | rw [c36b0] | (simp only [i64_w, i32_w]; rw [c36b0]) | skip)
                    have H' := Aside0.mk H
                    clear H
                    go_wp2
                    go_meet
                    case rel => exact ⟨_, (true), (by first | rfl | (simp; done) | (simp [*]; done)), H', ⟨by have := HJ3.out; have := HJ15.out; first | omega | exact Nat.le_refl _⟩, ⟨by (with_reducible repeat (first | apply Kd.R_alloc | apply Kd.R_drewN | apply Kd.R_drew)); exact Kd.R_mono HO314.out (fun _ hk => ⟨hk.1.1, hk.2⟩)⟩, ⟨by (with_reducible repeat (first | apply Kd.R_alloc | apply Kd.R_drewN | apply Kd.R_drew)); exact Kd.R_mono HO318.out (fun _ hk => ⟨hk.1.1, hk.2⟩)⟩, ⟨by (with_reducible repeat (first | apply Kd.V_alloc | apply Kd.V_drewN | apply Kd.V_drew)); exact Kd.V_mono HO_293000.out (fun _ hk => ⟨hk.1.1.1, ⟨hk.1.2, ⟨hk.2, hk.1.1.2⟩⟩⟩)⟩, ⟨by (with_reducible repeat (first | refine blk_drewN ?_ _ | refine blk_drew ?_ | refine blk_alloc ?_ _)); exact BK292.out⟩, ⟨by repeat (first | (with_reducible first | exact HB.out | apply below_alloc | apply pw_below_drewN | apply below_drew1 | refine below_set ?_ GE292.out) | exact HB.out)⟩⟩
                case rest =>
                  clear HC33
                  try clear c1
                  try clear c2
                  try clear p2
                  try clear c3
                  try clear c4
                  try clear c5
                  try clear c6
                  try clear c7
                  try clear c9
                  try clear c13
                  try clear c20
                  try clear c27
                  try clear c27b0
                  try clear c27b1
                  try clear c28
                  try clear c36
                  try clear c36b0
                  try clear c36b1
                  try clear hcz8_0
                  try clear hcz8_1
                  try clear hfz8_0
                  try clear hfz8_1
                  try clear p2
                  obtain ⟨kq, x76_32, rfl, HA, HJ32, HO_14, HO_16, HO_293000, BK292, HB⟩ := hcut
                  cases kq with
                  | zero => exact absurd HA.out (by simp [verditerlaw02_judgeAnswers.j2])
                  | succ kj32 =>
                    have H := HA.out
                    clear HA
                    simp only [verditerlaw02_judgeAnswers.j2] at H
                    by_cases c37 : x76_32 = true
                    · subst c37
                      have H1 : (some false) = some r := by rw [if_pos rfl] at H; exact H
                      clear H
                      have H := H1
                      clear H1
                      obtain rfl := Option.some.inj H
                      go_wp2
                      go_ret
                      exact ⟨by first | rfl | (simp [errW_none, errW_some] <;> rfl) | (simp [*, errW_none, errW_some] <;> rfl), by repeat (first | (with_reducible first | exact HB.out | apply below_alloc | apply pw_below_drewN | apply below_drew1 | refine below_set ?_ GE292.out) | exact HB.out)⟩
                    · replace c37 := Bool.eq_false_iff.mpr c37
                      subst c37
                      have H1 : (verditerlaw02_judgeAnswers.l0 kj32 t304 t305 t307 t308 t311 t315 0 0 0 l2_0 a2_1) = some r := by rw [if_neg (show ¬ (false = true) by decide)] at H; exact H
                      clear H
                      have H := H1
                      clear H1
                      have H' := Aside0.mk H
                      clear H
                      go_wp2
                      go_loopg [18, 19, 20] kj32 (fun kq v18 v19 v20 w' => ∃ (x18_4 : Int) (x19_4 : Int) (x20_4 : Int), v18 = .int .i64 x18_4 ∧ v19 = .int .i64 x19_4 ∧ v20 = .int .i64 x20_4 ∧ Aside0 (verditerlaw02_judgeAnswers.l0 kq t304 t305 t307 t308 t311 t315 x18_4 x19_4 x20_4 l2_0 a2_1 = some r) ∧ Aside0 (kq ≤ kj32) ∧ Aside0 (Kd.R (Kd.int .i64) 3 w' w.heap.size (fun k_ => (w.heap.size ≤ k_) ∧ some k_ ≠ (v317 : Value).ownBlock) v313 t311) ∧ Aside0 (Kd.R (Kd.int .i64) 3 w' w.heap.size (fun k_ => (w.heap.size ≤ k_) ∧ some k_ ≠ (v313 : Value).ownBlock) v317 t315) ∧ Aside0 (Kd.V (Kd.int .i64) 3 w' w.heap.size (fun k_ => (P2_0_ k_ ∨ w.heap.size ≤ k_) ∧ some k_ ≠ (v313 : Value).ownBlock ∧ some k_ ≠ (v317 : Value).ownBlock ∧ k_ ≠ gb292) (.slice A2_0 l2_0.length c2_0) l2_0) ∧ Aside0 (w'.heap[gb292]? = some (.cells #[(.slice A2_0 l2_0.length c2_0), .bool a2_1] 49 (0, 0))) ∧ Aside0 (Below w.heap.size w w'))
                      case atStart => exact ⟨(0), (0), (0), (by first | rfl | (simp; done) | (simp [*]; done)), (by first | rfl | (simp; done) | (simp [*]; done)), (by first | rfl | (simp; done) | (simp [*]; done)), H', ⟨Nat.le_refl _⟩, ⟨by (with_reducible repeat (first | apply Kd.R_alloc | apply Kd.R_drewN | apply Kd.R_drew)); exact HO_14.out⟩, ⟨by (with_reducible repeat (first | apply Kd.R_alloc | apply Kd.R_drewN | apply Kd.R_drew)); exact HO_16.out⟩, ⟨by (with_reducible repeat (first | apply Kd.V_alloc | apply Kd.V_drewN | apply Kd.V_drew)); exact HO_293000.out⟩, ⟨by (with_reducible repeat (first | refine blk_drewN ?_ _ | refine blk_drew ?_ | refine blk_alloc ?_ _)); exact BK292.out⟩, ⟨by repeat (first | (with_reducible first | exact HB.out | apply below_alloc | apply pw_below_drewN | apply below_drew1 | refine below_set ?_ GE292.out) | exact HB.out)⟩⟩
                      case round =>
                        clear H'
                        try clear c1
                        try clear c2
                        try clear p2
                        try clear c3
                        try clear c4
                        try clear c5
                        try clear c6
                        try clear c7
                        try clear c9
                        try clear c13
                        try clear c20
                        try clear c27
                        try clear c27b0
                        try clear c27b1
                        try clear c28
                        try clear c36
                        try clear c36b0
                        try clear c36b1
                        try clear c37
                        try clear hcz8_0
                        try clear hcz8_1
                        try clear hfz8_0
                        try clear hfz8_1
                        try clear p2
                        obtain ⟨x18_4, x19_4, x20_4, rfl, rfl, rfl, HA, HK4, HO_14, HO_16, HO_293000, BK292, HB⟩ := hrel
                        cases gk with
                        | zero => exact absurd HA.out (by simp [verditerlaw02_judgeAnswers.l0])
                        | succ k4 =>
                          have H := HA.out
                          clear HA
                          simp only [verditerlaw02_judgeAnswers.l0] at H
                          by_cases c38 : x20_4 < (t315.length : Int)
                          · rw [if_pos c38] at H
                            have c38b0 : decide (x20_4 < (t315.length : Int)) = true := decide_eq_true c38
                            clear c38
                            by_cases c39 : 0 ≤ x20_4
                            · rw [if_pos c39] at H
                              have c39b0 : decide (0 ≤ x20_4) = true := decide_eq_true c39
                              clear c39
                              replace H := Option.bind_eq_some_iff.mp H
                              obtain ⟨t324, A400, H⟩ := H
                              replace H : (if t324 = true then ((verditerref02_Has.f k4 t311 (rd t315 x20_4)).bind fun t326 => (if t326 = true then (verditerlaw02_judgeAnswers.l0 k4 t304 t305 t307 t308 t311 t315 (wrap64 (x18_4 + 1)) x19_4 (wrap64 (x20_4 + 1)) l2_0 a2_1) else (verditerlaw02_judgeAnswers.l0 k4 t304 t305 t307 t308 t311 t315 x18_4 (wrap64 (x19_4 + 1)) (wrap64 (x20_4 + 1)) l2_0 a2_1))) else (verditerlaw02_judgeAnswers.l0 k4 t304 t305 t307 t308 t311 t315 x18_4 x19_4 (wrap64 (x20_4 + 1)) l2_0 a2_1)) = some r := H
                              have A40 := Aside0.mk A400
                              clear A400
                              by_cases c41 : t324 = true
                              · subst c41
                                have H1 : ((verditerref02_Has.f k4 t311 (rd t315 x20_4)).bind fun t326 => (if t326 = true then (verditerlaw02_judgeAnswers.l0 k4 t304 t305 t307 t308 t311 t315 (wrap64 (x18_4 + 1)) x19_4 (wrap64 (x20_4 + 1)) l2_0 a2_1) else (verditerlaw02_judgeAnswers.l0 k4 t304 t305 t307 t308 t311 t315 x18_4 (wrap64 (x19_4 + 1)) (wrap64 (x20_4 + 1)) l2_0 a2_1))) = some r := by rw [if_pos rfl] at H; exact H
                                clear H
                                have H := H1
                                clear H1
                                replace H := Option.bind_eq_some_iff.mp H
                                obtain ⟨t326, A420, H⟩ := H
                                replace H : (if t326 = true then (verditerlaw02_judgeAnswers.l0 k4 t304 t305 t307 t308 t311 t315 (wrap64 (x18_4 + 1)) x19_4 (wrap64 (x20_4 + 1)) l2_0 a2_1) else (verditerlaw02_judgeAnswers.l0 k4 t304 t305 t307 t308 t311 t315 x18_4 (wrap64 (x19_4 + 1)) (wrap64 (x20_4 + 1)) l2_0 a2_1)) = some r := H
                                have A42 := Aside0.mk A420
                                clear A420
                                by_cases c43 : t326 = true
                                · subst c43
                                  have H1 : (verditerlaw02_judgeAnswers.l0 k4 t304 t305 t307 t308 t311 t315 (wrap64 (x18_4 + 1)) x19_4 (wrap64 (x20_4 + 1)) l2_0 a2_1) = some r := by rw [if_pos rfl] at H; exact H
                                  clear H
                                  have H := H1
                                  clear H1
                                  have H' := Aside0.mk H
                                  clear H
                                  obtain ⟨Ao44, co44, eo44⟩ := Kd.R_slice HO_16.out
                                  subst eo44
                                  try go_wp2
                                  have n0_ := Aside0.mk (Kd.R_drew HO_14.out)
                                  have n1_ := Aside0.mk (Kd.R_drew HO_16.out)
                                  have n2_ := Aside0.mk (Kd.V_drew HO_293000.out)
                                  have n3_ := Aside0.mk (blk_drew BK292.out)
                                  have n4_ := Aside0.mk (below_drew1 HB.out)
                                  clear HO_14
                                  clear HO_16
                                  clear HO_293000
                                  clear BK292
                                  clear HB
                                  have HO_14 := n0_
                                  have HO_16 := n1_
                                  have HO_293000 := n2_
                                  have BK292 := n3_
                                  have HB := n4_
                                  clear n0_ n1_ n2_ n3_ n4_
                                  have p323 : 0 ≤ (x20_4 : Int) := of_decide_eq_true (by first | (with_reducible assumption) | assumption)
                                  have q323 : x20_4 < (t315.length : Int) := of_decide_eq_true (by first | (with_reducible assumption) | assumption)
                                  obtain ⟨ad323, e323, hx323_0⟩ := Kd.at_int (Kd.R_reads' HO_16.out).2.2 x20_4 p323 q323
                                  cases e323
                                  replace p323 := eq_true p323
                                  replace q323 := eq_true q323
                                  refine start_ (n := 8) (S := fun w' => w'.cell? ⟨gb292, 0, none⟩ = some (.slice A2_0 l2_0.length c2_0) ∧ w'.cell? ⟨gb292, 1, none⟩ = some (.bool a2_1) ∧ w'.cell? (ad323.add (x20_4).toNat) = some (.int .i64 (rd t315 x20_4))) (ds := []) #[false, false, false, false, false, false, false, false] (by kernel_rfl) rfl rfl ⟨(blk_cell BK292.out 0).trans rfl, (blk_cell BK292.out 1).trans rfl, hx323_0⟩ (fun hHeld => ?_); refine with_tabW verditerlaw02_judgeAnswers.tab16 verditerlaw02_judgeAnswers.bits16 (fun HT_ HW_ => ?_)
                                  generalize wr.drew = w45 at HO_14 HO_16 HO_293000 BK292 HB hx323_0 hHeld ⊢
                                  refine pure_ (i := 0) (N := some 83) (v := ?_) (a' := ?_) #[true, false, false, false, false, false, false, false] rfl rfl (any_of HT_.out (by kernel_rfl)) (fun _ _ _ h => h) (Or.inl ⟨by rfl, ?_⟩) ?_ ?_
                                  rotate_left
                                  · intro w'
                                    go_simp
                                    with_reducible rfl
                                  rotate_left
                                  · simp only [Act.put, List.setIfInBounds_toArray, List.set_cons_zero, List.set_cons_succ, i64_w, i32_w]
                                    rfl
                                  refine pure_ (i := 2) (N := some 85) (v := ?_) (a' := ?_) #[true, false, true, false, false, false, false, false] rfl rfl (any_of HT_.out (by kernel_rfl)) (fun _ _ _ h => h) (Or.inl ⟨by rfl, ?_⟩) ?_ ?_
                                  rotate_left
                                  · intro w'
                                    go_simp
                                    with_reducible rfl
                                  rotate_left
                                  · simp only [Act.put, List.setIfInBounds_toArray, List.set_cons_zero, List.set_cons_succ, i64_w, i32_w]
                                    rfl
                                  refine pure_ (i := 3) (N := some 86) (v := ?_) (a' := ?_) #[true, false, true, true, false, false, false, false] rfl rfl (any_of HT_.out (by kernel_rfl)) (fun _ _ _ h => h) (Or.inl ⟨by rfl, ?_⟩) ?_ ?_
                                  rotate_left
                                  · intro w'
                                    go_simp
                                    with_reducible rfl
                                  rotate_left
                                  · simp only [Act.put, List.setIfInBounds_toArray, List.set_cons_zero, List.set_cons_succ, i64_w, i32_w]
                                    rfl
                                  refine pure_ (i := 4) (N := some 87) (v := ?_) (a' := ?_) #[true, false, true, true, true, false, false, false] rfl rfl (any_of HT_.out (by kernel_rfl)) (fun _ _ _ h => h) (Or.inl ⟨by rfl, ?_⟩) ?_ ?_
                                  rotate_left
                                  · intro w'
                                    go_simp
                                    with_reducible rfl
                                  rotate_left
                                  · simp only [Act.put, List.setIfInBounds_toArray, List.set_cons_zero, List.set_cons_succ, i64_w, i32_w]
                                    rfl
                                  refine take_ (i := 1) (N := some 84) (v := ?_) (a' := ?_) #[true, true, true, true, true, false, false, false] rfl rfl (take_ofW HT_.out HW_.out (by kernel_rfl)) (fun _ _ _ h => h) (Or.inl ⟨by rfl, ?_⟩) hHeld ?_ ?_
                                  rotate_left
                                  · rintro w' ⟨s0, s1, s2⟩
                                    go_simp
                                    with_reducible rfl
                                  rotate_left
                                  · simp only [Act.put, List.setIfInBounds_toArray, List.set_cons_zero, List.set_cons_succ, i64_w, i32_w]
                                    rfl
                                  refine take_ (i := 5) (N := some 88) (v := ?_) (a' := ?_) #[true, true, true, true, true, true, false, false] rfl rfl (take_ofW HT_.out HW_.out (by kernel_rfl)) (fun _ _ _ h => h) (Or.inl ⟨by rfl, ?_⟩) hHeld ?_ ?_
                                  rotate_left
                                  · rintro w' ⟨s0, s1, s2⟩
                                    go_simp
                                    with_reducible rfl
                                  rotate_left
                                  · simp only [Act.put, List.setIfInBounds_toArray, List.set_cons_zero, List.set_cons_succ, i64_w, i32_w]
                                    rfl
                                  refine one_ (i := 6) (N := some 89) #[true, true, true, true, true, true, true, false] rfl rfl (one_of HT_.out (by kernel_rfl)) (by decide) (fun K hK => ?_)
                                  refine goes_ Try.func59 (by kernel_rfl) rfl #[.slice A2_0 l2_0.length c2_0, .int .i64 (rd t315 x20_4)] (by rfl) rfl rfl (by (try simp only [List.map_toArray, List.map_cons, List.map_nil]); first | done | rfl | (simp only [List.length_drop, List.length_take]; rfl)) ?_
                                  with_reducible refine (verditerref02_Has.calls k4 _ _ l2_0 (rd t315 x20_4) true _ ?side1 ?side2 A40.out).mono ?_
                                  (case side1 => repeat (first | exact (Kd.V_reads' HO_293000.out).2.2 | (with_reducible refine Kd.C_alloc ?_ _) | (with_reducible refine Kd.C_drewN ?_ _) | (with_reducible refine Kd.C_drew ?_)))
                                  (case side2 => exact (Kd.V_reads' HO_293000.out).2.1)
                                  rintro e w' ⟨rfl, ⟨nd, rfl⟩⟩
                                  refine ⟨_, rfl, ?_⟩
                                  refine hK.out _ _ ⟨(blk_cell BK292.out 0).trans rfl, (blk_cell BK292.out 1).trans rfl, hHeld.2.2⟩ (fun hHeld => ?_)
                                  clear hK K
                                  refine norm_ (a' := ?_) ?_ ?_
                                  rotate_left
                                  · show Act.put _ (some 89) _ = _
                                    simp only [Act.put, List.setIfInBounds_toArray, List.set_cons_zero, List.set_cons_succ, i64_w, i32_w]
                                    rfl
                                  refine pure_ (i := 7) (N := some 90) (v := ?_) (a' := ?_) #[true, true, true, true, true, true, true, true] rfl rfl (any_of HT_.out (by kernel_rfl)) (fun _ _ _ h => h) (Or.inl ⟨by rfl, ?_⟩) ?_ ?_
                                  rotate_left
                                  · intro w'
                                    go_simp
                                    with_reducible rfl
                                  rotate_left
                                  · simp only [Act.put, List.setIfInBounds_toArray, List.set_cons_zero, List.set_cons_succ, i64_w, i32_w]
                                    rfl
                                  refine done_ (done_of HT_.out (by kernel_rfl)) ?_
                                  have p325 : 0 ≤ (x20_4 : Int) := of_decide_eq_true (by first | (with_reducible assumption) | assumption)
                                  have q325 : x20_4 < (t315.length : Int) := of_decide_eq_true (by first | (with_reducible assumption) | assumption)
                                  obtain ⟨ad325, e325, hx325_0⟩ := Kd.at_int (Kd.R_reads' HO_16.out).2.2 x20_4 p325 q325
                                  obtain rfl : ad323 = ad325 := (by injection e325)
                                  replace p325 := eq_true p325
                                  replace q325 := eq_true q325
                                  obtain ⟨Ao46, co46, eo46⟩ := Kd.R_slice HO_14.out
                                  subst eo46
                                  try go_wp2_with (first | ((with_reducible refine gate_callee (f := 59) rfl ?_); refine goesL_ (some 96) rfl rfl Try.func59 (by kernel_rfl) rfl #[.slice Ao46 t311.length co46, .int .i64 (rd t315 x20_4)] rfl (by (try simp only [List.map_toArray, List.map_cons, List.map_nil]); first | done | rfl | (simp only [List.length_drop, List.length_take]; rfl)) ?_; (with_reducible refine (verditerref02_Has.calls k4 _ _ t311 (rd t315 x20_4) true _ ?side1 ?side2 A42.out).mono ?_); (case side1 => repeat (first | exact (Kd.R_reads' HO_14.out).2.2 | (with_reducible refine Kd.C_alloc ?_ _) | (with_reducible refine Kd.C_drewN ?_ _) | (with_reducible refine Kd.C_drew ?_))); (case side2 => exact (Kd.R_reads' HO_14.out).2.1); rintro e w' ⟨rfl, ⟨nd, rfl⟩⟩; refine ⟨_, rfl, ?_⟩))
                                  go_roundg k4
                                  case measure => have := HJ3.out; have := HJ15.out; have := HJ32.out; have := HK4.out; omega
                                  case rel => exact ⟨(wrap64 (x18_4 + 1)), (x19_4), (wrap64 (x20_4 + 1)), (by first | rfl | (simp; done) | (simp [*]; done)), (by first | rfl | (simp; done) | (simp [*]; done)), (by first | rfl | (simp; done) | (simp [*]; done)), H', ⟨by have := HJ3.out; have := HJ15.out; have := HJ32.out; have := HK4.out; omega⟩, ⟨by (with_reducible repeat (first | apply Kd.R_alloc | apply Kd.R_drewN | apply Kd.R_drew)); exact HO_14.out⟩, ⟨by (with_reducible repeat (first | apply Kd.R_alloc | apply Kd.R_drewN | apply Kd.R_drew)); exact HO_16.out⟩, ⟨by (with_reducible repeat (first | apply Kd.V_alloc | apply Kd.V_drewN | apply Kd.V_drew)); exact HO_293000.out⟩, ⟨by (with_reducible repeat (first | refine blk_drewN ?_ _ | refine blk_drew ?_ | refine blk_alloc ?_ _)); exact BK292.out⟩, ⟨by repeat (first | (with_reducible first | exact HB.out | apply below_alloc | apply pw_below_drewN | apply below_drew1 | refine below_set ?_ GE292.out) | exact HB.out)⟩⟩
                                · replace c43 := Bool.eq_false_iff.mpr c43
                                  subst c43
                                  have H1 : (verditerlaw02_judgeAnswers.l0 k4 t304 t305 t307 t308 t311 t315 x18_4 (wrap64 (x19_4 + 1)) (wrap64 (x20_4 + 1)) l2_0 a2_1) = some r := by rw [if_neg (show ¬ (false = true) by decide)] at H; exact H
                                  clear H
                                  have H := H1
                                  clear H1
                                  have H' := Aside0.mk H
                                  clear H
                                  obtain ⟨Ao47, co47, eo47⟩ := Kd.R_slice HO_16.out
                                  subst eo47
                                  try go_wp2
                                  have n0_ := Aside0.mk (Kd.R_drew HO_14.out)
                                  have n1_ := Aside0.mk (Kd.R_drew HO_16.out)
                                  have n2_ := Aside0.mk (Kd.V_drew HO_293000.out)
                                  have n3_ := Aside0.mk (blk_drew BK292.out)
                                  have n4_ := Aside0.mk (below_drew1 HB.out)
                                  clear HO_14
                                  clear HO_16
                                  clear HO_293000
                                  clear BK292
                                  clear HB
                                  have HO_14 := n0_
                                  have HO_16 := n1_
                                  have HO_293000 := n2_
                                  have BK292 := n3_
                                  have HB := n4_
                                  clear n0_ n1_ n2_ n3_ n4_
                                  have p323 : 0 ≤ (x20_4 : Int) := of_decide_eq_true (by first | (with_reducible assumption) | assumption)
                                  have q323 : x20_4 < (t315.length : Int) := of_decide_eq_true (by first | (with_reducible assumption) | assumption)
                                  obtain ⟨ad323, e323, hx323_0⟩ := Kd.at_int (Kd.R_reads' HO_16.out).2.2 x20_4 p323 q323
                                  cases e323
                                  replace p323 := eq_true p323
                                  replace q323 := eq_true q323
                                  refine start_ (n := 8) (S := fun w' => w'.cell? ⟨gb292, 0, none⟩ = some (.slice A2_0 l2_0.length c2_0) ∧ w'.cell? ⟨gb292, 1, none⟩ = some (.bool a2_1) ∧ w'.cell? (ad323.add (x20_4).toNat) = some (.int .i64 (rd t315 x20_4))) (ds := []) #[false, false, false, false, false, false, false, false] (by kernel_rfl) rfl rfl ⟨(blk_cell BK292.out 0).trans rfl, (blk_cell BK292.out 1).trans rfl, hx323_0⟩ (fun hHeld => ?_); refine with_tabW verditerlaw02_judgeAnswers.tab16 verditerlaw02_judgeAnswers.bits16 (fun HT_ HW_ => ?_)
                                  generalize wr.drew = w48 at HO_14 HO_16 HO_293000 BK292 HB hx323_0 hHeld ⊢
                                  refine pure_ (i := 0) (N := some 83) (v := ?_) (a' := ?_) #[true, false, false, false, false, false, false, false] rfl rfl (any_of HT_.out (by kernel_rfl)) (fun _ _ _ h => h) (Or.inl ⟨by rfl, ?_⟩) ?_ ?_
                                  rotate_left
                                  · intro w'
                                    go_simp
                                    with_reducible rfl
                                  rotate_left
                                  · simp only [Act.put, List.setIfInBounds_toArray, List.set_cons_zero, List.set_cons_succ, i64_w, i32_w]
                                    rfl
                                  refine pure_ (i := 2) (N := some 85) (v := ?_) (a' := ?_) #[true, false, true, false, false, false, false, false] rfl rfl (any_of HT_.out (by kernel_rfl)) (fun _ _ _ h => h) (Or.inl ⟨by rfl, ?_⟩) ?_ ?_
                                  rotate_left
                                  · intro w'
                                    go_simp
                                    with_reducible rfl
                                  rotate_left
                                  · simp only [Act.put, List.setIfInBounds_toArray, List.set_cons_zero, List.set_cons_succ, i64_w, i32_w]
                                    rfl
                                  refine pure_ (i := 3) (N := some 86) (v := ?_) (a' := ?_) #[true, false, true, true, false, false, false, false] rfl rfl (any_of HT_.out (by kernel_rfl)) (fun _ _ _ h => h) (Or.inl ⟨by rfl, ?_⟩) ?_ ?_
                                  rotate_left
                                  · intro w'
                                    go_simp
                                    with_reducible rfl
                                  rotate_left
                                  · simp only [Act.put, List.setIfInBounds_toArray, List.set_cons_zero, List.set_cons_succ, i64_w, i32_w]
                                    rfl
                                  refine pure_ (i := 4) (N := some 87) (v := ?_) (a' := ?_) #[true, false, true, true, true, false, false, false] rfl rfl (any_of HT_.out (by kernel_rfl)) (fun _ _ _ h => h) (Or.inl ⟨by rfl, ?_⟩) ?_ ?_
                                  rotate_left
                                  · intro w'
                                    go_simp
                                    with_reducible rfl
                                  rotate_left
                                  · simp only [Act.put, List.setIfInBounds_toArray, List.set_cons_zero, List.set_cons_succ, i64_w, i32_w]
                                    rfl
                                  refine take_ (i := 1) (N := some 84) (v := ?_) (a' := ?_) #[true, true, true, true, true, false, false, false] rfl rfl (take_ofW HT_.out HW_.out (by kernel_rfl)) (fun _ _ _ h => h) (Or.inl ⟨by rfl, ?_⟩) hHeld ?_ ?_
                                  rotate_left
                                  · rintro w' ⟨s0, s1, s2⟩
                                    go_simp
                                    with_reducible rfl
                                  rotate_left
                                  · simp only [Act.put, List.setIfInBounds_toArray, List.set_cons_zero, List.set_cons_succ, i64_w, i32_w]
                                    rfl
                                  refine take_ (i := 5) (N := some 88) (v := ?_) (a' := ?_) #[true, true, true, true, true, true, false, false] rfl rfl (take_ofW HT_.out HW_.out (by kernel_rfl)) (fun _ _ _ h => h) (Or.inl ⟨by rfl, ?_⟩) hHeld ?_ ?_
                                  rotate_left
                                  · rintro w' ⟨s0, s1, s2⟩
                                    go_simp
                                    with_reducible rfl
                                  rotate_left
                                  · simp only [Act.put, List.setIfInBounds_toArray, List.set_cons_zero, List.set_cons_succ, i64_w, i32_w]
                                    rfl
                                  refine one_ (i := 6) (N := some 89) #[true, true, true, true, true, true, true, false] rfl rfl (one_of HT_.out (by kernel_rfl)) (by decide) (fun K hK => ?_)
                                  refine goes_ Try.func59 (by kernel_rfl) rfl #[.slice A2_0 l2_0.length c2_0, .int .i64 (rd t315 x20_4)] (by rfl) rfl rfl (by (try simp only [List.map_toArray, List.map_cons, List.map_nil]); first | done | rfl | (simp only [List.length_drop, List.length_take]; rfl)) ?_
                                  with_reducible refine (verditerref02_Has.calls k4 _ _ l2_0 (rd t315 x20_4) true _ ?side1 ?side2 A40.out).mono ?_
                                  (case side1 => repeat (first | exact (Kd.V_reads' HO_293000.out).2.2 | (with_reducible refine Kd.C_alloc ?_ _) | (with_reducible refine Kd.C_drewN ?_ _) | (with_reducible refine Kd.C_drew ?_)))
                                  (case side2 => exact (Kd.V_reads' HO_293000.out).2.1)
                                  rintro e w' ⟨rfl, ⟨nd, rfl⟩⟩
                                  refine ⟨_, rfl, ?_⟩
                                  refine hK.out _ _ ⟨(blk_cell BK292.out 0).trans rfl, (blk_cell BK292.out 1).trans rfl, hHeld.2.2⟩ (fun hHeld => ?_)
                                  clear hK K
                                  refine norm_ (a' := ?_) ?_ ?_
                                  rotate_left
                                  · show Act.put _ (some 89) _ = _
                                    simp only [Act.put, List.setIfInBounds_toArray, List.set_cons_zero, List.set_cons_succ, i64_w, i32_w]
                                    rfl
                                  refine pure_ (i := 7) (N := some 90) (v := ?_) (a' := ?_) #[true, true, true, true, true, true, true, true] rfl rfl (any_of HT_.out (by kernel_rfl)) (fun _ _ _ h => h) (Or.inl ⟨by rfl, ?_⟩) ?_ ?_
                                  rotate_left
                                  · intro w'
                                    go_simp
                                    with_reducible rfl
                                  rotate_left
                                  · simp only [Act.put, List.setIfInBounds_toArray, List.set_cons_zero, List.set_cons_succ, i64_w, i32_w]
                                    rfl
                                  refine done_ (done_of HT_.out (by kernel_rfl)) ?_
                                  have p325 : 0 ≤ (x20_4 : Int) := of_decide_eq_true (by first | (with_reducible assumption) | assumption)
                                  have q325 : x20_4 < (t315.length : Int) := of_decide_eq_true (by first | (with_reducible assumption) | assumption)
                                  obtain ⟨ad325, e325, hx325_0⟩ := Kd.at_int (Kd.R_reads' HO_16.out).2.2 x20_4 p325 q325
                                  obtain rfl : ad323 = ad325 := (by injection e325)
                                  replace p325 := eq_true p325
                                  replace q325 := eq_true q325
                                  obtain ⟨Ao49, co49, eo49⟩ := Kd.R_slice HO_14.out
                                  subst eo49
                                  try go_wp2_with (first | ((with_reducible refine gate_callee (f := 59) rfl ?_); refine goesL_ (some 96) rfl rfl Try.func59 (by kernel_rfl) rfl #[.slice Ao49 t311.length co49, .int .i64 (rd t315 x20_4)] rfl (by (try simp only [List.map_toArray, List.map_cons, List.map_nil]); first | done | rfl | (simp only [List.length_drop, List.length_take]; rfl)) ?_; (with_reducible refine (verditerref02_Has.calls k4 _ _ t311 (rd t315 x20_4) false _ ?side1 ?side2 A42.out).mono ?_); (case side1 => repeat (first | exact (Kd.R_reads' HO_14.out).2.2 | (with_reducible refine Kd.C_alloc ?_ _) | (with_reducible refine Kd.C_drewN ?_ _) | (with_reducible refine Kd.C_drew ?_))); (case side2 => exact (Kd.R_reads' HO_14.out).2.1); rintro e w' ⟨rfl, ⟨nd, rfl⟩⟩; refine ⟨_, rfl, ?_⟩))
                                  go_roundg k4
                                  case measure => have := HJ3.out; have := HJ15.out; have := HJ32.out; have := HK4.out; omega
                                  case rel => exact ⟨(x18_4), (wrap64 (x19_4 + 1)), (wrap64 (x20_4 + 1)), (by first | rfl | (simp; done) | (simp [*]; done)), (by first | rfl | (simp; done) | (simp [*]; done)), (by first | rfl | (simp; done) | (simp [*]; done)), H', ⟨by have := HJ3.out; have := HJ15.out; have := HJ32.out; have := HK4.out; omega⟩, ⟨by (with_reducible repeat (first | apply Kd.R_alloc | apply Kd.R_drewN | apply Kd.R_drew)); exact HO_14.out⟩, ⟨by (with_reducible repeat (first | apply Kd.R_alloc | apply Kd.R_drewN | apply Kd.R_drew)); exact HO_16.out⟩, ⟨by (with_reducible repeat (first | apply Kd.V_alloc | apply Kd.V_drewN | apply Kd.V_drew)); exact HO_293000.out⟩, ⟨by (with_reducible repeat (first | refine blk_drewN ?_ _ | refine blk_drew ?_ | refine blk_alloc ?_ _)); exact BK292.out⟩, ⟨by repeat (first | (with_reducible first | exact HB.out | apply below_alloc | apply pw_below_drewN | apply below_drew1 | refine below_set ?_ GE292.out) | exact HB.out)⟩⟩
                              · replace c41 := Bool.eq_false_iff.mpr c41
                                subst c41
                                have H1 : (verditerlaw02_judgeAnswers.l0 k4 t304 t305 t307 t308 t311 t315 x18_4 x19_4 (wrap64 (x20_4 + 1)) l2_0 a2_1) = some r := by rw [if_neg (show ¬ (false = true) by decide)] at H; exact H
                                clear H
                                have H := H1
                                clear H1
                                have H' := Aside0.mk H
                                clear H
                                obtain ⟨Ao50, co50, eo50⟩ := Kd.R_slice HO_16.out
                                subst eo50
                                try go_wp2
                                have n0_ := Aside0.mk (Kd.R_drew HO_14.out)
                                have n1_ := Aside0.mk (Kd.R_drew HO_16.out)
                                have n2_ := Aside0.mk (Kd.V_drew HO_293000.out)
                                have n3_ := Aside0.mk (blk_drew BK292.out)
                                have n4_ := Aside0.mk (below_drew1 HB.out)
                                clear HO_14
                                clear HO_16
                                clear HO_293000
                                clear BK292
                                clear HB
                                have HO_14 := n0_
                                have HO_16 := n1_
                                have HO_293000 := n2_
                                have BK292 := n3_
                                have HB := n4_
                                clear n0_ n1_ n2_ n3_ n4_
                                have p323 : 0 ≤ (x20_4 : Int) := of_decide_eq_true (by first | (with_reducible assumption) | assumption)
                                have q323 : x20_4 < (t315.length : Int) := of_decide_eq_true (by first | (with_reducible assumption) | assumption)
                                obtain ⟨ad323, e323, hx323_0⟩ := Kd.at_int (Kd.R_reads' HO_16.out).2.2 x20_4 p323 q323
                                cases e323
                                replace p323 := eq_true p323
                                replace q323 := eq_true q323
                                refine start_ (n := 8) (S := fun w' => w'.cell? ⟨gb292, 0, none⟩ = some (.slice A2_0 l2_0.length c2_0) ∧ w'.cell? ⟨gb292, 1, none⟩ = some (.bool a2_1) ∧ w'.cell? (ad323.add (x20_4).toNat) = some (.int .i64 (rd t315 x20_4))) (ds := []) #[false, false, false, false, false, false, false, false] (by kernel_rfl) rfl rfl ⟨(blk_cell BK292.out 0).trans rfl, (blk_cell BK292.out 1).trans rfl, hx323_0⟩ (fun hHeld => ?_); refine with_tabW verditerlaw02_judgeAnswers.tab16 verditerlaw02_judgeAnswers.bits16 (fun HT_ HW_ => ?_)
                                generalize wr.drew = w51 at HO_14 HO_16 HO_293000 BK292 HB hx323_0 hHeld ⊢
                                refine pure_ (i := 0) (N := some 83) (v := ?_) (a' := ?_) #[true, false, false, false, false, false, false, false] rfl rfl (any_of HT_.out (by kernel_rfl)) (fun _ _ _ h => h) (Or.inl ⟨by rfl, ?_⟩) ?_ ?_
                                rotate_left
                                · intro w'
                                  go_simp
                                  with_reducible rfl
                                rotate_left
                                · simp only [Act.put, List.setIfInBounds_toArray, List.set_cons_zero, List.set_cons_succ, i64_w, i32_w]
                                  rfl
                                refine pure_ (i := 2) (N := some 85) (v := ?_) (a' := ?_) #[true, false, true, false, false, false, false, false] rfl rfl (any_of HT_.out (by kernel_rfl)) (fun _ _ _ h => h) (Or.inl ⟨by rfl, ?_⟩) ?_ ?_
                                rotate_left
                                · intro w'
                                  go_simp
                                  with_reducible rfl
                                rotate_left
                                · simp only [Act.put, List.setIfInBounds_toArray, List.set_cons_zero, List.set_cons_succ, i64_w, i32_w]
                                  rfl
                                refine pure_ (i := 3) (N := some 86) (v := ?_) (a' := ?_) #[true, false, true, true, false, false, false, false] rfl rfl (any_of HT_.out (by kernel_rfl)) (fun _ _ _ h => h) (Or.inl ⟨by rfl, ?_⟩) ?_ ?_
                                rotate_left
                                · intro w'
                                  go_simp
                                  with_reducible rfl
                                rotate_left
                                · simp only [Act.put, List.setIfInBounds_toArray, List.set_cons_zero, List.set_cons_succ, i64_w, i32_w]
                                  rfl
                                refine pure_ (i := 4) (N := some 87) (v := ?_) (a' := ?_) #[true, false, true, true, true, false, false, false] rfl rfl (any_of HT_.out (by kernel_rfl)) (fun _ _ _ h => h) (Or.inl ⟨by rfl, ?_⟩) ?_ ?_
                                rotate_left
                                · intro w'
                                  go_simp
                                  with_reducible rfl
                                rotate_left
                                · simp only [Act.put, List.setIfInBounds_toArray, List.set_cons_zero, List.set_cons_succ, i64_w, i32_w]
                                  rfl
                                refine take_ (i := 1) (N := some 84) (v := ?_) (a' := ?_) #[true, true, true, true, true, false, false, false] rfl rfl (take_ofW HT_.out HW_.out (by kernel_rfl)) (fun _ _ _ h => h) (Or.inl ⟨by rfl, ?_⟩) hHeld ?_ ?_
                                rotate_left
                                · rintro w' ⟨s0, s1, s2⟩
                                  go_simp
                                  with_reducible rfl
                                rotate_left
                                · simp only [Act.put, List.setIfInBounds_toArray, List.set_cons_zero, List.set_cons_succ, i64_w, i32_w]
                                  rfl
                                refine take_ (i := 5) (N := some 88) (v := ?_) (a' := ?_) #[true, true, true, true, true, true, false, false] rfl rfl (take_ofW HT_.out HW_.out (by kernel_rfl)) (fun _ _ _ h => h) (Or.inl ⟨by rfl, ?_⟩) hHeld ?_ ?_
                                rotate_left
                                · rintro w' ⟨s0, s1, s2⟩
                                  go_simp
                                  with_reducible rfl
                                rotate_left
                                · simp only [Act.put, List.setIfInBounds_toArray, List.set_cons_zero, List.set_cons_succ, i64_w, i32_w]
                                  rfl
                                refine one_ (i := 6) (N := some 89) #[true, true, true, true, true, true, true, false] rfl rfl (one_of HT_.out (by kernel_rfl)) (by decide) (fun K hK => ?_)
                                refine goes_ Try.func59 (by kernel_rfl) rfl #[.slice A2_0 l2_0.length c2_0, .int .i64 (rd t315 x20_4)] (by rfl) rfl rfl (by (try simp only [List.map_toArray, List.map_cons, List.map_nil]); first | done | rfl | (simp only [List.length_drop, List.length_take]; rfl)) ?_
                                with_reducible refine (verditerref02_Has.calls k4 _ _ l2_0 (rd t315 x20_4) false _ ?side1 ?side2 A40.out).mono ?_
                                (case side1 => repeat (first | exact (Kd.V_reads' HO_293000.out).2.2 | (with_reducible refine Kd.C_alloc ?_ _) | (with_reducible refine Kd.C_drewN ?_ _) | (with_reducible refine Kd.C_drew ?_)))
                                (case side2 => exact (Kd.V_reads' HO_293000.out).2.1)
                                rintro e w' ⟨rfl, ⟨nd, rfl⟩⟩
                                refine ⟨_, rfl, ?_⟩
                                refine hK.out _ _ ⟨(blk_cell BK292.out 0).trans rfl, (blk_cell BK292.out 1).trans rfl, hHeld.2.2⟩ (fun hHeld => ?_)
                                clear hK K
                                refine norm_ (a' := ?_) ?_ ?_
                                rotate_left
                                · show Act.put _ (some 89) _ = _
                                  simp only [Act.put, List.setIfInBounds_toArray, List.set_cons_zero, List.set_cons_succ, i64_w, i32_w]
                                  rfl
                                refine pure_ (i := 7) (N := some 90) (v := ?_) (a' := ?_) #[true, true, true, true, true, true, true, true] rfl rfl (any_of HT_.out (by kernel_rfl)) (fun _ _ _ h => h) (Or.inl ⟨by rfl, ?_⟩) ?_ ?_
                                rotate_left
                                · intro w'
                                  go_simp
                                  with_reducible rfl
                                rotate_left
                                · simp only [Act.put, List.setIfInBounds_toArray, List.set_cons_zero, List.set_cons_succ, i64_w, i32_w]
                                  rfl
                                refine done_ (done_of HT_.out (by kernel_rfl)) ?_
                                try go_wp2
                                go_roundg k4
                                case measure => have := HJ3.out; have := HJ15.out; have := HJ32.out; have := HK4.out; omega
                                case rel => exact ⟨(x18_4), (x19_4), (wrap64 (x20_4 + 1)), (by first | rfl | (simp; done) | (simp [*]; done)), (by first | rfl | (simp; done) | (simp [*]; done)), (by first | rfl | (simp; done) | (simp [*]; done)), H', ⟨by have := HJ3.out; have := HJ15.out; have := HJ32.out; have := HK4.out; omega⟩, ⟨by (with_reducible repeat (first | apply Kd.R_alloc | apply Kd.R_drewN | apply Kd.R_drew)); exact HO_14.out⟩, ⟨by (with_reducible repeat (first | apply Kd.R_alloc | apply Kd.R_drewN | apply Kd.R_drew)); exact HO_16.out⟩, ⟨by (with_reducible repeat (first | apply Kd.V_alloc | apply Kd.V_drewN | apply Kd.V_drew)); exact HO_293000.out⟩, ⟨by (with_reducible repeat (first | refine blk_drewN ?_ _ | refine blk_drew ?_ | refine blk_alloc ?_ _)); exact BK292.out⟩, ⟨by repeat (first | (with_reducible first | exact HB.out | apply below_alloc | apply pw_below_drewN | apply below_drew1 | refine below_set ?_ GE292.out) | exact HB.out)⟩⟩
                            · rw [if_neg c39] at H
                              exact absurd H (by simp)
                          · rw [if_neg c38] at H
                            have c38b0 : decide (x20_4 < (t315.length : Int)) = false := decide_eq_false c38
                            clear c38
                            replace H := Option.bind_eq_some_iff.mp H
                            obtain ⟨⟨t319, t320, t321⟩, A520, H⟩ := H
                            replace H : (if t321 = 0 then (if t319 = t307 then (if t320 = t308 then ((verditerlaw02_known.f k4).bind fun t322 => (some t322)) else (some false)) else (some false)) else (some false)) = some r := H
                            have A52 := Aside0.mk A520
                            clear A520
                            by_cases c53 : t321 = 0
                            · rw [if_pos c53] at H
                              have c53b0 : (t321 == 0) = true := beq_iff_eq.mpr c53
                              have c53b1 : (t321 != 0) = false := bne_eq_false_iff_eq.mpr c53
                              clear c53
                              by_cases c54 : t319 = t307
                              · rw [if_pos c54] at H
                                have c54b0 : (t319 == t307) = true := beq_iff_eq.mpr c54
                                have c54b1 : (t319 != t307) = false := bne_eq_false_iff_eq.mpr c54
                                clear c54
                                by_cases c55 : t320 = t308
                                · rw [if_pos c55] at H
                                  have c55b0 : (t320 == t308) = true := beq_iff_eq.mpr c55
                                  have c55b1 : (t320 != t308) = false := bne_eq_false_iff_eq.mpr c55
                                  clear c55
                                  replace H := Option.bind_eq_some_iff.mp H
                                  obtain ⟨t322, A560, H⟩ := H
                                  replace H : (some t322) = some r := H
                                  have A56 := Aside0.mk A560
                                  clear A560
                                  obtain rfl := Option.some.inj H
                                  obtain ⟨Ao57, co57, eo57⟩ := Kd.R_slice HO_16.out
                                  subst eo57
                                  have hcz58_0 : wr.cell? ⟨gb292, 0, none⟩ = some (.slice A2_0 l2_0.length c2_0) := (blk_cell BK292.out 0).trans rfl
                                  have hcz58_1 : wr.cell? ⟨gb292, 1, none⟩ = some (.bool a2_1) := (blk_cell BK292.out 1).trans rfl
                                  have hfz58_0 := blk_frozen BK292.out 0
                                  have hfz58_1 := blk_frozen BK292.out 1
                                  go_wp2_with (first | ((with_reducible refine gate_callee (f := 32) rfl ?_); refine goesL_ (some 108) rfl rfl Try.func32 (by kernel_rfl) rfl #[.int .i64 t304, .int .i64 t305, .int .i64 x18_4, .int .i64 x19_4, .bool a2_1] rfl (by (try simp only [List.map_toArray, List.map_cons, List.map_nil]); first | done | rfl | (simp only [List.length_drop, List.length_take]; rfl)) ?_; (with_reducible refine (judge_After.calls t304 t305 x18_4 x19_4 a2_1 t319 t320 t321 _ A52.out).mono ?_); rintro e w59 ⟨rfl, hb⟩; refine ⟨_, rfl, ?_⟩; have n0_ := Aside0.mk (Kd.R_below (by (with_reducible repeat (first | apply Kd.R_alloc | apply Kd.R_drewN | apply Kd.R_drew)); exact HO_14.out) hb); have n1_ := Aside0.mk (Kd.R_below (by (with_reducible repeat (first | apply Kd.R_alloc | apply Kd.R_drewN | apply Kd.R_drew)); exact HO_16.out) hb); have n2_ := Aside0.mk (Kd.V_below (by (with_reducible repeat (first | apply Kd.V_alloc | apply Kd.V_drewN | apply Kd.V_drew)); exact HO_293000.out) hb); have n3_ := Aside0.mk (blk_below (g := gb292) (o := .cells #[.slice A2_0 l2_0.length c2_0, .bool a2_1] 49 (0, 0)) (by (with_reducible repeat (first | refine blk_drewN ?_ _ | refine blk_drew ?_ | refine blk_alloc ?_ _)); exact BK292.out) hb); have n4_ := Aside0.mk (below_step (by repeat (first | (with_reducible first | exact HB.out | apply below_alloc | apply pw_below_drewN | apply below_drew1 | refine below_set ?_ GE292.out) | exact HB.out)) hb); clear HO_14; clear HO_16; clear HO_293000; clear BK292; clear HB; have HO_14 := n0_; have HO_16 := n1_; have HO_293000 := n2_; have BK292 := n3_; have HB := n4_; clear n0_ n1_ n2_ n3_ n4_; (try clear hb); (try clear hb2); (try clear hk); (try clear hi)) | (go_at_call 20; (with_reducible refine (verditerlaw02_known.calls k4  t322 _ A56.out).mono ?_); rintro e w60 ⟨rfl, hb⟩; have n0_ := Aside0.mk (Kd.R_below (by (with_reducible repeat (first | apply Kd.R_alloc | apply Kd.R_drewN | apply Kd.R_drew)); exact HO_14.out) hb); have n1_ := Aside0.mk (Kd.R_below (by (with_reducible repeat (first | apply Kd.R_alloc | apply Kd.R_drewN | apply Kd.R_drew)); exact HO_16.out) hb); have n2_ := Aside0.mk (Kd.V_below (by (with_reducible repeat (first | apply Kd.V_alloc | apply Kd.V_drewN | apply Kd.V_drew)); exact HO_293000.out) hb); have n3_ := Aside0.mk (blk_below (g := gb292) (o := .cells #[.slice A2_0 l2_0.length c2_0, .bool a2_1] 49 (0, 0)) (by (with_reducible repeat (first | refine blk_drewN ?_ _ | refine blk_drew ?_ | refine blk_alloc ?_ _)); exact BK292.out) hb); have n4_ := Aside0.mk (below_step (by repeat (first | (with_reducible first | exact HB.out | apply below_alloc | apply pw_below_drewN | apply below_drew1 | refine below_set ?_ GE292.out) | exact HB.out)) hb); clear HO_14; clear HO_16; clear HO_293000; clear BK292; clear HB; have HO_14 := n0_; have HO_16 := n1_; have HO_293000 := n2_; have BK292 := n3_; have HB := n4_; clear n0_ n1_ n2_ n3_ n4_; (try clear hb); (try clear hb2); (try clear hk); (try clear hi)))
                                  go_ret
                                  exact ⟨by first | rfl | (simp [errW_none, errW_some] <;> rfl) | (simp [*, errW_none, errW_some] <;> rfl), by repeat (first | (with_reducible first | exact HB.out | apply below_alloc | apply pw_below_drewN | apply below_drew1 | refine below_set ?_ GE292.out) | exact HB.out)⟩
                                · rw [if_neg c55] at H
                                  have c55b0 : (t320 == t308) = false := beq_eq_false_iff_ne.mpr c55
                                  have c55b1 : (t320 != t308) = true := bne_iff_ne.mpr c55
                                  obtain rfl := Option.some.inj H
                                  obtain ⟨Ao61, co61, eo61⟩ := Kd.R_slice HO_16.out
                                  subst eo61
                                  have hcz62_0 : wr.cell? ⟨gb292, 0, none⟩ = some (.slice A2_0 l2_0.length c2_0) := (blk_cell BK292.out 0).trans rfl
                                  have hcz62_1 : wr.cell? ⟨gb292, 1, none⟩ = some (.bool a2_1) := (blk_cell BK292.out 1).trans rfl
                                  have hfz62_0 := blk_frozen BK292.out 0
                                  have hfz62_1 := blk_frozen BK292.out 1
                                  go_wp2_with (first | ((with_reducible refine gate_callee (f := 32) rfl ?_); refine goesL_ (some 108) rfl rfl Try.func32 (by kernel_rfl) rfl #[.int .i64 t304, .int .i64 t305, .int .i64 x18_4, .int .i64 x19_4, .bool a2_1] rfl (by (try simp only [List.map_toArray, List.map_cons, List.map_nil]); first | done | rfl | (simp only [List.length_drop, List.length_take]; rfl)) ?_; (with_reducible refine (judge_After.calls t304 t305 x18_4 x19_4 a2_1 t319 t320 t321 _ A52.out).mono ?_); rintro e w63 ⟨rfl, hb⟩; refine ⟨_, rfl, ?_⟩; have n0_ := Aside0.mk (Kd.R_below (by (with_reducible repeat (first | apply Kd.R_alloc | apply Kd.R_drewN | apply Kd.R_drew)); exact HO_14.out) hb); have n1_ := Aside0.mk (Kd.R_below (by (with_reducible repeat (first | apply Kd.R_alloc | apply Kd.R_drewN | apply Kd.R_drew)); exact HO_16.out) hb); have n2_ := Aside0.mk (Kd.V_below (by (with_reducible repeat (first | apply Kd.V_alloc | apply Kd.V_drewN | apply Kd.V_drew)); exact HO_293000.out) hb); have n3_ := Aside0.mk (blk_below (g := gb292) (o := .cells #[.slice A2_0 l2_0.length c2_0, .bool a2_1] 49 (0, 0)) (by (with_reducible repeat (first | refine blk_drewN ?_ _ | refine blk_drew ?_ | refine blk_alloc ?_ _)); exact BK292.out) hb); have n4_ := Aside0.mk (below_step (by repeat (first | (with_reducible first | exact HB.out | apply below_alloc | apply pw_below_drewN | apply below_drew1 | refine below_set ?_ GE292.out) | exact HB.out)) hb); clear HO_14; clear HO_16; clear HO_293000; clear BK292; clear HB; have HO_14 := n0_; have HO_16 := n1_; have HO_293000 := n2_; have BK292 := n3_; have HB := n4_; clear n0_ n1_ n2_ n3_ n4_; (try clear hb); (try clear hb2); (try clear hk); (try clear hi)))
                                  go_ret
                                  exact ⟨by first | rfl | (simp [errW_none, errW_some] <;> rfl) | (simp [*, errW_none, errW_some] <;> rfl), by repeat (first | (with_reducible first | exact HB.out | apply below_alloc | apply pw_below_drewN | apply below_drew1 | refine below_set ?_ GE292.out) | exact HB.out)⟩
                              · rw [if_neg c54] at H
                                have c54b0 : (t319 == t307) = false := beq_eq_false_iff_ne.mpr c54
                                have c54b1 : (t319 != t307) = true := bne_iff_ne.mpr c54
                                obtain rfl := Option.some.inj H
                                obtain ⟨Ao64, co64, eo64⟩ := Kd.R_slice HO_16.out
                                subst eo64
                                have hcz65_0 : wr.cell? ⟨gb292, 0, none⟩ = some (.slice A2_0 l2_0.length c2_0) := (blk_cell BK292.out 0).trans rfl
                                have hcz65_1 : wr.cell? ⟨gb292, 1, none⟩ = some (.bool a2_1) := (blk_cell BK292.out 1).trans rfl
                                have hfz65_0 := blk_frozen BK292.out 0
                                have hfz65_1 := blk_frozen BK292.out 1
                                go_wp2_with (first | ((with_reducible refine gate_callee (f := 32) rfl ?_); refine goesL_ (some 108) rfl rfl Try.func32 (by kernel_rfl) rfl #[.int .i64 t304, .int .i64 t305, .int .i64 x18_4, .int .i64 x19_4, .bool a2_1] rfl (by (try simp only [List.map_toArray, List.map_cons, List.map_nil]); first | done | rfl | (simp only [List.length_drop, List.length_take]; rfl)) ?_; (with_reducible refine (judge_After.calls t304 t305 x18_4 x19_4 a2_1 t319 t320 t321 _ A52.out).mono ?_); rintro e w66 ⟨rfl, hb⟩; refine ⟨_, rfl, ?_⟩; have n0_ := Aside0.mk (Kd.R_below (by (with_reducible repeat (first | apply Kd.R_alloc | apply Kd.R_drewN | apply Kd.R_drew)); exact HO_14.out) hb); have n1_ := Aside0.mk (Kd.R_below (by (with_reducible repeat (first | apply Kd.R_alloc | apply Kd.R_drewN | apply Kd.R_drew)); exact HO_16.out) hb); have n2_ := Aside0.mk (Kd.V_below (by (with_reducible repeat (first | apply Kd.V_alloc | apply Kd.V_drewN | apply Kd.V_drew)); exact HO_293000.out) hb); have n3_ := Aside0.mk (blk_below (g := gb292) (o := .cells #[.slice A2_0 l2_0.length c2_0, .bool a2_1] 49 (0, 0)) (by (with_reducible repeat (first | refine blk_drewN ?_ _ | refine blk_drew ?_ | refine blk_alloc ?_ _)); exact BK292.out) hb); have n4_ := Aside0.mk (below_step (by repeat (first | (with_reducible first | exact HB.out | apply below_alloc | apply pw_below_drewN | apply below_drew1 | refine below_set ?_ GE292.out) | exact HB.out)) hb); clear HO_14; clear HO_16; clear HO_293000; clear BK292; clear HB; have HO_14 := n0_; have HO_16 := n1_; have HO_293000 := n2_; have BK292 := n3_; have HB := n4_; clear n0_ n1_ n2_ n3_ n4_; (try clear hb); (try clear hb2); (try clear hk); (try clear hi)))
                                go_ret
                                exact ⟨by first | rfl | (simp [errW_none, errW_some] <;> rfl) | (simp [*, errW_none, errW_some] <;> rfl), by repeat (first | (with_reducible first | exact HB.out | apply below_alloc | apply pw_below_drewN | apply below_drew1 | refine below_set ?_ GE292.out) | exact HB.out)⟩
                            · rw [if_neg c53] at H
                              have c53b0 : (t321 == 0) = false := beq_eq_false_iff_ne.mpr c53
                              have c53b1 : (t321 != 0) = true := bne_iff_ne.mpr c53
                              obtain rfl := Option.some.inj H
                              obtain ⟨Ao67, co67, eo67⟩ := Kd.R_slice HO_16.out
                              subst eo67
                              have hcz68_0 : wr.cell? ⟨gb292, 0, none⟩ = some (.slice A2_0 l2_0.length c2_0) := (blk_cell BK292.out 0).trans rfl
                              have hcz68_1 : wr.cell? ⟨gb292, 1, none⟩ = some (.bool a2_1) := (blk_cell BK292.out 1).trans rfl
                              have hfz68_0 := blk_frozen BK292.out 0
                              have hfz68_1 := blk_frozen BK292.out 1
                              go_wp2_with (first | ((with_reducible refine gate_callee (f := 32) rfl ?_); refine goesL_ (some 108) rfl rfl Try.func32 (by kernel_rfl) rfl #[.int .i64 t304, .int .i64 t305, .int .i64 x18_4, .int .i64 x19_4, .bool a2_1] rfl (by (try simp only [List.map_toArray, List.map_cons, List.map_nil]); first | done | rfl | (simp only [List.length_drop, List.length_take]; rfl)) ?_; (with_reducible refine (judge_After.calls t304 t305 x18_4 x19_4 a2_1 t319 t320 t321 _ A52.out).mono ?_); rintro e w69 ⟨rfl, hb⟩; refine ⟨_, rfl, ?_⟩; have n0_ := Aside0.mk (Kd.R_below (by (with_reducible repeat (first | apply Kd.R_alloc | apply Kd.R_drewN | apply Kd.R_drew)); exact HO_14.out) hb); have n1_ := Aside0.mk (Kd.R_below (by (with_reducible repeat (first | apply Kd.R_alloc | apply Kd.R_drewN | apply Kd.R_drew)); exact HO_16.out) hb); have n2_ := Aside0.mk (Kd.V_below (by (with_reducible repeat (first | apply Kd.V_alloc | apply Kd.V_drewN | apply Kd.V_drew)); exact HO_293000.out) hb); have n3_ := Aside0.mk (blk_below (g := gb292) (o := .cells #[.slice A2_0 l2_0.length c2_0, .bool a2_1] 49 (0, 0)) (by (with_reducible repeat (first | refine blk_drewN ?_ _ | refine blk_drew ?_ | refine blk_alloc ?_ _)); exact BK292.out) hb); have n4_ := Aside0.mk (below_step (by repeat (first | (with_reducible first | exact HB.out | apply below_alloc | apply pw_below_drewN | apply below_drew1 | refine below_set ?_ GE292.out) | exact HB.out)) hb); clear HO_14; clear HO_16; clear HO_293000; clear BK292; clear HB; have HO_14 := n0_; have HO_16 := n1_; have HO_293000 := n2_; have BK292 := n3_; have HB := n4_; clear n0_ n1_ n2_ n3_ n4_; (try clear hb); (try clear hb2); (try clear hk); (try clear hi)))
                              go_ret
                              exact ⟨by first | rfl | (simp [errW_none, errW_some] <;> rfl) | (simp [*, errW_none, errW_some] <;> rfl), by repeat (first | (with_reducible first | exact HB.out | apply below_alloc | apply pw_below_drewN | apply below_drew1 | refine below_set ?_ GE292.out) | exact HB.out)⟩
        · rw [if_neg c13] at H
          exact absurd H (by simp)

end Go.Proofs.Ytfejfljgdeglgaa.K
