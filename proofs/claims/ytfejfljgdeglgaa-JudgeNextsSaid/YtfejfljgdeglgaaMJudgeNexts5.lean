/- Texts of this claim in one file: K18, HCo, HNx, K19, QNx. -/
import Derived.Test.YtfejfljgdeglgaaMJudgeNexts0
import Derived.Test.YtfejfljgdeglgaaMJudgeNexts4
import Derived.Test.YtfejfljgdeglgaaMJudgeNexts1
import Derived.Test.YtfejfljgdeglgaaMJudgeNexts2
import Derived.Deep.RegionHeld3
import Derived.StillTailTactics
import Derived.Test.YtfejfljgdeglgaaMJudgeNexts3

/- DERIVED by wip/pr.py: for each Go function named below a Lean function with the same answers, and that a call of it comes to these answers, for all arguments and memories, where the Lean function has an answer. -/
namespace Go.Proofs.Ytfejfljgdeglgaa.K
open Go.RowKit Go.Proofs.YtfejfljgdeglgaaW.PrintWords Go.Proofs.YtfejfljgdeglgaaW.PrintLast Go.Proofs.YtfejfljgdeglgaaW.PrintMore
attribute [local go_sem] max2_int min2_int max_two min_two max_three min_three max_four min_four   -- for this text's walks alone
set_option linter.unusedVariables false
set_option linter.unusedSimpArgs false

/-! ### verditerref02_NextError: function 75 -/
def verditerref02_NextError.f (k : Nat) (a0 : Int) (l1 : List (S49)) : Option (Bool × Int) := (verditerref02_State.f k a0 l1).bind fun bt225 => (if bt225.2.2 = 0 then (if (l1.length : Int) ≥ 12 then (some (false, 10)) else (some (decide ((wrap64 (bt225.1 + bt225.2.1)) > 1), 0))) else (some (false, bt225.2.2)))
theorem verditerref02_NextError.mono : ∀ a0 a1 k, LeO (verditerref02_NextError.f k a0 a1) (verditerref02_NextError.f (k + 1) a0 a1) := by
  intro a0 a1 k
  unfold verditerref02_NextError.f
  repeat' first
      | (with_reducible exact verditerref02_State.mono _ _ _)
      | (with_reducible exact LeO.refl _)
      | (with_reducible exact LeO.none _)
      | (with_reducible refine LeO.ite ?_ ?_)
      | (with_reducible refine LeO.bind ?_ (fun _ => ?_))
      | exact verditerref02_State.mono _ _ _
      | exact LeO.none _
      | refine LeO.ite ?_ ?_
      | refine LeO.bind ?_ (fun _ => ?_)
set_option maxHeartbeats 8000000 in
set_option maxRecDepth 100000 in
theorem verditerref02_NextError.calls (k : Nat) (a0 : Int) (A1 : Option Addr) (c1 : Nat) (l1 : List (S49)) (r1 : Bool) (r2 : Int) (w : World) (hr1 : Kd.C k49 w A1 l1.length l1) (hc1 : l1.length ≤ c1) (h : verditerref02_NextError.f k a0 l1 = some (r1, r2)) :
    Calls Try.prog 75 #[.int .i64 a0, .slice A1 l1.length c1] w fun e w' => e = .returned (.tuple #[.bool r1, .int .i64 r2]) ∧ Below w.heap.size w w' := by
  have HR1 := Aside0.mk hr1
  have HC1 := Aside0.mk hc1
  clear hr1 hc1
  have HB := Aside0.mk (Below.refl w.heap.size w)
  have H : ((verditerref02_State.f k a0 l1).bind fun bt225 => (if bt225.2.2 = 0 then (if (l1.length : Int) ≥ 12 then (some (false, 10)) else (some (decide ((wrap64 (bt225.1 + bt225.2.1)) > 1), 0))) else (some (false, bt225.2.2)))) = some (r1, r2) := h
  clear h
  replace H := Option.bind_eq_some_iff.mp H
  obtain ⟨⟨t225, t226, t227⟩, A30, H⟩ := H
  replace H : (if t227 = 0 then (if (l1.length : Int) ≥ 12 then (some (false, 10)) else (some (decide ((wrap64 (t225 + t226)) > 1), 0))) else (some (false, t227))) = some (r1, r2) := H
  have A3 := Aside0.mk A30
  clear A30
  by_cases c4 : t227 = 0
  · rw [if_pos c4] at H
    have c4b0 : (t227 == 0) = true := beq_iff_eq.mpr c4
    have c4b1 : (t227 != 0) = false := bne_eq_false_iff_eq.mpr c4
    clear c4
    by_cases c5 : (l1.length : Int) ≥ 12
    · rw [if_pos c5] at H
      have c5b0 : decide (12 ≤ (l1.length : Int)) = true := decide_eq_true c5
      have c5b1 : decide (12 ≤ l1.length) = true := decide_eq_true (by omega)
      clear c5
      simp only [Option.some.injEq, Prod.mk.injEq] at H
      obtain ⟨rfl, rfl⟩ := H
      go_enter Try.func75, Try.ntmps75
      go_wp2_with (first | ((with_reducible refine gate_callee (f := 63) rfl ?_); refine goesL_ (some 12) rfl rfl Try.func63 (by kernel_rfl) rfl #[.int .i64 a0, .slice A1 l1.length c1] rfl (by (try simp only [List.map_toArray, List.map_cons, List.map_nil]); first | done | rfl | (simp only [List.length_drop, List.length_take]; rfl)) ?_; (with_reducible refine (verditerref02_State.calls k a0 _ _ l1 t225 t226 t227 _ ?side1 ?side2 A3.out).mono ?_); (case side1 => repeat (first | exact HR1.out | (with_reducible refine Kd.C_alloc ?_ _) | (with_reducible refine Kd.C_drewN ?_ _) | (with_reducible refine Kd.C_drew ?_))); (case side2 => exact HC1.out); rintro e w6 ⟨rfl, hb⟩; refine ⟨_, rfl, ?_⟩; have n0_ := Aside0.mk (below_step (by repeat (first | (with_reducible first | exact HB.out | apply below_alloc | apply pw_below_drewN | apply below_drew1) | exact HB.out)) hb); clear HB; have HB := n0_; clear n0_; (try clear hb); (try clear hb2); (try clear hk); (try clear hi)))
      go_ret2
      exact ⟨by first | rfl | (simp [errW_none, errW_some] <;> rfl) | (simp [*, errW_none, errW_some] <;> rfl), by repeat (first | (with_reducible first | exact HB.out | apply below_alloc | apply pw_below_drewN | apply below_drew1) | exact HB.out)⟩
    · rw [if_neg c5] at H
      have c5b0 : decide (12 ≤ (l1.length : Int)) = false := decide_eq_false c5
      have c5b1 : decide (12 ≤ l1.length) = false := decide_eq_false (by omega)
      clear c5
      simp only [Option.some.injEq, Prod.mk.injEq] at H
      obtain ⟨rfl, rfl⟩ := H
      go_enter Try.func75, Try.ntmps75
      go_wp2_with (first | ((with_reducible refine gate_callee (f := 63) rfl ?_); refine goesL_ (some 12) rfl rfl Try.func63 (by kernel_rfl) rfl #[.int .i64 a0, .slice A1 l1.length c1] rfl (by (try simp only [List.map_toArray, List.map_cons, List.map_nil]); first | done | rfl | (simp only [List.length_drop, List.length_take]; rfl)) ?_; (with_reducible refine (verditerref02_State.calls k a0 _ _ l1 t225 t226 t227 _ ?side1 ?side2 A3.out).mono ?_); (case side1 => repeat (first | exact HR1.out | (with_reducible refine Kd.C_alloc ?_ _) | (with_reducible refine Kd.C_drewN ?_ _) | (with_reducible refine Kd.C_drew ?_))); (case side2 => exact HC1.out); rintro e w7 ⟨rfl, hb⟩; refine ⟨_, rfl, ?_⟩; have n0_ := Aside0.mk (below_step (by repeat (first | (with_reducible first | exact HB.out | apply below_alloc | apply pw_below_drewN | apply below_drew1) | exact HB.out)) hb); clear HB; have HB := n0_; clear n0_; (try clear hb); (try clear hb2); (try clear hk); (try clear hi)))
      go_ret2
      exact ⟨by first | rfl | (simp [errW_none, errW_some] <;> rfl) | (simp [*, errW_none, errW_some] <;> rfl), by repeat (first | (with_reducible first | exact HB.out | apply below_alloc | apply pw_below_drewN | apply below_drew1) | exact HB.out)⟩
  · rw [if_neg c4] at H
    have c4b0 : (t227 == 0) = false := beq_eq_false_iff_ne.mpr c4
    have c4b1 : (t227 != 0) = true := bne_iff_ne.mpr c4
    simp only [Option.some.injEq, Prod.mk.injEq] at H
    obtain ⟨rfl, rfl⟩ := H
    go_enter Try.func75, Try.ntmps75
    go_wp2_with (first | ((with_reducible refine gate_callee (f := 63) rfl ?_); refine goesL_ (some 12) rfl rfl Try.func63 (by kernel_rfl) rfl #[.int .i64 a0, .slice A1 l1.length c1] rfl (by (try simp only [List.map_toArray, List.map_cons, List.map_nil]); first | done | rfl | (simp only [List.length_drop, List.length_take]; rfl)) ?_; (with_reducible refine (verditerref02_State.calls k a0 _ _ l1 t225 t226 t227 _ ?side1 ?side2 A3.out).mono ?_); (case side1 => repeat (first | exact HR1.out | (with_reducible refine Kd.C_alloc ?_ _) | (with_reducible refine Kd.C_drewN ?_ _) | (with_reducible refine Kd.C_drew ?_))); (case side2 => exact HC1.out); rintro e w8 ⟨rfl, hb⟩; refine ⟨_, rfl, ?_⟩; have n0_ := Aside0.mk (below_step (by repeat (first | (with_reducible first | exact HB.out | apply below_alloc | apply pw_below_drewN | apply below_drew1) | exact HB.out)) hb); clear HB; have HB := n0_; clear n0_; (try clear hb); (try clear hb2); (try clear hk); (try clear hi)))
    go_ret2
    exact ⟨by first | rfl | (simp [errW_none, errW_some] <;> rfl) | (simp [*, errW_none, errW_some] <;> rfl), by repeat (first | (with_reducible first | exact HB.out | apply below_alloc | apply pw_below_drewN | apply below_drew1) | exact HB.out)⟩

/-! ### verditerref02_IsNext: function 77 -/
def verditerref02_IsNext.l0 : Nat → Int → List (S49) → List Int → Int → Int → List Bool → Int → Int → Option (Bool)
  | 0, _, _, _, _, _, _, _, _ => none
  | k + 1, x0, x1, x2, x7, x8, x26, x27, x28 => if x28 < x27 then (if 0 ≤ x28 then (if x28 < (x26.length : Int) then ((some (([] : List (S49)) : List (S49))).bind fun y236 => (if y236.length + x1.length < 4398046511104 then ((some (y236 ++ x1 : List (S49))).bind fun y239 => (if y239.length < 4398046511104 then ((verditerref02_State.f k x0 (y239 ++ [(⟨x2, rdOf false x26 x28⟩ : S49)])).bind fun bt245 => (if bt245.2.2 = 0 then ((verditerref02_need.f bt245.1 bt245.2.1).bind fun t248 => ((verditerref02_need.f x7 x8).bind fun t249 => (if t248 ≥ t249 then (some false) else (verditerref02_IsNext.l0 k x0 x1 x2 x7 x8 x26 x27 (wrap64 (x28 + 1)))))) else (some false))) else (none))) else (none))) else (none)) else (none)) else (some true)
def verditerref02_IsNext.f (k : Nat) (a0 : Int) (l1 : List (S49)) (l2 : List Int) : Option (Bool) := (verditerref02_isSet.f l2 a0).bind fun t228 => (if t228 = true then ((verditerref02_State.f k a0 l1).bind fun bt229 => ((some (([true, false] : List Bool) : List Bool)).bind fun y232 => (verditerref02_IsNext.l0 k a0 l1 l2 bt229.1 bt229.2.1 y232 (y232.length : Int) 0))) else (some false))
theorem verditerref02_IsNext.mono_l : ∀ k, (∀ y0 y1 y2 y3 y4 y5 y6 y7, LeO (verditerref02_IsNext.l0 k y0 y1 y2 y3 y4 y5 y6 y7) (verditerref02_IsNext.l0 (k + 1) y0 y1 y2 y3 y4 y5 y6 y7))
  | 0 => fun _ _ _ _ _ _ _ _ r h => by simp [verditerref02_IsNext.l0] at h
  | k + 1 => by
    have ih0 := verditerref02_IsNext.mono_l k
    · intro y0 y1 y2 y3 y4 y5 y6 y7
      unfold verditerref02_IsNext.l0
      repeat' first
      | (with_reducible exact ih0 _ _ _ _ _ _ _ _)
      | (with_reducible exact verditerref02_State.mono _ _ _)
      | (with_reducible exact LeO.refl _)
      | (with_reducible exact LeO.none _)
      | (with_reducible refine LeO.ite ?_ ?_)
      | (with_reducible refine LeO.bind ?_ (fun _ => ?_))
      | exact ih0 _ _ _ _ _ _ _ _
      | exact verditerref02_State.mono _ _ _
      | exact LeO.none _
      | refine LeO.ite ?_ ?_
      | refine LeO.bind ?_ (fun _ => ?_)
theorem verditerref02_IsNext.mono : ∀ a0 a1 a2 k, LeO (verditerref02_IsNext.f k a0 a1 a2) (verditerref02_IsNext.f (k + 1) a0 a1 a2) := by
  intro a0 a1 a2 k
  have ih0 := verditerref02_IsNext.mono_l k
  unfold verditerref02_IsNext.f
  repeat' first
      | (with_reducible exact ih0 _ _ _ _ _ _ _ _)
      | (with_reducible exact verditerref02_State.mono _ _ _)
      | (with_reducible exact LeO.refl _)
      | (with_reducible exact LeO.none _)
      | (with_reducible refine LeO.ite ?_ ?_)
      | (with_reducible refine LeO.bind ?_ (fun _ => ?_))
      | exact ih0 _ _ _ _ _ _ _ _
      | exact verditerref02_State.mono _ _ _
      | exact LeO.none _
      | refine LeO.ite ?_ ?_
      | refine LeO.bind ?_ (fun _ => ?_)
set_option maxHeartbeats 8000000 in
set_option maxRecDepth 100000 in
theorem verditerref02_IsNext.calls (k : Nat) (a0 : Int) (P1_ : Nat → Prop) (A1 : Option Addr) (c1 : Nat) (l1 : List (S49)) (P2_ : Nat → Prop) (A2 : Option Addr) (c2 : Nat) (l2 : List Int) (r : Bool) (w : World) (hs1 : Kd.V k49 49 w w.heap.size (fun k_ => P1_ k_) (.slice A1 l1.length c1) l1) (hs2 : Kd.V (Kd.int .i64) 3 w w.heap.size (fun k_ => P2_ k_) (.slice A2 l2.length c2) l2) (h : verditerref02_IsNext.f k a0 l1 l2 = some r) :
    Calls Try.prog 77 #[.int .i64 a0, .slice A1 l1.length c1, .slice A2 l2.length c2] w fun e w' => e = .returned (.bool r) ∧ Below w.heap.size w w' := by
  have hu49 := Try.underlying49
  have HO1 := Aside0.mk (show Kd.V k49 49 w w.heap.size (fun k_ => ((P1_ k_ ∨ P2_ k_) ∨ w.heap.size ≤ k_)) (.slice A1 l1.length c1) l1 from Kd.V_mono hs1 (fun k_ hk => .inl (.inl hk)))
  have HO2 := Aside0.mk (show Kd.V (Kd.int .i64) 3 w w.heap.size (fun k_ => ((P1_ k_ ∨ P2_ k_) ∨ w.heap.size ≤ k_)) (.slice A2 l2.length c2) l2 from Kd.V_mono hs2 (fun k_ hk => .inl (.inr hk)))
  have HB := Aside0.mk (Below.refl w.heap.size w)
  have H : ((verditerref02_isSet.f l2 a0).bind fun t228 => (if t228 = true then ((verditerref02_State.f k a0 l1).bind fun bt229 => ((some (([true, false] : List Bool) : List Bool)).bind fun y232 => (verditerref02_IsNext.l0 k a0 l1 l2 bt229.1 bt229.2.1 y232 (y232.length : Int) 0))) else (some false))) = some r := h
  clear h
  replace H := Option.bind_eq_some_iff.mp H
  obtain ⟨t228, A40, H⟩ := H
  replace H : (if t228 = true then ((verditerref02_State.f k a0 l1).bind fun bt229 => ((some (([true, false] : List Bool) : List Bool)).bind fun y232 => (verditerref02_IsNext.l0 k a0 l1 l2 bt229.1 bt229.2.1 y232 (y232.length : Int) 0))) else (some false)) = some r := H
  have A4 := Aside0.mk A40
  clear A40
  by_cases c5 : t228 = true
  · subst c5
    have H1 : ((verditerref02_State.f k a0 l1).bind fun bt229 => ((some (([true, false] : List Bool) : List Bool)).bind fun y232 => (verditerref02_IsNext.l0 k a0 l1 l2 bt229.1 bt229.2.1 y232 (y232.length : Int) 0))) = some r := by rw [if_pos rfl] at H; exact H
    clear H
    have H := H1
    clear H1
    replace H := Option.bind_eq_some_iff.mp H
    obtain ⟨⟨t229, t230, t231⟩, A60, H⟩ := H
    replace H : ((some (([true, false] : List Bool) : List Bool)).bind fun y232 => (verditerref02_IsNext.l0 k a0 l1 l2 t229 t230 y232 (y232.length : Int) 0)) = some r := H
    have A6 := Aside0.mk A60
    clear A60
    obtain ⟨y232, hy232⟩ : ∃ y_ : List Bool, y_ = (([true, false] : List Bool)) := ⟨_, rfl⟩
    replace H : (verditerref02_IsNext.l0 k a0 l1 l2 t229 t230 y232 (y232.length : Int) 0) = some r := by first | (rw [hy232]; with_reducible exact H) | (have H2_ := (Option.bind_some _ _).symm.trans H; rw [hy232]; with_reducible exact H2_) | (have H2_ := (Option.bind_some _ _).symm.trans H; with_reducible exact H2_) | with_reducible exact H | (rw [hy232]; exact H) | exact H
    have Ny232 := Aside0.mk hy232
    clear hy232
    have H' := Aside0.mk H
    clear H
    go_enter Try.func77, Try.ntmps77
    go_wp2_with (first | ((with_reducible refine gate_callee (f := 85) rfl ?_); refine goesL_ (some 17) rfl rfl Try.func85 (by kernel_rfl) rfl #[.slice A2 l2.length c2, .int .i64 a0] rfl (by (try simp only [List.map_toArray, List.map_cons, List.map_nil]); first | done | rfl | (simp only [List.length_drop, List.length_take]; rfl)) ?_; (with_reducible refine (verditerref02_isSet.calls _ _ l2 a0 true _ ?side1 ?side2 A4.out).mono ?_); (case side1 => repeat (first | exact (Kd.V_reads' HO2.out).2.2 | (with_reducible refine Kd.C_alloc ?_ _) | (with_reducible refine Kd.C_drewN ?_ _) | (with_reducible refine Kd.C_drew ?_))); (case side2 => exact (Kd.V_reads' HO2.out).2.1); rintro e w' ⟨rfl, ⟨nd, rfl⟩⟩; refine ⟨_, rfl, ?_⟩) | ((with_reducible refine gate_callee (f := 63) rfl ?_); refine goesL_ (some 22) rfl rfl Try.func63 (by kernel_rfl) rfl #[.int .i64 a0, .slice A1 l1.length c1] rfl (by (try simp only [List.map_toArray, List.map_cons, List.map_nil]); first | done | rfl | (simp only [List.length_drop, List.length_take]; rfl)) ?_; (with_reducible refine (verditerref02_State.calls k a0 _ _ l1 t229 t230 t231 _ ?side1 ?side2 A6.out).mono ?_); (case side1 => repeat (first | exact (Kd.V_reads' HO1.out).2.2 | (with_reducible refine Kd.C_alloc ?_ _) | (with_reducible refine Kd.C_drewN ?_ _) | (with_reducible refine Kd.C_drew ?_))); (case side2 => exact (Kd.V_reads' HO1.out).2.1); rintro e w7 ⟨rfl, hb⟩; refine ⟨_, rfl, ?_⟩; have n0_ := Aside0.mk (Kd.V_below (by (with_reducible repeat (first | apply Kd.V_alloc | apply Kd.V_drewN | apply Kd.V_drew)); exact HO1.out) hb); have n1_ := Aside0.mk (Kd.V_below (by (with_reducible repeat (first | apply Kd.V_alloc | apply Kd.V_drewN | apply Kd.V_drew)); exact HO2.out) hb); have n2_ := Aside0.mk (below_step (by repeat (first | (with_reducible first | exact HB.out | apply below_alloc | apply pw_below_drewN | apply below_drew1) | exact HB.out)) hb); clear HO1; clear HO2; clear HB; have HO1 := n0_; have HO2 := n1_; have HB := n2_; clear n0_ n1_ n2_; (try clear hb); (try clear hb2); (try clear hk); (try clear hi)) | ((with_reducible refine gate_dst (N := 26) rfl ?_); refine Kd.R_lit Kd.bool _ 4 ?hg (N := 26) ?hd (xs := ([true, false] : List Bool)) (inner := [.bool true, .bool false]) (ok := fun _ => True) (okp := fun _ => True) ?hr ?hp (fun _ hk => hk) trivial (Below.refl _ _) (Nat.le_refl _) (by simp) ?_; (case hd => rfl); (case hg => rfl); (case hr => first | (go_simp; done) | (go_simp; rfl)); (case hp => exact (Reps.one (show Kd.M Kd.bool _ _ _ true [.bool true] from rfl) (Reps.one (show Kd.M Kd.bool _ _ _ false [.bool false] from rfl) (Reps.none _ _)))); intro v233 w8 ho9 hb hg_ hnew_; clear hg_ hnew_; (first | rw [← Ny232.out] at ho9 | (simp only [Int.reduceToNat] at ho9; rw [← Ny232.out] at ho9)); have n0_ := Aside0.mk (Kd.V_elder' (by (with_reducible repeat (first | apply Kd.V_alloc | apply Kd.V_drewN | apply Kd.V_drew)); exact HO1.out) (Kd.R_base ho9) hb); have n1_ := Aside0.mk (Kd.V_elder' (by (with_reducible repeat (first | apply Kd.V_alloc | apply Kd.V_drewN | apply Kd.V_drew)); exact HO2.out) (Kd.R_base ho9) hb); have n2_ := Aside0.mk (Kd.R_lower (Kd.R_newM (M := fun k_ => (w.heap.size ≤ k_)) ho9 (below_size (by repeat (first | (with_reducible first | exact HB.out | apply below_alloc | apply pw_below_drewN | apply below_drew1) | exact HB.out))) (fun k_ h_ => h_)) (below_size (by repeat (first | (with_reducible first | exact HB.out | apply below_alloc | apply pw_below_drewN | apply below_drew1) | exact HB.out)))); have n3_ := Aside0.mk (below_step (by repeat (first | (with_reducible first | exact HB.out | apply below_alloc | apply pw_below_drewN | apply below_drew1) | exact HB.out)) hb); clear HO1; clear HO2; clear HB; have HO1 := n0_; have HO2 := n1_; have HO234 := n2_; have HB := n3_; clear n0_ n1_ n2_ n3_; clear hb ho9; obtain ⟨Ao10, co10, eo10⟩ := Kd.R_slice HO234.out; subst eo10))
    go_loopg [28] k (fun kq v28 w' => ∃ (x28_1 : Int), v28 = .int .i64 x28_1 ∧ Aside0 (verditerref02_IsNext.l0 kq a0 l1 l2 t229 t230 y232 (y232.length : Int) x28_1 = some r) ∧ Aside0 (kq ≤ k) ∧ Aside0 (Kd.V k49 49 w' w.heap.size (fun k_ => ((P1_ k_ ∨ P2_ k_) ∨ w.heap.size ≤ k_) ∧ some k_ ≠ ((.slice Ao10 y232.length co10) : Value).ownBlock) (.slice A1 l1.length c1) l1) ∧ Aside0 (Kd.V (Kd.int .i64) 3 w' w.heap.size (fun k_ => ((P1_ k_ ∨ P2_ k_) ∨ w.heap.size ≤ k_) ∧ some k_ ≠ ((.slice Ao10 y232.length co10) : Value).ownBlock) (.slice A2 l2.length c2) l2) ∧ Aside0 (Kd.R Kd.bool 4 w' w.heap.size (fun k_ => (w.heap.size ≤ k_)) (.slice Ao10 y232.length co10) y232) ∧ Aside0 (Below w.heap.size w w'))
    case atStart => exact ⟨(0), (by first | rfl | (simp; done) | (simp [*]; done)), H', ⟨Nat.le_refl _⟩, ⟨by (with_reducible repeat (first | apply Kd.V_alloc | apply Kd.V_drewN | apply Kd.V_drew)); exact HO1.out⟩, ⟨by (with_reducible repeat (first | apply Kd.V_alloc | apply Kd.V_drewN | apply Kd.V_drew)); exact HO2.out⟩, ⟨by (with_reducible repeat (first | apply Kd.R_alloc | apply Kd.R_drewN | apply Kd.R_drew)); exact Kd.R_mono HO234.out (fun _ hk => hk.1)⟩, ⟨by repeat (first | (with_reducible first | exact HB.out | apply below_alloc | apply pw_below_drewN | apply below_drew1) | exact HB.out)⟩⟩
    case round =>
      clear H'
      try clear c1
      try clear c2
      try clear p2
      try clear c5
      try clear c6
      try clear c7
      try clear c8
      obtain ⟨x28_1, rfl, HA, HK1, HO_1, HO_2, HO_26, HB⟩ := hrel
      cases gk with
      | zero => exact absurd HA.out (by simp [verditerref02_IsNext.l0])
      | succ k1 =>
        have H := HA.out
        clear HA
        simp only [verditerref02_IsNext.l0] at H
        by_cases c11 : x28_1 < (y232.length : Int)
        · rw [if_pos c11] at H
          have c11b0 : decide (x28_1 < (y232.length : Int)) = true := decide_eq_true c11
          clear c11
          by_cases c12 : 0 ≤ x28_1
          · rw [if_pos c12] at H
            have c12b0 : decide (0 ≤ x28_1) = true := decide_eq_true c12
            clear c12
            by_cases c13 : x28_1 < (y232.length : Int)
            · rw [if_pos c13] at H
              have c13b0 : decide (x28_1 < (y232.length : Int)) = true := decide_eq_true c13
              clear c13
              obtain ⟨y236, hy236⟩ : ∃ y_ : List (S49), y_ = (([] : List (S49))) := ⟨_, rfl⟩
              replace H : (if y236.length + l1.length < 4398046511104 then ((some (y236 ++ l1 : List (S49))).bind fun y239 => (if y239.length < 4398046511104 then ((verditerref02_State.f k1 a0 (y239 ++ [(⟨l2, rdOf false y232 x28_1⟩ : S49)])).bind fun bt245 => (if bt245.2.2 = 0 then ((verditerref02_need.f bt245.1 bt245.2.1).bind fun t248 => ((verditerref02_need.f t229 t230).bind fun t249 => (if t248 ≥ t249 then (some false) else (verditerref02_IsNext.l0 k1 a0 l1 l2 t229 t230 y232 (y232.length : Int) (wrap64 (x28_1 + 1)))))) else (some false))) else (none))) else (none)) = some r := by first | (rw [hy236]; with_reducible exact H) | (have H2_ := (Option.bind_some _ _).symm.trans H; rw [hy236]; with_reducible exact H2_) | (have H2_ := (Option.bind_some _ _).symm.trans H; with_reducible exact H2_) | with_reducible exact H | (rw [hy236]; exact H) | exact H
              have Ny236 := Aside0.mk hy236
              clear hy236
              by_cases c14 : y236.length + l1.length < 4398046511104
              · rw [if_pos c14] at H
                have LMc14 := Aside0.mk c14
                clear c14
                obtain ⟨y239, hy239⟩ : ∃ y_ : List (S49), y_ = (y236 ++ l1) := ⟨_, rfl⟩
                replace H : (if y239.length < 4398046511104 then ((verditerref02_State.f k1 a0 (y239 ++ [(⟨l2, rdOf false y232 x28_1⟩ : S49)])).bind fun bt245 => (if bt245.2.2 = 0 then ((verditerref02_need.f bt245.1 bt245.2.1).bind fun t248 => ((verditerref02_need.f t229 t230).bind fun t249 => (if t248 ≥ t249 then (some false) else (verditerref02_IsNext.l0 k1 a0 l1 l2 t229 t230 y232 (y232.length : Int) (wrap64 (x28_1 + 1)))))) else (some false))) else (none)) = some r := by first | (rw [hy239]; with_reducible exact H) | (have H2_ := (Option.bind_some _ _).symm.trans H; rw [hy239]; with_reducible exact H2_) | (have H2_ := (Option.bind_some _ _).symm.trans H; with_reducible exact H2_) | with_reducible exact H | (rw [hy239]; exact H) | exact H
                have Ny239 := Aside0.mk hy239
                clear hy239
                by_cases c15 : y239.length < 4398046511104
                · rw [if_pos c15] at H
                  have LMc15 := Aside0.mk c15
                  clear c15
                  obtain ⟨y242, hy242⟩ : ∃ y_ : List (S49), y_ = (y239 ++ [(⟨l2, rdOf false y232 x28_1⟩ : S49)]) := ⟨_, rfl⟩
                  replace H : ((verditerref02_State.f k1 a0 y242).bind fun bt245 => (if bt245.2.2 = 0 then ((verditerref02_need.f bt245.1 bt245.2.1).bind fun t248 => ((verditerref02_need.f t229 t230).bind fun t249 => (if t248 ≥ t249 then (some false) else (verditerref02_IsNext.l0 k1 a0 l1 l2 t229 t230 y232 (y232.length : Int) (wrap64 (x28_1 + 1)))))) else (some false))) = some r := by first | (rw [hy242]; with_reducible exact H) | (have H2_ := (Option.bind_some _ _).symm.trans H; rw [hy242]; with_reducible exact H2_) | (have H2_ := (Option.bind_some _ _).symm.trans H; with_reducible exact H2_) | with_reducible exact H | (rw [hy242]; exact H) | exact H
                  have Ny242 := Aside0.mk hy242
                  clear hy242
                  replace H := Option.bind_eq_some_iff.mp H
                  obtain ⟨⟨t245, t246, t247⟩, A160, H⟩ := H
                  replace H : (if t247 = 0 then ((verditerref02_need.f t245 t246).bind fun t248 => ((verditerref02_need.f t229 t230).bind fun t249 => (if t248 ≥ t249 then (some false) else (verditerref02_IsNext.l0 k1 a0 l1 l2 t229 t230 y232 (y232.length : Int) (wrap64 (x28_1 + 1)))))) else (some false)) = some r := H
                  have A16 := Aside0.mk A160
                  clear A160
                  by_cases c17 : t247 = 0
                  · rw [if_pos c17] at H
                    have c17b0 : (t247 == 0) = true := beq_iff_eq.mpr c17
                    have c17b1 : (t247 != 0) = false := bne_eq_false_iff_eq.mpr c17
                    clear c17
                    replace H := Option.bind_eq_some_iff.mp H
                    obtain ⟨t248, A180, H⟩ := H
                    replace H : ((verditerref02_need.f t229 t230).bind fun t249 => (if t248 ≥ t249 then (some false) else (verditerref02_IsNext.l0 k1 a0 l1 l2 t229 t230 y232 (y232.length : Int) (wrap64 (x28_1 + 1))))) = some r := H
                    have A18 := Aside0.mk A180
                    clear A180
                    replace H := Option.bind_eq_some_iff.mp H
                    obtain ⟨t249, A190, H⟩ := H
                    replace H : (if t248 ≥ t249 then (some false) else (verditerref02_IsNext.l0 k1 a0 l1 l2 t229 t230 y232 (y232.length : Int) (wrap64 (x28_1 + 1)))) = some r := H
                    have A19 := Aside0.mk A190
                    clear A190
                    by_cases c20 : t248 ≥ t249
                    · rw [if_pos c20] at H
                      have c20b0 : decide (t249 ≤ t248) = true := decide_eq_true c20
                      clear c20
                      obtain rfl := Option.some.inj H
                      have p235 : 0 ≤ (x28_1 : Int) := of_decide_eq_true (by first | (with_reducible assumption) | assumption)
                      have q235 : x28_1 < (y232.length : Int) := of_decide_eq_true (by first | (with_reducible assumption) | assumption)
                      obtain ⟨ad235, e235, hx235_0⟩ := Kd.at_bool (Kd.R_reads' HO_26.out).2.2 x28_1 p235 q235
                      cases e235
                      replace p235 := eq_true p235
                      replace q235 := eq_true q235
                      go_wp2_with (first | ((with_reducible refine gate_dst (N := 34) rfl ?_); refine Kd.N_lit k49 _ 49 ?hg (N' := 34) ?hd (xs := ([] : List (S49))) (inner := []) (ok := (fun k_ => ((P1_ k_ ∨ P2_ k_) ∨ w.heap.size ≤ k_) ∧ some k_ ≠ (.slice (some ad235) y232.length co10 : Value).ownBlock)) (okp := (fun k_ => ((P1_ k_ ∨ P2_ k_) ∨ w.heap.size ≤ k_) ∧ some k_ ≠ (.slice (some ad235) y232.length co10 : Value).ownBlock)) ?hr ?hp (fun _ hk => hk) ((show ∀ k_, wr.heap.size ≤ k_ → (fun k_ => ((P1_ k_ ∨ P2_ k_) ∨ w.heap.size ≤ k_) ∧ some k_ ≠ (.slice (some ad235) y232.length co10 : Value).ownBlock) k_ from fun k_ hk => ⟨(.inr (Nat.le_trans (below_size (by repeat (first | (with_reducible first | exact HB.out | apply below_alloc | apply pw_below_drewN | apply below_drew1) | exact HB.out))) hk)), Kd.fresh' (Kd.R_lt (by (with_reducible repeat (first | apply Kd.R_alloc | apply Kd.R_drewN | apply Kd.R_drew)); exact HO_26.out)) k_ hk⟩) _ (Nat.le_refl _)) (Below.refl _ _) (Nat.le_refl _) (by simp) ?_; (case hd => rfl); (case hg => rfl); (case hr => first | (go_simp; done) | (go_simp; rfl)); (case hp => exact (Reps.none _ _)); intro v237 w21 ho22 hb hg_ hnew_; clear hg_ hnew_; (first | rw [← Ny236.out] at ho22 | (simp only [Int.reduceToNat] at ho22; rw [← Ny236.out] at ho22)); have n0_ := Aside0.mk (Kd.V_elder' (by (with_reducible repeat (first | apply Kd.V_alloc | apply Kd.V_drewN | apply Kd.V_drew)); exact HO_1.out) (Kd.N_base ho22) hb); have n1_ := Aside0.mk (Kd.V_elder' (by (with_reducible repeat (first | apply Kd.V_alloc | apply Kd.V_drewN | apply Kd.V_drew)); exact HO_2.out) (Kd.N_base ho22) hb); have n2_ := Aside0.mk (Kd.R_below (by (with_reducible repeat (first | apply Kd.R_alloc | apply Kd.R_drewN | apply Kd.R_drew)); exact HO_26.out) hb); have n3_ := Aside0.mk (Kd.N_lower ho22 (below_size (by repeat (first | (with_reducible first | exact HB.out | apply below_alloc | apply pw_below_drewN | apply below_drew1) | exact HB.out)))); have n4_ := Aside0.mk (below_step (by repeat (first | (with_reducible first | exact HB.out | apply below_alloc | apply pw_below_drewN | apply below_drew1) | exact HB.out)) hb); clear HO_1; clear HO_2; clear HO_26; clear HB; have HO_1 := n0_; have HO_2 := n1_; have HO_26 := n2_; have HO238 := n3_; have HB := n4_; clear n0_ n1_ n2_ n3_ n4_; clear hb ho22) | ((with_reducible refine gate_builtin (b := .append) (xs := #[.tmp 34, .tmp 35]) rfl ?_); at_builtin; refine Kd.N_append_rows k49 (w0 := w) w.heap.size rfl (.tmp 34) (.tmp 35) 29 49 (.agg #[(.slice none 0 0), (.bool false)]) 32 rfl Try.underlying29 info49 rfl (by decide) (by omega) v237 y236 l1 _ _ _ (fun k_ => ((P1_ k_ ∨ P2_ k_) ∨ w.heap.size ≤ k_) ∧ some k_ ≠ (.slice (some ad235) y232.length co10 : Value).ownBlock) (fun k_ => ((fun k_ => ((P1_ k_ ∨ P2_ k_) ∨ w.heap.size ≤ k_) ∧ some k_ ≠ (.slice (some ad235) y232.length co10 : Value).ownBlock)) k_ ∧ some k_ ≠ (v237 : Value).ownBlock) rfl rfl ?aO ?aR (fun _ hk => hk) ?aF ?aB ?aS ?aL ?_; (case aR => exact (by skip; exact Kd.V_F (Kd.V_mono (ok' := (fun k_ => ((fun k_ => ((P1_ k_ ∨ P2_ k_) ∨ w.heap.size ≤ k_) ∧ some k_ ≠ (.slice (some ad235) y232.length co10 : Value).ownBlock)) k_ ∧ some k_ ≠ (v237 : Value).ownBlock)) (HO_1.out) (fun k_ hk => ⟨⟨hk.1.1, hk.1.2⟩, hk.2⟩)))); (case aB => exact (by repeat (first | (with_reducible first | exact HB.out | apply below_alloc | apply pw_below_drewN | apply below_drew1) | exact HB.out))); (case aF => exact (fun k_ hk => ⟨(.inr (Nat.le_trans (below_size (by repeat (first | (with_reducible first | exact HB.out | apply below_alloc | apply pw_below_drewN | apply below_drew1) | exact HB.out))) hk)), Kd.fresh' (Kd.R_lt (by (with_reducible repeat (first | apply Kd.R_alloc | apply Kd.R_drewN | apply Kd.R_drew)); exact HO_26.out)) k_ hk⟩)); (case aO => exact (by (with_reducible repeat (first | apply Kd.N_alloc | apply Kd.N_drewN | apply Kd.N_drew)); exact HO238.out)); (case aS => exact (below_size (by repeat (first | (with_reducible first | exact HB.out | apply below_alloc | apply pw_below_drewN | apply below_drew1) | exact HB.out)))); (case aL => have := LMc14.out; omega); intro v240 w23 ho hb hg hat; rw [← Ny239.out] at ho; have n0_ := Aside0.mk (Kd.V_afterv (ok := (fun k_ => ((P1_ k_ ∨ P2_ k_) ∨ w.heap.size ≤ k_) ∧ some k_ ≠ (.slice (some ad235) y232.length co10 : Value).ownBlock)) (by (with_reducible repeat (first | apply Kd.V_alloc | apply Kd.V_drewN | apply Kd.V_drew)); exact HO_1.out) hg hat); have n1_ := Aside0.mk (Kd.V_afterv (ok := (fun k_ => ((P1_ k_ ∨ P2_ k_) ∨ w.heap.size ≤ k_) ∧ some k_ ≠ (.slice (some ad235) y232.length co10 : Value).ownBlock)) (by (with_reducible repeat (first | apply Kd.V_alloc | apply Kd.V_drewN | apply Kd.V_drew)); exact HO_2.out) hg hat); have n2_ := Aside0.mk (Kd.R_over' (by (with_reducible repeat (first | apply Kd.R_alloc | apply Kd.R_drewN | apply Kd.R_drew)); exact HO_26.out) (Kd.N_typed (by (with_reducible repeat (first | apply Kd.N_alloc | apply Kd.N_drewN | apply Kd.N_drew)); exact HO238.out)) (by decide) hg); have n3_ := Aside0.mk (hb); have n4_ := Aside0.mk (ho); clear HO_1; clear HO_2; clear HO_26; clear HB; clear HO238; have HO_1 := n0_; have HO_2 := n1_; have HO_26 := n2_; have HB := n3_; have HO241 := n4_; clear n0_ n1_ n2_ n3_ n4_; clear ho hb hg hat) | ((with_reducible refine gate_builtin (b := .append) (xs := #[.tmp 36, .tmp 40]) rfl ?_); at_builtin; refine Kd.N_append k49 (w0 := w) w.heap.size rfl (.tmp 36) (.tmp 40) 29 49 (.agg #[(.slice none 0 0), (.bool false)]) 32 rfl Try.underlying29 info49 rfl (by decide) (by omega) v240 y239 (⟨l2, rdOf false y232 x28_1⟩ : S49) [.slice A2 l2.length c2, .bool (rdOf false y232 x28_1)] (fun k_ => ((P1_ k_ ∨ P2_ k_) ∨ w.heap.size ≤ k_) ∧ some k_ ≠ (.slice (some ad235) y232.length co10 : Value).ownBlock) (fun k_ => ((fun k_ => ((P1_ k_ ∨ P2_ k_) ∨ w.heap.size ≤ k_) ∧ some k_ ≠ (.slice (some ad235) y232.length co10 : Value).ownBlock)) k_ ∧ some k_ ≠ (v240 : Value).ownBlock) rfl rfl ?aP (fun _ hk => hk) ?aF ?aO ?aB ?aS ?aL ?_; (case aP => exact (k49_mkF _ _ (⟨l2, rdOf false y232 x28_1⟩ : S49) (Kd.V_reads' (Kd.V_mono (ok' := (fun k_ => ((fun k_ => ((P1_ k_ ∨ P2_ k_) ∨ w.heap.size ≤ k_) ∧ some k_ ≠ (.slice (some ad235) y232.length co10 : Value).ownBlock)) k_ ∧ some k_ ≠ (v240 : Value).ownBlock)) (HO_2.out) (fun k_ hk => ⟨⟨hk.1.1, hk.1.2⟩, hk.2⟩))).2.1 (Kd.V_F (Kd.V_mono (ok' := (fun k_ => ((fun k_ => ((P1_ k_ ∨ P2_ k_) ∨ w.heap.size ≤ k_) ∧ some k_ ≠ (.slice (some ad235) y232.length co10 : Value).ownBlock)) k_ ∧ some k_ ≠ (v240 : Value).ownBlock)) (HO_2.out) (fun k_ hk => ⟨⟨hk.1.1, hk.1.2⟩, hk.2⟩))))); (case aB => exact (by repeat (first | (with_reducible first | exact HB.out | apply below_alloc | apply pw_below_drewN | apply below_drew1) | exact HB.out))); (case aF => exact (fun k_ hk => ⟨(.inr (Nat.le_trans (below_size (by repeat (first | (with_reducible first | exact HB.out | apply below_alloc | apply pw_below_drewN | apply below_drew1) | exact HB.out))) hk)), Kd.fresh' (Kd.R_lt (by (with_reducible repeat (first | apply Kd.R_alloc | apply Kd.R_drewN | apply Kd.R_drew)); exact HO_26.out)) k_ hk⟩)); (case aO => exact (by (with_reducible repeat (first | apply Kd.N_alloc | apply Kd.N_drewN | apply Kd.N_drew)); exact HO241.out)); (case aS => exact (below_size (by repeat (first | (with_reducible first | exact HB.out | apply below_alloc | apply pw_below_drewN | apply below_drew1) | exact HB.out)))); (case aL => have := LMc15.out; omega); intro v243 w24 ho hb hg hat; rw [← Ny242.out] at ho; have n0_ := Aside0.mk (Kd.V_afterv (ok := (fun k_ => ((P1_ k_ ∨ P2_ k_) ∨ w.heap.size ≤ k_) ∧ some k_ ≠ (.slice (some ad235) y232.length co10 : Value).ownBlock)) (by (with_reducible repeat (first | apply Kd.V_alloc | apply Kd.V_drewN | apply Kd.V_drew)); exact HO_1.out) hg hat); have n1_ := Aside0.mk (Kd.V_afterv (ok := (fun k_ => ((P1_ k_ ∨ P2_ k_) ∨ w.heap.size ≤ k_) ∧ some k_ ≠ (.slice (some ad235) y232.length co10 : Value).ownBlock)) (by (with_reducible repeat (first | apply Kd.V_alloc | apply Kd.V_drewN | apply Kd.V_drew)); exact HO_2.out) hg hat); have n2_ := Aside0.mk (Kd.R_over' (by (with_reducible repeat (first | apply Kd.R_alloc | apply Kd.R_drewN | apply Kd.R_drew)); exact HO_26.out) (Kd.N_typed (by (with_reducible repeat (first | apply Kd.N_alloc | apply Kd.N_drewN | apply Kd.N_drew)); exact HO241.out)) (by decide) hg); have n3_ := Aside0.mk (hb); have n4_ := Aside0.mk (ho); clear HO_1; clear HO_2; clear HO_26; clear HB; clear HO241; have HO_1 := n0_; have HO_2 := n1_; have HO_26 := n2_; have HB := n3_; have HO244 := n4_; clear n0_ n1_ n2_ n3_ n4_; clear ho hb hg hat; obtain ⟨Ao25, co25, eo25⟩ := Kd.N_slice HO244.out; subst eo25) | ((with_reducible refine gate_callee (f := 63) rfl ?_); refine goesL_ (some 42) rfl rfl Try.func63 (by kernel_rfl) rfl #[.int .i64 a0, .slice Ao25 y242.length co25] rfl (by (try simp only [List.map_toArray, List.map_cons, List.map_nil]); first | done | rfl | (simp only [List.length_drop, List.length_take]; rfl)) ?_; (with_reducible refine (verditerref02_State.calls k1 a0 _ _ y242 t245 t246 t247 _ ?side1 ?side2 A16.out).mono ?_); (case side1 => repeat (first | exact (Kd.N_reads' HO244.out).2.2 | (with_reducible refine Kd.C_alloc ?_ _) | (with_reducible refine Kd.C_drewN ?_ _) | (with_reducible refine Kd.C_drew ?_))); (case side2 => exact (Kd.N_reads' HO244.out).2.1); rintro e w26 ⟨rfl, hb⟩; refine ⟨_, rfl, ?_⟩; have n0_ := Aside0.mk (Kd.V_below (by (with_reducible repeat (first | apply Kd.V_alloc | apply Kd.V_drewN | apply Kd.V_drew)); exact HO_1.out) hb); have n1_ := Aside0.mk (Kd.V_below (by (with_reducible repeat (first | apply Kd.V_alloc | apply Kd.V_drewN | apply Kd.V_drew)); exact HO_2.out) hb); have n2_ := Aside0.mk (Kd.R_below (by (with_reducible repeat (first | apply Kd.R_alloc | apply Kd.R_drewN | apply Kd.R_drew)); exact HO_26.out) hb); have n3_ := Aside0.mk (Kd.N_below (by (with_reducible repeat (first | apply Kd.N_alloc | apply Kd.N_drewN | apply Kd.N_drew)); exact HO244.out) hb); have n4_ := Aside0.mk (below_step (by repeat (first | (with_reducible first | exact HB.out | apply below_alloc | apply pw_below_drewN | apply below_drew1) | exact HB.out)) hb); clear HO_1; clear HO_2; clear HO_26; clear HO244; clear HB; have HO_1 := n0_; have HO_2 := n1_; have HO_26 := n2_; have HO244 := n3_; have HB := n4_; clear n0_ n1_ n2_ n3_ n4_; (try clear hb); (try clear hb2); (try clear hk); (try clear hi)) | (go_at_call 43; (with_reducible refine (verditerref02_need.calls t245 t246 t248 _ A18.out).mono ?_); rintro e w27 ⟨rfl, hb⟩; have n0_ := Aside0.mk (Kd.V_below (by (with_reducible repeat (first | apply Kd.V_alloc | apply Kd.V_drewN | apply Kd.V_drew)); exact HO_1.out) hb); have n1_ := Aside0.mk (Kd.V_below (by (with_reducible repeat (first | apply Kd.V_alloc | apply Kd.V_drewN | apply Kd.V_drew)); exact HO_2.out) hb); have n2_ := Aside0.mk (Kd.R_below (by (with_reducible repeat (first | apply Kd.R_alloc | apply Kd.R_drewN | apply Kd.R_drew)); exact HO_26.out) hb); have n3_ := Aside0.mk (Kd.N_below (by (with_reducible repeat (first | apply Kd.N_alloc | apply Kd.N_drewN | apply Kd.N_drew)); exact HO244.out) hb); have n4_ := Aside0.mk (below_step (by repeat (first | (with_reducible first | exact HB.out | apply below_alloc | apply pw_below_drewN | apply below_drew1) | exact HB.out)) hb); clear HO_1; clear HO_2; clear HO_26; clear HO244; clear HB; have HO_1 := n0_; have HO_2 := n1_; have HO_26 := n2_; have HO244 := n3_; have HB := n4_; clear n0_ n1_ n2_ n3_ n4_; (try clear hb); (try clear hb2); (try clear hk); (try clear hi)) | (go_at_call 43; (with_reducible refine (verditerref02_need.calls t229 t230 t249 _ A19.out).mono ?_); rintro e w28 ⟨rfl, hb⟩; have n0_ := Aside0.mk (Kd.V_below (by (with_reducible repeat (first | apply Kd.V_alloc | apply Kd.V_drewN | apply Kd.V_drew)); exact HO_1.out) hb); have n1_ := Aside0.mk (Kd.V_below (by (with_reducible repeat (first | apply Kd.V_alloc | apply Kd.V_drewN | apply Kd.V_drew)); exact HO_2.out) hb); have n2_ := Aside0.mk (Kd.R_below (by (with_reducible repeat (first | apply Kd.R_alloc | apply Kd.R_drewN | apply Kd.R_drew)); exact HO_26.out) hb); have n3_ := Aside0.mk (Kd.N_below (by (with_reducible repeat (first | apply Kd.N_alloc | apply Kd.N_drewN | apply Kd.N_drew)); exact HO244.out) hb); have n4_ := Aside0.mk (below_step (by repeat (first | (with_reducible first | exact HB.out | apply below_alloc | apply pw_below_drewN | apply below_drew1) | exact HB.out)) hb); clear HO_1; clear HO_2; clear HO_26; clear HO244; clear HB; have HO_1 := n0_; have HO_2 := n1_; have HO_26 := n2_; have HO244 := n3_; have HB := n4_; clear n0_ n1_ n2_ n3_ n4_; (try clear hb); (try clear hb2); (try clear hk); (try clear hi)))
                      go_ret
                      exact ⟨by first | rfl | (simp [errW_none, errW_some] <;> rfl) | (simp [*, errW_none, errW_some] <;> rfl), by repeat (first | (with_reducible first | exact HB.out | apply below_alloc | apply pw_below_drewN | apply below_drew1) | exact HB.out)⟩
                    · rw [if_neg c20] at H
                      have c20b0 : decide (t249 ≤ t248) = false := decide_eq_false c20
                      clear c20
                      have H' := Aside0.mk H
                      clear H
                      have p235 : 0 ≤ (x28_1 : Int) := of_decide_eq_true (by first | (with_reducible assumption) | assumption)
                      have q235 : x28_1 < (y232.length : Int) := of_decide_eq_true (by first | (with_reducible assumption) | assumption)
                      obtain ⟨ad235, e235, hx235_0⟩ := Kd.at_bool (Kd.R_reads' HO_26.out).2.2 x28_1 p235 q235
                      cases e235
                      replace p235 := eq_true p235
                      replace q235 := eq_true q235
                      go_wp2_with (first | ((with_reducible refine gate_dst (N := 34) rfl ?_); refine Kd.N_lit k49 _ 49 ?hg (N' := 34) ?hd (xs := ([] : List (S49))) (inner := []) (ok := (fun k_ => ((P1_ k_ ∨ P2_ k_) ∨ w.heap.size ≤ k_) ∧ some k_ ≠ (.slice (some ad235) y232.length co10 : Value).ownBlock)) (okp := (fun k_ => ((P1_ k_ ∨ P2_ k_) ∨ w.heap.size ≤ k_) ∧ some k_ ≠ (.slice (some ad235) y232.length co10 : Value).ownBlock)) ?hr ?hp (fun _ hk => hk) ((show ∀ k_, wr.heap.size ≤ k_ → (fun k_ => ((P1_ k_ ∨ P2_ k_) ∨ w.heap.size ≤ k_) ∧ some k_ ≠ (.slice (some ad235) y232.length co10 : Value).ownBlock) k_ from fun k_ hk => ⟨(.inr (Nat.le_trans (below_size (by repeat (first | (with_reducible first | exact HB.out | apply below_alloc | apply pw_below_drewN | apply below_drew1) | exact HB.out))) hk)), Kd.fresh' (Kd.R_lt (by (with_reducible repeat (first | apply Kd.R_alloc | apply Kd.R_drewN | apply Kd.R_drew)); exact HO_26.out)) k_ hk⟩) _ (Nat.le_refl _)) (Below.refl _ _) (Nat.le_refl _) (by simp) ?_; (case hd => rfl); (case hg => rfl); (case hr => first | (go_simp; done) | (go_simp; rfl)); (case hp => exact (Reps.none _ _)); intro v237 w29 ho30 hb hg_ hnew_; clear hg_ hnew_; (first | rw [← Ny236.out] at ho30 | (simp only [Int.reduceToNat] at ho30; rw [← Ny236.out] at ho30)); have n0_ := Aside0.mk (Kd.V_elder' (by (with_reducible repeat (first | apply Kd.V_alloc | apply Kd.V_drewN | apply Kd.V_drew)); exact HO_1.out) (Kd.N_base ho30) hb); have n1_ := Aside0.mk (Kd.V_elder' (by (with_reducible repeat (first | apply Kd.V_alloc | apply Kd.V_drewN | apply Kd.V_drew)); exact HO_2.out) (Kd.N_base ho30) hb); have n2_ := Aside0.mk (Kd.R_below (by (with_reducible repeat (first | apply Kd.R_alloc | apply Kd.R_drewN | apply Kd.R_drew)); exact HO_26.out) hb); have n3_ := Aside0.mk (Kd.N_lower ho30 (below_size (by repeat (first | (with_reducible first | exact HB.out | apply below_alloc | apply pw_below_drewN | apply below_drew1) | exact HB.out)))); have n4_ := Aside0.mk (below_step (by repeat (first | (with_reducible first | exact HB.out | apply below_alloc | apply pw_below_drewN | apply below_drew1) | exact HB.out)) hb); clear HO_1; clear HO_2; clear HO_26; clear HB; have HO_1 := n0_; have HO_2 := n1_; have HO_26 := n2_; have HO238 := n3_; have HB := n4_; clear n0_ n1_ n2_ n3_ n4_; clear hb ho30) | ((with_reducible refine gate_builtin (b := .append) (xs := #[.tmp 34, .tmp 35]) rfl ?_); at_builtin; refine Kd.N_append_rows k49 (w0 := w) w.heap.size rfl (.tmp 34) (.tmp 35) 29 49 (.agg #[(.slice none 0 0), (.bool false)]) 32 rfl Try.underlying29 info49 rfl (by decide) (by omega) v237 y236 l1 _ _ _ (fun k_ => ((P1_ k_ ∨ P2_ k_) ∨ w.heap.size ≤ k_) ∧ some k_ ≠ (.slice (some ad235) y232.length co10 : Value).ownBlock) (fun k_ => ((fun k_ => ((P1_ k_ ∨ P2_ k_) ∨ w.heap.size ≤ k_) ∧ some k_ ≠ (.slice (some ad235) y232.length co10 : Value).ownBlock)) k_ ∧ some k_ ≠ (v237 : Value).ownBlock) rfl rfl ?aO ?aR (fun _ hk => hk) ?aF ?aB ?aS ?aL ?_; (case aR => exact (by skip; exact Kd.V_F (Kd.V_mono (ok' := (fun k_ => ((fun k_ => ((P1_ k_ ∨ P2_ k_) ∨ w.heap.size ≤ k_) ∧ some k_ ≠ (.slice (some ad235) y232.length co10 : Value).ownBlock)) k_ ∧ some k_ ≠ (v237 : Value).ownBlock)) (HO_1.out) (fun k_ hk => ⟨⟨hk.1.1, hk.1.2⟩, hk.2⟩)))); (case aB => exact (by repeat (first | (with_reducible first | exact HB.out | apply below_alloc | apply pw_below_drewN | apply below_drew1) | exact HB.out))); (case aF => exact (fun k_ hk => ⟨(.inr (Nat.le_trans (below_size (by repeat (first | (with_reducible first | exact HB.out | apply below_alloc | apply pw_below_drewN | apply below_drew1) | exact HB.out))) hk)), Kd.fresh' (Kd.R_lt (by (with_reducible repeat (first | apply Kd.R_alloc | apply Kd.R_drewN | apply Kd.R_drew)); exact HO_26.out)) k_ hk⟩)); (case aO => exact (by (with_reducible repeat (first | apply Kd.N_alloc | apply Kd.N_drewN | apply Kd.N_drew)); exact HO238.out)); (case aS => exact (below_size (by repeat (first | (with_reducible first | exact HB.out | apply below_alloc | apply pw_below_drewN | apply below_drew1) | exact HB.out)))); (case aL => have := LMc14.out; omega); intro v240 w31 ho hb hg hat; rw [← Ny239.out] at ho; have n0_ := Aside0.mk (Kd.V_afterv (ok := (fun k_ => ((P1_ k_ ∨ P2_ k_) ∨ w.heap.size ≤ k_) ∧ some k_ ≠ (.slice (some ad235) y232.length co10 : Value).ownBlock)) (by (with_reducible repeat (first | apply Kd.V_alloc | apply Kd.V_drewN | apply Kd.V_drew)); exact HO_1.out) hg hat); have n1_ := Aside0.mk (Kd.V_afterv (ok := (fun k_ => ((P1_ k_ ∨ P2_ k_) ∨ w.heap.size ≤ k_) ∧ some k_ ≠ (.slice (some ad235) y232.length co10 : Value).ownBlock)) (by (with_reducible repeat (first | apply Kd.V_alloc | apply Kd.V_drewN | apply Kd.V_drew)); exact HO_2.out) hg hat); have n2_ := Aside0.mk (Kd.R_over' (by (with_reducible repeat (first | apply Kd.R_alloc | apply Kd.R_drewN | apply Kd.R_drew)); exact HO_26.out) (Kd.N_typed (by (with_reducible repeat (first | apply Kd.N_alloc | apply Kd.N_drewN | apply Kd.N_drew)); exact HO238.out)) (by decide) hg); have n3_ := Aside0.mk (hb); have n4_ := Aside0.mk (ho); clear HO_1; clear HO_2; clear HO_26; clear HB; clear HO238; have HO_1 := n0_; have HO_2 := n1_; have HO_26 := n2_; have HB := n3_; have HO241 := n4_; clear n0_ n1_ n2_ n3_ n4_; clear ho hb hg hat) | ((with_reducible refine gate_builtin (b := .append) (xs := #[.tmp 36, .tmp 40]) rfl ?_); at_builtin; refine Kd.N_append k49 (w0 := w) w.heap.size rfl (.tmp 36) (.tmp 40) 29 49 (.agg #[(.slice none 0 0), (.bool false)]) 32 rfl Try.underlying29 info49 rfl (by decide) (by omega) v240 y239 (⟨l2, rdOf false y232 x28_1⟩ : S49) [.slice A2 l2.length c2, .bool (rdOf false y232 x28_1)] (fun k_ => ((P1_ k_ ∨ P2_ k_) ∨ w.heap.size ≤ k_) ∧ some k_ ≠ (.slice (some ad235) y232.length co10 : Value).ownBlock) (fun k_ => ((fun k_ => ((P1_ k_ ∨ P2_ k_) ∨ w.heap.size ≤ k_) ∧ some k_ ≠ (.slice (some ad235) y232.length co10 : Value).ownBlock)) k_ ∧ some k_ ≠ (v240 : Value).ownBlock) rfl rfl ?aP (fun _ hk => hk) ?aF ?aO ?aB ?aS ?aL ?_; (case aP => exact (k49_mkF _ _ (⟨l2, rdOf false y232 x28_1⟩ : S49) (Kd.V_reads' (Kd.V_mono (ok' := (fun k_ => ((fun k_ => ((P1_ k_ ∨ P2_ k_) ∨ w.heap.size ≤ k_) ∧ some k_ ≠ (.slice (some ad235) y232.length co10 : Value).ownBlock)) k_ ∧ some k_ ≠ (v240 : Value).ownBlock)) (HO_2.out) (fun k_ hk => ⟨⟨hk.1.1, hk.1.2⟩, hk.2⟩))).2.1 (Kd.V_F (Kd.V_mono (ok' := (fun k_ => ((fun k_ => ((P1_ k_ ∨ P2_ k_) ∨ w.heap.size ≤ k_) ∧ some k_ ≠ (.slice (some ad235) y232.length co10 : Value).ownBlock)) k_ ∧ some k_ ≠ (v240 : Value).ownBlock)) (HO_2.out) (fun k_ hk => ⟨⟨hk.1.1, hk.1.2⟩, hk.2⟩))))); (case aB => exact (by repeat (first | (with_reducible first | exact HB.out | apply below_alloc | apply pw_below_drewN | apply below_drew1) | exact HB.out))); (case aF => exact (fun k_ hk => ⟨(.inr (Nat.le_trans (below_size (by repeat (first | (with_reducible first | exact HB.out | apply below_alloc | apply pw_below_drewN | apply below_drew1) | exact HB.out))) hk)), Kd.fresh' (Kd.R_lt (by (with_reducible repeat (first | apply Kd.R_alloc | apply Kd.R_drewN | apply Kd.R_drew)); exact HO_26.out)) k_ hk⟩)); (case aO => exact (by (with_reducible repeat (first | apply Kd.N_alloc | apply Kd.N_drewN | apply Kd.N_drew)); exact HO241.out)); (case aS => exact (below_size (by repeat (first | (with_reducible first | exact HB.out | apply below_alloc | apply pw_below_drewN | apply below_drew1) | exact HB.out)))); (case aL => have := LMc15.out; omega); intro v243 w32 ho hb hg hat; rw [← Ny242.out] at ho; have n0_ := Aside0.mk (Kd.V_afterv (ok := (fun k_ => ((P1_ k_ ∨ P2_ k_) ∨ w.heap.size ≤ k_) ∧ some k_ ≠ (.slice (some ad235) y232.length co10 : Value).ownBlock)) (by (with_reducible repeat (first | apply Kd.V_alloc | apply Kd.V_drewN | apply Kd.V_drew)); exact HO_1.out) hg hat); have n1_ := Aside0.mk (Kd.V_afterv (ok := (fun k_ => ((P1_ k_ ∨ P2_ k_) ∨ w.heap.size ≤ k_) ∧ some k_ ≠ (.slice (some ad235) y232.length co10 : Value).ownBlock)) (by (with_reducible repeat (first | apply Kd.V_alloc | apply Kd.V_drewN | apply Kd.V_drew)); exact HO_2.out) hg hat); have n2_ := Aside0.mk (Kd.R_over' (by (with_reducible repeat (first | apply Kd.R_alloc | apply Kd.R_drewN | apply Kd.R_drew)); exact HO_26.out) (Kd.N_typed (by (with_reducible repeat (first | apply Kd.N_alloc | apply Kd.N_drewN | apply Kd.N_drew)); exact HO241.out)) (by decide) hg); have n3_ := Aside0.mk (hb); have n4_ := Aside0.mk (ho); clear HO_1; clear HO_2; clear HO_26; clear HB; clear HO241; have HO_1 := n0_; have HO_2 := n1_; have HO_26 := n2_; have HB := n3_; have HO244 := n4_; clear n0_ n1_ n2_ n3_ n4_; clear ho hb hg hat; obtain ⟨Ao33, co33, eo33⟩ := Kd.N_slice HO244.out; subst eo33) | ((with_reducible refine gate_callee (f := 63) rfl ?_); refine goesL_ (some 42) rfl rfl Try.func63 (by kernel_rfl) rfl #[.int .i64 a0, .slice Ao33 y242.length co33] rfl (by (try simp only [List.map_toArray, List.map_cons, List.map_nil]); first | done | rfl | (simp only [List.length_drop, List.length_take]; rfl)) ?_; (with_reducible refine (verditerref02_State.calls k1 a0 _ _ y242 t245 t246 t247 _ ?side1 ?side2 A16.out).mono ?_); (case side1 => repeat (first | exact (Kd.N_reads' HO244.out).2.2 | (with_reducible refine Kd.C_alloc ?_ _) | (with_reducible refine Kd.C_drewN ?_ _) | (with_reducible refine Kd.C_drew ?_))); (case side2 => exact (Kd.N_reads' HO244.out).2.1); rintro e w34 ⟨rfl, hb⟩; refine ⟨_, rfl, ?_⟩; have n0_ := Aside0.mk (Kd.V_below (by (with_reducible repeat (first | apply Kd.V_alloc | apply Kd.V_drewN | apply Kd.V_drew)); exact HO_1.out) hb); have n1_ := Aside0.mk (Kd.V_below (by (with_reducible repeat (first | apply Kd.V_alloc | apply Kd.V_drewN | apply Kd.V_drew)); exact HO_2.out) hb); have n2_ := Aside0.mk (Kd.R_below (by (with_reducible repeat (first | apply Kd.R_alloc | apply Kd.R_drewN | apply Kd.R_drew)); exact HO_26.out) hb); have n3_ := Aside0.mk (Kd.N_below (by (with_reducible repeat (first | apply Kd.N_alloc | apply Kd.N_drewN | apply Kd.N_drew)); exact HO244.out) hb); have n4_ := Aside0.mk (below_step (by repeat (first | (with_reducible first | exact HB.out | apply below_alloc | apply pw_below_drewN | apply below_drew1) | exact HB.out)) hb); clear HO_1; clear HO_2; clear HO_26; clear HO244; clear HB; have HO_1 := n0_; have HO_2 := n1_; have HO_26 := n2_; have HO244 := n3_; have HB := n4_; clear n0_ n1_ n2_ n3_ n4_; (try clear hb); (try clear hb2); (try clear hk); (try clear hi)) | (go_at_call 43; (with_reducible refine (verditerref02_need.calls t245 t246 t248 _ A18.out).mono ?_); rintro e w35 ⟨rfl, hb⟩; have n0_ := Aside0.mk (Kd.V_below (by (with_reducible repeat (first | apply Kd.V_alloc | apply Kd.V_drewN | apply Kd.V_drew)); exact HO_1.out) hb); have n1_ := Aside0.mk (Kd.V_below (by (with_reducible repeat (first | apply Kd.V_alloc | apply Kd.V_drewN | apply Kd.V_drew)); exact HO_2.out) hb); have n2_ := Aside0.mk (Kd.R_below (by (with_reducible repeat (first | apply Kd.R_alloc | apply Kd.R_drewN | apply Kd.R_drew)); exact HO_26.out) hb); have n3_ := Aside0.mk (Kd.N_below (by (with_reducible repeat (first | apply Kd.N_alloc | apply Kd.N_drewN | apply Kd.N_drew)); exact HO244.out) hb); have n4_ := Aside0.mk (below_step (by repeat (first | (with_reducible first | exact HB.out | apply below_alloc | apply pw_below_drewN | apply below_drew1) | exact HB.out)) hb); clear HO_1; clear HO_2; clear HO_26; clear HO244; clear HB; have HO_1 := n0_; have HO_2 := n1_; have HO_26 := n2_; have HO244 := n3_; have HB := n4_; clear n0_ n1_ n2_ n3_ n4_; (try clear hb); (try clear hb2); (try clear hk); (try clear hi)) | (go_at_call 43; (with_reducible refine (verditerref02_need.calls t229 t230 t249 _ A19.out).mono ?_); rintro e w36 ⟨rfl, hb⟩; have n0_ := Aside0.mk (Kd.V_below (by (with_reducible repeat (first | apply Kd.V_alloc | apply Kd.V_drewN | apply Kd.V_drew)); exact HO_1.out) hb); have n1_ := Aside0.mk (Kd.V_below (by (with_reducible repeat (first | apply Kd.V_alloc | apply Kd.V_drewN | apply Kd.V_drew)); exact HO_2.out) hb); have n2_ := Aside0.mk (Kd.R_below (by (with_reducible repeat (first | apply Kd.R_alloc | apply Kd.R_drewN | apply Kd.R_drew)); exact HO_26.out) hb); have n3_ := Aside0.mk (Kd.N_below (by (with_reducible repeat (first | apply Kd.N_alloc | apply Kd.N_drewN | apply Kd.N_drew)); exact HO244.out) hb); have n4_ := Aside0.mk (below_step (by repeat (first | (with_reducible first | exact HB.out | apply below_alloc | apply pw_below_drewN | apply below_drew1) | exact HB.out)) hb); clear HO_1; clear HO_2; clear HO_26; clear HO244; clear HB; have HO_1 := n0_; have HO_2 := n1_; have HO_26 := n2_; have HO244 := n3_; have HB := n4_; clear n0_ n1_ n2_ n3_ n4_; (try clear hb); (try clear hb2); (try clear hk); (try clear hi)))
                      go_roundg k1
                      case measure => have := HK1.out; omega
                      case rel => exact ⟨(wrap64 (x28_1 + 1)), (by first | rfl | (simp; done) | (simp [*]; done)), H', ⟨by have := HK1.out; omega⟩, ⟨by (with_reducible repeat (first | apply Kd.V_alloc | apply Kd.V_drewN | apply Kd.V_drew)); exact Kd.V_mono HO_1.out (fun _ hk => ⟨hk.1.1, hk.1.2⟩)⟩, ⟨by (with_reducible repeat (first | apply Kd.V_alloc | apply Kd.V_drewN | apply Kd.V_drew)); exact Kd.V_mono HO_2.out (fun _ hk => ⟨hk.1.1, hk.1.2⟩)⟩, ⟨by (with_reducible repeat (first | apply Kd.R_alloc | apply Kd.R_drewN | apply Kd.R_drew)); exact HO_26.out⟩, ⟨by repeat (first | (with_reducible first | exact HB.out | apply below_alloc | apply pw_below_drewN | apply below_drew1) | exact HB.out)⟩⟩
                  · rw [if_neg c17] at H
                    have c17b0 : (t247 == 0) = false := beq_eq_false_iff_ne.mpr c17
                    have c17b1 : (t247 != 0) = true := bne_iff_ne.mpr c17
                    obtain rfl := Option.some.inj H
                    have p235 : 0 ≤ (x28_1 : Int) := of_decide_eq_true (by first | (with_reducible assumption) | assumption)
                    have q235 : x28_1 < (y232.length : Int) := of_decide_eq_true (by first | (with_reducible assumption) | assumption)
                    obtain ⟨ad235, e235, hx235_0⟩ := Kd.at_bool (Kd.R_reads' HO_26.out).2.2 x28_1 p235 q235
                    cases e235
                    replace p235 := eq_true p235
                    replace q235 := eq_true q235
                    go_wp2_with (first | ((with_reducible refine gate_dst (N := 34) rfl ?_); refine Kd.N_lit k49 _ 49 ?hg (N' := 34) ?hd (xs := ([] : List (S49))) (inner := []) (ok := (fun k_ => ((P1_ k_ ∨ P2_ k_) ∨ w.heap.size ≤ k_) ∧ some k_ ≠ (.slice (some ad235) y232.length co10 : Value).ownBlock)) (okp := (fun k_ => ((P1_ k_ ∨ P2_ k_) ∨ w.heap.size ≤ k_) ∧ some k_ ≠ (.slice (some ad235) y232.length co10 : Value).ownBlock)) ?hr ?hp (fun _ hk => hk) ((show ∀ k_, wr.heap.size ≤ k_ → (fun k_ => ((P1_ k_ ∨ P2_ k_) ∨ w.heap.size ≤ k_) ∧ some k_ ≠ (.slice (some ad235) y232.length co10 : Value).ownBlock) k_ from fun k_ hk => ⟨(.inr (Nat.le_trans (below_size (by repeat (first | (with_reducible first | exact HB.out | apply below_alloc | apply pw_below_drewN | apply below_drew1) | exact HB.out))) hk)), Kd.fresh' (Kd.R_lt (by (with_reducible repeat (first | apply Kd.R_alloc | apply Kd.R_drewN | apply Kd.R_drew)); exact HO_26.out)) k_ hk⟩) _ (Nat.le_refl _)) (Below.refl _ _) (Nat.le_refl _) (by simp) ?_; (case hd => rfl); (case hg => rfl); (case hr => first | (go_simp; done) | (go_simp; rfl)); (case hp => exact (Reps.none _ _)); intro v237 w37 ho38 hb hg_ hnew_; clear hg_ hnew_; (first | rw [← Ny236.out] at ho38 | (simp only [Int.reduceToNat] at ho38; rw [← Ny236.out] at ho38)); have n0_ := Aside0.mk (Kd.V_elder' (by (with_reducible repeat (first | apply Kd.V_alloc | apply Kd.V_drewN | apply Kd.V_drew)); exact HO_1.out) (Kd.N_base ho38) hb); have n1_ := Aside0.mk (Kd.V_elder' (by (with_reducible repeat (first | apply Kd.V_alloc | apply Kd.V_drewN | apply Kd.V_drew)); exact HO_2.out) (Kd.N_base ho38) hb); have n2_ := Aside0.mk (Kd.R_below (by (with_reducible repeat (first | apply Kd.R_alloc | apply Kd.R_drewN | apply Kd.R_drew)); exact HO_26.out) hb); have n3_ := Aside0.mk (Kd.N_lower ho38 (below_size (by repeat (first | (with_reducible first | exact HB.out | apply below_alloc | apply pw_below_drewN | apply below_drew1) | exact HB.out)))); have n4_ := Aside0.mk (below_step (by repeat (first | (with_reducible first | exact HB.out | apply below_alloc | apply pw_below_drewN | apply below_drew1) | exact HB.out)) hb); clear HO_1; clear HO_2; clear HO_26; clear HB; have HO_1 := n0_; have HO_2 := n1_; have HO_26 := n2_; have HO238 := n3_; have HB := n4_; clear n0_ n1_ n2_ n3_ n4_; clear hb ho38) | ((with_reducible refine gate_builtin (b := .append) (xs := #[.tmp 34, .tmp 35]) rfl ?_); at_builtin; refine Kd.N_append_rows k49 (w0 := w) w.heap.size rfl (.tmp 34) (.tmp 35) 29 49 (.agg #[(.slice none 0 0), (.bool false)]) 32 rfl Try.underlying29 info49 rfl (by decide) (by omega) v237 y236 l1 _ _ _ (fun k_ => ((P1_ k_ ∨ P2_ k_) ∨ w.heap.size ≤ k_) ∧ some k_ ≠ (.slice (some ad235) y232.length co10 : Value).ownBlock) (fun k_ => ((fun k_ => ((P1_ k_ ∨ P2_ k_) ∨ w.heap.size ≤ k_) ∧ some k_ ≠ (.slice (some ad235) y232.length co10 : Value).ownBlock)) k_ ∧ some k_ ≠ (v237 : Value).ownBlock) rfl rfl ?aO ?aR (fun _ hk => hk) ?aF ?aB ?aS ?aL ?_; (case aR => exact (by skip; exact Kd.V_F (Kd.V_mono (ok' := (fun k_ => ((fun k_ => ((P1_ k_ ∨ P2_ k_) ∨ w.heap.size ≤ k_) ∧ some k_ ≠ (.slice (some ad235) y232.length co10 : Value).ownBlock)) k_ ∧ some k_ ≠ (v237 : Value).ownBlock)) (HO_1.out) (fun k_ hk => ⟨⟨hk.1.1, hk.1.2⟩, hk.2⟩)))); (case aB => exact (by repeat (first | (with_reducible first | exact HB.out | apply below_alloc | apply pw_below_drewN | apply below_drew1) | exact HB.out))); (case aF => exact (fun k_ hk => ⟨(.inr (Nat.le_trans (below_size (by repeat (first | (with_reducible first | exact HB.out | apply below_alloc | apply pw_below_drewN | apply below_drew1) | exact HB.out))) hk)), Kd.fresh' (Kd.R_lt (by (with_reducible repeat (first | apply Kd.R_alloc | apply Kd.R_drewN | apply Kd.R_drew)); exact HO_26.out)) k_ hk⟩)); (case aO => exact (by (with_reducible repeat (first | apply Kd.N_alloc | apply Kd.N_drewN | apply Kd.N_drew)); exact HO238.out)); (case aS => exact (below_size (by repeat (first | (with_reducible first | exact HB.out | apply below_alloc | apply pw_below_drewN | apply below_drew1) | exact HB.out)))); (case aL => have := LMc14.out; omega); intro v240 w39 ho hb hg hat; rw [← Ny239.out] at ho; have n0_ := Aside0.mk (Kd.V_afterv (ok := (fun k_ => ((P1_ k_ ∨ P2_ k_) ∨ w.heap.size ≤ k_) ∧ some k_ ≠ (.slice (some ad235) y232.length co10 : Value).ownBlock)) (by (with_reducible repeat (first | apply Kd.V_alloc | apply Kd.V_drewN | apply Kd.V_drew)); exact HO_1.out) hg hat); have n1_ := Aside0.mk (Kd.V_afterv (ok := (fun k_ => ((P1_ k_ ∨ P2_ k_) ∨ w.heap.size ≤ k_) ∧ some k_ ≠ (.slice (some ad235) y232.length co10 : Value).ownBlock)) (by (with_reducible repeat (first | apply Kd.V_alloc | apply Kd.V_drewN | apply Kd.V_drew)); exact HO_2.out) hg hat); have n2_ := Aside0.mk (Kd.R_over' (by (with_reducible repeat (first | apply Kd.R_alloc | apply Kd.R_drewN | apply Kd.R_drew)); exact HO_26.out) (Kd.N_typed (by (with_reducible repeat (first | apply Kd.N_alloc | apply Kd.N_drewN | apply Kd.N_drew)); exact HO238.out)) (by decide) hg); have n3_ := Aside0.mk (hb); have n4_ := Aside0.mk (ho); clear HO_1; clear HO_2; clear HO_26; clear HB; clear HO238; have HO_1 := n0_; have HO_2 := n1_; have HO_26 := n2_; have HB := n3_; have HO241 := n4_; clear n0_ n1_ n2_ n3_ n4_; clear ho hb hg hat) | ((with_reducible refine gate_builtin (b := .append) (xs := #[.tmp 36, .tmp 40]) rfl ?_); at_builtin; refine Kd.N_append k49 (w0 := w) w.heap.size rfl (.tmp 36) (.tmp 40) 29 49 (.agg #[(.slice none 0 0), (.bool false)]) 32 rfl Try.underlying29 info49 rfl (by decide) (by omega) v240 y239 (⟨l2, rdOf false y232 x28_1⟩ : S49) [.slice A2 l2.length c2, .bool (rdOf false y232 x28_1)] (fun k_ => ((P1_ k_ ∨ P2_ k_) ∨ w.heap.size ≤ k_) ∧ some k_ ≠ (.slice (some ad235) y232.length co10 : Value).ownBlock) (fun k_ => ((fun k_ => ((P1_ k_ ∨ P2_ k_) ∨ w.heap.size ≤ k_) ∧ some k_ ≠ (.slice (some ad235) y232.length co10 : Value).ownBlock)) k_ ∧ some k_ ≠ (v240 : Value).ownBlock) rfl rfl ?aP (fun _ hk => hk) ?aF ?aO ?aB ?aS ?aL ?_; (case aP => exact (k49_mkF _ _ (⟨l2, rdOf false y232 x28_1⟩ : S49) (Kd.V_reads' (Kd.V_mono (ok' := (fun k_ => ((fun k_ => ((P1_ k_ ∨ P2_ k_) ∨ w.heap.size ≤ k_) ∧ some k_ ≠ (.slice (some ad235) y232.length co10 : Value).ownBlock)) k_ ∧ some k_ ≠ (v240 : Value).ownBlock)) (HO_2.out) (fun k_ hk => ⟨⟨hk.1.1, hk.1.2⟩, hk.2⟩))).2.1 (Kd.V_F (Kd.V_mono (ok' := (fun k_ => ((fun k_ => ((P1_ k_ ∨ P2_ k_) ∨ w.heap.size ≤ k_) ∧ some k_ ≠ (.slice (some ad235) y232.length co10 : Value).ownBlock)) k_ ∧ some k_ ≠ (v240 : Value).ownBlock)) (HO_2.out) (fun k_ hk => ⟨⟨hk.1.1, hk.1.2⟩, hk.2⟩))))); (case aB => exact (by repeat (first | (with_reducible first | exact HB.out | apply below_alloc | apply pw_below_drewN | apply below_drew1) | exact HB.out))); (case aF => exact (fun k_ hk => ⟨(.inr (Nat.le_trans (below_size (by repeat (first | (with_reducible first | exact HB.out | apply below_alloc | apply pw_below_drewN | apply below_drew1) | exact HB.out))) hk)), Kd.fresh' (Kd.R_lt (by (with_reducible repeat (first | apply Kd.R_alloc | apply Kd.R_drewN | apply Kd.R_drew)); exact HO_26.out)) k_ hk⟩)); (case aO => exact (by (with_reducible repeat (first | apply Kd.N_alloc | apply Kd.N_drewN | apply Kd.N_drew)); exact HO241.out)); (case aS => exact (below_size (by repeat (first | (with_reducible first | exact HB.out | apply below_alloc | apply pw_below_drewN | apply below_drew1) | exact HB.out)))); (case aL => have := LMc15.out; omega); intro v243 w40 ho hb hg hat; rw [← Ny242.out] at ho; have n0_ := Aside0.mk (Kd.V_afterv (ok := (fun k_ => ((P1_ k_ ∨ P2_ k_) ∨ w.heap.size ≤ k_) ∧ some k_ ≠ (.slice (some ad235) y232.length co10 : Value).ownBlock)) (by (with_reducible repeat (first | apply Kd.V_alloc | apply Kd.V_drewN | apply Kd.V_drew)); exact HO_1.out) hg hat); have n1_ := Aside0.mk (Kd.V_afterv (ok := (fun k_ => ((P1_ k_ ∨ P2_ k_) ∨ w.heap.size ≤ k_) ∧ some k_ ≠ (.slice (some ad235) y232.length co10 : Value).ownBlock)) (by (with_reducible repeat (first | apply Kd.V_alloc | apply Kd.V_drewN | apply Kd.V_drew)); exact HO_2.out) hg hat); have n2_ := Aside0.mk (Kd.R_over' (by (with_reducible repeat (first | apply Kd.R_alloc | apply Kd.R_drewN | apply Kd.R_drew)); exact HO_26.out) (Kd.N_typed (by (with_reducible repeat (first | apply Kd.N_alloc | apply Kd.N_drewN | apply Kd.N_drew)); exact HO241.out)) (by decide) hg); have n3_ := Aside0.mk (hb); have n4_ := Aside0.mk (ho); clear HO_1; clear HO_2; clear HO_26; clear HB; clear HO241; have HO_1 := n0_; have HO_2 := n1_; have HO_26 := n2_; have HB := n3_; have HO244 := n4_; clear n0_ n1_ n2_ n3_ n4_; clear ho hb hg hat; obtain ⟨Ao41, co41, eo41⟩ := Kd.N_slice HO244.out; subst eo41) | ((with_reducible refine gate_callee (f := 63) rfl ?_); refine goesL_ (some 42) rfl rfl Try.func63 (by kernel_rfl) rfl #[.int .i64 a0, .slice Ao41 y242.length co41] rfl (by (try simp only [List.map_toArray, List.map_cons, List.map_nil]); first | done | rfl | (simp only [List.length_drop, List.length_take]; rfl)) ?_; (with_reducible refine (verditerref02_State.calls k1 a0 _ _ y242 t245 t246 t247 _ ?side1 ?side2 A16.out).mono ?_); (case side1 => repeat (first | exact (Kd.N_reads' HO244.out).2.2 | (with_reducible refine Kd.C_alloc ?_ _) | (with_reducible refine Kd.C_drewN ?_ _) | (with_reducible refine Kd.C_drew ?_))); (case side2 => exact (Kd.N_reads' HO244.out).2.1); rintro e w42 ⟨rfl, hb⟩; refine ⟨_, rfl, ?_⟩; have n0_ := Aside0.mk (Kd.V_below (by (with_reducible repeat (first | apply Kd.V_alloc | apply Kd.V_drewN | apply Kd.V_drew)); exact HO_1.out) hb); have n1_ := Aside0.mk (Kd.V_below (by (with_reducible repeat (first | apply Kd.V_alloc | apply Kd.V_drewN | apply Kd.V_drew)); exact HO_2.out) hb); have n2_ := Aside0.mk (Kd.R_below (by (with_reducible repeat (first | apply Kd.R_alloc | apply Kd.R_drewN | apply Kd.R_drew)); exact HO_26.out) hb); have n3_ := Aside0.mk (Kd.N_below (by (with_reducible repeat (first | apply Kd.N_alloc | apply Kd.N_drewN | apply Kd.N_drew)); exact HO244.out) hb); have n4_ := Aside0.mk (below_step (by repeat (first | (with_reducible first | exact HB.out | apply below_alloc | apply pw_below_drewN | apply below_drew1) | exact HB.out)) hb); clear HO_1; clear HO_2; clear HO_26; clear HO244; clear HB; have HO_1 := n0_; have HO_2 := n1_; have HO_26 := n2_; have HO244 := n3_; have HB := n4_; clear n0_ n1_ n2_ n3_ n4_; (try clear hb); (try clear hb2); (try clear hk); (try clear hi)))
                    go_ret
                    exact ⟨by first | rfl | (simp [errW_none, errW_some] <;> rfl) | (simp [*, errW_none, errW_some] <;> rfl), by repeat (first | (with_reducible first | exact HB.out | apply below_alloc | apply pw_below_drewN | apply below_drew1) | exact HB.out)⟩
                · rw [if_neg c15] at H
                  exact absurd H (by simp)
              · rw [if_neg c14] at H
                exact absurd H (by simp)
            · rw [if_neg c13] at H
              exact absurd H (by simp)
          · rw [if_neg c12] at H
            exact absurd H (by simp)
        · rw [if_neg c11] at H
          have c11b0 : decide (x28_1 < (y232.length : Int)) = false := decide_eq_false c11
          clear c11
          obtain rfl := Option.some.inj H
          go_wp2
          go_ret
          exact ⟨by first | rfl | (simp [errW_none, errW_some] <;> rfl) | (simp [*, errW_none, errW_some] <;> rfl), by repeat (first | (with_reducible first | exact HB.out | apply below_alloc | apply pw_below_drewN | apply below_drew1) | exact HB.out)⟩
  · replace c5 := Bool.eq_false_iff.mpr c5
    subst c5
    have H1 : (some false) = some r := by rw [if_neg (show ¬ (false = true) by decide)] at H; exact H
    clear H
    have H := H1
    clear H1
    obtain rfl := Option.some.inj H
    go_enter Try.func77, Try.ntmps77
    go_wp2_with (first | ((with_reducible refine gate_callee (f := 85) rfl ?_); refine goesL_ (some 17) rfl rfl Try.func85 (by kernel_rfl) rfl #[.slice A2 l2.length c2, .int .i64 a0] rfl (by (try simp only [List.map_toArray, List.map_cons, List.map_nil]); first | done | rfl | (simp only [List.length_drop, List.length_take]; rfl)) ?_; (with_reducible refine (verditerref02_isSet.calls _ _ l2 a0 false _ ?side1 ?side2 A4.out).mono ?_); (case side1 => repeat (first | exact (Kd.V_reads' HO2.out).2.2 | (with_reducible refine Kd.C_alloc ?_ _) | (with_reducible refine Kd.C_drewN ?_ _) | (with_reducible refine Kd.C_drew ?_))); (case side2 => exact (Kd.V_reads' HO2.out).2.1); rintro e w' ⟨rfl, ⟨nd, rfl⟩⟩; refine ⟨_, rfl, ?_⟩))
    go_ret
    exact ⟨by first | rfl | (simp [errW_none, errW_some] <;> rfl) | (simp [*, errW_none, errW_some] <;> rfl), by repeat (first | (with_reducible first | exact HB.out | apply below_alloc | apply pw_below_drewN | apply below_drew1) | exact HB.out)⟩

end Go.Proofs.Ytfejfljgdeglgaa.K

/- What slices.Grow of nil and slices.Concat of two slices return. -/
namespace Go.Proofs.Ytfejfljgdeglgaa.K
open Go.RowKit Go.Proofs.YtfejfljgdeglgaaW.PrintWords Go.Proofs.YtfejfljgdeglgaaW.PrintLast Go.Proofs.YtfejfljgdeglgaaW.PrintMore
set_option linter.unusedVariables false
set_option linter.unusedSimpArgs false

set_option maxHeartbeats 1000000 in
set_option maxRecDepth 100000 in
theorem grow_nil (a1 : Int) (w : World) (h0 : 0 ≤ a1) (h1 : a1 < 17592186044416) :
    Calls Try.prog 99 #[.slice none 0 0, .int .i64 a1] w fun e w' => ∃ v0_ : Value, e = .returned (v0_) ∧ Kd.R (Kd.int .i64) 3 w' w.heap.size (fun _ => True) v0_ [] ∧ Below w.heap.size w w' := by
  have hn : ¬ a1 < 0 := by omega
  have hB := Aside0.mk (Below.refl w.heap.size w)
  by_cases hz : 0 < a1
  · go_enter Try.func99, Try.ntmps99
    go_wp2_with (first | ((with_reducible refine gate_builtin (b := .append) (xs := #[.tmp 20, .tmp 21]) rfl ?_); at_builtin; refine Kd.R_append_zeros (Kd.int .i64) (w0 := w) w.heap.size rfl (.tmp 20) (.tmp 21) 47 3 3 (.int .i64 0) 8 rfl Try.underlying47 Try.underlying3 info3 rfl (by decide) (by omega) (.slice none 0 0) [] (0 : Int) a1 (fun _ => True) rfl rfl ?aZ (fun _ _ => trivial) (Kd.R_nil _ _ _ _ _) h0 hB.out (Nat.le_refl _) (by simp; omega) ?_; (case aZ => exact rfl); intro v1 w1 ho hb hg hat; have HO1 := Aside0.mk ho; have HB1 := Aside0.mk hb; clear ho hb hg hat; obtain ⟨Ao, co, eo⟩ := Kd.R_slice HO1.out; subst eo))
    go_ret
    have := Kd.R_take HO1.out (m := 0) (Nat.zero_le _)
    exact ⟨_, rfl, this, HB1.out⟩
  · go_enter Try.func99, Try.ntmps99
    go_wp2
    go_ret
    exact ⟨_, rfl, Kd.R_nil _ _ _ _ _, Below.refl _ _⟩

set_option maxHeartbeats 2000000 in
set_option maxRecDepth 100000 in
theorem concat2 (b c0 : Nat) (A1 : Option Addr) (c1 : Nat) (xs : List Int) (A2 : Option Addr) (c2 : Nat) (ys : List Int) (w : World)
    (hc0 : w.cell? ⟨b, 0, none⟩ = some (.slice A1 xs.length c1)) (hc1 : w.cell? ⟨b, 1, none⟩ = some (.slice A2 ys.length c2))
    (hr1 : Kd.C (Kd.int .i64) w A1 xs.length xs) (hr2 : Kd.C (Kd.int .i64) w A2 ys.length ys) (hl : xs.length + ys.length < 17592186044416) :
    Calls Try.prog 93 #[.slice (some ⟨b, 0, none⟩) 2 c0] w fun e w' => ∃ v0_ : Value, e = .returned (v0_) ∧ Kd.R (Kd.int .i64) 3 w' w.heap.size (fun _ => True) v0_ (xs ++ ys) ∧ Below w.heap.size w w' := by
  have hbl : b < w.heap.size := World.block_lt_of_cell? w _ hc0
  have HR1 := Aside0.mk hr1
  have HR2 := Aside0.mk hr2
  clear hr1 hr2
  go_enter Try.func93, Try.ntmps93
  go_wp2
  go_loop [3, 11] (fun s i => (i = .int .i64 0 ∧ s = .int .i64 0) ∨ (i = .int .i64 1 ∧ s = .int .i64 xs.length) ∨ (i = .int .i64 2 ∧ s = .int .i64 (xs.length + ys.length))) (fun _ i => 2 - (intOf i).toNat)
  case atStart => exact .inl ⟨rfl, rfl⟩
  case round =>
    rcases hrel with ⟨rfl, rfl⟩ | ⟨rfl, rfl⟩ | ⟨rfl, rfl⟩
    · go_wp2
      go_round
      case rel => exact .inr (.inl ⟨rfl, rfl⟩)
      case measure => simp [intOf]
    · have hn : ¬ ((xs.length : Int) + ys.length < 0) := by omega
      go_wp2
      go_round
      case rel => exact .inr (.inr ⟨rfl, rfl⟩)
      case measure => simp [intOf]
    · go_wp2_with fail
      refine (grow_nil (xs.length + ys.length) w (by omega) (by omega)).mono ?_
      rintro e w1 ⟨v, rfl, hR, hB⟩
      have HO := Aside0.mk hR
      have HB := Aside0.mk hB
      clear hR hB
      go_wp2
      go_loopw [6, 27] (fun v i wr => ∃ zs : List Int, Aside0 (Kd.R (Kd.int .i64) 3 wr w.heap.size (fun _ => True) v zs) ∧ Aside0 (Below w.heap.size w wr) ∧ ((i = .int .i64 0 ∧ zs = []) ∨ (i = .int .i64 1 ∧ zs = xs) ∨ (i = .int .i64 2 ∧ zs = xs ++ ys))) (fun _ i _ => 2 - (intOf i).toNat)
      case atStart => exact ⟨[], HO, HB, .inl ⟨rfl, rfl⟩⟩
      case round =>
        obtain ⟨zs, HOr, HBr, h⟩ := hrel
        have d0 : wr.cell? ⟨b, 0, none⟩ = some (.slice A1 xs.length c1) := (HBr.out.cell hbl).trans hc0
        have d1 : wr.cell? ⟨b, 1, none⟩ = some (.slice A2 ys.length c2) := (HBr.out.cell (p := ⟨b, 1, none⟩) hbl).trans hc1
        clear hc0 hc1
        rcases h with ⟨rfl, rfl⟩ | ⟨rfl, rfl⟩ | ⟨rfl, rfl⟩
        · go_wp2_with (first | ((with_reducible refine gate_builtin (b := .append) (xs := #[.tmp 31, .tmp 32]) rfl ?_); at_builtin; refine Kd.R_append_rows (Kd.int .i64) (w0 := w) w.heap.size rfl (.tmp 31) (.tmp 32) 47 3 (.int .i64 0) 8 rfl Try.underlying47 info3 rfl (by decide) (by omega) u6 [] xs _ _ _ (fun _ => True) (fun _ => False) rfl rfl HOr.out (Kd.C_below HR1.out HBr.out) (fun _ _ h => h) (fun _ h => h.elim) (fun _ _ => trivial) HBr.out (below_size HBr.out) (by first | omega | (simp; omega)) ?_; intro v2 w2 ho hb hg hat; have HO2 := Aside0.mk ho; have HB2 := Aside0.mk hb; clear ho hb hg hat))
          go_roundw
          case rel => exact ⟨_, HO2, HB2, .inr (.inl ⟨rfl, rfl⟩)⟩
          case measure => simp [intOf]
        · go_wp2_with (first | ((with_reducible refine gate_builtin (b := .append) (xs := #[.tmp 31, .tmp 32]) rfl ?_); at_builtin; refine Kd.R_append_rows (Kd.int .i64) (w0 := w) w.heap.size rfl (.tmp 31) (.tmp 32) 47 3 (.int .i64 0) 8 rfl Try.underlying47 info3 rfl (by decide) (by omega) u6 zs ys _ _ _ (fun _ => True) (fun _ => False) rfl rfl HOr.out (Kd.C_below HR2.out HBr.out) (fun _ _ h => h) (fun _ h => h.elim) (fun _ _ => trivial) HBr.out (below_size HBr.out) (by first | omega | (simp; omega)) ?_; intro v2 w2 ho hb hg hat; have HO2 := Aside0.mk ho; have HB2 := Aside0.mk hb; clear ho hb hg hat))
          go_roundw
          case rel => exact ⟨_, HO2, HB2, .inr (.inr ⟨rfl, rfl⟩)⟩
          case measure => simp [intOf]
        · go_wp2
          go_ret
          exact ⟨_, rfl, HOr.out, HBr.out⟩

end Go.Proofs.Ytfejfljgdeglgaa.K

/- What judge.Next answers: the solver's question to the grades that are left, sorted. -/
namespace Go.Proofs.Ytfejfljgdeglgaa.K
open Go.RowKit Go.Proofs.YtfejfljgdeglgaaW.PrintWords Go.Proofs.YtfejfljgdeglgaaW.PrintLast Go.Proofs.YtfejfljgdeglgaaW.PrintMore
set_option linter.unusedVariables false
set_option linter.unusedSimpArgs false
/-- judge.Next, for records with few grades left. -/
def judge_Next.f (a0 : Int) (l : List S49) : Option (List Int × Bool × Int) := (judge_Validate.f a0 l).bind fun e => if e = 0 then (if (l.length : Int) = 12 then some ([], false, 10) else
  (judge_left.f 1000 a0 l 0 0).bind fun z => (judge_left.f 1000 a0 l 1 1).bind fun o => if z.length + o.length ≤ 60 then (if z.length + o.length ≤ 1 then some ([], false, 0) else
    (judge_need.f 1000 (z.length : Int) (o.length : Int)).bind fun q => if 0 ≤ q ∧ q ≤ 60 ∧ (solveP q.toNat z.length o.length).1 ≤ z.length ∧ (solveP q.toNat z.length o.length).2.1 ≤ o.length then
      some (sortL (z.take (solveP q.toNat z.length o.length).1 ++ o.take (solveP q.toNat z.length o.length).2.1), true, 0) else none) else none) else some ([], false, e)

set_option maxHeartbeats 4000000 in
set_option maxRecDepth 100000 in
theorem next_few (a0 : Int) (A1 : Option Addr) (c1 : Nat) (l1 : List S49) (z o : List Int) (w : World) (hr1 : Kd.C k49 w A1 l1.length l1) (hc1 : l1.length ≤ c1) (he : judge_Validate.f a0 l1 = some 0) (hl : ¬ (l1.length : Int) = 12)
    (hz : judge_left.f 1000 a0 l1 0 0 = some z) (ho : judge_left.f 1000 a0 l1 1 1 = some o) (h1 : z.length + o.length ≤ 1) :
    Calls Try.prog 76 #[.int .i64 a0, .slice A1 l1.length c1] w fun e w' => e = .returned (.tuple #[.slice none 0 0, .bool false, .int .i64 0]) ∧ Below w.heap.size w w' := by
  have HR := Aside0.mk hr1
  have HE := Aside0.mk he
  have HZ := Aside0.mk hz
  have HO := Aside0.mk ho
  have hb0 : ((l1.length : Int) == 12) = false := beq_eq_false_iff_ne.mpr hl
  have hb1 : ((l1.length : Int) != 12) = true := bne_iff_ne.mpr hl
  have h2 : (z.length : Int) + (o.length : Int) ≤ 1 := by omega
  clear hr1 he hz ho hl
  go_enter Try.func76, Try.ntmps76
  go_wp2_with (first
    | (go_at_call 51; (with_reducible refine (judge_Validate.calls _ _ _ _ _ _ HR.out hc1 HE.out).mono ?_); rintro e w1 ⟨rfl, hb⟩; have HB := Aside0.mk hb; clear hb)
    | (go_at_call 79; (with_reducible refine (judge_left.calls 1000 _ _ _ l1 0 0 z _ (Kd.C_below HR.out HB.out) hc1 HZ.out).mono ?_); rintro e w2 ⟨v2, rfl, hv2, hb⟩; obtain ⟨Az, cz, hv, hlz, hrz⟩ := Kd.R_reads hv2; subst hv; have HRZ := Aside0.mk hrz; have HB2 := Aside0.mk (below_step HB.out hb); clear HB; have HB := HB2; clear HB2 hb hv2 hrz)
    | (go_at_call 79; (with_reducible refine (judge_left.calls 1000 _ _ _ l1 1 1 o _ (Kd.C_below HR.out HB.out) hc1 HO.out).mono ?_); rintro e w3 ⟨v3, rfl, hv3, hb⟩; obtain ⟨Ao, co, hv, hlo, hro⟩ := Kd.R_reads hv3; subst hv; have HRO := Aside0.mk hro; have HRZ2 := Aside0.mk (Kd.C_below HRZ.out hb); have HB2 := Aside0.mk (below_step HB.out hb); clear HB; have HB := HB2; clear HB2 hb hv3 hro))
  go_ret3
  exact ⟨rfl, below_alloc HB.out _⟩

theorem ne_box {W : World} {o : Obj} {M : Nat} (h : (W.alloc o).heap.size ≤ M) : (some W.heap.size : Option Nat) ≠ some M := by
  intro e
  injection e with e
  simp at h
  omega
theorem solve_at (q a b x y : Nat) (d : Bool) (hs : solveP q a b = (x, y, d)) (hq : q ≤ 60) (hab : a + b ≤ 64) (B1 B2 M : Nat) (f : Lit → Option Value) (W : World) (hm : Mem W B1 B2 M f) :
    Calls Try.prog 87 #[.agg #[.int .i64 (a : Int), .int .i64 (b : Int)], .int .i64 (q : Int), .pointer (some ⟨B1, 0, none⟩), .pointer (some ⟨B2, 0, none⟩)] W fun e W' =>
      e = .returned (.tuple #[.int .i64 (x : Int), .int .i64 (y : Int), .bool d]) ∧ (∃ f', Mem W' B1 B2 M f') ∧ W.grownBy W' (some M) := by
  have := solve_all q hq a b B1 B2 M f W hab hm
  rw [hs] at this
  exact this
set_option maxHeartbeats 4000000 in
set_option maxRecDepth 100000 in
theorem next_main (a0 : Int) (A1 : Option Addr) (c1 : Nat) (l1 : List S49) (z o : List Int) (q x y : Nat) (d : Bool) (w : World) (hr1 : Kd.C k49 w A1 l1.length l1) (hc1 : l1.length ≤ c1) (he : judge_Validate.f a0 l1 = some 0) (hl : ¬ (l1.length : Int) = 12)
    (hz : judge_left.f 1000 a0 l1 0 0 = some z) (ho : judge_left.f 1000 a0 l1 1 1 = some o) (h1 : ¬ z.length + o.length ≤ 1) (h60 : z.length + o.length ≤ 60) (hn : judge_need.f 1000 (z.length : Int) (o.length : Int) = some (q : Int)) (hq : q ≤ 60)
    (hs : solveP q z.length o.length = (x, y, d)) (hx : x ≤ z.length) (hy : y ≤ o.length) :
    Calls Try.prog 76 #[.int .i64 a0, .slice A1 l1.length c1] w fun e w' => ∃ v0_ : Value, e = .returned (.tuple #[v0_, .bool true, .int .i64 0]) ∧ Kd.R (Kd.int .i64) 3 w' w.heap.size (fun _ => True) v0_ (sortL (z.take x ++ o.take y)) ∧ Below w.heap.size w w' := by
  have HR := Aside0.mk hr1
  have HE := Aside0.mk he
  have HZ := Aside0.mk hz
  have HO := Aside0.mk ho
  have HN := Aside0.mk hn
  have HSv := Aside0.mk hs
  have hb0 : ((l1.length : Int) == 12) = false := beq_eq_false_iff_ne.mpr hl
  have hb1 : ((l1.length : Int) != 12) = true := bne_iff_ne.mpr hl
  have h2 : decide ((z.length : Int) + (o.length : Int) ≤ 1) = false := decide_eq_false (by omega)
  have h3 : (z.length : Int) + (o.length : Int) ≤ 60 := by omega
  clear hr1 he hz ho hl hn hs
  go_enter Try.func76, Try.ntmps76
  go_wp2_with (first
    | (go_at_call 51; (with_reducible refine (judge_Validate.calls _ _ _ _ _ _ HR.out hc1 HE.out).mono ?_); rintro e w1 ⟨rfl, hb⟩; have HB := Aside0.mk hb; clear hb)
    | (go_at_call 79; (with_reducible refine (judge_left.calls 1000 _ _ _ l1 0 0 z _ (Kd.C_below HR.out HB.out) hc1 HZ.out).mono ?_); rintro e w2 ⟨v2, rfl, hv2, hb⟩; obtain ⟨Az, cz, hv, hlz, hrz⟩ := Kd.R_reads hv2; subst hv; have HRZ := Aside0.mk hrz; have HB2 := Aside0.mk (below_step HB.out hb); clear HB; have HB := HB2; clear HB2 hb hv2 hrz)
    | (go_at_call 79; (with_reducible refine (judge_left.calls 1000 _ _ _ l1 1 1 o _ (Kd.C_below HR.out HB.out) hc1 HO.out).mono ?_); rintro e w3 ⟨v3, rfl, hv3, hb⟩; obtain ⟨Ao, co, hv, hlo, hro⟩ := Kd.R_reads hv3; subst hv; have HRO := Aside0.mk hro; have HRZ2 := Aside0.mk (Kd.C_below HRZ.out hb); have HB2 := Aside0.mk (below_step HB.out hb); clear HB; have HB := HB2; clear HB2 HRZ hb hv3 hro))
  go_region_held3 (fun w' => w'.cell? ⟨w3.heap.size, 0, none⟩ = some (.int .i64 (z.length : Int)) ∧ w'.cell? ⟨w3.heap.size, 1, none⟩ = some (.int .i64 (o.length : Int))) (first | exact ⟨k4, k5⟩ | exact ⟨k2, k3⟩ | exact ⟨k0, k1⟩ | go_keep) (first | (go_at_call 60; refine (solver_calls _).mono ?_; rintro e w4 ⟨B1, B2, M, f, rfl, hm, hM, hb⟩; have hb1 := below_step (below_drew1 (Below.refl _ (w3.alloc (Obj.cells #[.int .i64 (z.length : Int), .int .i64 (o.length : Int)] 58)))) hb; have k0 := (box_kept hb1).1; have k1 := (box_kept hb1).2; have HM := Aside0.mk hm; have HB4 := Aside0.mk hb1; have HG := Aside0.mk hM; clear hm hM hb hb1) | (go_at_call 45; (with_reducible refine (judge_need.calls 1000 _ _ _ _ HN.out).mono ?_); rintro e w5 ⟨rfl, hb⟩; have HM2 := Aside0.mk (HM.out.grown (grown_of_below hb)); have HB5 := Aside0.mk (below_step HB4.out hb); have k2 := (box_kept HB5.out).1; have k3 := (box_kept HB5.out).2; clear hb) | (go_at_call 87; refine (solve_at q z.length o.length x y d HSv.out hq (by omega) _ _ _ _ _ HM2.out).mono ?_; rintro e w6 ⟨rfl, hm2, hg2⟩; have HG2 := Aside0.mk hg2; have k4 := cell_kept k2 hg2 (ne_box HG.out); have k5 := cell_kept k3 hg2 (ne_box HG.out); clear hm2 hg2))
  have hM3 : w3.heap.size ≤ M := by have := HG.out; simp at this; omega
  have HB36 := Aside0.mk (below_mem (below_step (below_alloc (Below.refl _ w3) _) HB5.out) hM3 HG2.out)
  have HB6 := Aside0.mk (below_step HB.out HB36.out)
  have HRZ6 := Aside0.mk (Kd.C_below HRZ2.out HB36.out)
  have HRO6 := Aside0.mk (Kd.C_below HRO.out HB36.out)
  clear k0 k1 k2 k3 k4 k5 hM3 HB36 HB5 HB4 HM HM2 HG HG2 HRZ2 HRO
  have x1 : (0 : Int) ≤ (x : Int) := by omega
  have x2 : (x : Int) ≤ (cz : Int) := by omega
  have y1 : (0 : Int) ≤ (y : Int) := by omega
  have y2 : (y : Int) ≤ (co : Int) := by omega
  have x3 : ((x : Nat) : Int).toNat = x := Int.toNat_natCast x
  have y3 : ((y : Nat) : Int).toNat = y := Int.toNat_natCast y
  have HC1 : Aside0 (Kd.C (Kd.int .i64) w6 Az (z.take x).length (z.take x)) := ⟨Kd.C_take HRZ6.out hx⟩
  have HC2 : Aside0 (Kd.C (Kd.int .i64) w6 Ao (o.take y).length (o.take y)) := ⟨Kd.C_take HRO6.out hy⟩
  have lx : (z.take x).length = x := by rw [List.length_take]; omega
  have ly : (o.take y).length = y := by rw [List.length_take]; omega
  have LX := Aside0.mk lx
  have LY := Aside0.mk ly
  clear lx ly
  go_wp2_with fail
  go_still_tail 6, (by kernel_rfl)
  change wpList Try.prog _ _ _ _ (World.drew w6)
  go_wp2_with fail
  have n0 := (World.cell?_alloc_at (w := w6) #[Value.slice Az x cz, Value.slice Ao y co] 47 w6.heap.size 0 rfl).trans rfl
  have n1 := (World.cell?_alloc_at (w := w6) #[Value.slice Az x cz, Value.slice Ao y co] 47 w6.heap.size 1 rfl).trans rfl
  have hb7 : Below w6.heap.size w6 (World.drew (w6.alloc (Obj.cells #[Value.slice Az x cz, Value.slice Ao y co] 47))) := below_drew (below_alloc (Below.refl _ _) _)
  refine (concat2 w6.heap.size 2 Az cz (z.take x) Ao co (o.take y) _ (by rw [LX.out]; exact n0) (by rw [LY.out]; exact n1) (Kd.C_below HC1.out hb7) (Kd.C_below HC2.out hb7) (by rw [LX.out, LY.out]; omega)).mono ?_
  rintro e w8 ⟨v, rfl, hR, hB8⟩
  have hb8 := below_step (below_step HB6.out hb7) hB8
  have hR8 := Kd.R_lower hR (below_size (below_step HB6.out hb7))
  have hln : (z.take x ++ o.take y).length ≤ 1000 := by rw [List.length_append, LX.out, LY.out]; omega
  obtain ⟨zo, hzo⟩ : ∃ zo, zo = z.take x ++ o.take y := ⟨_, rfl⟩
  rw [← hzo] at hR8 hln
  have HZO := Aside0.mk hzo
  clear hzo
  obtain ⟨Ac, cc, ev⟩ := Kd.R_slice hR8
  subst ev
  have HB8 := Aside0.mk hb8
  have HR8 := Aside0.mk hR8
  clear hR hB8 hb7 n0 n1 hb8 hR8 HB6 HRZ6 HRO6 HC1 HC2
  go_wp2_with (go_at_call 92; (with_reducible refine (sort_R HR8.out (by omega)).mono ?_); rintro e w9 ⟨rfl, hR9, hg9⟩; have HR9 := Aside0.mk hR9; have HG9 := Aside0.mk hg9; clear hR9 hg9)
  go_ret3
  exact ⟨.slice Ac zo.length cc, rfl, by rw [← HZO.out]; exact HR9.out, pw_below_grown HB8.out _ HB8.out.size HG9.out (Kd.R_base HR8.out)⟩
theorem judge_Next.calls (a0 : Int) (A1 : Option Addr) (c1 : Nat) (l1 : List S49) (r1 : List Int) (r2 : Bool) (r3 : Int) (w : World) (hr1 : Kd.C k49 w A1 l1.length l1) (hc1 : l1.length ≤ c1) (h : judge_Next.f a0 l1 = some (r1, r2, r3)) :
    Calls Try.prog 76 #[.int .i64 a0, .slice A1 l1.length c1] w fun e w' => ∃ v0_ : Value, e = .returned (.tuple #[v0_, .bool r2, .int .i64 r3]) ∧ Kd.R (Kd.int .i64) 3 w' w.heap.size (fun _ => True) v0_ r1 ∧ Below w.heap.size w w' := by
  unfold judge_Next.f at h
  obtain ⟨e0, he, h⟩ := Option.bind_eq_some_iff.mp h
  by_cases c0 : e0 = 0
  · rw [if_pos c0] at h
    subst c0
    by_cases c2 : (l1.length : Int) = 12
    · rw [if_pos c2] at h
      simp only [Option.some.injEq, Prod.mk.injEq] at h
      obtain ⟨rfl, rfl, rfl⟩ := h
      have HR := Aside0.mk hr1
      have HE := Aside0.mk he
      have hb0 : ((l1.length : Int) == 12) = true := beq_iff_eq.mpr c2
      have hb1 : ((l1.length : Int) != 12) = false := bne_eq_false_iff_eq.mpr c2
      have hb2 : (l1.length == 12) = true := beq_iff_eq.mpr (by omega)
      clear hr1 he c2
      go_enter Try.func76, Try.ntmps76
      go_wp2_with (first
        | (go_at_call 51; (with_reducible refine (judge_Validate.calls _ _ _ _ _ _ HR.out hc1 HE.out).mono ?_); rintro e w1 ⟨rfl, hb⟩; have HB1 := Aside0.mk hb; clear hb)
        | fail)
      go_ret3
      exact ⟨_, rfl, Kd.R_nil _ _ _ _ _, HB1.out⟩
    · rw [if_neg c2] at h
      obtain ⟨z, hz, h⟩ := Option.bind_eq_some_iff.mp h
      obtain ⟨o, ho, h⟩ := Option.bind_eq_some_iff.mp h
      split at h
      case isFalse => cases h
      case isTrue h60 =>
        split at h
        case isTrue h1 =>
          simp only [Option.some.injEq, Prod.mk.injEq] at h
          obtain ⟨rfl, rfl, rfl⟩ := h
          refine (next_few a0 A1 c1 l1 z o w hr1 hc1 he c2 hz ho h1).mono ?_
          rintro e w' ⟨rfl, hb⟩
          exact ⟨_, rfl, Kd.R_nil _ _ _ _ _, hb⟩
        case isFalse h1 =>
          obtain ⟨q, hn, h⟩ := Option.bind_eq_some_iff.mp h
          split at h
          case isFalse => cases h
          case isTrue hq =>
            obtain ⟨hq0, hq1, hx, hy⟩ := hq
            obtain ⟨q, rfl⟩ := Int.eq_ofNat_of_zero_le hq0
            rw [Int.toNat_natCast] at hx hy h
            simp only [Option.some.injEq, Prod.mk.injEq] at h
            obtain ⟨rfl, rfl, rfl⟩ := h
            exact next_main a0 A1 c1 l1 z o q _ _ _ w hr1 hc1 he c2 hz ho h1 h60 hn (by omega) rfl hx hy
  · rw [if_neg c0] at h
    simp only [Option.some.injEq, Prod.mk.injEq] at h
    obtain ⟨rfl, rfl, rfl⟩ := h
    have HR := Aside0.mk hr1
    have HE := Aside0.mk he
    clear hr1 he
    have hb0 : (e0 == 0) = false := beq_eq_false_iff_ne.mpr c0
    have hb1 : (e0 != 0) = true := bne_iff_ne.mpr c0
    go_enter Try.func76, Try.ntmps76
    go_wp2_with (first
      | (go_at_call 51; (with_reducible refine (judge_Validate.calls _ _ _ _ _ _ HR.out hc1 HE.out).mono ?_); rintro e w1 ⟨rfl, hb⟩; have HB1 := Aside0.mk hb; clear hb)
      | fail)
    go_ret3
    exact ⟨_, rfl, Kd.R_nil _ _ _ _ _, HB1.out⟩
end Go.Proofs.Ytfejfljgdeglgaa.K

/- DERIVED by wip/pr.py: for each Go function named below a Lean function with the same answers, and that a call of it comes to these answers, for all arguments and memories, where the Lean function has an answer. -/
namespace Go.Proofs.Ytfejfljgdeglgaa.K
open Go.RowKit Go.Proofs.YtfejfljgdeglgaaW.PrintWords Go.Proofs.YtfejfljgdeglgaaW.PrintLast Go.Proofs.YtfejfljgdeglgaaW.PrintMore
attribute [local go_sem] max2_int min2_int max_two min_two max_three min_three max_four min_four   -- for this text's walks alone
set_option linter.unusedVariables false
set_option linter.unusedSimpArgs false

/-! ### verditerlaw02_judgeNexts: function 41 -/
def verditerlaw02_judgeNexts.j0 : Nat → Int → List (S49) → List Int → Bool → Bool → Option (Bool)
  | 0, _, _, _, _, _ => none
  | k + 1, x0, x1, x7, x8, x33 => if x33 = true then (some false) else (if x8 = true then ((verditerref02_IsNext.f k x0 x1 x7).bind fun t259 => (if t259 = true then ((verditerlaw02_known.f k).bind fun t260 => (some t260)) else (some false))) else (if (x7.length : Int) = 0 then ((verditerlaw02_known.f k).bind fun t261 => (some t261)) else (some false)))
def verditerlaw02_judgeNexts.f (k : Nat) (a0 : Int) (l1 : List (S49)) : Option (Bool) := (verditerlaw02_Long.f k l1).bind fun t250 => (if t250 = true then ((verditerlaw02_known.f k).bind fun t251 => (some t251)) else ((verditerref02_NextError.f k a0 l1).bind fun bt252 => ((judge_Next.f a0 l1).bind fun bt254 => (if (bt254.2.1 != bt252.1) = true then (verditerlaw02_judgeNexts.j0 k a0 l1 bt254.1 bt254.2.1 true) else (verditerlaw02_judgeNexts.j0 k a0 l1 bt254.1 bt254.2.1 (bt254.2.2 != bt252.2))))))
theorem verditerlaw02_judgeNexts.mono_l : ∀ k, (∀ y0 y1 y2 y3 y4, LeO (verditerlaw02_judgeNexts.j0 k y0 y1 y2 y3 y4) (verditerlaw02_judgeNexts.j0 (k + 1) y0 y1 y2 y3 y4))
  | 0 => fun _ _ _ _ _ r h => by simp [verditerlaw02_judgeNexts.j0] at h
  | k + 1 => by
    have ih0 := verditerlaw02_judgeNexts.mono_l k
    · intro y0 y1 y2 y3 y4
      unfold verditerlaw02_judgeNexts.j0
      repeat' first
      | (with_reducible exact ih0 _ _ _ _ _)
      | (with_reducible exact verditerlaw02_Long.mono _ _)
      | (with_reducible exact verditerlaw02_known.mono _)
      | (with_reducible exact verditerref02_IsNext.mono _ _ _ _)
      | (with_reducible exact verditerref02_NextError.mono _ _ _)
      | (with_reducible exact LeO.refl _)
      | (with_reducible exact LeO.none _)
      | (with_reducible refine LeO.ite ?_ ?_)
      | (with_reducible refine LeO.bind ?_ (fun _ => ?_))
      | exact ih0 _ _ _ _ _
      | exact verditerlaw02_Long.mono _ _
      | exact verditerlaw02_known.mono _
      | exact verditerref02_IsNext.mono _ _ _ _
      | exact verditerref02_NextError.mono _ _ _
      | exact LeO.none _
      | refine LeO.ite ?_ ?_
      | refine LeO.bind ?_ (fun _ => ?_)
theorem verditerlaw02_judgeNexts.mono : ∀ a0 a1 k, LeO (verditerlaw02_judgeNexts.f k a0 a1) (verditerlaw02_judgeNexts.f (k + 1) a0 a1) := by
  intro a0 a1 k
  have ih0 := verditerlaw02_judgeNexts.mono_l k
  unfold verditerlaw02_judgeNexts.f
  repeat' first
      | (with_reducible exact ih0 _ _ _ _ _)
      | (with_reducible exact verditerlaw02_Long.mono _ _)
      | (with_reducible exact verditerlaw02_known.mono _)
      | (with_reducible exact verditerref02_IsNext.mono _ _ _ _)
      | (with_reducible exact verditerref02_NextError.mono _ _ _)
      | (with_reducible exact LeO.refl _)
      | (with_reducible exact LeO.none _)
      | (with_reducible refine LeO.ite ?_ ?_)
      | (with_reducible refine LeO.bind ?_ (fun _ => ?_))
      | exact ih0 _ _ _ _ _
      | exact verditerlaw02_Long.mono _ _
      | exact verditerlaw02_known.mono _
      | exact verditerref02_IsNext.mono _ _ _ _
      | exact verditerref02_NextError.mono _ _ _
      | exact LeO.none _
      | refine LeO.ite ?_ ?_
      | refine LeO.bind ?_ (fun _ => ?_)
set_option maxHeartbeats 8000000 in
set_option maxRecDepth 100000 in
theorem verditerlaw02_judgeNexts.calls (k : Nat) (a0 : Int) (A1 : Option Addr) (c1 : Nat) (l1 : List (S49)) (r : Bool) (w : World) (hr1 : Kd.C k49 w A1 l1.length l1) (hc1 : l1.length ≤ c1) (h : verditerlaw02_judgeNexts.f k a0 l1 = some r) :
    Calls Try.prog 41 #[.int .i64 a0, .slice A1 l1.length c1] w fun e w' => e = .returned (.bool r) ∧ Below w.heap.size w w' := by
  have HR1 := Aside0.mk hr1
  have HC1 := Aside0.mk hc1
  clear hr1 hc1
  have HB := Aside0.mk (Below.refl w.heap.size w)
  have H : ((verditerlaw02_Long.f k l1).bind fun t250 => (if t250 = true then ((verditerlaw02_known.f k).bind fun t251 => (some t251)) else ((verditerref02_NextError.f k a0 l1).bind fun bt252 => ((judge_Next.f a0 l1).bind fun bt254 => (if (bt254.2.1 != bt252.1) = true then (verditerlaw02_judgeNexts.j0 k a0 l1 bt254.1 bt254.2.1 true) else (verditerlaw02_judgeNexts.j0 k a0 l1 bt254.1 bt254.2.1 (bt254.2.2 != bt252.2))))))) = some r := h
  clear h
  replace H := Option.bind_eq_some_iff.mp H
  obtain ⟨t250, A30, H⟩ := H
  replace H : (if t250 = true then ((verditerlaw02_known.f k).bind fun t251 => (some t251)) else ((verditerref02_NextError.f k a0 l1).bind fun bt252 => ((judge_Next.f a0 l1).bind fun bt254 => (if (bt254.2.1 != bt252.1) = true then (verditerlaw02_judgeNexts.j0 k a0 l1 bt254.1 bt254.2.1 true) else (verditerlaw02_judgeNexts.j0 k a0 l1 bt254.1 bt254.2.1 (bt254.2.2 != bt252.2)))))) = some r := H
  have A3 := Aside0.mk A30
  clear A30
  by_cases c4 : t250 = true
  · subst c4
    have H1 : ((verditerlaw02_known.f k).bind fun t251 => (some t251)) = some r := by rw [if_pos rfl] at H; exact H
    clear H
    have H := H1
    clear H1
    replace H := Option.bind_eq_some_iff.mp H
    obtain ⟨t251, A50, H⟩ := H
    replace H : (some t251) = some r := H
    have A5 := Aside0.mk A50
    clear A50
    obtain rfl := Option.some.inj H
    go_enter Try.func41, Try.ntmps41
    go_wp2_with (first | ((with_reducible refine gate_callee (f := 48) rfl ?_); refine goesL_ (some 11) rfl rfl Try.func48 (by kernel_rfl) rfl #[.slice A1 l1.length c1] rfl (by (try simp only [List.map_toArray, List.map_cons, List.map_nil]); first | done | rfl | (simp only [List.length_drop, List.length_take]; rfl)) ?_; (with_reducible refine (verditerlaw02_Long.calls k _ _ l1 true _ ?side1 ?side2 A3.out).mono ?_); (case side1 => repeat (first | exact HR1.out | (with_reducible refine Kd.C_alloc ?_ _) | (with_reducible refine Kd.C_drewN ?_ _) | (with_reducible refine Kd.C_drew ?_))); (case side2 => exact HC1.out); rintro e w' ⟨rfl, ⟨nd, rfl⟩⟩; refine ⟨_, rfl, ?_⟩) | ((with_reducible refine gate_callee (f := 20) rfl ?_); refine goesL_ (some 12) rfl rfl Try.func20 (by kernel_rfl) rfl #[] rfl (by (try simp only [List.map_toArray, List.map_cons, List.map_nil]); first | done | rfl | (simp only [List.length_drop, List.length_take]; rfl)) ?_; (with_reducible refine (verditerlaw02_known.calls k  t251 _ A5.out).mono ?_); rintro e w6 ⟨rfl, hb⟩; refine ⟨_, rfl, ?_⟩; have n0_ := Aside0.mk (below_step (by repeat (first | (with_reducible first | exact HB.out | apply below_alloc | apply pw_below_drewN | apply below_drew1) | exact HB.out)) hb); clear HB; have HB := n0_; clear n0_; (try clear hb); (try clear hb2); (try clear hk); (try clear hi)))
    go_ret
    exact ⟨by first | rfl | (simp [errW_none, errW_some] <;> rfl) | (simp [*, errW_none, errW_some] <;> rfl), by repeat (first | (with_reducible first | exact HB.out | apply below_alloc | apply pw_below_drewN | apply below_drew1) | exact HB.out)⟩
  · replace c4 := Bool.eq_false_iff.mpr c4
    subst c4
    have H1 : ((verditerref02_NextError.f k a0 l1).bind fun bt252 => ((judge_Next.f a0 l1).bind fun bt254 => (if (bt254.2.1 != bt252.1) = true then (verditerlaw02_judgeNexts.j0 k a0 l1 bt254.1 bt254.2.1 true) else (verditerlaw02_judgeNexts.j0 k a0 l1 bt254.1 bt254.2.1 (bt254.2.2 != bt252.2))))) = some r := by rw [if_neg (show ¬ (false = true) by decide)] at H; exact H
    clear H
    have H := H1
    clear H1
    replace H := Option.bind_eq_some_iff.mp H
    obtain ⟨⟨t252, t253⟩, A70, H⟩ := H
    replace H : ((judge_Next.f a0 l1).bind fun bt254 => (if (bt254.2.1 != t252) = true then (verditerlaw02_judgeNexts.j0 k a0 l1 bt254.1 bt254.2.1 true) else (verditerlaw02_judgeNexts.j0 k a0 l1 bt254.1 bt254.2.1 (bt254.2.2 != t253)))) = some r := H
    have A7 := Aside0.mk A70
    clear A70
    replace H := Option.bind_eq_some_iff.mp H
    obtain ⟨⟨t254, t255, t256⟩, A80, H⟩ := H
    replace H : (if (t255 != t252) = true then (verditerlaw02_judgeNexts.j0 k a0 l1 t254 t255 true) else (verditerlaw02_judgeNexts.j0 k a0 l1 t254 t255 (t256 != t253))) = some r := H
    have A8 := Aside0.mk A80
    clear A80
    have HC9 := Aside0.mk H
    clear H
    go_enter Try.func41, Try.ntmps41
    go_upto_region 5 with (first | ((with_reducible refine gate_callee (f := 48) rfl ?_); refine goesL_ (some 11) rfl rfl Try.func48 (by kernel_rfl) rfl #[.slice A1 l1.length c1] rfl (by (try simp only [List.map_toArray, List.map_cons, List.map_nil]); first | done | rfl | (simp only [List.length_drop, List.length_take]; rfl)) ?_; (with_reducible refine (verditerlaw02_Long.calls k _ _ l1 false _ ?side1 ?side2 A3.out).mono ?_); (case side1 => repeat (first | exact HR1.out | (with_reducible refine Kd.C_alloc ?_ _) | (with_reducible refine Kd.C_drewN ?_ _) | (with_reducible refine Kd.C_drew ?_))); (case side2 => exact HC1.out); rintro e w' ⟨rfl, ⟨nd, rfl⟩⟩; refine ⟨_, rfl, ?_⟩) | ((with_reducible refine gate_callee (f := 75) rfl ?_); refine goesL_ (some 16) rfl rfl Try.func75 (by kernel_rfl) rfl #[.int .i64 a0, .slice A1 l1.length c1] rfl (by (try simp only [List.map_toArray, List.map_cons, List.map_nil]); first | done | rfl | (simp only [List.length_drop, List.length_take]; rfl)) ?_; (with_reducible refine (verditerref02_NextError.calls k a0 _ _ l1 t252 t253 _ ?side1 ?side2 A7.out).mono ?_); (case side1 => repeat (first | exact HR1.out | (with_reducible refine Kd.C_alloc ?_ _) | (with_reducible refine Kd.C_drewN ?_ _) | (with_reducible refine Kd.C_drew ?_))); (case side2 => exact HC1.out); rintro e w10 ⟨rfl, hb⟩; refine ⟨_, rfl, ?_⟩; have n0_ := Aside0.mk (below_step (by repeat (first | (with_reducible first | exact HB.out | apply below_alloc | apply pw_below_drewN | apply below_drew1) | exact HB.out)) hb); clear HB; have HB := n0_; clear n0_; (try clear hb); (try clear hb2); (try clear hk); (try clear hi)) | ((with_reducible refine gate_callee (f := 76) rfl ?_); refine goesL_ (some 22) rfl rfl Try.func76 (by kernel_rfl) rfl #[.int .i64 a0, .slice A1 l1.length c1] rfl (by (try simp only [List.map_toArray, List.map_cons, List.map_nil]); first | done | rfl | (simp only [List.length_drop, List.length_take]; rfl)) ?_; (with_reducible refine (judge_Next.calls a0 _ _ l1 t254 t255 t256 _ ?side1 ?side2 A8.out).mono ?_); (case side1 => repeat (first | exact (Kd.C_below HR1.out HB.out) | (with_reducible refine Kd.C_alloc ?_ _) | (with_reducible refine Kd.C_drewN ?_ _) | (with_reducible refine Kd.C_drew ?_))); (case side2 => exact HC1.out); rintro e w11 ⟨v257, rfl, ho0, hb⟩; refine ⟨_, rfl, ?_⟩; have n0_ := Aside0.mk (Kd.R_lower ho0 (below_size (by repeat (first | (with_reducible first | exact HB.out | apply below_alloc | apply pw_below_drewN | apply below_drew1) | exact HB.out)))); have n1_ := Aside0.mk (below_step (by repeat (first | (with_reducible first | exact HB.out | apply below_alloc | apply pw_below_drewN | apply below_drew1) | exact HB.out)) hb); clear HB; have HO258 := n0_; have HB := n1_; clear n0_ n1_; (try clear hb); (try clear hb2); (try clear hk); (try clear hi); (try clear ho0)))
    (try simp only [Act.put, List.setIfInBounds_toArray, List.set_cons_zero, List.set_cons_succ])
    go_cut [33] (fun v33 wc => ∃ (kq : Nat) (x33_8 : Bool), v33 = .bool x33_8 ∧ Aside0 (verditerlaw02_judgeNexts.j0 kq a0 l1 t254 t255 x33_8 = some r) ∧ Aside0 (kq ≤ k) ∧ Aside0 (Kd.R (Kd.int .i64) 3 wc w.heap.size (fun _ => True) v257 t254) ∧ Aside0 (Below w.heap.size w wc))
    case first =>
      have H := HC9.out
      clear HC9
      by_cases c12 : (t255 != t252) = true
      · rw [if_pos c12] at H
        have c12b0 : (t255 != t252) = true := c12
        (try (have c12b1 : decide (t255 = t252) = false := by simpa using c12))
        (try (have c12b2 : (t255 == t252) = false := by simpa using c12))
        (try (have c12b3 : ¬ (t255 = t252) := by simpa using c12))
        clear c12
        (first | rw [c12b0] | (simp only [i64_w, i32_w]; rw [c12b0]) | skip)
        have H' := Aside0.mk H
        clear H
        go_wp2
        go_meet
        case rel => exact ⟨_, (true), (by first | rfl | (simp; done) | (simp [*]; done)), H', ⟨by first | omega | exact Nat.le_refl _⟩, ⟨by (with_reducible repeat (first | apply Kd.R_alloc | apply Kd.R_drewN | apply Kd.R_drew)); exact HO258.out⟩, ⟨by repeat (first | (with_reducible first | exact HB.out | apply below_alloc | apply pw_below_drewN | apply below_drew1) | exact HB.out)⟩⟩
      · rw [if_neg c12] at H
        have c12b0 : (t255 != t252) = false := by simpa using c12
        (try (have c12b1 : decide (t255 = t252) = true := by simpa using c12))
        (try (have c12b2 : (t255 == t252) = true := by simpa using c12))
        clear c12
        (first | rw [c12b0] | (simp only [i64_w, i32_w]; rw [c12b0]) | skip)
        have H' := Aside0.mk H
        clear H
        go_wp2
        go_meet
        case rel => exact ⟨_, ((t256 != t253)), (by first | rfl | (simp; done) | (simp [*]; done)), H', ⟨by first | omega | exact Nat.le_refl _⟩, ⟨by (with_reducible repeat (first | apply Kd.R_alloc | apply Kd.R_drewN | apply Kd.R_drew)); exact HO258.out⟩, ⟨by repeat (first | (with_reducible first | exact HB.out | apply below_alloc | apply pw_below_drewN | apply below_drew1) | exact HB.out)⟩⟩
    case rest =>
      clear HC9
      try clear c1
      try clear c2
      try clear p2
      try clear c4
      try clear c7
      try clear c12
      try clear c12b0
      try clear c12b1
      try clear c12b2
      obtain ⟨kq, x33_8, rfl, HA, HJ8, HO_7, HB⟩ := hcut
      cases kq with
      | zero => exact absurd HA.out (by simp [verditerlaw02_judgeNexts.j0])
      | succ kj8 =>
        have H := HA.out
        clear HA
        simp only [verditerlaw02_judgeNexts.j0] at H
        by_cases c13 : x33_8 = true
        · subst c13
          have H1 : (some false) = some r := by rw [if_pos rfl] at H; exact H
          clear H
          have H := H1
          clear H1
          obtain rfl := Option.some.inj H
          go_wp2
          go_ret
          exact ⟨by first | rfl | (simp [errW_none, errW_some] <;> rfl) | (simp [*, errW_none, errW_some] <;> rfl), by repeat (first | (with_reducible first | exact HB.out | apply below_alloc | apply pw_below_drewN | apply below_drew1) | exact HB.out)⟩
        · replace c13 := Bool.eq_false_iff.mpr c13
          subst c13
          have H1 : (if t255 = true then ((verditerref02_IsNext.f kj8 a0 l1 t254).bind fun t259 => (if t259 = true then ((verditerlaw02_known.f kj8).bind fun t260 => (some t260)) else (some false))) else (if (t254.length : Int) = 0 then ((verditerlaw02_known.f kj8).bind fun t261 => (some t261)) else (some false))) = some r := by rw [if_neg (show ¬ (false = true) by decide)] at H; exact H
          clear H
          have H := H1
          clear H1
          by_cases c14 : t255 = true
          · subst c14
            have H1 : ((verditerref02_IsNext.f kj8 a0 l1 t254).bind fun t259 => (if t259 = true then ((verditerlaw02_known.f kj8).bind fun t260 => (some t260)) else (some false))) = some r := by rw [if_pos rfl] at H; exact H
            clear H
            have H := H1
            clear H1
            replace H := Option.bind_eq_some_iff.mp H
            obtain ⟨t259, A150, H⟩ := H
            replace H : (if t259 = true then ((verditerlaw02_known.f kj8).bind fun t260 => (some t260)) else (some false)) = some r := H
            have A15 := Aside0.mk A150
            clear A150
            by_cases c16 : t259 = true
            · subst c16
              have H1 : ((verditerlaw02_known.f kj8).bind fun t260 => (some t260)) = some r := by rw [if_pos rfl] at H; exact H
              clear H
              have H := H1
              clear H1
              replace H := Option.bind_eq_some_iff.mp H
              obtain ⟨t260, A170, H⟩ := H
              replace H : (some t260) = some r := H
              have A17 := Aside0.mk A170
              clear A170
              obtain rfl := Option.some.inj H
              obtain ⟨Ao18, co18, eo18⟩ := Kd.R_slice HO_7.out
              subst eo18
              go_wp2_with (first | ((with_reducible refine gate_callee (f := 77) rfl ?_); refine goesL_ (some 45) rfl rfl Try.func77 (by kernel_rfl) rfl #[.int .i64 a0, .slice A1 l1.length c1, .slice Ao18 t254.length co18] rfl (by (try simp only [List.map_toArray, List.map_cons, List.map_nil]); first | done | rfl | (simp only [List.length_drop, List.length_take]; rfl)) ?_; (with_reducible refine (verditerref02_IsNext.calls kj8 a0 (fun k_ => k_ < w.heap.size) _ _ l1 (fun k_ => some k_ = (.slice Ao18 t254.length co18 : Value).ownBlock) _ _ t254 true _ ?side1 ?side2 A15.out).mono ?_); (case side1 => exact Kd.V_mk HC1.out (Kd.F_below (Kd.C_F k49_heap HR1.out) (by repeat (first | (with_reducible first | exact HB.out | apply below_alloc | apply pw_below_drewN | apply below_drew1) | exact HB.out)))); (case side2 => exact Kd.R_V (Kd.R_tight rfl (HO_7.out))); rintro e w19 ⟨rfl, hb⟩; refine ⟨_, rfl, ?_⟩; have n0_ := Aside0.mk (Kd.R_below (by (with_reducible repeat (first | apply Kd.R_alloc | apply Kd.R_drewN | apply Kd.R_drew)); exact HO_7.out) hb); have n1_ := Aside0.mk (below_step (by repeat (first | (with_reducible first | exact HB.out | apply below_alloc | apply pw_below_drewN | apply below_drew1) | exact HB.out)) hb); clear HO_7; clear HB; have HO_7 := n0_; have HB := n1_; clear n0_ n1_; (try clear hb); (try clear hb2); (try clear hk); (try clear hi)) | (go_at_call 20; (with_reducible refine (verditerlaw02_known.calls kj8  t260 _ A17.out).mono ?_); rintro e w20 ⟨rfl, hb⟩; have n0_ := Aside0.mk (Kd.R_below (by (with_reducible repeat (first | apply Kd.R_alloc | apply Kd.R_drewN | apply Kd.R_drew)); exact HO_7.out) hb); have n1_ := Aside0.mk (below_step (by repeat (first | (with_reducible first | exact HB.out | apply below_alloc | apply pw_below_drewN | apply below_drew1) | exact HB.out)) hb); clear HO_7; clear HB; have HO_7 := n0_; have HB := n1_; clear n0_ n1_; (try clear hb); (try clear hb2); (try clear hk); (try clear hi)))
              go_ret
              exact ⟨by first | rfl | (simp [errW_none, errW_some] <;> rfl) | (simp [*, errW_none, errW_some] <;> rfl), by repeat (first | (with_reducible first | exact HB.out | apply below_alloc | apply pw_below_drewN | apply below_drew1) | exact HB.out)⟩
            · replace c16 := Bool.eq_false_iff.mpr c16
              subst c16
              have H1 : (some false) = some r := by rw [if_neg (show ¬ (false = true) by decide)] at H; exact H
              clear H
              have H := H1
              clear H1
              obtain rfl := Option.some.inj H
              obtain ⟨Ao21, co21, eo21⟩ := Kd.R_slice HO_7.out
              subst eo21
              go_wp2_with (first | ((with_reducible refine gate_callee (f := 77) rfl ?_); refine goesL_ (some 45) rfl rfl Try.func77 (by kernel_rfl) rfl #[.int .i64 a0, .slice A1 l1.length c1, .slice Ao21 t254.length co21] rfl (by (try simp only [List.map_toArray, List.map_cons, List.map_nil]); first | done | rfl | (simp only [List.length_drop, List.length_take]; rfl)) ?_; (with_reducible refine (verditerref02_IsNext.calls kj8 a0 (fun k_ => k_ < w.heap.size) _ _ l1 (fun k_ => some k_ = (.slice Ao21 t254.length co21 : Value).ownBlock) _ _ t254 false _ ?side1 ?side2 A15.out).mono ?_); (case side1 => exact Kd.V_mk HC1.out (Kd.F_below (Kd.C_F k49_heap HR1.out) (by repeat (first | (with_reducible first | exact HB.out | apply below_alloc | apply pw_below_drewN | apply below_drew1) | exact HB.out)))); (case side2 => exact Kd.R_V (Kd.R_tight rfl (HO_7.out))); rintro e w22 ⟨rfl, hb⟩; refine ⟨_, rfl, ?_⟩; have n0_ := Aside0.mk (Kd.R_below (by (with_reducible repeat (first | apply Kd.R_alloc | apply Kd.R_drewN | apply Kd.R_drew)); exact HO_7.out) hb); have n1_ := Aside0.mk (below_step (by repeat (first | (with_reducible first | exact HB.out | apply below_alloc | apply pw_below_drewN | apply below_drew1) | exact HB.out)) hb); clear HO_7; clear HB; have HO_7 := n0_; have HB := n1_; clear n0_ n1_; (try clear hb); (try clear hb2); (try clear hk); (try clear hi)))
              go_ret
              exact ⟨by first | rfl | (simp [errW_none, errW_some] <;> rfl) | (simp [*, errW_none, errW_some] <;> rfl), by repeat (first | (with_reducible first | exact HB.out | apply below_alloc | apply pw_below_drewN | apply below_drew1) | exact HB.out)⟩
          · replace c14 := Bool.eq_false_iff.mpr c14
            subst c14
            have H1 : (if (t254.length : Int) = 0 then ((verditerlaw02_known.f kj8).bind fun t261 => (some t261)) else (some false)) = some r := by rw [if_neg (show ¬ (false = true) by decide)] at H; exact H
            clear H
            have H := H1
            clear H1
            by_cases c23 : (t254.length : Int) = 0
            · rw [if_pos c23] at H
              have c23b0 : ((t254.length : Int) == 0) = true := beq_iff_eq.mpr c23
              have c23b1 : ((t254.length : Int) != 0) = false := bne_eq_false_iff_eq.mpr c23
              clear c23
              replace H := Option.bind_eq_some_iff.mp H
              obtain ⟨t261, A240, H⟩ := H
              replace H : (some t261) = some r := H
              have A24 := Aside0.mk A240
              clear A240
              obtain rfl := Option.some.inj H
              obtain ⟨Ao25, co25, eo25⟩ := Kd.R_slice HO_7.out
              subst eo25
              go_wp2_with (first | (go_at_call 20; (with_reducible refine (verditerlaw02_known.calls kj8  t261 _ A24.out).mono ?_); rintro e w26 ⟨rfl, hb⟩; have n0_ := Aside0.mk (Kd.R_below (by (with_reducible repeat (first | apply Kd.R_alloc | apply Kd.R_drewN | apply Kd.R_drew)); exact HO_7.out) hb); have n1_ := Aside0.mk (below_step (by repeat (first | (with_reducible first | exact HB.out | apply below_alloc | apply pw_below_drewN | apply below_drew1) | exact HB.out)) hb); clear HO_7; clear HB; have HO_7 := n0_; have HB := n1_; clear n0_ n1_; (try clear hb); (try clear hb2); (try clear hk); (try clear hi)))
              go_ret
              exact ⟨by first | rfl | (simp [errW_none, errW_some] <;> rfl) | (simp [*, errW_none, errW_some] <;> rfl), by repeat (first | (with_reducible first | exact HB.out | apply below_alloc | apply pw_below_drewN | apply below_drew1) | exact HB.out)⟩
            · rw [if_neg c23] at H
              have c23b0 : ((t254.length : Int) == 0) = false := beq_eq_false_iff_ne.mpr c23
              have c23b1 : ((t254.length : Int) != 0) = true := bne_iff_ne.mpr c23
              have c23b2 : ¬ (t254 = []) := fun h_ => c23 (by rw [h_]; rfl)
              obtain rfl := Option.some.inj H
              obtain ⟨Ao27, co27, eo27⟩ := Kd.R_slice HO_7.out
              subst eo27
              go_wp2
              go_ret
              exact ⟨by first | rfl | (simp [errW_none, errW_some] <;> rfl) | (simp [*, errW_none, errW_some] <;> rfl), by repeat (first | (with_reducible first | exact HB.out | apply below_alloc | apply pw_below_drewN | apply below_drew1) | exact HB.out)⟩

end Go.Proofs.Ytfejfljgdeglgaa.K

/- Plain: the law JudgeNexts says true at every input. -/
namespace Go.Proofs.Ytfejfljgdeglgaa.K
open Go.RowKit Go.Proofs.YtfejfljgdeglgaaW.PrintWords Go.Proofs.YtfejfljgdeglgaaW.PrintLast Go.Proofs.YtfejfljgdeglgaaW.PrintMore
set_option linter.unusedVariables false
set_option linter.unusedSimpArgs false
theorem sel_strict (p : Int → Bool) (arr : List Int) : ∀ m n, (sel p arr m n).Pairwise (· < ·)
  | 0, _ => List.Pairwise.nil
  | m + 1, n => by
    rw [sel]
    split
    · refine List.pairwise_cons.mpr ⟨fun x hx => ?_, sel_strict p arr m (n + 1)⟩
      obtain ⟨i, h1, _, rfl, _⟩ := (mem_sel p arr x m (n + 1)).mp hx
      omega
    · exact sel_strict p arr m (n + 1)
theorem mem_one (l : List S49) (g : Nat) (x : Int) : x ∈ oneL l g ↔ ∃ i : Nat, i < g ∧ x = i ∧ cnt l (i : Int) = 1 := by
  unfold oneL
  rw [mem_sel]
  constructor
  · rintro ⟨i, _, h2, h3, h4⟩
    rw [agP_get l g i (by omega)] at h4
    simp only [decide_eq_true_eq] at h4
    exact ⟨i, by omega, h3, by omega⟩
  · rintro ⟨i, h2, h3, h4⟩
    exact ⟨i, by omega, by omega, h3, by rw [agP_get l g i h2]; simp only [decide_eq_true_eq]; omega⟩
theorem mem_zero (l : List S49) (g : Nat) (x : Int) : x ∈ leftL l g 0 ↔ ∃ i : Nat, i < g ∧ x = i ∧ cnt l (i : Int) = 0 := by
  unfold leftL
  rw [mem_sel]
  constructor
  · rintro ⟨i, _, h2, h3, h4⟩
    rw [agP_get l g i (by omega)] at h4
    simp only [decide_eq_true_eq] at h4
    exact ⟨i, by omega, h3, by omega⟩
  · rintro ⟨i, h2, h3, h4⟩
    exact ⟨i, by omega, by omega, h3, by rw [agP_get l g i h2]; simp only [decide_eq_true_eq]; omega⟩
theorem mem_few (l : List S49) (g : Nat) (x : Int) : x ∈ leftL l g 1 ↔ x ∈ leftL l g 0 ∨ x ∈ oneL l g := by
  rw [mem_zero, mem_one]
  unfold leftL
  rw [mem_sel]
  constructor
  · rintro ⟨i, _, h2, h3, h4⟩
    rw [agP_get l g i (by omega)] at h4
    simp only [decide_eq_true_eq] at h4
    by_cases h5 : cnt l (i : Int) = 0
    · exact .inl ⟨i, by omega, h3, h5⟩
    · exact .inr ⟨i, by omega, h3, by omega⟩
  · rintro (⟨i, h2, h3, h4⟩ | ⟨i, h2, h3, h4⟩)
    · exact ⟨i, by omega, by omega, h3, by rw [agP_get l g i h2]; simp only [decide_eq_true_eq]; omega⟩
    · exact ⟨i, by omega, by omega, h3, by rw [agP_get l g i h2]; simp only [decide_eq_true_eq]; omega⟩
theorem zero_one (l : List S49) (g : Nat) (x : Int) (h0 : x ∈ leftL l g 0) (h1 : x ∈ oneL l g) : False := by
  obtain ⟨i, _, h2, h3⟩ := (mem_zero l g x).mp h0
  obtain ⟨j, _, h4, h5⟩ := (mem_one l g x).mp h1
  have : i = j := by omega
  subst this
  omega
/-- The grades that Next asks for. -/
def askL (l : List S49) (g x y : Nat) : List Int := sortL ((leftL l g 0).take x ++ (oneL l g).take y)
theorem mem_ask (l : List S49) (g x y : Nat) (u : Int) : u ∈ askL l g x y ↔ u ∈ (leftL l g 0).take x ∨ u ∈ (oneL l g).take y := by
  unfold askL
  rw [mem_sortL, List.mem_append]
theorem ask_set (l : List S49) (g x y : Nat) : isSetP (askL l g x y) (g : Int) = true := by
  rw [isSet_iff]
  refine ⟨sortL_strict ?_, fun u hu => ?_⟩
  · rw [List.nodup_append]
    refine ⟨(nodup_of_strict (sel_strict _ _ _ _)).sublist (List.take_sublist ..), (nodup_of_strict (sel_strict _ _ _ _)).sublist (List.take_sublist ..), fun a ha b hb e => ?_⟩
    exact zero_one l g a (List.mem_of_mem_take ha) (e ▸ List.mem_of_mem_take hb)
  · rcases (mem_ask l g x y u).mp hu with h | h
    · obtain ⟨i, h1, h2, _⟩ := (mem_zero l g u).mp (List.mem_of_mem_take h)
      omega
    · obtain ⟨i, h1, h2, _⟩ := (mem_one l g u).mp (List.mem_of_mem_take h)
      omega
theorem ask_x (l : List S49) (g x y : Nat) (hx : x ≤ (leftL l g 0).length) : inX (askL l g x y) (leftL l g 0) (leftL l g 1) = x := by
  have e : (leftL l g 1).filter (fun i => decide (i ∈ askL l g x y) && decide (i ∈ leftL l g 0)) = (leftL l g 0).take x := by
    refine pair_ext ((sel_strict _ _ _ _).filter _) ((sel_strict _ _ _ _).sublist (List.take_sublist ..)) (fun u => ?_)
    rw [List.mem_filter, Bool.and_eq_true, decide_eq_true_eq, decide_eq_true_eq, mem_ask, mem_few]
    constructor
    · rintro ⟨_, h1 | h1, h2⟩
      · exact h1
      · exact (zero_one l g u h2 (List.mem_of_mem_take h1)).elim
    · intro h
      exact ⟨.inl (List.mem_of_mem_take h), .inl h, List.mem_of_mem_take h⟩
  unfold inX
  rw [e, List.length_take]; omega
theorem ask_y (l : List S49) (g x y : Nat) (hy : y ≤ (oneL l g).length) : inY (askL l g x y) (leftL l g 0) (leftL l g 1) = y := by
  have e : (leftL l g 1).filter (fun i => decide (i ∈ askL l g x y) && !decide (i ∈ leftL l g 0)) = (oneL l g).take y := by
    refine pair_ext ((sel_strict _ _ _ _).filter _) ((sel_strict _ _ _ _).sublist (List.take_sublist ..)) (fun u => ?_)
    rw [List.mem_filter, Bool.and_eq_true, decide_eq_true_eq, Bool.not_eq_true', decide_eq_false_iff_not, mem_ask, mem_few]
    constructor
    · rintro ⟨_, h1 | h1, h2⟩
      · exact absurd (List.mem_of_mem_take h1) h2
      · exact h1
    · intro h
      exact ⟨.inr (List.mem_of_mem_take h), .inr h, fun h2 => zero_one l g u h2 (List.mem_of_mem_take h)⟩
  unfold inY
  rw [e, List.length_take]; omega
theorem rneed (a b : Nat) (ha : a ≤ 16) (hb : b ≤ 16) : verditerref02_need.f (a : Int) (b : Int) = some ((needF a b 12 0 : Nat) : Int) := by
  unfold verditerref02_need.f
  rw [if_pos (by omega), Int.toNat_natCast, Int.toNat_natCast]
theorem leftV_of (l : List S49) (g : Nat) (hv : validV (g : Int) l = 0) : stateV (g : Int) l = ((((leftL l g 0).length : Nat) : Int), (((oneL l g).length : Nat) : Int), (0 : Int)) := by
  unfold stateV; rw [if_pos hv, Int.toNat_natCast]
/-- One round of IsNext: the state after an answer needs fewer questions. -/
theorem next_step (g : Nat) (l : List S49) (S : List Int) (yes : Bool) (a b : Nat) (q : Nat) (hs : Short l) (hl : l.length < 12) (hv : validV (g : Int) l = 0) (hS : isSetP S (g : Int) = true) (hSl : S.length ≤ 100)
    (ha : a = (leftL l g 0).length) (hb : b = (oneL l g).length) (hn : needF a b 12 0 = q + 1) (he : En q (leftL (l ++ [⟨S, yes⟩]) g 0).length (oneL (l ++ [⟨S, yes⟩]) g).length) (k : Nat) (hk : 400 ≤ k) (bs : List Bool) (n : Nat) (hbs : bs.length = 2) (hn2 : n < 2) (hy : bs.getD n false = yes) :
    verditerref02_IsNext.l0 (k + 1) (g : Int) l S (a : Int) (b : Int) bs 2 (n : Int) = verditerref02_IsNext.l0 k (g : Int) l S (a : Int) (b : Int) bs 2 ((n + 1 : Nat) : Int) := by
  have hs2 : Short (l ++ [(⟨S, yes⟩ : S49)]) := by
    refine ⟨by rw [List.length_append, List.length_singleton]; omega, fun s h3 => ?_⟩
    rcases List.mem_append.1 h3 with h4 | h4
    · exact hs.2 s h4
    · rw [List.mem_singleton.1 h4]; exact hSl
  obtain ⟨v1, v2, v3, v4⟩ := (validV_zero _ _).mp hv
  have hv2 : validV (g : Int) (l ++ [(⟨S, yes⟩ : S49)]) = 0 := by
    refine (validV_zero _ _).mpr ⟨v1, v2, by rw [List.length_append, List.length_singleton]; omega, fun s h3 => ?_⟩
    rcases List.mem_append.1 h3 with h4 | h4
    · exact v4 s h4
    · rw [List.mem_singleton.1 h4]; exact hS
  have hg : g ≤ 16 := by omega
  have l1 := leftL_length l g 1
  have l2 := left_sum l g
  have l3 := leftL_length (l ++ [(⟨S, yes⟩ : S49)]) g 1
  have l4 := left_sum (l ++ [(⟨S, yes⟩ : S49)]) g
  have hq : q + 1 ≤ 12 := by have := needF_le a b 12 0; omega
  have hm := needF_min (leftL (l ++ [(⟨S, yes⟩ : S49)]) g 0).length (oneL (l ++ [(⟨S, yes⟩ : S49)]) g).length (by omega) 12 0 q (by omega) (by omega) he
  rw [verditerref02_IsNext.l0, if_pos (by omega), if_pos (by omega), if_pos (by omega)]
  simp only [Option.bind_some, List.length_nil, List.nil_append]
  rw [if_pos (by omega), if_pos (by omega), show rdOf false bs (n : Int) = yes by unfold rdOf; rw [Int.toNat_natCast]; exact hy, rState (g : Int) _ hs2 k hk, leftV_of _ g hv2]
  simp only [Option.bind_some, if_true]
  rw [rneed _ _ (by omega) (by omega), rneed a b (by omega) (by omega), Option.bind_some, Option.bind_some, if_neg (by omega), show wrap64 ((n : Int) + 1) = ((n + 1 : Nat) : Int) by unfold wrap64; omega]
theorem is_next (g : Nat) (l : List S49) (x y q : Nat) (hs : Short l) (hl : l.length < 12) (hv : validV (g : Int) l = 0) (hx : x ≤ (leftL l g 0).length) (hy : y ≤ (oneL l g).length)
    (hn : needF (leftL l g 0).length (oneL l g).length 12 0 = q + 1) (h1 : En q x (y + (leftL l g 0).length - x)) (h2 : En q ((leftL l g 0).length - x) ((oneL l g).length - y + x)) (k : Nat) (hk : 500 ≤ k) :
    verditerref02_IsNext.f k (g : Int) l (askL l g x y) = some true := by
  obtain ⟨v1, v2, v3, v4⟩ := (validV_zero _ _).mp hv
  have hS := ask_set l g x y
  have hSl := set_length hS
  obtain ⟨k, rfl⟩ : ∃ j, k = j + 1 + 1 + 1 := ⟨k - 3, by omega⟩
  unfold verditerref02_IsNext.f verditerref02_isSet.f
  rw [if_pos (by omega), Option.bind_some, hS, if_pos rfl, rState (g : Int) l hs _ (by omega), leftV_of l g hv]
  simp only [Option.bind_some]
  have sy := state_after l (⟨askL l g x y, true⟩ : S49) g
  have sn := state_after l (⟨askL l g x y, false⟩ : S49) g
  simp only [ask_x l g x y hx, ask_y l g x y hy] at sy sn
  obtain ⟨_, _, s3, _⟩ := sy
  obtain ⟨_, _, _, s4⟩ := sn
  obtain ⟨s5, s6⟩ := s3 trivial
  obtain ⟨s7, s8⟩ := s4 trivial
  have r1 := next_step g l (askL l g x y) true _ _ q hs hl hv hS (by omega) rfl rfl hn (by rw [s5, s6]; exact h1) (k + 1 + 1) (by omega) [true, false] 0 rfl (by omega) rfl
  have r2 := next_step g l (askL l g x y) false _ _ q hs hl hv hS (by omega) rfl rfl hn (by rw [s7, s8]; exact h2) (k + 1) (by omega) [true, false] 1 rfl (by omega) rfl
  show verditerref02_IsNext.l0 (k + 1 + 1 + 1) (g : Int) l (askL l g x y) ((leftL l g 0).length : Int) ((oneL l g).length : Int) [true, false] 2 ((0 : Nat) : Int) = some true
  rw [r1, r2, verditerref02_IsNext.l0, if_neg (by omega)]
theorem Pure.JudgeNexts (g : Int) (l : List S49) (wg : (Lit.int .i64 g).wf = true) (wl : ∀ s ∈ l, ∀ z ∈ s.f0, (Lit.int .i64 z).wf = true) : ∃ k, verditerlaw02_judgeNexts.f k g l = some true := by
  refine ⟨1000 + 1, ?_⟩
  unfold verditerlaw02_judgeNexts.f
  rcases long_ok l (1000 + 1) (by omega) with h | ⟨h, hs⟩
  · rw [h, Option.bind_some, if_pos rfl, known_ok (by omega)]; rfl
  · rw [h, Option.bind_some, if_neg (by decide)]
    have known1 : verditerlaw02_judgeNexts.j0 (1000 + 1) g l [] false false = some true := by
      rw [verditerlaw02_judgeNexts.j0, if_neg (by decide), if_neg (by decide), if_pos (show ((([] : List Int).length : Nat) : Int) = 0 from rfl), known_ok (by omega)]; rfl
    unfold verditerref02_NextError.f judge_Next.f
    rw [rState g l hs _ (by omega), jvalid g l]
    simp only [Option.bind_some]
    by_cases hv : validV g l = 0
    · obtain ⟨v1, v2, v3⟩ := valid_of hv
      obtain ⟨n, rfl, hn16, _⟩ := nat_of ⟨v1, v2⟩
      rw [leftV_of l n hv, hv]
      simp only [if_true]
      by_cases h12 : l.length = 12
      · rw [if_pos (show (l.length : Int) ≥ 12 by omega), if_pos (show (l.length : Int) = 12 by omega)]
        simp only [Option.bind_some, bne_self_eq_false, Bool.false_eq_true, if_false]
        exact known1
      · have j0 := jleft n l hn16 v3 hs.2 0 0 1000 (by omega)
        have j1 := jleft n l hn16 v3 hs.2 1 1 1000 (by omega)
        rw [jleft0] at j0
        have j1' : judge_left.f 1000 (n : Int) l 1 1 = some (oneL l n) := j1
        have l1 := leftL_length l n 1
        have l2 := left_sum l n
        rw [if_neg (show ¬ (l.length : Int) ≥ 12 by omega), if_neg (show ¬ (l.length : Int) = 12 by omega), j0, j1']
        simp only [Option.bind_some]
        rw [if_pos (show (leftL l n 0).length + (oneL l n).length ≤ 60 by omega), wid (by omega) (by omega)]
        by_cases hab : (leftL l n 0).length + (oneL l n).length ≤ 1
        · rw [if_pos hab, decide_eq_false (show ¬ ((leftL l n 0).length : Int) + (oneL l n).length > 1 by omega)]
          simp only [Option.bind_some, bne_self_eq_false, Bool.false_eq_true, if_false]
          exact known1
        · rw [if_neg hab, decide_eq_true (show ((leftL l n 0).length : Int) + (oneL l n).length > 1 by omega)]
          have hne := jneed (leftL l n 0).length (oneL l n).length (by omega) (by omega) 12 0 1000 (by omega) (by omega)
          have hne' : judge_need.f 1000 ((leftL l n 0).length : Int) ((oneL l n).length : Int) = some ((needF (leftL l n 0).length (oneL l n).length 12 0 : Nat) : Int) := hne
          have hEn := needF_En (leftL l n 0).length (oneL l n).length (by omega) (by omega) 12 0 (by omega)
          have hle := needF_le (leftL l n 0).length (oneL l n).length 12 0
          obtain ⟨q, hq⟩ : ∃ q, needF (leftL l n 0).length (oneL l n).length 12 0 = q + 1 := by
            cases hc : needF (leftL l n 0).length (oneL l n).length 12 0 with
            | zero => rw [hc] at hEn; exact absurd hEn hab
            | succ q => exact ⟨q, rfl⟩
          rw [hne', hq, Option.bind_some, Int.toNat_natCast]
          rw [hq] at hEn hle
          obtain ⟨q1, q2, q3, q4⟩ := solveP_question ((solveP_ok (q + 1) _ _).mpr hEn) hab
          rw [if_pos (show 0 ≤ ((q + 1 : Nat) : Int) ∧ ((q + 1 : Nat) : Int) ≤ 60 ∧ _ ∧ _ from ⟨by omega, by omega, q1, q2⟩)]
          simp only [Option.bind_some, bne_self_eq_false, Bool.false_eq_true, if_false]
          rw [verditerlaw02_judgeNexts.j0, if_neg (by decide), if_pos rfl]
          have hin := is_next n l _ _ q hs (by omega) hv q1 q2 hq q3 q4 1000 (by omega)
          unfold askL at hin
          rw [hin, Option.bind_some, if_pos rfl, known_ok (by omega)]
          rfl
    · have e : stateV g l = (0, 0, validV g l) := by unfold stateV; rw [if_neg hv]
      rw [e, if_neg hv, if_neg hv]
      simp only [Option.bind_some, bne_self_eq_false, Bool.false_eq_true, if_false]
      exact known1
end Go.Proofs.Ytfejfljgdeglgaa.K
