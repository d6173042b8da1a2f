/- DERIVED by wip/pr.py: for each Go function named below a Lean function with the same answers, and that a call of it comes to these answers, for all arguments and memories, where the Lean function has an answer. -/
import Derived.Test.YtfejfljgdeglgaaK0
import Derived.Test.YtfejfljgdeglgaaK4
import Derived.Test.YtfejfljgdeglgaaK5
namespace Go.Proofs.Ytfejfljgdeglgaa.K
open Go.RowKit Go.Proofs.YtfejfljgdeglgaaW.PrintWords Go.Proofs.YtfejfljgdeglgaaW.PrintLast Go.Proofs.YtfejfljgdeglgaaW.PrintMore
attribute [local go_sem] max2_int min2_int max_two min_two max_three min_three max_four min_four   -- for this text's walks alone
set_option linter.unusedVariables false
set_option linter.unusedSimpArgs false

/-! ### verditerref02_Rename: function 73 -/
mutual
def verditerref02_Rename.l0 : Nat → Int → List (S49) → List Int → List (S49) → Int → Option ((List (S49)) × Int)
  | 0, _, _, _, _, _ => none
  | k + 1, x0, x1, x2, x9, x10 => if x10 < (x1.length : Int) then (if 0 ≤ x0 then (if (x0 : Int).toNat ≤ 281474976710656 then (verditerref02_Rename.l1 k x0 x1 x2 x9 x10 (List.replicate (x0 : Int).toNat false) 0) else (none)) else (none)) else (some (x9, 0))
def verditerref02_Rename.l1 : Nat → Int → List (S49) → List Int → List (S49) → Int → List Bool → Int → Option ((List (S49)) × Int)
  | 0, _, _, _, _, _, _, _ => none
  | k + 1, x0, x1, x2, x9, x10, x11, x12 => if 0 ≤ x10 then (if x10 < (x1.length : Int) then (if x12 < (((rd_T49 x1 x10).f0).length : Int) then (if 0 ≤ x12 then (if 0 ≤ (rd ((rd_T49 x1 x10).f0) x12) then (if (rd ((rd_T49 x1 x10).f0) x12) < (x2.length : Int) then (if 0 ≤ (rd x2 (rd ((rd_T49 x1 x10).f0) x12)) then (if (rd x2 (rd ((rd_T49 x1 x10).f0) x12)) < (x11.length : Int) then (verditerref02_Rename.l1 k x0 x1 x2 x9 x10 (x11.set ((rd x2 (rd ((rd_T49 x1 x10).f0) x12)) : Int).toNat true) (wrap64 (x12 + 1))) else (none)) else (none)) else (none)) else (none)) else (none)) else (verditerref02_Rename.l2 k x0 x1 x2 x9 x10 x11 ([] : List Int) 0)) else (none)) else (none)
def verditerref02_Rename.l2 : Nat → Int → List (S49) → List Int → List (S49) → Int → List Bool → List Int → Int → Option ((List (S49)) × Int)
  | 0, _, _, _, _, _, _, _, _ => none
  | k + 1, x0, x1, x2, x9, x10, x11, x13, x14 => if x14 < x0 then (if 0 ≤ x14 then (if x14 < (x11.length : Int) then (if rdOf false x11 x14 = true then (if x13.length < 17592186044416 then (verditerref02_Rename.l2 k x0 x1 x2 x9 x10 x11 (x13 ++ [x14]) (wrap64 (x14 + 1))) else (none)) else (verditerref02_Rename.l2 k x0 x1 x2 x9 x10 x11 x13 (wrap64 (x14 + 1)))) else (none)) else (none)) else (if 0 ≤ x10 then (if x10 < (x1.length : Int) then (if x9.length < 4398046511104 then (verditerref02_Rename.l0 k x0 x1 x2 (x9 ++ [(⟨x13, (rd_T49 x1 x10).f1⟩ : S49)]) (wrap64 (x10 + 1))) else (none)) else (none)) else (none))
end
def verditerref02_Rename.f (k : Nat) (a0 : Int) (l1 : List (S49)) (l2 : List Int) : Option ((List (S49)) × Int) := (verditerref02_Validate.f k a0 l1).bind fun t332 => (if t332 = 0 then ((verditerref02_isOrder.f k l2 a0).bind fun t333 => (if t333 = true then (verditerref02_Rename.l0 k a0 l1 l2 ([] : List (S49)) 0) else (some (([] : List (S49)), 1)))) else (some (([] : List (S49)), t332)))
theorem verditerref02_Rename.mono_l : ∀ k, (∀ y0 y1 y2 y3 y4, LeO (verditerref02_Rename.l0 k y0 y1 y2 y3 y4) (verditerref02_Rename.l0 (k + 1) y0 y1 y2 y3 y4)) ∧ (∀ y0 y1 y2 y3 y4 y5 y6, LeO (verditerref02_Rename.l1 k y0 y1 y2 y3 y4 y5 y6) (verditerref02_Rename.l1 (k + 1) y0 y1 y2 y3 y4 y5 y6)) ∧ (∀ y0 y1 y2 y3 y4 y5 y6 y7, LeO (verditerref02_Rename.l2 k y0 y1 y2 y3 y4 y5 y6 y7) (verditerref02_Rename.l2 (k + 1) y0 y1 y2 y3 y4 y5 y6 y7))
  | 0 => ⟨fun _ _ _ _ _ r h => by simp [verditerref02_Rename.l0] at h, fun _ _ _ _ _ _ _ r h => by simp [verditerref02_Rename.l1] at h, fun _ _ _ _ _ _ _ _ r h => by simp [verditerref02_Rename.l2] at h⟩
  | k + 1 => by
    obtain ⟨ih0, ih1, ih2⟩ := verditerref02_Rename.mono_l k
    refine ⟨?_, ?_, ?_⟩
    · intro y0 y1 y2 y3 y4
      unfold verditerref02_Rename.l0
      repeat' first
      | (with_reducible exact ih0 _ _ _ _ _)
      | (with_reducible exact ih1 _ _ _ _ _ _ _)
      | (with_reducible exact ih2 _ _ _ _ _ _ _ _)
      | (with_reducible exact verditerref02_Validate.mono _ _ _)
      | (with_reducible exact verditerref02_isOrder.mono _ _ _)
      | (with_reducible exact LeO.refl _)
      | (with_reducible exact LeO.none _)
      | (with_reducible refine LeO.ite ?_ ?_)
      | (with_reducible refine LeO.bind ?_ (fun _ => ?_))
      | exact ih0 _ _ _ _ _
      | exact ih1 _ _ _ _ _ _ _
      | exact ih2 _ _ _ _ _ _ _ _
      | exact verditerref02_Validate.mono _ _ _
      | exact verditerref02_isOrder.mono _ _ _
      | exact LeO.none _
      | refine LeO.ite ?_ ?_
      | refine LeO.bind ?_ (fun _ => ?_)
    · intro y0 y1 y2 y3 y4 y5 y6
      unfold verditerref02_Rename.l1
      repeat' first
      | (with_reducible exact ih0 _ _ _ _ _)
      | (with_reducible exact ih1 _ _ _ _ _ _ _)
      | (with_reducible exact ih2 _ _ _ _ _ _ _ _)
      | (with_reducible exact verditerref02_Validate.mono _ _ _)
      | (with_reducible exact verditerref02_isOrder.mono _ _ _)
      | (with_reducible exact LeO.refl _)
      | (with_reducible exact LeO.none _)
      | (with_reducible refine LeO.ite ?_ ?_)
      | (with_reducible refine LeO.bind ?_ (fun _ => ?_))
      | exact ih0 _ _ _ _ _
      | exact ih1 _ _ _ _ _ _ _
      | exact ih2 _ _ _ _ _ _ _ _
      | exact verditerref02_Validate.mono _ _ _
      | exact verditerref02_isOrder.mono _ _ _
      | exact LeO.none _
      | refine LeO.ite ?_ ?_
      | refine LeO.bind ?_ (fun _ => ?_)
    · intro y0 y1 y2 y3 y4 y5 y6 y7
      unfold verditerref02_Rename.l2
      repeat' first
      | (with_reducible exact ih0 _ _ _ _ _)
      | (with_reducible exact ih1 _ _ _ _ _ _ _)
      | (with_reducible exact ih2 _ _ _ _ _ _ _ _)
      | (with_reducible exact verditerref02_Validate.mono _ _ _)
      | (with_reducible exact verditerref02_isOrder.mono _ _ _)
      | (with_reducible exact LeO.refl _)
      | (with_reducible exact LeO.none _)
      | (with_reducible refine LeO.ite ?_ ?_)
      | (with_reducible refine LeO.bind ?_ (fun _ => ?_))
      | exact ih0 _ _ _ _ _
      | exact ih1 _ _ _ _ _ _ _
      | exact ih2 _ _ _ _ _ _ _ _
      | exact verditerref02_Validate.mono _ _ _
      | exact verditerref02_isOrder.mono _ _ _
      | exact LeO.none _
      | refine LeO.ite ?_ ?_
      | refine LeO.bind ?_ (fun _ => ?_)
theorem verditerref02_Rename.mono : ∀ a0 a1 a2 k, LeO (verditerref02_Rename.f k a0 a1 a2) (verditerref02_Rename.f (k + 1) a0 a1 a2) := by
  intro a0 a1 a2 k
  obtain ⟨ih0, ih1, ih2⟩ := verditerref02_Rename.mono_l k
  unfold verditerref02_Rename.f
  repeat' first
      | (with_reducible exact ih0 _ _ _ _ _)
      | (with_reducible exact ih1 _ _ _ _ _ _ _)
      | (with_reducible exact ih2 _ _ _ _ _ _ _ _)
      | (with_reducible exact verditerref02_Validate.mono _ _ _)
      | (with_reducible exact verditerref02_isOrder.mono _ _ _)
      | (with_reducible exact LeO.refl _)
      | (with_reducible exact LeO.none _)
      | (with_reducible refine LeO.ite ?_ ?_)
      | (with_reducible refine LeO.bind ?_ (fun _ => ?_))
      | exact ih0 _ _ _ _ _
      | exact ih1 _ _ _ _ _ _ _
      | exact ih2 _ _ _ _ _ _ _ _
      | exact verditerref02_Validate.mono _ _ _
      | exact verditerref02_isOrder.mono _ _ _
      | exact LeO.none _
      | refine LeO.ite ?_ ?_
      | refine LeO.bind ?_ (fun _ => ?_)
set_option maxHeartbeats 8000000 in
set_option maxRecDepth 100000 in
theorem verditerref02_Rename.calls (k : Nat) (a0 : Int) (A1 : Option Addr) (c1 : Nat) (l1 : List (S49)) (A2 : Option Addr) (c2 : Nat) (l2 : List Int) (r1 : List (S49)) (r2 : Int) (w : World) (hr1 : Kd.C k49 w A1 l1.length l1) (hc1 : l1.length ≤ c1) (hr2 : Kd.C (Kd.int .i64) w A2 l2.length l2) (hc2 : l2.length ≤ c2) (h : verditerref02_Rename.f k a0 l1 l2 = some (r1, r2)) :
    Calls Try.prog 73 #[.int .i64 a0, .slice A1 l1.length c1, .slice A2 l2.length c2] w fun e w' => ∃ v0_ : Value, e = .returned (.tuple #[v0_, .int .i64 r2]) ∧ Kd.S k49 49 w' w.heap.size (fun _ => True) v0_ r1 ∧ Below w.heap.size w w' := by
  have hu49 := Try.underlying49
  have HR1 := Aside0.mk hr1
  have HC1 := Aside0.mk hc1
  clear hr1 hc1
  have HR2 := Aside0.mk hr2
  have HC2 := Aside0.mk hc2
  clear hr2 hc2
  have HB := Aside0.mk (Below.refl w.heap.size w)
  have H : ((verditerref02_Validate.f k a0 l1).bind fun t332 => (if t332 = 0 then ((verditerref02_isOrder.f k l2 a0).bind fun t333 => (if t333 = true then (verditerref02_Rename.l0 k a0 l1 l2 ([] : List (S49)) 0) else (some (([] : List (S49)), 1)))) else (some (([] : List (S49)), t332)))) = some (r1, r2) := h
  clear h
  replace H := Option.bind_eq_some_iff.mp H
  obtain ⟨t332, A40, H⟩ := H
  replace H : (if t332 = 0 then ((verditerref02_isOrder.f k l2 a0).bind fun t333 => (if t333 = true then (verditerref02_Rename.l0 k a0 l1 l2 ([] : List (S49)) 0) else (some (([] : List (S49)), 1)))) else (some (([] : List (S49)), t332))) = some (r1, r2) := H
  have A4 := Aside0.mk A40
  clear A40
  by_cases c5 : t332 = 0
  · rw [if_pos c5] at H
    have c5b0 : (t332 == 0) = true := beq_iff_eq.mpr c5
    have c5b1 : (t332 != 0) = false := bne_eq_false_iff_eq.mpr c5
    clear c5
    replace H := Option.bind_eq_some_iff.mp H
    obtain ⟨t333, A60, H⟩ := H
    replace H : (if t333 = true then (verditerref02_Rename.l0 k a0 l1 l2 ([] : List (S49)) 0) else (some (([] : List (S49)), 1))) = some (r1, r2) := H
    have A6 := Aside0.mk A60
    clear A60
    by_cases c7 : t333 = true
    · subst c7
      have H1 : (verditerref02_Rename.l0 k a0 l1 l2 ([] : List (S49)) 0) = some (r1, r2) := by rw [if_pos rfl] at H; exact H
      clear H
      have H := H1
      clear H1
      have H' := Aside0.mk H
      clear H
      go_enter Try.func73, Try.ntmps73
      go_wp2_with (first | ((with_reducible refine gate_callee (f := 52) rfl ?_); refine goesL_ (some 17) rfl rfl Try.func52 (by kernel_rfl) rfl #[.int .i64 a0, .slice A1 l1.length c1] rfl (by (try simp only [List.map_toArray, List.map_cons, List.map_nil]); first | done | rfl | (simp only [List.length_drop, List.length_take]; rfl)) ?_; (with_reducible refine (verditerref02_Validate.calls k a0 _ _ l1 t332 _ ?side1 ?side2 A4.out).mono ?_); (case side1 => repeat (first | exact HR1.out | (with_reducible refine Kd.C_alloc ?_ _) | (with_reducible refine Kd.C_drewN ?_ _) | (with_reducible refine Kd.C_drew ?_))); (case side2 => exact HC1.out); rintro e w' ⟨rfl, ⟨nd, rfl⟩⟩; refine ⟨_, rfl, ?_⟩) | ((with_reducible refine gate_callee (f := 91) rfl ?_); refine goesL_ (some 23) rfl rfl Try.func91 (by kernel_rfl) rfl #[.slice A2 l2.length c2, .int .i64 a0] rfl (by (try simp only [List.map_toArray, List.map_cons, List.map_nil]); first | done | rfl | (simp only [List.length_drop, List.length_take]; rfl)) ?_; (with_reducible refine (verditerref02_isOrder.calls k _ _ l2 a0 true _ ?side1 ?side2 A6.out).mono ?_); (case side1 => repeat (first | exact HR2.out | (with_reducible refine Kd.C_alloc ?_ _) | (with_reducible refine Kd.C_drewN ?_ _) | (with_reducible refine Kd.C_drew ?_))); (case side2 => exact HC2.out); rintro e w' ⟨rfl, ⟨nd, rfl⟩⟩; refine ⟨_, rfl, ?_⟩))
      go_loopg [9, 10] k (fun kq v9 v10 w' => ∃ (x9_1 : List (S49)) (x10_1 : Int), v10 = .int .i64 x10_1 ∧ Aside0 (verditerref02_Rename.l0 kq a0 l1 l2 x9_1 x10_1 = some (r1, r2)) ∧ Aside0 (kq ≤ k) ∧ Aside0 (Kd.S k49 49 w' w.heap.size (fun _ => True) v9 x9_1) ∧ Aside0 (Below w.heap.size w w'))
      case atStart => exact ⟨(([] : List (S49))), (0), (by first | rfl | (simp; done) | (simp [*]; done)), H', ⟨Nat.le_refl _⟩, ⟨by first | exact Kd.S_nil _ _ _ _ _ | exact Kd.N_nil _ _ _ _ _ | exact Kd.V_nil _ _ _ _ _ | exact Kd.Q_nil _ _ _ _ _ | exact Kd.R_nil _ _ _ _ _⟩, ⟨by repeat (first | (with_reducible first | exact HB.out | apply below_alloc | apply pw_below_drewN | apply below_drew1) | exact HB.out)⟩⟩
      case round =>
        clear H'
        try clear c1
        try clear c2
        try clear p2
        try clear c5
        try clear c5b0
        try clear c5b1
        try clear c7
        obtain ⟨x9_1, x10_1, rfl, HA, HK1, HO_9, HB⟩ := hrel
        cases gk with
        | zero => exact absurd HA.out (by simp [verditerref02_Rename.l0])
        | succ k1 =>
          have H := HA.out
          clear HA
          simp only [verditerref02_Rename.l0] at H
          by_cases c8 : x10_1 < (l1.length : Int)
          · rw [if_pos c8] at H
            have c8b0 : decide (x10_1 < (l1.length : Int)) = true := decide_eq_true c8
            clear c8
            by_cases c9 : 0 ≤ a0
            · rw [if_pos c9] at H
              have c9b0 := eq_true c9
              have c9b1 : decide (0 ≤ a0) = true := decide_eq_true c9
              clear c9
              by_cases c10 : (a0 : Int).toNat ≤ 281474976710656
              · rw [if_pos c10] at H
                have c10b0 := eq_true c10
                have c10b1 : decide ((a0 : Int).toNat ≤ 281474976710656) = true := decide_eq_true c10
                clear c10
                obtain ⟨y334, hy334⟩ : ∃ y_ : List Bool, y_ = (List.replicate (a0 : Int).toNat false) := ⟨_, rfl⟩
                replace H : (verditerref02_Rename.l1 k1 a0 l1 l2 x9_1 x10_1 y334 0) = some (r1, r2) := by first | (rw [hy334]; with_reducible exact H) | (have H2_ := (Option.bind_some _ _).symm.trans H; rw [hy334]; with_reducible exact H2_) | (have H2_ := (Option.bind_some _ _).symm.trans H; with_reducible exact H2_) | with_reducible exact H | (rw [hy334]; exact H) | exact H
                have Ny334 := Aside0.mk hy334
                clear hy334
                have H' := Aside0.mk H
                clear H
                go_wp2_with (first | ((with_reducible refine gate_dst (N := 32) rfl ?_); refine Kd.R_make Kd.bool _ 4 rfl (N := 32) rfl 101 _ _ rfl a0 rfl rfl Try.underlying101 (.bool false) 1 info4 rfl (by decide) (by omega) false (ok := fun _ => True) (okp := fun _ => True) rfl (fun _ hk => hk) trivial (of_decide_eq_true (by first | (with_reducible assumption) | assumption)) (Nat.le_trans (Nat.mul_le_mul_right _ (of_decide_eq_true (by first | (with_reducible assumption) | assumption) : a0.toNat ≤ 281474976710656)) (by omega)) (Below.refl _ _) (Nat.le_refl _) ?_; intro v335 w11 ho12 hb hg_ hnew_; clear hg_ hnew_; (first | rw [← Ny334.out] at ho12 | (simp only [Int.reduceToNat] at ho12; rw [← Ny334.out] at ho12)); have n0_ := Aside0.mk (Kd.S_below (by (with_reducible repeat (first | apply Kd.S_alloc | apply Kd.S_drewN | apply Kd.S_drew)); exact HO_9.out) hb); have n1_ := Aside0.mk (Kd.R_lower ho12 (below_size (by repeat (first | (with_reducible first | exact HB.out | apply below_alloc | apply pw_below_drewN | apply below_drew1) | exact HB.out)))); have n2_ := Aside0.mk (below_step (by repeat (first | (with_reducible first | exact HB.out | apply below_alloc | apply pw_below_drewN | apply below_drew1) | exact HB.out)) hb); clear HO_9; clear HB; have HO_9 := n0_; have HO336 := n1_; have HB := n2_; clear n0_ n1_ n2_; clear hb ho12))
                go_loopg [12] k1 (fun kq v12 w' => ∃ (x11_2 : List Bool) (x12_2 : Int), v12 = .int .i64 x12_2 ∧ Aside0 (verditerref02_Rename.l1 kq a0 l1 l2 x9_1 x10_1 x11_2 x12_2 = some (r1, r2)) ∧ Aside0 (kq ≤ k1) ∧ Aside0 (Kd.S k49 49 w' w.heap.size (fun _ => True) u9 x9_1) ∧ Aside0 (Kd.R Kd.bool 4 w' w.heap.size (fun _ => True) v335 x11_2) ∧ Aside0 (Below w.heap.size w w'))
                case atStart => exact ⟨(y334), (0), (by first | rfl | (simp; done) | (simp [*]; done)), H', ⟨Nat.le_refl _⟩, ⟨by (with_reducible repeat (first | apply Kd.S_alloc | apply Kd.S_drewN | apply Kd.S_drew)); exact HO_9.out⟩, ⟨by (with_reducible repeat (first | apply Kd.R_alloc | apply Kd.R_drewN | apply Kd.R_drew)); exact HO336.out⟩, ⟨by repeat (first | (with_reducible first | exact HB.out | apply below_alloc | apply pw_below_drewN | apply below_drew1) | exact HB.out)⟩⟩
                case round =>
                  clear H'
                  try clear c1
                  try clear c2
                  try clear p2
                  try clear c5
                  try clear c5b0
                  try clear c5b1
                  try clear c7
                  try clear c8
                  try clear c8b0
                  try clear c9
                  try clear c9b0
                  try clear c9b1
                  try clear c10
                  try clear c10b0
                  try clear c10b1
                  try clear p2
                  obtain ⟨x11_2, x12_2, rfl, HA, HK2, HO_9, HO_11, HB⟩ := hrel
                  cases gk with
                  | zero => exact absurd HA.out (by simp [verditerref02_Rename.l1])
                  | succ k2 =>
                    have H := HA.out
                    clear HA
                    simp only [verditerref02_Rename.l1] at H
                    by_cases c13 : 0 ≤ x10_1
                    · rw [if_pos c13] at H
                      have c13b0 : decide (0 ≤ x10_1) = true := decide_eq_true c13
                      clear c13
                      by_cases c14 : x10_1 < (l1.length : Int)
                      · rw [if_pos c14] at H
                        have c14b0 : decide (x10_1 < (l1.length : Int)) = true := decide_eq_true c14
                        clear c14
                        by_cases c15 : x12_2 < (((rd_T49 l1 x10_1).f0).length : Int)
                        · rw [if_pos c15] at H
                          have c15b0 : decide (x12_2 < (((rd_T49 l1 x10_1).f0).length : Int)) = true := decide_eq_true c15
                          clear c15
                          by_cases c16 : 0 ≤ x12_2
                          · rw [if_pos c16] at H
                            have c16b0 : decide (0 ≤ x12_2) = true := decide_eq_true c16
                            clear c16
                            by_cases c17 : 0 ≤ (rd ((rd_T49 l1 x10_1).f0) x12_2)
                            · rw [if_pos c17] at H
                              have c17b0 : decide (0 ≤ (rd ((rd_T49 l1 x10_1).f0) x12_2)) = true := decide_eq_true c17
                              clear c17
                              by_cases c18 : (rd ((rd_T49 l1 x10_1).f0) x12_2) < (l2.length : Int)
                              · rw [if_pos c18] at H
                                have c18b0 : decide ((rd ((rd_T49 l1 x10_1).f0) x12_2) < (l2.length : Int)) = true := decide_eq_true c18
                                clear c18
                                by_cases c19 : 0 ≤ (rd l2 (rd ((rd_T49 l1 x10_1).f0) x12_2))
                                · rw [if_pos c19] at H
                                  have c19b0 : decide (0 ≤ (rd l2 (rd ((rd_T49 l1 x10_1).f0) x12_2))) = true := decide_eq_true c19
                                  clear c19
                                  by_cases c20 : (rd l2 (rd ((rd_T49 l1 x10_1).f0) x12_2)) < (x11_2.length : Int)
                                  · rw [if_pos c20] at H
                                    have c20b0 : decide ((rd l2 (rd ((rd_T49 l1 x10_1).f0) x12_2)) < (x11_2.length : Int)) = true := decide_eq_true c20
                                    clear c20
                                    obtain ⟨y341, hy341⟩ : ∃ y_ : List Bool, y_ = (x11_2.set ((rd l2 (rd ((rd_T49 l1 x10_1).f0) x12_2)) : Int).toNat true) := ⟨_, rfl⟩
                                    replace H : (verditerref02_Rename.l1 k2 a0 l1 l2 x9_1 x10_1 y341 (wrap64 (x12_2 + 1))) = some (r1, r2) := by first | (rw [hy341]; with_reducible exact H) | (have H2_ := (Option.bind_some _ _).symm.trans H; rw [hy341]; with_reducible exact H2_) | (have H2_ := (Option.bind_some _ _).symm.trans H; with_reducible exact H2_) | with_reducible exact H | (rw [hy341]; exact H) | exact H
                                    have Ny341 := Aside0.mk hy341
                                    clear hy341
                                    have H' := Aside0.mk H
                                    clear H
                                    have p337 : 0 ≤ (x10_1 : Int) := of_decide_eq_true (by first | (with_reducible assumption) | assumption)
                                    have q337 : x10_1 < (l1.length : Int) := of_decide_eq_true (by first | (with_reducible assumption) | assumption)
                                    obtain ⟨ad337, A337_0, c337_0, e337, hx337_0, hx337_1, hl337_0, hi337_0⟩ := at_T49 HR1.out x10_1 p337 q337
                                    cases e337
                                    replace hx337_0 := (HB.out.cell (World.block_lt_of_cell? w _ hx337_0)).trans hx337_0
                                    replace hx337_1 := (HB.out.cell (World.block_lt_of_cell? w _ hx337_1)).trans hx337_1
                                    have HR337_0 := Aside0.mk hi337_0
                                    have HC337_0 := Aside0.mk hl337_0
                                    clear hi337_0 hl337_0
                                    replace p337 := eq_true p337
                                    replace q337 := eq_true q337
                                    have p338 : 0 ≤ (x10_1 : Int) := of_decide_eq_true (by first | (with_reducible assumption) | assumption)
                                    have q338 : x10_1 < (l1.length : Int) := of_decide_eq_true (by first | (with_reducible assumption) | assumption)
                                    obtain ⟨ad338, A338_0, c338_0, e338, hx338_0, hx338_1, hl338_0, hi338_0⟩ := at_T49 HR1.out x10_1 p338 q338
                                    obtain rfl : ad337 = ad338 := (by injection e338)
                                    replace hx338_0 := (HB.out.cell (World.block_lt_of_cell? w _ hx338_0)).trans hx338_0
                                    replace hx338_1 := (HB.out.cell (World.block_lt_of_cell? w _ hx338_1)).trans hx338_1
                                    have HR338_0 := Aside0.mk hi338_0
                                    have HC338_0 := Aside0.mk hl338_0
                                    clear hi338_0 hl338_0
                                    replace p338 := eq_true p338
                                    replace q338 := eq_true q338
                                    have ea_ := Option.some.inj (hx337_0.symm.trans hx338_0)
                                    injection ea_ with ea_ en_ ec_
                                    subst ea_
                                    subst ec_
                                    clear en_
                                    have p339 : 0 ≤ (x12_2 : Int) := of_decide_eq_true (by first | (with_reducible assumption) | assumption)
                                    have q339 : x12_2 < (((rd_T49 l1 x10_1).f0).length : Int) := of_decide_eq_true (by first | (with_reducible assumption) | assumption)
                                    obtain ⟨ad339, e339, hx339_0⟩ := Kd.at_int HR338_0.out x12_2 p339 q339
                                    cases e339
                                    replace hx339_0 := (HB.out.cell (World.block_lt_of_cell? w _ hx339_0)).trans hx339_0
                                    replace p339 := eq_true p339
                                    replace q339 := eq_true q339
                                    have p340 : 0 ≤ ((rd ((rd_T49 l1 x10_1).f0) x12_2) : Int) := of_decide_eq_true (by first | (with_reducible assumption) | assumption)
                                    have q340 : (rd ((rd_T49 l1 x10_1).f0) x12_2) < (l2.length : Int) := of_decide_eq_true (by first | (with_reducible assumption) | assumption)
                                    obtain ⟨ad340, e340, hx340_0⟩ := Kd.at_int HR2.out (rd ((rd_T49 l1 x10_1).f0) x12_2) p340 q340
                                    cases e340
                                    replace hx340_0 := (HB.out.cell (World.block_lt_of_cell? w _ hx340_0)).trans hx340_0
                                    replace p340 := eq_true p340
                                    replace q340 := eq_true q340
                                    have p21 : 0 ≤ ((rd l2 (rd ((rd_T49 l1 x10_1).f0) x12_2)) : Int) := of_decide_eq_true (by first | (with_reducible assumption) | assumption)
                                    have q21 : ((rd l2 (rd ((rd_T49 l1 x10_1).f0) x12_2)) : Int) < ((x11_2.length : Int) : Int) := of_decide_eq_true (by first | (with_reducible assumption) | assumption)
                                    obtain ⟨go21, co21, eo21, gb21, gl21, cl21, HG21⟩ := Kd.R_form HO_11.out (by omega)
                                    (first | cases eo21 | (injection eo21 with ea_ en_ ec_; (first | subst ea_ | (injection ea_ with ea_; subst ea_)); subst ec_; clear en_))
                                    have GB21 := Aside0.mk gb21
                                    have GG21 := Aside0.mk HG21
                                    clear gb21 gl21 HG21
                                    obtain ⟨hx21_0, hf21_0⟩ := Kd.R_celln false HO_11.out ((rd l2 (rd ((rd_T49 l1 x10_1).f0) x12_2)) : Int) p21 q21
                                    replace p21 := eq_true p21
                                    replace q21 := eq_true q21
                                    have HP22 := Kd.R_putg HO_11.out ((rd l2 (rd ((rd_T49 l1 x10_1).f0) x12_2)) : Int) true
                                    go_wp2_with (first | ((with_reducible refine gate_store (t := 4) (p := 55) rfl ?_); refine store_event (t := 4) (p := 55) (v := ?vo_w23) (w1 := (wr.setCell ⟨go21, ((rd l2 (rd ((rd_T49 l1 x10_1).f0) x12_2)) : Int).toNat, none⟩ (.bool true))) ?hg ?ho ?hn ?hr ?_; (case ho => rfl); (case hg => rfl); (case hn => rfl); (case hr => first | (go_simp; done) | (go_simp; rfl)); intro w23 hw; have hg : wr.grownBy w23 (some go21) := (by rw [hw]; exact HP22.2); have hp_ : Kd.R Kd.bool 4 w23 w.heap.size (fun _ => True) (.slice (some ⟨go21, 0, none⟩) x11_2.length co21) y341 := (by rw [hw, Ny341.out]; exact HP22.1); clear HP22; have n0_ := Aside0.mk (Kd.S_over' (v := (.slice (some ⟨go21, 0, none⟩) x11_2.length co21)) (by (with_reducible repeat (first | apply Kd.S_alloc | apply Kd.S_drewN | apply Kd.S_drew)); exact HO_9.out) (Kd.R_typed HO_11.out) (by decide) hg); have n1_ := Aside0.mk (hp_); have n2_ := Aside0.mk ((by rw [hw]; exact below_set (HB.out) GB21.out : Below w.heap.size w w23)); clear HO_9; clear HO_11; clear HB; have HO_9 := n0_; have HO_11 := n1_; have HB := n2_; clear n0_ n1_ n2_; clear hg hw hp_))
                                    go_roundg k2
                                    case measure => have := HK1.out; have := HK2.out; omega
                                    case rel => exact ⟨(y341), (wrap64 (x12_2 + 1)), (by first | rfl | (simp; done) | (simp [*]; done)), H', ⟨by have := HK1.out; have := HK2.out; omega⟩, ⟨by (with_reducible repeat (first | apply Kd.S_alloc | apply Kd.S_drewN | apply Kd.S_drew)); exact HO_9.out⟩, ⟨by (with_reducible repeat (first | apply Kd.R_alloc | apply Kd.R_drewN | apply Kd.R_drew)); exact HO_11.out⟩, ⟨by repeat (first | (with_reducible first | exact HB.out | apply below_alloc | apply pw_below_drewN | apply below_drew1) | exact HB.out)⟩⟩
                                  · rw [if_neg c20] at H
                                    exact absurd H (by simp)
                                · rw [if_neg c19] at H
                                  exact absurd H (by simp)
                              · rw [if_neg c18] at H
                                exact absurd H (by simp)
                            · rw [if_neg c17] at H
                              exact absurd H (by simp)
                          · rw [if_neg c16] at H
                            exact absurd H (by simp)
                        · rw [if_neg c15] at H
                          have c15b0 : decide (x12_2 < (((rd_T49 l1 x10_1).f0).length : Int)) = false := decide_eq_false c15
                          clear c15
                          have H' := Aside0.mk H
                          clear H
                          have p337 : 0 ≤ (x10_1 : Int) := of_decide_eq_true (by first | (with_reducible assumption) | assumption)
                          have q337 : x10_1 < (l1.length : Int) := of_decide_eq_true (by first | (with_reducible assumption) | assumption)
                          obtain ⟨ad337, A337_0, c337_0, e337, hx337_0, hx337_1, hl337_0, hi337_0⟩ := at_T49 HR1.out x10_1 p337 q337
                          cases e337
                          replace hx337_0 := (HB.out.cell (World.block_lt_of_cell? w _ hx337_0)).trans hx337_0
                          replace hx337_1 := (HB.out.cell (World.block_lt_of_cell? w _ hx337_1)).trans hx337_1
                          have HR337_0 := Aside0.mk hi337_0
                          have HC337_0 := Aside0.mk hl337_0
                          clear hi337_0 hl337_0
                          replace p337 := eq_true p337
                          replace q337 := eq_true q337
                          go_wp2
                          go_loopg [13, 14] k2 (fun kq v13 v14 w' => ∃ (x13_3 : List Int) (x14_3 : Int), v14 = .int .i64 x14_3 ∧ Aside0 (verditerref02_Rename.l2 kq a0 l1 l2 x9_1 x10_1 x11_2 x13_3 x14_3 = some (r1, r2)) ∧ Aside0 (kq ≤ k2) ∧ Aside0 (Kd.S k49 49 w' w.heap.size (fun k_ => some k_ ≠ (v13 : Value).ownBlock) u9 x9_1) ∧ Aside0 (Kd.R Kd.bool 4 w' w.heap.size (fun _ => True) v335 x11_2) ∧ Aside0 (Kd.R (Kd.int .i64) 3 w' w.heap.size (fun _ => True) v13 x13_3) ∧ Aside0 (Below w.heap.size w w'))
                          case atStart => exact ⟨(([] : List Int)), (0), (by first | rfl | (simp; done) | (simp [*]; done)), H', ⟨Nat.le_refl _⟩, ⟨by (with_reducible repeat (first | apply Kd.S_alloc | apply Kd.S_drewN | apply Kd.S_drew)); exact Kd.S_mono HO_9.out (fun _ hk => (by simp [Value.ownBlock]))⟩, ⟨by (with_reducible repeat (first | apply Kd.R_alloc | apply Kd.R_drewN | apply Kd.R_drew)); exact HO_11.out⟩, ⟨by first | exact Kd.R_nil _ _ _ _ _ | exact Kd.N_nil _ _ _ _ _ | exact Kd.V_nil _ _ _ _ _ | exact Kd.Q_nil _ _ _ _ _ | exact Kd.S_nil _ _ _ _ _⟩, ⟨by repeat (first | (with_reducible first | exact HB.out | apply below_alloc | apply pw_below_drewN | apply below_drew1) | exact HB.out)⟩⟩
                          case round =>
                            clear H'
                            try clear c1
                            try clear c2
                            try clear p2
                            try clear q2
                            try clear hx2
                            try clear c3
                            try clear p3
                            try clear q3
                            try clear hx3
                            try clear c5
                            try clear c5b0
                            try clear c5b1
                            try clear p6
                            try clear c7
                            try clear c8
                            try clear c8b0
                            try clear c9
                            try clear c9b0
                            try clear c9b1
                            try clear c10
                            try clear c10b0
                            try clear c10b1
                            try clear c13
                            try clear c13b0
                            try clear c14
                            try clear c14b0
                            try clear c15
                            try clear c15b0
                            try clear c16
                            try clear c16b0
                            try clear c17
                            try clear c17b0
                            try clear c18
                            try clear c18b0
                            try clear c19
                            try clear c19b0
                            try clear c20
                            try clear c20b0
                            try clear p21
                            try clear q21
                            try clear hx21
                            try clear hf21
                            try clear hx21_0
                            try clear hx337_0
                            try clear hx337_1
                            try clear hx338_0
                            try clear hx338_1
                            try clear hx339_0
                            try clear hx340_0
                            try clear p2
                            try clear p21
                            try clear p337
                            try clear p338
                            try clear p339
                            try clear p340
                            try clear q21
                            try clear q337
                            try clear q338
                            try clear q339
                            try clear q340
                            obtain ⟨x13_3, x14_3, rfl, HA, HK3, HO_9, HO_11, HO_13, HB⟩ := hrel
                            cases gk with
                            | zero => exact absurd HA.out (by simp [verditerref02_Rename.l2])
                            | succ k3 =>
                              have H := HA.out
                              clear HA
                              simp only [verditerref02_Rename.l2] at H
                              by_cases c24 : x14_3 < a0
                              · rw [if_pos c24] at H
                                have c24b0 : decide (x14_3 < a0) = true := decide_eq_true c24
                                clear c24
                                by_cases c25 : 0 ≤ x14_3
                                · rw [if_pos c25] at H
                                  have c25b0 : decide (0 ≤ x14_3) = true := decide_eq_true c25
                                  clear c25
                                  by_cases c26 : x14_3 < (x11_2.length : Int)
                                  · rw [if_pos c26] at H
                                    have c26b0 : decide (x14_3 < (x11_2.length : Int)) = true := decide_eq_true c26
                                    clear c26
                                    obtain ⟨bq27, hbq27⟩ : ∃ b_ : Bool, b_ = (rdOf false x11_2 x14_3) := ⟨_, rfl⟩
                                    replace H : (if bq27 = true then (if x13_3.length < 17592186044416 then (verditerref02_Rename.l2 k3 a0 l1 l2 x9_1 x10_1 x11_2 (x13_3 ++ [x14_3]) (wrap64 (x14_3 + 1))) else (none)) else (verditerref02_Rename.l2 k3 a0 l1 l2 x9_1 x10_1 x11_2 x13_3 (wrap64 (x14_3 + 1)))) = some (r1, r2) := by rw [← hbq27] at H; exact H
                                    have Nbq27 := Aside0.mk hbq27
                                    clear hbq27
                                    by_cases c28 : bq27 = true
                                    · subst c28
                                      have H1 : (if x13_3.length < 17592186044416 then (verditerref02_Rename.l2 k3 a0 l1 l2 x9_1 x10_1 x11_2 (x13_3 ++ [x14_3]) (wrap64 (x14_3 + 1))) else (none)) = some (r1, r2) := by rw [if_pos rfl] at H; exact H
                                      clear H
                                      have H := H1
                                      clear H1
                                      by_cases c29 : x13_3.length < 17592186044416
                                      · rw [if_pos c29] at H
                                        have LMc29 := Aside0.mk c29
                                        clear c29
                                        obtain ⟨y343, hy343⟩ : ∃ y_ : List Int, y_ = (x13_3 ++ [x14_3]) := ⟨_, rfl⟩
                                        replace H : (verditerref02_Rename.l2 k3 a0 l1 l2 x9_1 x10_1 x11_2 y343 (wrap64 (x14_3 + 1))) = some (r1, r2) := by first | (rw [hy343]; with_reducible exact H) | (have H2_ := (Option.bind_some _ _).symm.trans H; rw [hy343]; with_reducible exact H2_) | (have H2_ := (Option.bind_some _ _).symm.trans H; with_reducible exact H2_) | with_reducible exact H | (rw [hy343]; exact H) | exact H
                                        have Ny343 := Aside0.mk hy343
                                        clear hy343
                                        have H' := Aside0.mk H
                                        clear H
                                        obtain ⟨Ao30, co30, eo30⟩ := Kd.R_slice HO_11.out
                                        subst eo30
                                        have p342 : 0 ≤ (x14_3 : Int) := of_decide_eq_true (by first | (with_reducible assumption) | assumption)
                                        have q342 : x14_3 < (x11_2.length : Int) := of_decide_eq_true (by first | (with_reducible assumption) | assumption)
                                        obtain ⟨ad342, e342, hx342_0⟩ := Kd.at_bool (Kd.R_reads' HO_11.out).2.2 x14_3 p342 q342
                                        (try rw [← Nbq27.out] at hx342_0)
                                        cases e342
                                        replace p342 := eq_true p342
                                        replace q342 := eq_true q342
                                        go_wp2_with (first | ((with_reducible refine gate_builtin (b := .append) (xs := #[.tmp 65, .tmp 67]) rfl ?_); at_builtin; refine Kd.R_append (Kd.int .i64) (w0 := w) w.heap.size rfl (.tmp 65) (.tmp 67) 47 3 (.int .i64 0) 8 rfl Try.underlying47 info3 rfl (by decide) (by omega) u13 x13_3 x14_3 [.int .i64 x14_3] (fun _ => True) (fun _ => False) rfl rfl ?aP (fun _ hk => hk.elim) ?aF ?aO ?aB ?aS ?aL ?_; (case aP => exact rfl); (case aB => exact (by repeat (first | (with_reducible first | exact HB.out | apply below_alloc | apply pw_below_drewN | apply below_drew1) | exact HB.out))); (case aF => exact (fun _ _ => trivial)); (case aO => exact (by (with_reducible repeat (first | apply Kd.R_alloc | apply Kd.R_drewN | apply Kd.R_drew)); exact HO_13.out)); (case aS => exact (below_size (by repeat (first | (with_reducible first | exact HB.out | apply below_alloc | apply pw_below_drewN | apply below_drew1) | exact HB.out)))); (case aL => have := LMc29.out; omega); intro v344 w31 ho hb hg hat; rw [← Ny343.out] at ho; have n0_ := Aside0.mk (Kd.S_after (ok := (fun _ => True)) (by (with_reducible repeat (first | apply Kd.S_alloc | apply Kd.S_drewN | apply Kd.S_drew)); exact Kd.S_mono HO_9.out (fun _ hk => ⟨trivial, hk⟩)) hg hat); have n1_ := Aside0.mk (Kd.R_over' (by (with_reducible repeat (first | apply Kd.R_alloc | apply Kd.R_drewN | apply Kd.R_drew)); exact HO_11.out) (Kd.R_typed (by (with_reducible repeat (first | apply Kd.R_alloc | apply Kd.R_drewN | apply Kd.R_drew)); exact HO_13.out)) (by decide) hg); have n2_ := Aside0.mk (hb); have n3_ := Aside0.mk (ho); clear HO_9; clear HO_11; clear HB; clear HO_13; have HO_9 := n0_; have HO_11 := n1_; have HB := n2_; have HO345 := n3_; clear n0_ n1_ n2_ n3_; clear ho hb hg hat))
                                        go_roundg k3
                                        case measure => have := HK1.out; have := HK2.out; have := HK3.out; omega
                                        case rel => exact ⟨(y343), (wrap64 (x14_3 + 1)), (by first | rfl | (simp; done) | (simp [*]; done)), H', ⟨by have := HK1.out; have := HK2.out; have := HK3.out; omega⟩, ⟨by (with_reducible repeat (first | apply Kd.S_alloc | apply Kd.S_drewN | apply Kd.S_drew)); exact Kd.S_mono HO_9.out (fun _ hk => hk.2)⟩, ⟨by (with_reducible repeat (first | apply Kd.R_alloc | apply Kd.R_drewN | apply Kd.R_drew)); exact HO_11.out⟩, ⟨by (with_reducible repeat (first | apply Kd.R_alloc | apply Kd.R_drewN | apply Kd.R_drew)); exact HO345.out⟩, ⟨by repeat (first | (with_reducible first | exact HB.out | apply below_alloc | apply pw_below_drewN | apply below_drew1) | exact HB.out)⟩⟩
                                      · rw [if_neg c29] at H
                                        exact absurd H (by simp)
                                    · replace c28 := Bool.eq_false_iff.mpr c28
                                      subst c28
                                      have H1 : (verditerref02_Rename.l2 k3 a0 l1 l2 x9_1 x10_1 x11_2 x13_3 (wrap64 (x14_3 + 1))) = some (r1, r2) := by rw [if_neg (show ¬ (false = true) by decide)] at H; exact H
                                      clear H
                                      have H := H1
                                      clear H1
                                      have H' := Aside0.mk H
                                      clear H
                                      obtain ⟨Ao32, co32, eo32⟩ := Kd.R_slice HO_11.out
                                      subst eo32
                                      have p342 : 0 ≤ (x14_3 : Int) := of_decide_eq_true (by first | (with_reducible assumption) | assumption)
                                      have q342 : x14_3 < (x11_2.length : Int) := of_decide_eq_true (by first | (with_reducible assumption) | assumption)
                                      obtain ⟨ad342, e342, hx342_0⟩ := Kd.at_bool (Kd.R_reads' HO_11.out).2.2 x14_3 p342 q342
                                      (try rw [← Nbq27.out] at hx342_0)
                                      cases e342
                                      replace p342 := eq_true p342
                                      replace q342 := eq_true q342
                                      go_wp2
                                      go_roundg k3
                                      case measure => have := HK1.out; have := HK2.out; have := HK3.out; omega
                                      case rel => exact ⟨(x13_3), (wrap64 (x14_3 + 1)), (by first | rfl | (simp; done) | (simp [*]; done)), H', ⟨by have := HK1.out; have := HK2.out; have := HK3.out; omega⟩, ⟨by (with_reducible repeat (first | apply Kd.S_alloc | apply Kd.S_drewN | apply Kd.S_drew)); exact HO_9.out⟩, ⟨by (with_reducible repeat (first | apply Kd.R_alloc | apply Kd.R_drewN | apply Kd.R_drew)); exact HO_11.out⟩, ⟨by (with_reducible repeat (first | apply Kd.R_alloc | apply Kd.R_drewN | apply Kd.R_drew)); exact HO_13.out⟩, ⟨by repeat (first | (with_reducible first | exact HB.out | apply below_alloc | apply pw_below_drewN | apply below_drew1) | exact HB.out)⟩⟩
                                  · rw [if_neg c26] at H
                                    exact absurd H (by simp)
                                · rw [if_neg c25] at H
                                  exact absurd H (by simp)
                              · rw [if_neg c24] at H
                                have c24b0 : decide (x14_3 < a0) = false := decide_eq_false c24
                                clear c24
                                by_cases c33 : 0 ≤ x10_1
                                · rw [if_pos c33] at H
                                  have c33b0 : decide (0 ≤ x10_1) = true := decide_eq_true c33
                                  clear c33
                                  by_cases c34 : x10_1 < (l1.length : Int)
                                  · rw [if_pos c34] at H
                                    have c34b0 : decide (x10_1 < (l1.length : Int)) = true := decide_eq_true c34
                                    clear c34
                                    by_cases c35 : x9_1.length < 4398046511104
                                    · rw [if_pos c35] at H
                                      have LMc35 := Aside0.mk c35
                                      clear c35
                                      obtain ⟨y347, hy347⟩ : ∃ y_ : List (S49), y_ = (x9_1 ++ [(⟨x13_3, (rd_T49 l1 x10_1).f1⟩ : S49)]) := ⟨_, rfl⟩
                                      replace H : (verditerref02_Rename.l0 k3 a0 l1 l2 y347 (wrap64 (x10_1 + 1))) = some (r1, r2) := by first | (rw [hy347]; with_reducible exact H) | (have H2_ := (Option.bind_some _ _).symm.trans H; rw [hy347]; with_reducible exact H2_) | (have H2_ := (Option.bind_some _ _).symm.trans H; with_reducible exact H2_) | with_reducible exact H | (rw [hy347]; exact H) | exact H
                                      have Ny347 := Aside0.mk hy347
                                      clear hy347
                                      have H' := Aside0.mk H
                                      clear H
                                      have p346 : 0 ≤ (x10_1 : Int) := of_decide_eq_true (by first | (with_reducible assumption) | assumption)
                                      have q346 : x10_1 < (l1.length : Int) := of_decide_eq_true (by first | (with_reducible assumption) | assumption)
                                      obtain ⟨ad346, A346_0, c346_0, e346, hx346_0, hx346_1, hl346_0, hi346_0⟩ := at_T49 HR1.out x10_1 p346 q346
                                      obtain rfl : ad337 = ad346 := (by injection e346)
                                      replace hx346_0 := (HB.out.cell (World.block_lt_of_cell? w _ hx346_0)).trans hx346_0
                                      replace hx346_1 := (HB.out.cell (World.block_lt_of_cell? w _ hx346_1)).trans hx346_1
                                      have HR346_0 := Aside0.mk hi346_0
                                      have HC346_0 := Aside0.mk hl346_0
                                      clear hi346_0 hl346_0
                                      replace p346 := eq_true p346
                                      replace q346 := eq_true q346
                                      obtain ⟨Ao36, co36, eo36⟩ := Kd.R_slice HO_13.out
                                      subst eo36
                                      go_wp2_with (first | ((with_reducible refine gate_builtin (b := .append) (xs := #[.tmp 69, .tmp 77]) rfl ?_); at_builtin; refine Kd.S_append k49 (w0 := w) w.heap.size rfl (.tmp 69) (.tmp 77) 29 49 (.agg #[(.slice none 0 0), (.bool false)]) 32 rfl Try.underlying29 info49 rfl (by decide) (by omega) u9 x9_1 (⟨x13_3, (rd_T49 l1 x10_1).f1⟩ : S49) [.slice Ao36 x13_3.length co36, .bool ((rd_T49 l1 x10_1).f1)] (fun _ => True) (fun k_ => some k_ = (.slice Ao36 x13_3.length co36 : Value).ownBlock) rfl rfl ?aP (fun k_ hk_ => ((Kd.R_mono (ok' := fun k_ => ((fun _ => True)) k_ ∧ some k_ ≠ (u9 : Value).ownBlock) (Kd.R_apart' (HO_13.out) (Kd.S_typed HO_9.out) (by decide)) (fun k_ hk => ⟨trivial, hk.2⟩))).1 k_ hk_.symm) ?aF ?aO ?aB ?aS ?aL ?_; (case aP => exact k49_mkM _ _ _ (⟨x13_3, (rd_T49 l1 x10_1).f1⟩ : S49) (Kd.R_mono (Kd.R_tight rfl (Kd.R_mono (ok' := fun k_ => ((fun _ => True)) k_ ∧ some k_ ≠ (u9 : Value).ownBlock) (Kd.R_apart' (HO_13.out) (Kd.S_typed HO_9.out) (by decide)) (fun k_ hk => ⟨trivial, hk.2⟩))) (fun _ h_ => h_))); (case aB => exact (by repeat (first | (with_reducible first | exact HB.out | apply below_alloc | apply pw_below_drewN | apply below_drew1) | exact HB.out))); (case aF => exact (fun _ _ => trivial)); (case aO => exact (by (with_reducible repeat (first | apply Kd.S_alloc | apply Kd.S_drewN | apply Kd.S_drew)); exact Kd.S_mono HO_9.out (fun k_ hk => ⟨trivial, fun e_ => hk e_⟩))); (case aS => exact (below_size (by repeat (first | (with_reducible first | exact HB.out | apply below_alloc | apply pw_below_drewN | apply below_drew1) | exact HB.out)))); (case aL => have := LMc35.out; omega); intro v348 w37 ho hb hg hat; rw [← Ny347.out] at ho; have n0_ := Aside0.mk (Kd.R_over' (by (with_reducible repeat (first | apply Kd.R_alloc | apply Kd.R_drewN | apply Kd.R_drew)); exact HO_11.out) (Kd.S_typed (by (with_reducible repeat (first | apply Kd.S_alloc | apply Kd.S_drewN | apply Kd.S_drew)); exact HO_9.out)) (by decide) hg); have n1_ := Aside0.mk (hb); have n2_ := Aside0.mk (ho); clear HO_11; clear HB; clear HO_9; clear HO_13; have HO_11 := n0_; have HB := n1_; have HO349 := n2_; clear n0_ n1_ n2_; clear ho hb hg hat))
                                      go_roundg k3
                                      case measure => have := HK1.out; have := HK2.out; have := HK3.out; omega
                                      case rel => exact ⟨(y347), (wrap64 (x10_1 + 1)), (by first | rfl | (simp; done) | (simp [*]; done)), H', ⟨by have := HK1.out; have := HK2.out; have := HK3.out; omega⟩, ⟨by (with_reducible repeat (first | apply Kd.S_alloc | apply Kd.S_drewN | apply Kd.S_drew)); exact HO349.out⟩, ⟨by repeat (first | (with_reducible first | exact HB.out | apply below_alloc | apply pw_below_drewN | apply below_drew1) | exact HB.out)⟩⟩
                                    · rw [if_neg c35] at H
                                      exact absurd H (by simp)
                                  · rw [if_neg c34] at H
                                    exact absurd H (by simp)
                                · rw [if_neg c33] at H
                                  exact absurd H (by simp)
                      · rw [if_neg c14] at H
                        exact absurd H (by simp)
                    · rw [if_neg c13] at H
                      exact absurd H (by simp)
              · rw [if_neg c10] at H
                exact absurd H (by simp)
            · rw [if_neg c9] at H
              exact absurd H (by simp)
          · rw [if_neg c8] at H
            have c8b0 : decide (x10_1 < (l1.length : Int)) = false := decide_eq_false c8
            clear c8
            simp only [Option.some.injEq, Prod.mk.injEq] at H
            obtain ⟨rfl, rfl⟩ := H
            go_wp2
            go_ret2
            exact ⟨_, by first | rfl | (simp [errW_none, errW_some] <;> rfl) | (simp [*, errW_none, errW_some] <;> rfl), by (with_reducible repeat (first | apply Kd.S_alloc | apply Kd.S_drewN | apply Kd.S_drew)); exact HO_9.out, by repeat (first | (with_reducible first | exact HB.out | apply below_alloc | apply pw_below_drewN | apply below_drew1) | exact HB.out)⟩
    · replace c7 := Bool.eq_false_iff.mpr c7
      subst c7
      have H1 : (some (([] : List (S49)), 1)) = some (r1, r2) := by rw [if_neg (show ¬ (false = true) by decide)] at H; exact H
      clear H
      have H := H1
      clear H1
      simp only [Option.some.injEq, Prod.mk.injEq] at H
      obtain ⟨rfl, rfl⟩ := H
      go_enter Try.func73, Try.ntmps73
      go_wp2_with (first | ((with_reducible refine gate_callee (f := 52) rfl ?_); refine goesL_ (some 17) rfl rfl Try.func52 (by kernel_rfl) rfl #[.int .i64 a0, .slice A1 l1.length c1] rfl (by (try simp only [List.map_toArray, List.map_cons, List.map_nil]); first | done | rfl | (simp only [List.length_drop, List.length_take]; rfl)) ?_; (with_reducible refine (verditerref02_Validate.calls k a0 _ _ l1 t332 _ ?side1 ?side2 A4.out).mono ?_); (case side1 => repeat (first | exact HR1.out | (with_reducible refine Kd.C_alloc ?_ _) | (with_reducible refine Kd.C_drewN ?_ _) | (with_reducible refine Kd.C_drew ?_))); (case side2 => exact HC1.out); rintro e w' ⟨rfl, ⟨nd, rfl⟩⟩; refine ⟨_, rfl, ?_⟩) | ((with_reducible refine gate_callee (f := 91) rfl ?_); refine goesL_ (some 23) rfl rfl Try.func91 (by kernel_rfl) rfl #[.slice A2 l2.length c2, .int .i64 a0] rfl (by (try simp only [List.map_toArray, List.map_cons, List.map_nil]); first | done | rfl | (simp only [List.length_drop, List.length_take]; rfl)) ?_; (with_reducible refine (verditerref02_isOrder.calls k _ _ l2 a0 false _ ?side1 ?side2 A6.out).mono ?_); (case side1 => repeat (first | exact HR2.out | (with_reducible refine Kd.C_alloc ?_ _) | (with_reducible refine Kd.C_drewN ?_ _) | (with_reducible refine Kd.C_drew ?_))); (case side2 => exact HC2.out); rintro e w' ⟨rfl, ⟨nd, rfl⟩⟩; refine ⟨_, rfl, ?_⟩))
      go_ret2
      exact ⟨_, by first | rfl | (simp [errW_none, errW_some] <;> rfl) | (simp [*, errW_none, errW_some] <;> rfl), by first | exact Kd.S_nil _ _ _ _ _ | exact Kd.N_nil _ _ _ _ _ | exact Kd.V_nil _ _ _ _ _ | exact Kd.Q_nil _ _ _ _ _ | exact Kd.R_nil _ _ _ _ _, by repeat (first | (with_reducible first | exact HB.out | apply below_alloc | apply pw_below_drewN | apply below_drew1) | exact HB.out)⟩
  · rw [if_neg c5] at H
    have c5b0 : (t332 == 0) = false := beq_eq_false_iff_ne.mpr c5
    have c5b1 : (t332 != 0) = true := bne_iff_ne.mpr c5
    simp only [Option.some.injEq, Prod.mk.injEq] at H
    obtain ⟨rfl, rfl⟩ := H
    go_enter Try.func73, Try.ntmps73
    go_wp2_with (first | ((with_reducible refine gate_callee (f := 52) rfl ?_); refine goesL_ (some 17) rfl rfl Try.func52 (by kernel_rfl) rfl #[.int .i64 a0, .slice A1 l1.length c1] rfl (by (try simp only [List.map_toArray, List.map_cons, List.map_nil]); first | done | rfl | (simp only [List.length_drop, List.length_take]; rfl)) ?_; (with_reducible refine (verditerref02_Validate.calls k a0 _ _ l1 t332 _ ?side1 ?side2 A4.out).mono ?_); (case side1 => repeat (first | exact HR1.out | (with_reducible refine Kd.C_alloc ?_ _) | (with_reducible refine Kd.C_drewN ?_ _) | (with_reducible refine Kd.C_drew ?_))); (case side2 => exact HC1.out); rintro e w' ⟨rfl, ⟨nd, rfl⟩⟩; refine ⟨_, rfl, ?_⟩))
    go_ret2
    exact ⟨_, by first | rfl | (simp [errW_none, errW_some] <;> rfl) | (simp [*, errW_none, errW_some] <;> rfl), by first | exact Kd.S_nil _ _ _ _ _ | exact Kd.N_nil _ _ _ _ _ | exact Kd.V_nil _ _ _ _ _ | exact Kd.Q_nil _ _ _ _ _ | exact Kd.R_nil _ _ _ _ _, by repeat (first | (with_reducible first | exact HB.out | apply below_alloc | apply pw_below_drewN | apply below_drew1) | exact HB.out)⟩

end Go.Proofs.Ytfejfljgdeglgaa.K
