/- DERIVED by wip/pr.py: for each Go function named below a Lean function with the same answers, and that a call of it comes to these answers, for all arguments and memories, where the Lean function has an answer. -/
import Derived.Test.YtfejfljgdeglgaaK0
import Derived.Test.YtfejfljgdeglgaaK2
import Derived.Test.YtfejfljgdeglgaaK6
namespace Go.Proofs.Ytfejfljgdeglgaa.K
open Go.RowKit Go.Proofs.YtfejfljgdeglgaaW.PrintWords Go.Proofs.YtfejfljgdeglgaaW.PrintLast Go.Proofs.YtfejfljgdeglgaaW.PrintMore
attribute [local go_sem] max2_int min2_int max_two min_two max_three min_three max_four min_four   -- for this text's walks alone
set_option linter.unusedVariables false
set_option linter.unusedSimpArgs false

/-! ### verditerref02_Turn: function 68 -/
mutual
def verditerref02_Turn.l0 : Nat → List (S49) → Int → List (S49) → Int → Option ((List (S49)) × Int)
  | 0, _, _, _, _ => none
  | k + 1, x0, x1, x7, x8 => if x8 < (x0.length : Int) then (verditerref02_Turn.l1 k x0 x1 x7 x8 ([] : List Int) 0) else (some (x7, 0))
def verditerref02_Turn.l1 : Nat → List (S49) → Int → List (S49) → Int → List Int → Int → Option ((List (S49)) × Int)
  | 0, _, _, _, _, _, _ => none
  | k + 1, x0, x1, x7, x8, x9, x10 => if x10 < x1 then (if 0 ≤ x8 then (if x8 < (x0.length : Int) then ((verditerref02_Has.f k ((rd_T49 x0 x8).f0) x10).bind fun t330 => (if t330 = true then (verditerref02_Turn.l1 k x0 x1 x7 x8 x9 (wrap64 (x10 + 1))) else (if x9.length < 17592186044416 then (verditerref02_Turn.l1 k x0 x1 x7 x8 (x9 ++ [x10]) (wrap64 (x10 + 1))) else (none)))) else (none)) else (none)) else (if 0 ≤ x8 then (if x8 < (x0.length : Int) then (if x7.length < 4398046511104 then (verditerref02_Turn.l0 k x0 x1 (x7 ++ [(⟨x9, !((rd_T49 x0 x8).f1)⟩ : S49)]) (wrap64 (x8 + 1))) else (none)) else (none)) else (none))
end
def verditerref02_Turn.f (k : Nat) (l0 : List (S49)) (a1 : Int) : Option ((List (S49)) × Int) := (verditerref02_Validate.f k a1 l0).bind fun t328 => (if t328 = 0 then (verditerref02_Turn.l0 k l0 a1 ([] : List (S49)) 0) else (some (([] : List (S49)), t328)))
theorem verditerref02_Turn.mono_l : ∀ k, (∀ y0 y1 y2 y3, LeO (verditerref02_Turn.l0 k y0 y1 y2 y3) (verditerref02_Turn.l0 (k + 1) y0 y1 y2 y3)) ∧ (∀ y0 y1 y2 y3 y4 y5, LeO (verditerref02_Turn.l1 k y0 y1 y2 y3 y4 y5) (verditerref02_Turn.l1 (k + 1) y0 y1 y2 y3 y4 y5))
  | 0 => ⟨fun _ _ _ _ r h => by simp [verditerref02_Turn.l0] at h, fun _ _ _ _ _ _ r h => by simp [verditerref02_Turn.l1] at h⟩
  | k + 1 => by
    obtain ⟨ih0, ih1⟩ := verditerref02_Turn.mono_l k
    refine ⟨?_, ?_⟩
    · intro y0 y1 y2 y3
      unfold verditerref02_Turn.l0
      repeat' first
      | (with_reducible exact ih0 _ _ _ _)
      | (with_reducible exact ih1 _ _ _ _ _ _)
      | (with_reducible exact verditerref02_Has.mono _ _ _)
      | (with_reducible exact verditerref02_Validate.mono _ _ _)
      | (with_reducible exact LeO.refl _)
      | (with_reducible exact LeO.none _)
      | (with_reducible refine LeO.ite ?_ ?_)
      | (with_reducible refine LeO.bind ?_ (fun _ => ?_))
      | exact ih0 _ _ _ _
      | exact ih1 _ _ _ _ _ _
      | exact verditerref02_Has.mono _ _ _
      | exact verditerref02_Validate.mono _ _ _
      | exact LeO.none _
      | refine LeO.ite ?_ ?_
      | refine LeO.bind ?_ (fun _ => ?_)
    · intro y0 y1 y2 y3 y4 y5
      unfold verditerref02_Turn.l1
      repeat' first
      | (with_reducible exact ih0 _ _ _ _)
      | (with_reducible exact ih1 _ _ _ _ _ _)
      | (with_reducible exact verditerref02_Has.mono _ _ _)
      | (with_reducible exact verditerref02_Validate.mono _ _ _)
      | (with_reducible exact LeO.refl _)
      | (with_reducible exact LeO.none _)
      | (with_reducible refine LeO.ite ?_ ?_)
      | (with_reducible refine LeO.bind ?_ (fun _ => ?_))
      | exact ih0 _ _ _ _
      | exact ih1 _ _ _ _ _ _
      | exact verditerref02_Has.mono _ _ _
      | exact verditerref02_Validate.mono _ _ _
      | exact LeO.none _
      | refine LeO.ite ?_ ?_
      | refine LeO.bind ?_ (fun _ => ?_)
theorem verditerref02_Turn.mono : ∀ a0 a1 k, LeO (verditerref02_Turn.f k a0 a1) (verditerref02_Turn.f (k + 1) a0 a1) := by
  intro a0 a1 k
  obtain ⟨ih0, ih1⟩ := verditerref02_Turn.mono_l k
  unfold verditerref02_Turn.f
  repeat' first
      | (with_reducible exact ih0 _ _ _ _)
      | (with_reducible exact ih1 _ _ _ _ _ _)
      | (with_reducible exact verditerref02_Has.mono _ _ _)
      | (with_reducible exact verditerref02_Validate.mono _ _ _)
      | (with_reducible exact LeO.refl _)
      | (with_reducible exact LeO.none _)
      | (with_reducible refine LeO.ite ?_ ?_)
      | (with_reducible refine LeO.bind ?_ (fun _ => ?_))
      | exact ih0 _ _ _ _
      | exact ih1 _ _ _ _ _ _
      | exact verditerref02_Has.mono _ _ _
      | exact verditerref02_Validate.mono _ _ _
      | exact LeO.none _
      | refine LeO.ite ?_ ?_
      | refine LeO.bind ?_ (fun _ => ?_)
set_option maxHeartbeats 8000000 in
set_option maxRecDepth 100000 in
theorem verditerref02_Turn.calls (k : Nat) (A0 : Option Addr) (c0 : Nat) (l0 : List (S49)) (a1 : Int) (r1 : List (S49)) (r2 : Int) (w : World) (hr0 : Kd.C k49 w A0 l0.length l0) (hc0 : l0.length ≤ c0) (h : verditerref02_Turn.f k l0 a1 = some (r1, r2)) :
    Calls Try.prog 68 #[.slice A0 l0.length c0, .int .i64 a1] w fun e w' => ∃ v0_ : Value, e = .returned (.tuple #[v0_, .int .i64 r2]) ∧ Kd.S k49 49 w' w.heap.size (fun _ => True) v0_ r1 ∧ Below w.heap.size w w' := by
  have hu49 := Try.underlying49
  have HR0 := Aside0.mk hr0
  have HC0 := Aside0.mk hc0
  clear hr0 hc0
  have HB := Aside0.mk (Below.refl w.heap.size w)
  have H : ((verditerref02_Validate.f k a1 l0).bind fun t328 => (if t328 = 0 then (verditerref02_Turn.l0 k l0 a1 ([] : List (S49)) 0) else (some (([] : List (S49)), t328)))) = some (r1, r2) := h
  clear h
  replace H := Option.bind_eq_some_iff.mp H
  obtain ⟨t328, A30, H⟩ := H
  replace H : (if t328 = 0 then (verditerref02_Turn.l0 k l0 a1 ([] : List (S49)) 0) else (some (([] : List (S49)), t328))) = some (r1, r2) := H
  have A3 := Aside0.mk A30
  clear A30
  by_cases c4 : t328 = 0
  · rw [if_pos c4] at H
    have c4b0 : (t328 == 0) = true := beq_iff_eq.mpr c4
    have c4b1 : (t328 != 0) = false := bne_eq_false_iff_eq.mpr c4
    clear c4
    have H' := Aside0.mk H
    clear H
    go_enter Try.func68, Try.ntmps68
    go_wp2_with (first | ((with_reducible refine gate_callee (f := 52) rfl ?_); refine goesL_ (some 13) rfl rfl Try.func52 (by kernel_rfl) rfl #[.int .i64 a1, .slice A0 l0.length c0] rfl (by (try simp only [List.map_toArray, List.map_cons, List.map_nil]); first | done | rfl | (simp only [List.length_drop, List.length_take]; rfl)) ?_; (with_reducible refine (verditerref02_Validate.calls k a1 _ _ l0 t328 _ ?side1 ?side2 A3.out).mono ?_); (case side1 => repeat (first | exact HR0.out | (with_reducible refine Kd.C_alloc ?_ _) | (with_reducible refine Kd.C_drewN ?_ _) | (with_reducible refine Kd.C_drew ?_))); (case side2 => exact HC0.out); rintro e w' ⟨rfl, ⟨nd, rfl⟩⟩; refine ⟨_, rfl, ?_⟩))
    go_loopg [7, 8] k (fun kq v7 v8 w' => ∃ (x7_1 : List (S49)) (x8_1 : Int), v8 = .int .i64 x8_1 ∧ Aside0 (verditerref02_Turn.l0 kq l0 a1 x7_1 x8_1 = some (r1, r2)) ∧ Aside0 (kq ≤ k) ∧ Aside0 (Kd.S k49 49 w' w.heap.size (fun _ => True) v7 x7_1) ∧ Aside0 (Below w.heap.size w w'))
    case atStart => exact ⟨(([] : List (S49))), (0), (by first | rfl | (simp; done) | (simp [*]; done)), H', ⟨Nat.le_refl _⟩, ⟨by first | exact Kd.S_nil _ _ _ _ _ | exact Kd.N_nil _ _ _ _ _ | exact Kd.V_nil _ _ _ _ _ | exact Kd.Q_nil _ _ _ _ _ | exact Kd.R_nil _ _ _ _ _⟩, ⟨by repeat (first | (with_reducible first | exact HB.out | apply below_alloc | apply pw_below_drewN | apply below_drew1) | exact HB.out)⟩⟩
    case round =>
      clear H'
      try clear p2
      try clear c4
      try clear c4b0
      try clear c4b1
      obtain ⟨x7_1, x8_1, rfl, HA, HK1, HO_7, HB⟩ := hrel
      cases gk with
      | zero => exact absurd HA.out (by simp [verditerref02_Turn.l0])
      | succ k1 =>
        have H := HA.out
        clear HA
        simp only [verditerref02_Turn.l0] at H
        by_cases c5 : x8_1 < (l0.length : Int)
        · rw [if_pos c5] at H
          have c5b0 : decide (x8_1 < (l0.length : Int)) = true := decide_eq_true c5
          clear c5
          have H' := Aside0.mk H
          clear H
          go_wp2
          go_loopg [9, 10] k1 (fun kq v9 v10 w' => ∃ (x9_2 : List Int) (x10_2 : Int), v10 = .int .i64 x10_2 ∧ Aside0 (verditerref02_Turn.l1 kq l0 a1 x7_1 x8_1 x9_2 x10_2 = some (r1, r2)) ∧ Aside0 (kq ≤ k1) ∧ Aside0 (Kd.S k49 49 w' w.heap.size (fun k_ => some k_ ≠ (v9 : Value).ownBlock) u7 x7_1) ∧ Aside0 (Kd.R (Kd.int .i64) 3 w' w.heap.size (fun _ => True) v9 x9_2) ∧ Aside0 (Below w.heap.size w w'))
          case atStart => exact ⟨(([] : List Int)), (0), (by first | rfl | (simp; done) | (simp [*]; done)), H', ⟨Nat.le_refl _⟩, ⟨by (with_reducible repeat (first | apply Kd.S_alloc | apply Kd.S_drewN | apply Kd.S_drew)); exact Kd.S_mono HO_7.out (fun _ hk => (by simp [Value.ownBlock]))⟩, ⟨by first | exact Kd.R_nil _ _ _ _ _ | exact Kd.N_nil _ _ _ _ _ | exact Kd.V_nil _ _ _ _ _ | exact Kd.Q_nil _ _ _ _ _ | exact Kd.S_nil _ _ _ _ _⟩, ⟨by repeat (first | (with_reducible first | exact HB.out | apply below_alloc | apply pw_below_drewN | apply below_drew1) | exact HB.out)⟩⟩
          case round =>
            clear H'
            try clear p2
            try clear c4
            try clear c4b0
            try clear c4b1
            try clear c5
            try clear c5b0
            try clear p2
            obtain ⟨x9_2, x10_2, rfl, HA, HK2, HO_7, HO_9, HB⟩ := hrel
            cases gk with
            | zero => exact absurd HA.out (by simp [verditerref02_Turn.l1])
            | succ k2 =>
              have H := HA.out
              clear HA
              simp only [verditerref02_Turn.l1] at H
              by_cases c6 : x10_2 < a1
              · rw [if_pos c6] at H
                have c6b0 : decide (x10_2 < a1) = true := decide_eq_true c6
                clear c6
                by_cases c7 : 0 ≤ x8_1
                · rw [if_pos c7] at H
                  have c7b0 : decide (0 ≤ x8_1) = true := decide_eq_true c7
                  clear c7
                  by_cases c8 : x8_1 < (l0.length : Int)
                  · rw [if_pos c8] at H
                    have c8b0 : decide (x8_1 < (l0.length : Int)) = true := decide_eq_true c8
                    clear c8
                    replace H := Option.bind_eq_some_iff.mp H
                    obtain ⟨t330, A90, H⟩ := H
                    replace H : (if t330 = true then (verditerref02_Turn.l1 k2 l0 a1 x7_1 x8_1 x9_2 (wrap64 (x10_2 + 1))) else (if x9_2.length < 17592186044416 then (verditerref02_Turn.l1 k2 l0 a1 x7_1 x8_1 (x9_2 ++ [x10_2]) (wrap64 (x10_2 + 1))) else (none))) = some (r1, r2) := H
                    have A9 := Aside0.mk A90
                    clear A90
                    by_cases c10 : t330 = true
                    · subst c10
                      have H1 : (verditerref02_Turn.l1 k2 l0 a1 x7_1 x8_1 x9_2 (wrap64 (x10_2 + 1))) = some (r1, r2) := by rw [if_pos rfl] at H; exact H
                      clear H
                      have H := H1
                      clear H1
                      have H' := Aside0.mk H
                      clear H
                      have p329 : 0 ≤ (x8_1 : Int) := of_decide_eq_true (by first | (with_reducible assumption) | assumption)
                      have q329 : x8_1 < (l0.length : Int) := of_decide_eq_true (by first | (with_reducible assumption) | assumption)
                      obtain ⟨ad329, A329_0, c329_0, e329, hx329_0, hx329_1, hl329_0, hi329_0⟩ := at_T49 HR0.out x8_1 p329 q329
                      cases e329
                      replace hx329_0 := (HB.out.cell (World.block_lt_of_cell? w _ hx329_0)).trans hx329_0
                      replace hx329_1 := (HB.out.cell (World.block_lt_of_cell? w _ hx329_1)).trans hx329_1
                      have HR329_0 := Aside0.mk hi329_0
                      have HC329_0 := Aside0.mk hl329_0
                      clear hi329_0 hl329_0
                      replace p329 := eq_true p329
                      replace q329 := eq_true q329
                      go_wp2_with (first | ((with_reducible refine gate_callee (f := 59) rfl ?_); refine goesL_ (some 34) rfl rfl Try.func59 (by kernel_rfl) rfl #[.slice A329_0 ((rd_T49 l0 x8_1).f0).length c329_0, .int .i64 x10_2] rfl (by (try simp only [List.map_toArray, List.map_cons, List.map_nil]); first | done | rfl | (simp only [List.length_drop, List.length_take]; rfl)) ?_; (with_reducible refine (verditerref02_Has.calls k2 _ _ ((rd_T49 l0 x8_1).f0) x10_2 true _ ?side1 ?side2 A9.out).mono ?_); (case side1 => repeat (first | exact (Kd.C_below HR329_0.out HB.out) | (with_reducible refine Kd.C_alloc ?_ _) | (with_reducible refine Kd.C_drewN ?_ _) | (with_reducible refine Kd.C_drew ?_))); (case side2 => exact HC329_0.out); rintro e w' ⟨rfl, ⟨nd, rfl⟩⟩; refine ⟨_, rfl, ?_⟩))
                      go_roundg k2
                      case measure => have := HK1.out; have := HK2.out; omega
                      case rel => exact ⟨(x9_2), (wrap64 (x10_2 + 1)), (by first | rfl | (simp; done) | (simp [*]; done)), H', ⟨by have := HK1.out; have := HK2.out; omega⟩, ⟨by (with_reducible repeat (first | apply Kd.S_alloc | apply Kd.S_drewN | apply Kd.S_drew)); exact HO_7.out⟩, ⟨by (with_reducible repeat (first | apply Kd.R_alloc | apply Kd.R_drewN | apply Kd.R_drew)); exact HO_9.out⟩, ⟨by repeat (first | (with_reducible first | exact HB.out | apply below_alloc | apply pw_below_drewN | apply below_drew1) | exact HB.out)⟩⟩
                    · replace c10 := Bool.eq_false_iff.mpr c10
                      subst c10
                      have H1 : (if x9_2.length < 17592186044416 then (verditerref02_Turn.l1 k2 l0 a1 x7_1 x8_1 (x9_2 ++ [x10_2]) (wrap64 (x10_2 + 1))) else (none)) = some (r1, r2) := by rw [if_neg (show ¬ (false = true) by decide)] at H; exact H
                      clear H
                      have H := H1
                      clear H1
                      by_cases c11 : x9_2.length < 17592186044416
                      · rw [if_pos c11] at H
                        have LMc11 := Aside0.mk c11
                        clear c11
                        obtain ⟨y331, hy331⟩ : ∃ y_ : List Int, y_ = (x9_2 ++ [x10_2]) := ⟨_, rfl⟩
                        replace H : (verditerref02_Turn.l1 k2 l0 a1 x7_1 x8_1 y331 (wrap64 (x10_2 + 1))) = some (r1, r2) := by first | (rw [hy331]; with_reducible exact H) | (have H2_ := (Option.bind_some _ _).symm.trans H; rw [hy331]; with_reducible exact H2_) | (have H2_ := (Option.bind_some _ _).symm.trans H; with_reducible exact H2_) | with_reducible exact H | (rw [hy331]; exact H) | exact H
                        have Ny331 := Aside0.mk hy331
                        clear hy331
                        have H' := Aside0.mk H
                        clear H
                        have p329 : 0 ≤ (x8_1 : Int) := of_decide_eq_true (by first | (with_reducible assumption) | assumption)
                        have q329 : x8_1 < (l0.length : Int) := of_decide_eq_true (by first | (with_reducible assumption) | assumption)
                        obtain ⟨ad329, A329_0, c329_0, e329, hx329_0, hx329_1, hl329_0, hi329_0⟩ := at_T49 HR0.out x8_1 p329 q329
                        cases e329
                        replace hx329_0 := (HB.out.cell (World.block_lt_of_cell? w _ hx329_0)).trans hx329_0
                        replace hx329_1 := (HB.out.cell (World.block_lt_of_cell? w _ hx329_1)).trans hx329_1
                        have HR329_0 := Aside0.mk hi329_0
                        have HC329_0 := Aside0.mk hl329_0
                        clear hi329_0 hl329_0
                        replace p329 := eq_true p329
                        replace q329 := eq_true q329
                        go_wp2_with (first | ((with_reducible refine gate_callee (f := 59) rfl ?_); refine goesL_ (some 34) rfl rfl Try.func59 (by kernel_rfl) rfl #[.slice A329_0 ((rd_T49 l0 x8_1).f0).length c329_0, .int .i64 x10_2] rfl (by (try simp only [List.map_toArray, List.map_cons, List.map_nil]); first | done | rfl | (simp only [List.length_drop, List.length_take]; rfl)) ?_; (with_reducible refine (verditerref02_Has.calls k2 _ _ ((rd_T49 l0 x8_1).f0) x10_2 false _ ?side1 ?side2 A9.out).mono ?_); (case side1 => repeat (first | exact (Kd.C_below HR329_0.out HB.out) | (with_reducible refine Kd.C_alloc ?_ _) | (with_reducible refine Kd.C_drewN ?_ _) | (with_reducible refine Kd.C_drew ?_))); (case side2 => exact HC329_0.out); rintro e w' ⟨rfl, ⟨nd, rfl⟩⟩; refine ⟨_, rfl, ?_⟩) | ((with_reducible refine gate_builtin (b := .append) (xs := #[.tmp 36, .tmp 38]) rfl ?_); at_builtin; refine Kd.R_append (Kd.int .i64) (w0 := w) w.heap.size rfl (.tmp 36) (.tmp 38) 47 3 (.int .i64 0) 8 rfl Try.underlying47 info3 rfl (by decide) (by omega) u9 x9_2 x10_2 [.int .i64 x10_2] (fun _ => True) (fun _ => False) rfl rfl ?aP (fun _ hk => hk.elim) ?aF ?aO ?aB ?aS ?aL ?_; (case aP => exact rfl); (case aB => exact (by repeat (first | (with_reducible first | exact HB.out | apply below_alloc | apply pw_below_drewN | apply below_drew1) | exact HB.out))); (case aF => exact (fun _ _ => trivial)); (case aO => exact (by (with_reducible repeat (first | apply Kd.R_alloc | apply Kd.R_drewN | apply Kd.R_drew)); exact HO_9.out)); (case aS => exact (below_size (by repeat (first | (with_reducible first | exact HB.out | apply below_alloc | apply pw_below_drewN | apply below_drew1) | exact HB.out)))); (case aL => have := LMc11.out; omega); intro v332 w12 ho hb hg hat; rw [← Ny331.out] at ho; have n0_ := Aside0.mk (Kd.S_after (ok := (fun _ => True)) (by (with_reducible repeat (first | apply Kd.S_alloc | apply Kd.S_drewN | apply Kd.S_drew)); exact Kd.S_mono HO_7.out (fun _ hk => ⟨trivial, hk⟩)) hg hat); have n1_ := Aside0.mk (hb); have n2_ := Aside0.mk (ho); clear HO_7; clear HB; clear HO_9; have HO_7 := n0_; have HB := n1_; have HO333 := n2_; clear n0_ n1_ n2_; clear ho hb hg hat))
                        go_roundg k2
                        case measure => have := HK1.out; have := HK2.out; omega
                        case rel => exact ⟨(y331), (wrap64 (x10_2 + 1)), (by first | rfl | (simp; done) | (simp [*]; done)), H', ⟨by have := HK1.out; have := HK2.out; omega⟩, ⟨by (with_reducible repeat (first | apply Kd.S_alloc | apply Kd.S_drewN | apply Kd.S_drew)); exact Kd.S_mono HO_7.out (fun _ hk => hk.2)⟩, ⟨by (with_reducible repeat (first | apply Kd.R_alloc | apply Kd.R_drewN | apply Kd.R_drew)); exact HO333.out⟩, ⟨by repeat (first | (with_reducible first | exact HB.out | apply below_alloc | apply pw_below_drewN | apply below_drew1) | exact HB.out)⟩⟩
                      · rw [if_neg c11] at H
                        exact absurd H (by simp)
                  · rw [if_neg c8] at H
                    exact absurd H (by simp)
                · rw [if_neg c7] at H
                  exact absurd H (by simp)
              · rw [if_neg c6] at H
                have c6b0 : decide (x10_2 < a1) = false := decide_eq_false c6
                clear c6
                by_cases c13 : 0 ≤ x8_1
                · rw [if_pos c13] at H
                  have c13b0 : decide (0 ≤ x8_1) = true := decide_eq_true c13
                  clear c13
                  by_cases c14 : x8_1 < (l0.length : Int)
                  · rw [if_pos c14] at H
                    have c14b0 : decide (x8_1 < (l0.length : Int)) = true := decide_eq_true c14
                    clear c14
                    by_cases c15 : x7_1.length < 4398046511104
                    · rw [if_pos c15] at H
                      have LMc15 := Aside0.mk c15
                      clear c15
                      obtain ⟨y335, hy335⟩ : ∃ y_ : List (S49), y_ = (x7_1 ++ [(⟨x9_2, !((rd_T49 l0 x8_1).f1)⟩ : S49)]) := ⟨_, rfl⟩
                      replace H : (verditerref02_Turn.l0 k2 l0 a1 y335 (wrap64 (x8_1 + 1))) = some (r1, r2) := by first | (rw [hy335]; with_reducible exact H) | (have H2_ := (Option.bind_some _ _).symm.trans H; rw [hy335]; with_reducible exact H2_) | (have H2_ := (Option.bind_some _ _).symm.trans H; with_reducible exact H2_) | with_reducible exact H | (rw [hy335]; exact H) | exact H
                      have Ny335 := Aside0.mk hy335
                      clear hy335
                      have H' := Aside0.mk H
                      clear H
                      have p334 : 0 ≤ (x8_1 : Int) := of_decide_eq_true (by first | (with_reducible assumption) | assumption)
                      have q334 : x8_1 < (l0.length : Int) := of_decide_eq_true (by first | (with_reducible assumption) | assumption)
                      obtain ⟨ad334, A334_0, c334_0, e334, hx334_0, hx334_1, hl334_0, hi334_0⟩ := at_T49 HR0.out x8_1 p334 q334
                      cases e334
                      replace hx334_0 := (HB.out.cell (World.block_lt_of_cell? w _ hx334_0)).trans hx334_0
                      replace hx334_1 := (HB.out.cell (World.block_lt_of_cell? w _ hx334_1)).trans hx334_1
                      have HR334_0 := Aside0.mk hi334_0
                      have HC334_0 := Aside0.mk hl334_0
                      clear hi334_0 hl334_0
                      replace p334 := eq_true p334
                      replace q334 := eq_true q334
                      obtain ⟨Ao16, co16, eo16⟩ := Kd.R_slice HO_9.out
                      subst eo16
                      go_wp2_with (first | ((with_reducible refine gate_builtin (b := .append) (xs := #[.tmp 40, .tmp 49]) rfl ?_); at_builtin; refine Kd.S_append k49 (w0 := w) w.heap.size rfl (.tmp 40) (.tmp 49) 29 49 (.agg #[(.slice none 0 0), (.bool false)]) 32 rfl Try.underlying29 info49 rfl (by decide) (by omega) u7 x7_1 (⟨x9_2, !((rd_T49 l0 x8_1).f1)⟩ : S49) [.slice Ao16 x9_2.length co16, .bool (!((rd_T49 l0 x8_1).f1))] (fun _ => True) (fun k_ => some k_ = (.slice Ao16 x9_2.length co16 : Value).ownBlock) rfl rfl ?aP (fun k_ hk_ => ((Kd.R_mono (ok' := fun k_ => ((fun _ => True)) k_ ∧ some k_ ≠ (u7 : Value).ownBlock) (Kd.R_apart' (HO_9.out) (Kd.S_typed HO_7.out) (by decide)) (fun k_ hk => ⟨trivial, hk.2⟩))).1 k_ hk_.symm) ?aF ?aO ?aB ?aS ?aL ?_; (case aP => exact k49_mkM _ _ _ (⟨x9_2, !((rd_T49 l0 x8_1).f1)⟩ : S49) (Kd.R_mono (Kd.R_tight rfl (Kd.R_mono (ok' := fun k_ => ((fun _ => True)) k_ ∧ some k_ ≠ (u7 : Value).ownBlock) (Kd.R_apart' (HO_9.out) (Kd.S_typed HO_7.out) (by decide)) (fun k_ hk => ⟨trivial, hk.2⟩))) (fun _ h_ => h_))); (case aB => exact (by repeat (first | (with_reducible first | exact HB.out | apply below_alloc | apply pw_below_drewN | apply below_drew1) | exact HB.out))); (case aF => exact (fun _ _ => trivial)); (case aO => exact (by (with_reducible repeat (first | apply Kd.S_alloc | apply Kd.S_drewN | apply Kd.S_drew)); exact Kd.S_mono HO_7.out (fun k_ hk => ⟨trivial, fun e_ => hk e_⟩))); (case aS => exact (below_size (by repeat (first | (with_reducible first | exact HB.out | apply below_alloc | apply pw_below_drewN | apply below_drew1) | exact HB.out)))); (case aL => have := LMc15.out; omega); intro v336 w17 ho hb hg hat; rw [← Ny335.out] at ho; have n0_ := Aside0.mk (hb); have n1_ := Aside0.mk (ho); clear HB; clear HO_7; clear HO_9; have HB := n0_; have HO337 := n1_; clear n0_ n1_; clear ho hb hg hat))
                      go_roundg k2
                      case measure => have := HK1.out; have := HK2.out; omega
                      case rel => exact ⟨(y335), (wrap64 (x8_1 + 1)), (by first | rfl | (simp; done) | (simp [*]; done)), H', ⟨by have := HK1.out; have := HK2.out; omega⟩, ⟨by (with_reducible repeat (first | apply Kd.S_alloc | apply Kd.S_drewN | apply Kd.S_drew)); exact HO337.out⟩, ⟨by repeat (first | (with_reducible first | exact HB.out | apply below_alloc | apply pw_below_drewN | apply below_drew1) | exact HB.out)⟩⟩
                    · rw [if_neg c15] at H
                      exact absurd H (by simp)
                  · rw [if_neg c14] at H
                    exact absurd H (by simp)
                · rw [if_neg c13] at H
                  exact absurd H (by simp)
        · rw [if_neg c5] at H
          have c5b0 : decide (x8_1 < (l0.length : Int)) = false := decide_eq_false c5
          clear c5
          simp only [Option.some.injEq, Prod.mk.injEq] at H
          obtain ⟨rfl, rfl⟩ := H
          go_wp2
          go_ret2
          exact ⟨_, by first | rfl | (simp [errW_none, errW_some] <;> rfl) | (simp [*, errW_none, errW_some] <;> rfl), by (with_reducible repeat (first | apply Kd.S_alloc | apply Kd.S_drewN | apply Kd.S_drew)); exact HO_7.out, by repeat (first | (with_reducible first | exact HB.out | apply below_alloc | apply pw_below_drewN | apply below_drew1) | exact HB.out)⟩
  · rw [if_neg c4] at H
    have c4b0 : (t328 == 0) = false := beq_eq_false_iff_ne.mpr c4
    have c4b1 : (t328 != 0) = true := bne_iff_ne.mpr c4
    simp only [Option.some.injEq, Prod.mk.injEq] at H
    obtain ⟨rfl, rfl⟩ := H
    go_enter Try.func68, Try.ntmps68
    go_wp2_with (first | ((with_reducible refine gate_callee (f := 52) rfl ?_); refine goesL_ (some 13) rfl rfl Try.func52 (by kernel_rfl) rfl #[.int .i64 a1, .slice A0 l0.length c0] rfl (by (try simp only [List.map_toArray, List.map_cons, List.map_nil]); first | done | rfl | (simp only [List.length_drop, List.length_take]; rfl)) ?_; (with_reducible refine (verditerref02_Validate.calls k a1 _ _ l0 t328 _ ?side1 ?side2 A3.out).mono ?_); (case side1 => repeat (first | exact HR0.out | (with_reducible refine Kd.C_alloc ?_ _) | (with_reducible refine Kd.C_drewN ?_ _) | (with_reducible refine Kd.C_drew ?_))); (case side2 => exact HC0.out); rintro e w' ⟨rfl, ⟨nd, rfl⟩⟩; refine ⟨_, rfl, ?_⟩))
    go_ret2
    exact ⟨_, by first | rfl | (simp [errW_none, errW_some] <;> rfl) | (simp [*, errW_none, errW_some] <;> rfl), by first | exact Kd.S_nil _ _ _ _ _ | exact Kd.N_nil _ _ _ _ _ | exact Kd.V_nil _ _ _ _ _ | exact Kd.Q_nil _ _ _ _ _ | exact Kd.R_nil _ _ _ _ _, by repeat (first | (with_reducible first | exact HB.out | apply below_alloc | apply pw_below_drewN | apply below_drew1) | exact HB.out)⟩

end Go.Proofs.Ytfejfljgdeglgaa.K
