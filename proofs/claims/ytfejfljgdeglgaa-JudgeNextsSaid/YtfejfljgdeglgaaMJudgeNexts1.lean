/- Texts of this claim in one file: K2, HI, HTA, K6, K7, HT, HSB. -/
import Derived.Test.YtfejfljgdeglgaaMJudgeNexts0
import Derived.BigQuiet
import Derived.Deep.WholeRow
import Derived.Deep.RegionWith

/- DERIVED by wip/pr.py: for each Go function named below a Lean function with the same answers, and that a call of it comes to these answers, for all arguments and memories, where the Lean function has an answer. -/
namespace Go.Proofs.Ytfejfljgdeglgaa.K
open Go.RowKit Go.Proofs.YtfejfljgdeglgaaW.PrintWords Go.Proofs.YtfejfljgdeglgaaW.PrintLast Go.Proofs.YtfejfljgdeglgaaW.PrintMore
attribute [local go_sem] max2_int min2_int max_two min_two max_three min_three max_four min_four   -- for this text's walks alone
set_option linter.unusedVariables false
set_option linter.unusedSimpArgs false

/-! ### judge_left: function 79 -/
def judge_left.l0 : Nat → Int → Int → List Int → List Int → Int → Int → Option (List Int)
  | 0, _, _, _, _, _, _ => none
  | k + 1, x2, x3, x9, x14, x15, x16 => if x16 < x15 then (if 0 ≤ x16 then (if x16 < (x14.length : Int) then ((judge_within.f (rd x14 x16) x2 x3).bind fun t127 => (if t127 = true then (if x9.length < 17592186044416 then (judge_left.l0 k x2 x3 (x9 ++ [x16]) x14 x15 (wrap64 (x16 + 1))) else (none)) else (judge_left.l0 k x2 x3 x9 x14 x15 (wrap64 (x16 + 1))))) else (none)) else (none)) else (some x9)
def judge_left.f (k : Nat) (a0 : Int) (l1 : List (S49)) (a2 : Int) (a3 : Int) : Option (List Int) := (judge_against.f k a0 l1).bind fun t123 => (judge_left.l0 k a2 a3 ([] : List Int) t123 (t123.length : Int) 0)
theorem judge_left.mono_l : ∀ k, (∀ y0 y1 y2 y3 y4 y5, LeO (judge_left.l0 k y0 y1 y2 y3 y4 y5) (judge_left.l0 (k + 1) y0 y1 y2 y3 y4 y5))
  | 0 => fun _ _ _ _ _ _ r h => by simp [judge_left.l0] at h
  | k + 1 => by
    have ih0 := judge_left.mono_l k
    · intro y0 y1 y2 y3 y4 y5
      unfold judge_left.l0
      repeat' first
      | (with_reducible exact ih0 _ _ _ _ _ _)
      | (with_reducible exact judge_against.mono _ _ _)
      | (with_reducible exact LeO.refl _)
      | (with_reducible exact LeO.none _)
      | (with_reducible refine LeO.ite ?_ ?_)
      | (with_reducible refine LeO.bind ?_ (fun _ => ?_))
      | exact ih0 _ _ _ _ _ _
      | exact judge_against.mono _ _ _
      | exact LeO.none _
      | refine LeO.ite ?_ ?_
      | refine LeO.bind ?_ (fun _ => ?_)
theorem judge_left.mono : ∀ a0 a1 a2 a3 k, LeO (judge_left.f k a0 a1 a2 a3) (judge_left.f (k + 1) a0 a1 a2 a3) := by
  intro a0 a1 a2 a3 k
  have ih0 := judge_left.mono_l k
  unfold judge_left.f
  repeat' first
      | (with_reducible exact ih0 _ _ _ _ _ _)
      | (with_reducible exact judge_against.mono _ _ _)
      | (with_reducible exact LeO.refl _)
      | (with_reducible exact LeO.none _)
      | (with_reducible refine LeO.ite ?_ ?_)
      | (with_reducible refine LeO.bind ?_ (fun _ => ?_))
      | exact ih0 _ _ _ _ _ _
      | exact judge_against.mono _ _ _
      | exact LeO.none _
      | refine LeO.ite ?_ ?_
      | refine LeO.bind ?_ (fun _ => ?_)
set_option maxHeartbeats 8000000 in
set_option maxRecDepth 100000 in
theorem judge_left.calls (k : Nat) (a0 : Int) (A1 : Option Addr) (c1 : Nat) (l1 : List (S49)) (a2 : Int) (a3 : Int) (r : List Int) (w : World) (hr1 : Kd.C k49 w A1 l1.length l1) (hc1 : l1.length ≤ c1) (h : judge_left.f k a0 l1 a2 a3 = some r) :
    Calls Try.prog 79 #[.int .i64 a0, .slice A1 l1.length c1, .int .i64 a2, .int .i64 a3] w fun e w' => ∃ v0_ : Value, e = .returned (v0_) ∧ Kd.R (Kd.int .i64) 3 w' w.heap.size (fun _ => True) v0_ r ∧ Below w.heap.size w w' := by
  have HR1 := Aside0.mk hr1
  have HC1 := Aside0.mk hc1
  clear hr1 hc1
  have HB := Aside0.mk (Below.refl w.heap.size w)
  have H : ((judge_against.f k a0 l1).bind fun t123 => (judge_left.l0 k a2 a3 ([] : List Int) t123 (t123.length : Int) 0)) = some r := h
  clear h
  replace H := Option.bind_eq_some_iff.mp H
  obtain ⟨t123, A50, H⟩ := H
  replace H : (judge_left.l0 k a2 a3 ([] : List Int) t123 (t123.length : Int) 0) = some r := H
  have A5 := Aside0.mk A50
  clear A50
  have H' := Aside0.mk H
  clear H
  go_enter Try.func79, Try.ntmps79
  go_wp2_with (first | ((with_reducible refine gate_callee (f := 81) rfl ?_); refine goesL_ (some 14) rfl rfl Try.func81 (by kernel_rfl) rfl #[.int .i64 a0, .slice A1 l1.length c1] rfl (by (try simp only [List.map_toArray, List.map_cons, List.map_nil]); first | done | rfl | (simp only [List.length_drop, List.length_take]; rfl)) ?_; (with_reducible refine (judge_against.calls k a0 _ _ l1 t123 _ ?side1 ?side2 A5.out).mono ?_); (case side1 => repeat (first | exact HR1.out | (with_reducible refine Kd.C_alloc ?_ _) | (with_reducible refine Kd.C_drewN ?_ _) | (with_reducible refine Kd.C_drew ?_))); (case side2 => exact HC1.out); rintro e w6 ⟨v124, rfl, ho0, hb⟩; refine ⟨_, rfl, ?_⟩; have n0_ := Aside0.mk (Kd.R_lower ho0 (below_size (by repeat (first | (with_reducible first | exact HB.out | apply below_alloc | apply pw_below_drewN | apply below_drew1) | exact HB.out)))); have n1_ := Aside0.mk (below_step (by repeat (first | (with_reducible first | exact HB.out | apply below_alloc | apply pw_below_drewN | apply below_drew1) | exact HB.out)) hb); clear HB; have HO125 := n0_; have HB := n1_; clear n0_ n1_; (try clear hb); (try clear hb2); (try clear hk); (try clear hi); (try clear ho0); obtain ⟨Ao7, co7, eo7⟩ := Kd.R_slice HO125.out; subst eo7))
  go_loopg [9, 16] k (fun kq v9 v16 w' => ∃ (x9_1 : List Int) (x16_1 : Int), v16 = .int .i64 x16_1 ∧ Aside0 (judge_left.l0 kq a2 a3 x9_1 t123 (t123.length : Int) x16_1 = some r) ∧ Aside0 (kq ≤ k) ∧ Aside0 (Kd.R (Kd.int .i64) 3 w' w.heap.size (fun k_ => some k_ ≠ ((.slice Ao7 t123.length co7) : Value).ownBlock) v9 x9_1) ∧ Aside0 (Kd.R (Kd.int .i64) 3 w' w.heap.size (fun k_ => some k_ ≠ (v9 : Value).ownBlock) (.slice Ao7 t123.length co7) t123) ∧ Aside0 (Below w.heap.size w w'))
  case atStart => exact ⟨(([] : List Int)), (0), (by first | rfl | (simp; done) | (simp [*]; done)), H', ⟨Nat.le_refl _⟩, ⟨by first | exact Kd.R_nil _ _ _ _ _ | exact Kd.N_nil _ _ _ _ _ | exact Kd.V_nil _ _ _ _ _ | exact Kd.Q_nil _ _ _ _ _ | exact Kd.S_nil _ _ _ _ _⟩, ⟨by (with_reducible repeat (first | apply Kd.R_alloc | apply Kd.R_drewN | apply Kd.R_drew)); exact Kd.R_mono HO125.out (fun _ hk => (by simp [Value.ownBlock]))⟩, ⟨by repeat (first | (with_reducible first | exact HB.out | apply below_alloc | apply pw_below_drewN | apply below_drew1) | exact HB.out)⟩⟩
  case round =>
    clear H'
    try clear c1
    try clear p2
    try clear c7
    obtain ⟨x9_1, x16_1, rfl, HA, HK1, HO_9, HO_14, HB⟩ := hrel
    cases gk with
    | zero => exact absurd HA.out (by simp [judge_left.l0])
    | succ k1 =>
      have H := HA.out
      clear HA
      simp only [judge_left.l0] at H
      by_cases c8 : x16_1 < (t123.length : Int)
      · rw [if_pos c8] at H
        have c8b0 : decide (x16_1 < (t123.length : Int)) = true := decide_eq_true c8
        clear c8
        by_cases c9 : 0 ≤ x16_1
        · rw [if_pos c9] at H
          have c9b0 : decide (0 ≤ x16_1) = true := decide_eq_true c9
          clear c9
          by_cases c10 : x16_1 < (t123.length : Int)
          · rw [if_pos c10] at H
            have c10b0 : decide (x16_1 < (t123.length : Int)) = true := decide_eq_true c10
            clear c10
            replace H := Option.bind_eq_some_iff.mp H
            obtain ⟨t127, A110, H⟩ := H
            replace H : (if t127 = true then (if x9_1.length < 17592186044416 then (judge_left.l0 k1 a2 a3 (x9_1 ++ [x16_1]) t123 (t123.length : Int) (wrap64 (x16_1 + 1))) else (none)) else (judge_left.l0 k1 a2 a3 x9_1 t123 (t123.length : Int) (wrap64 (x16_1 + 1)))) = some r := H
            have A11 := Aside0.mk A110
            clear A110
            by_cases c12 : t127 = true
            · subst c12
              have H1 : (if x9_1.length < 17592186044416 then (judge_left.l0 k1 a2 a3 (x9_1 ++ [x16_1]) t123 (t123.length : Int) (wrap64 (x16_1 + 1))) else (none)) = some r := by rw [if_pos rfl] at H; exact H
              clear H
              have H := H1
              clear H1
              by_cases c13 : x9_1.length < 17592186044416
              · rw [if_pos c13] at H
                have LMc13 := Aside0.mk c13
                clear c13
                obtain ⟨y128, hy128⟩ : ∃ y_ : List Int, y_ = (x9_1 ++ [x16_1]) := ⟨_, rfl⟩
                replace H : (judge_left.l0 k1 a2 a3 y128 t123 (t123.length : Int) (wrap64 (x16_1 + 1))) = some r := by first | (rw [hy128]; with_reducible exact H) | (have H2_ := (Option.bind_some _ _).symm.trans H; rw [hy128]; with_reducible exact H2_) | (have H2_ := (Option.bind_some _ _).symm.trans H; with_reducible exact H2_) | with_reducible exact H | (rw [hy128]; exact H) | exact H
                have Ny128 := Aside0.mk hy128
                clear hy128
                have H' := Aside0.mk H
                clear H
                have p126 : 0 ≤ (x16_1 : Int) := of_decide_eq_true (by first | (with_reducible assumption) | assumption)
                have q126 : x16_1 < (t123.length : Int) := of_decide_eq_true (by first | (with_reducible assumption) | assumption)
                obtain ⟨ad126, e126, hx126_0⟩ := Kd.at_int (Kd.R_reads' HO_14.out).2.2 x16_1 p126 q126
                cases e126
                replace p126 := eq_true p126
                replace q126 := eq_true q126
                go_wp2_with (first | ((with_reducible refine gate_callee (f := 78) rfl ?_); refine goesL_ (some 24) rfl rfl Try.func78 (by kernel_rfl) rfl #[.int .i64 (rd t123 x16_1), .int .i64 a2, .int .i64 a3] rfl (by (try simp only [List.map_toArray, List.map_cons, List.map_nil]); first | done | rfl | (simp only [List.length_drop, List.length_take]; rfl)) ?_; (with_reducible refine (judge_within.calls (rd t123 x16_1) a2 a3 true _ A11.out).mono ?_); rintro e w' ⟨rfl, ⟨nd, rfl⟩⟩; refine ⟨_, rfl, ?_⟩) | ((with_reducible refine gate_builtin (b := .append) (xs := #[.tmp 25, .tmp 27]) rfl ?_); at_builtin; refine Kd.R_append (Kd.int .i64) (w0 := w) w.heap.size rfl (.tmp 25) (.tmp 27) 47 3 (.int .i64 0) 8 rfl Try.underlying47 info3 rfl (by decide) (by omega) u9 x9_1 x16_1 [.int .i64 x16_1] (fun k_ => some k_ ≠ (.slice (some ad126) t123.length co7 : Value).ownBlock) (fun _ => False) rfl rfl ?aP (fun _ hk => hk.elim) ?aF ?aO ?aB ?aS ?aL ?_; (case aP => exact rfl); (case aB => exact (by repeat (first | (with_reducible first | exact HB.out | apply below_alloc | apply pw_below_drewN | apply below_drew1) | exact HB.out))); (case aF => exact (fun k_ hk => Kd.fresh' (Kd.R_lt (by (with_reducible repeat (first | apply Kd.R_alloc | apply Kd.R_drewN | apply Kd.R_drew)); exact HO_14.out)) k_ hk)); (case aO => exact (by (with_reducible repeat (first | apply Kd.R_alloc | apply Kd.R_drewN | apply Kd.R_drew)); exact HO_9.out)); (case aS => exact (below_size (by repeat (first | (with_reducible first | exact HB.out | apply below_alloc | apply pw_below_drewN | apply below_drew1) | exact HB.out)))); (case aL => have := LMc13.out; omega); intro v129 w14 ho hb hg hat; rw [← Ny128.out] at ho; have n0_ := Aside0.mk (Kd.R_after (ok := (fun _ => True)) (by (with_reducible repeat (first | apply Kd.R_alloc | apply Kd.R_drewN | apply Kd.R_drew)); exact Kd.R_mono HO_14.out (fun _ hk => ⟨trivial, hk⟩)) hg hat); have n1_ := Aside0.mk (hb); have n2_ := Aside0.mk (ho); clear HO_14; clear HB; clear HO_9; have HO_14 := n0_; have HB := n1_; have HO130 := n2_; clear n0_ n1_ n2_; clear ho hb hg hat))
                go_roundg k1
                case measure => have := HK1.out; omega
                case rel => exact ⟨(y128), (wrap64 (x16_1 + 1)), (by first | rfl | (simp; done) | (simp [*]; done)), H', ⟨by have := HK1.out; omega⟩, ⟨by (with_reducible repeat (first | apply Kd.R_alloc | apply Kd.R_drewN | apply Kd.R_drew)); exact HO130.out⟩, ⟨by (with_reducible repeat (first | apply Kd.R_alloc | apply Kd.R_drewN | apply Kd.R_drew)); exact Kd.R_mono HO_14.out (fun _ hk => hk.2)⟩, ⟨by repeat (first | (with_reducible first | exact HB.out | apply below_alloc | apply pw_below_drewN | apply below_drew1) | exact HB.out)⟩⟩
              · rw [if_neg c13] at H
                exact absurd H (by simp)
            · replace c12 := Bool.eq_false_iff.mpr c12
              subst c12
              have H1 : (judge_left.l0 k1 a2 a3 x9_1 t123 (t123.length : Int) (wrap64 (x16_1 + 1))) = some r := by rw [if_neg (show ¬ (false = true) by decide)] at H; exact H
              clear H
              have H := H1
              clear H1
              have H' := Aside0.mk H
              clear H
              have p126 : 0 ≤ (x16_1 : Int) := of_decide_eq_true (by first | (with_reducible assumption) | assumption)
              have q126 : x16_1 < (t123.length : Int) := of_decide_eq_true (by first | (with_reducible assumption) | assumption)
              obtain ⟨ad126, e126, hx126_0⟩ := Kd.at_int (Kd.R_reads' HO_14.out).2.2 x16_1 p126 q126
              cases e126
              replace p126 := eq_true p126
              replace q126 := eq_true q126
              go_wp2_with (first | ((with_reducible refine gate_callee (f := 78) rfl ?_); refine goesL_ (some 24) rfl rfl Try.func78 (by kernel_rfl) rfl #[.int .i64 (rd t123 x16_1), .int .i64 a2, .int .i64 a3] rfl (by (try simp only [List.map_toArray, List.map_cons, List.map_nil]); first | done | rfl | (simp only [List.length_drop, List.length_take]; rfl)) ?_; (with_reducible refine (judge_within.calls (rd t123 x16_1) a2 a3 false _ A11.out).mono ?_); rintro e w' ⟨rfl, ⟨nd, rfl⟩⟩; refine ⟨_, rfl, ?_⟩))
              go_roundg k1
              case measure => have := HK1.out; omega
              case rel => exact ⟨(x9_1), (wrap64 (x16_1 + 1)), (by first | rfl | (simp; done) | (simp [*]; done)), H', ⟨by have := HK1.out; omega⟩, ⟨by (with_reducible repeat (first | apply Kd.R_alloc | apply Kd.R_drewN | apply Kd.R_drew)); exact HO_9.out⟩, ⟨by (with_reducible repeat (first | apply Kd.R_alloc | apply Kd.R_drewN | apply Kd.R_drew)); exact HO_14.out⟩, ⟨by repeat (first | (with_reducible first | exact HB.out | apply below_alloc | apply pw_below_drewN | apply below_drew1) | exact HB.out)⟩⟩
          · rw [if_neg c10] at H
            exact absurd H (by simp)
        · rw [if_neg c9] at H
          exact absurd H (by simp)
      · rw [if_neg c8] at H
        have c8b0 : decide (x16_1 < (t123.length : Int)) = false := decide_eq_false c8
        clear c8
        obtain rfl := Option.some.inj H
        go_wp2
        go_ret
        exact ⟨_, by first | rfl | (simp [errW_none, errW_some] <;> rfl) | (simp [*, errW_none, errW_some] <;> rfl), by (with_reducible repeat (first | apply Kd.R_alloc | apply Kd.R_drewN | apply Kd.R_drew)); exact Kd.R_mono HO_9.out (fun _ hk => trivial), by repeat (first | (with_reducible first | exact HB.out | apply below_alloc | apply pw_below_drewN | apply below_drew1) | exact HB.out)⟩

/-! ### verditerlaw02_Long: function 48 -/
def verditerlaw02_Long.l0 : Nat → List (S49) → Int → Option (Bool)
  | 0, _, _ => none
  | k + 1, x0, x3 => if x3 < (x0.length : Int) then (if 0 ≤ x3 then (if (((rd_T49 x0 x3).f0).length : Int) > 100 then (some true) else (verditerlaw02_Long.l0 k x0 (wrap64 (x3 + 1)))) else (none)) else (some false)
def verditerlaw02_Long.f (k : Nat) (l0 : List (S49)) : Option (Bool) := if (l0.length : Int) > 100 then (some true) else (verditerlaw02_Long.l0 k l0 0)
theorem verditerlaw02_Long.mono_l : ∀ k, (∀ y0 y1, LeO (verditerlaw02_Long.l0 k y0 y1) (verditerlaw02_Long.l0 (k + 1) y0 y1))
  | 0 => fun _ _ r h => by simp [verditerlaw02_Long.l0] at h
  | k + 1 => by
    have ih0 := verditerlaw02_Long.mono_l k
    · intro y0 y1
      unfold verditerlaw02_Long.l0
      repeat' first
      | (with_reducible exact ih0 _ _)
      | (with_reducible exact LeO.refl _)
      | (with_reducible exact LeO.none _)
      | (with_reducible refine LeO.ite ?_ ?_)
      | (with_reducible refine LeO.bind ?_ (fun _ => ?_))
      | exact ih0 _ _
      | exact LeO.none _
      | refine LeO.ite ?_ ?_
      | refine LeO.bind ?_ (fun _ => ?_)
theorem verditerlaw02_Long.mono : ∀ a0 k, LeO (verditerlaw02_Long.f k a0) (verditerlaw02_Long.f (k + 1) a0) := by
  intro a0 k
  have ih0 := verditerlaw02_Long.mono_l k
  unfold verditerlaw02_Long.f
  repeat' first
      | (with_reducible exact ih0 _ _)
      | (with_reducible exact LeO.refl _)
      | (with_reducible exact LeO.none _)
      | (with_reducible refine LeO.ite ?_ ?_)
      | (with_reducible refine LeO.bind ?_ (fun _ => ?_))
      | exact ih0 _ _
      | exact LeO.none _
      | refine LeO.ite ?_ ?_
      | refine LeO.bind ?_ (fun _ => ?_)
set_option maxHeartbeats 8000000 in
set_option maxRecDepth 100000 in
theorem verditerlaw02_Long.calls (k : Nat) (A0 : Option Addr) (c0 : Nat) (l0 : List (S49)) (r : Bool) (w : World) (hr0 : Kd.C k49 w A0 l0.length l0) (hc0 : l0.length ≤ c0) (h : verditerlaw02_Long.f k l0 = some r) :
    Calls Try.prog 48 #[.slice A0 l0.length c0] w fun e w' => e = .returned (.bool r) ∧ Drawn0 w w' := by
  have HR0 := Aside0.mk hr0
  have HC0 := Aside0.mk hc0
  clear hr0 hc0
  have H : (if (l0.length : Int) > 100 then (some true) else (verditerlaw02_Long.l0 k l0 0)) = some r := h
  clear h
  by_cases c2 : (l0.length : Int) > 100
  · rw [if_pos c2] at H
    have c2b0 : decide (100 < (l0.length : Int)) = true := decide_eq_true c2
    have c2b1 : decide (100 < l0.length) = true := decide_eq_true (by omega)
    clear c2
    obtain rfl := Option.some.inj H
    go_enter Try.func48, Try.ntmps48
    go_wp2
    go_ret
    exact ⟨by first | rfl | (simp; done) | (simp [*]; done), by repeat (first | exact Drawn0.refl _ | apply Drawn0.step)⟩
  · rw [if_neg c2] at H
    have c2b0 : decide (100 < (l0.length : Int)) = false := decide_eq_false c2
    have c2b1 : decide (100 < l0.length) = false := decide_eq_false (by omega)
    clear c2
    have H' := Aside0.mk H
    clear H
    go_enter Try.func48, Try.ntmps48
    go_wp2
    go_loopg [3] k (fun kq v3 w' => ∃ (x3_1 : Int), v3 = .int .i64 x3_1 ∧ Aside0 (verditerlaw02_Long.l0 kq l0 x3_1 = some r) ∧ Aside0 (kq ≤ k) ∧ Drawn0 w w')
    case atStart => exact ⟨(0), (by first | rfl | (simp; done) | (simp [*]; done)), H', ⟨Nat.le_refl _⟩, by repeat (first | exact Drawn0.refl _ | apply Drawn0.step)⟩
    case round =>
      clear H'
      try clear c2
      try clear c2b0
      try clear c2b1
      try clear p2
      obtain ⟨x3_1, rfl, HA, HK1, ⟨m1, rfl⟩⟩ := hrel
      cases gk with
      | zero => exact absurd HA.out (by simp [verditerlaw02_Long.l0])
      | succ k1 =>
        have H := HA.out
        clear HA
        simp only [verditerlaw02_Long.l0] at H
        by_cases c3 : x3_1 < (l0.length : Int)
        · rw [if_pos c3] at H
          have c3b0 : decide (x3_1 < (l0.length : Int)) = true := decide_eq_true c3
          clear c3
          by_cases c4 : 0 ≤ x3_1
          · rw [if_pos c4] at H
            have c4b0 : decide (0 ≤ x3_1) = true := decide_eq_true c4
            clear c4
            by_cases c5 : (((rd_T49 l0 x3_1).f0).length : Int) > 100
            · rw [if_pos c5] at H
              have c5b0 : decide (100 < (((rd_T49 l0 x3_1).f0).length : Int)) = true := decide_eq_true c5
              have c5b1 : decide (100 < ((rd_T49 l0 x3_1).f0).length) = true := decide_eq_true (by omega)
              clear c5
              obtain rfl := Option.some.inj H
              have p154 : 0 ≤ (x3_1 : Int) := of_decide_eq_true (by first | (with_reducible assumption) | assumption)
              have q154 : x3_1 < (l0.length : Int) := of_decide_eq_true (by first | (with_reducible assumption) | assumption)
              obtain ⟨ad154, A154_0, c154_0, e154, hx154_0, hx154_1, hl154_0, hi154_0⟩ := at_T49 HR0.out x3_1 p154 q154
              cases e154
              have HR154_0 := Aside0.mk hi154_0
              have HC154_0 := Aside0.mk hl154_0
              clear hi154_0 hl154_0
              replace p154 := eq_true p154
              replace q154 := eq_true q154
              go_wp2
              go_ret
              exact ⟨by first | rfl | (simp; done) | (simp [*]; done), by repeat (first | exact Drawn0.refl _ | apply Drawn0.step)⟩
            · rw [if_neg c5] at H
              have c5b0 : decide (100 < (((rd_T49 l0 x3_1).f0).length : Int)) = false := decide_eq_false c5
              have c5b1 : decide (100 < ((rd_T49 l0 x3_1).f0).length) = false := decide_eq_false (by omega)
              clear c5
              have H' := Aside0.mk H
              clear H
              have p154 : 0 ≤ (x3_1 : Int) := of_decide_eq_true (by first | (with_reducible assumption) | assumption)
              have q154 : x3_1 < (l0.length : Int) := of_decide_eq_true (by first | (with_reducible assumption) | assumption)
              obtain ⟨ad154, A154_0, c154_0, e154, hx154_0, hx154_1, hl154_0, hi154_0⟩ := at_T49 HR0.out x3_1 p154 q154
              cases e154
              have HR154_0 := Aside0.mk hi154_0
              have HC154_0 := Aside0.mk hl154_0
              clear hi154_0 hl154_0
              replace p154 := eq_true p154
              replace q154 := eq_true q154
              go_wp2
              go_roundg k1
              case measure => have := HK1.out; omega
              case rel => exact ⟨(wrap64 (x3_1 + 1)), (by first | rfl | (simp; done) | (simp [*]; done)), H', ⟨by have := HK1.out; omega⟩, by repeat (first | exact Drawn0.refl _ | apply Drawn0.step)⟩
          · rw [if_neg c4] at H
            exact absurd H (by simp)
        · rw [if_neg c3] at H
          have c3b0 : decide (x3_1 < (l0.length : Int)) = false := decide_eq_false c3
          clear c3
          obtain rfl := Option.some.inj H
          go_wp2
          go_ret
          exact ⟨by first | rfl | (simp; done) | (simp [*]; done), by repeat (first | exact Drawn0.refl _ | apply Drawn0.step)⟩

/-! ### verditerref02_within: function 61 -/
def verditerref02_within.f (a0 : Int) (a1 : Int) (a2 : Int) : Option (Bool) := if a0 ≥ a1 then (some (decide (a0 ≤ a2))) else (some false)
set_option maxHeartbeats 8000000 in
set_option maxRecDepth 100000 in
theorem verditerref02_within.calls (a0 : Int) (a1 : Int) (a2 : Int) (r : Bool) (w : World) (h : verditerref02_within.f a0 a1 a2 = some r) :
    Calls Try.prog 61 #[.int .i64 a0, .int .i64 a1, .int .i64 a2] w fun e w' => e = .returned (.bool r) ∧ Drawn0 w w' := by
  have H : (if a0 ≥ a1 then (some (decide (a0 ≤ a2))) else (some false)) = some r := h
  clear h
  by_cases c4 : a0 ≥ a1
  · rw [if_pos c4] at H
    have c4b0 : decide (a1 ≤ a0) = true := decide_eq_true c4
    clear c4
    obtain rfl := Option.some.inj H
    go_enter Try.func61, Try.ntmps61
    go_wp2
    go_ret
    exact ⟨by first | rfl | (simp; done) | (simp [*]; done), by repeat (first | exact Drawn0.refl _ | apply Drawn0.step)⟩
  · rw [if_neg c4] at H
    have c4b0 : decide (a1 ≤ a0) = false := decide_eq_false c4
    clear c4
    obtain rfl := Option.some.inj H
    go_enter Try.func61, Try.ntmps61
    go_wp2
    go_ret
    exact ⟨by first | rfl | (simp; done) | (simp [*]; done), by repeat (first | exact Drawn0.refl _ | apply Drawn0.step)⟩

/-! ### verditerref02_Has: function 59 -/
def verditerref02_Has.l0 : Nat → List Int → Int → Int → Option (Bool)
  | 0, _, _, _ => none
  | k + 1, x0, x1, x5 => if x5 < (x0.length : Int) then (if 0 ≤ x5 then (if (rd x0 x5) = x1 then (some true) else (verditerref02_Has.l0 k x0 x1 (wrap64 (x5 + 1)))) else (none)) else (some false)
def verditerref02_Has.f (k : Nat) (l0 : List Int) (a1 : Int) : Option (Bool) := verditerref02_Has.l0 k l0 a1 0
theorem verditerref02_Has.mono_l : ∀ k, (∀ y0 y1 y2, LeO (verditerref02_Has.l0 k y0 y1 y2) (verditerref02_Has.l0 (k + 1) y0 y1 y2))
  | 0 => fun _ _ _ r h => by simp [verditerref02_Has.l0] at h
  | k + 1 => by
    have ih0 := verditerref02_Has.mono_l k
    · intro y0 y1 y2
      unfold verditerref02_Has.l0
      repeat' first
      | (with_reducible exact ih0 _ _ _)
      | (with_reducible exact LeO.refl _)
      | (with_reducible exact LeO.none _)
      | (with_reducible refine LeO.ite ?_ ?_)
      | (with_reducible refine LeO.bind ?_ (fun _ => ?_))
      | exact ih0 _ _ _
      | exact LeO.none _
      | refine LeO.ite ?_ ?_
      | refine LeO.bind ?_ (fun _ => ?_)
theorem verditerref02_Has.mono : ∀ a0 a1 k, LeO (verditerref02_Has.f k a0 a1) (verditerref02_Has.f (k + 1) a0 a1) := by
  intro a0 a1 k
  have ih0 := verditerref02_Has.mono_l k
  unfold verditerref02_Has.f
  repeat' first
      | (with_reducible exact ih0 _ _ _)
      | (with_reducible exact LeO.refl _)
      | (with_reducible exact LeO.none _)
      | (with_reducible refine LeO.ite ?_ ?_)
      | (with_reducible refine LeO.bind ?_ (fun _ => ?_))
      | exact ih0 _ _ _
      | exact LeO.none _
      | refine LeO.ite ?_ ?_
      | refine LeO.bind ?_ (fun _ => ?_)
set_option maxHeartbeats 8000000 in
set_option maxRecDepth 100000 in
theorem verditerref02_Has.calls (k : Nat) (A0 : Option Addr) (c0 : Nat) (l0 : List Int) (a1 : Int) (r : Bool) (w : World) (hr0 : Kd.C (Kd.int .i64) w A0 l0.length l0) (hc0 : l0.length ≤ c0) (h : verditerref02_Has.f k l0 a1 = some r) :
    Calls Try.prog 59 #[.slice A0 l0.length c0, .int .i64 a1] w fun e w' => e = .returned (.bool r) ∧ Drawn0 w w' := by
  have HR0 := Aside0.mk hr0
  have HC0 := Aside0.mk hc0
  clear hr0 hc0
  have H : (verditerref02_Has.l0 k l0 a1 0) = some r := h
  clear h
  have H' := Aside0.mk H
  clear H
  go_enter Try.func59, Try.ntmps59
  go_wp2
  go_loopg [5] k (fun kq v5 w' => ∃ (x5_1 : Int), v5 = .int .i64 x5_1 ∧ Aside0 (verditerref02_Has.l0 kq l0 a1 x5_1 = some r) ∧ Aside0 (kq ≤ k) ∧ Drawn0 w w')
  case atStart => exact ⟨(0), (by first | rfl | (simp; done) | (simp [*]; done)), H', ⟨Nat.le_refl _⟩, by repeat (first | exact Drawn0.refl _ | apply Drawn0.step)⟩
  case round =>
    clear H'
    try clear p2
    obtain ⟨x5_1, rfl, HA, HK1, ⟨m1, rfl⟩⟩ := hrel
    cases gk with
    | zero => exact absurd HA.out (by simp [verditerref02_Has.l0])
    | succ k1 =>
      have H := HA.out
      clear HA
      simp only [verditerref02_Has.l0] at H
      by_cases c3 : x5_1 < (l0.length : Int)
      · rw [if_pos c3] at H
        have c3b0 : decide (x5_1 < (l0.length : Int)) = true := decide_eq_true c3
        clear c3
        by_cases c4 : 0 ≤ x5_1
        · rw [if_pos c4] at H
          have c4b0 : decide (0 ≤ x5_1) = true := decide_eq_true c4
          clear c4
          by_cases c5 : (rd l0 x5_1) = a1
          · rw [if_pos c5] at H
            have c5b0 : ((rd l0 x5_1) == a1) = true := beq_iff_eq.mpr c5
            have c5b1 : ((rd l0 x5_1) != a1) = false := bne_eq_false_iff_eq.mpr c5
            clear c5
            obtain rfl := Option.some.inj H
            have p158 : 0 ≤ (x5_1 : Int) := of_decide_eq_true (by first | (with_reducible assumption) | assumption)
            have q158 : x5_1 < (l0.length : Int) := of_decide_eq_true (by first | (with_reducible assumption) | assumption)
            obtain ⟨ad158, e158, hx158_0⟩ := Kd.at_int HR0.out x5_1 p158 q158
            cases e158
            replace p158 := eq_true p158
            replace q158 := eq_true q158
            go_wp2
            go_ret
            exact ⟨by first | rfl | (simp; done) | (simp [*]; done), by repeat (first | exact Drawn0.refl _ | apply Drawn0.step)⟩
          · rw [if_neg c5] at H
            have c5b0 : ((rd l0 x5_1) == a1) = false := beq_eq_false_iff_ne.mpr c5
            have c5b1 : ((rd l0 x5_1) != a1) = true := bne_iff_ne.mpr c5
            have H' := Aside0.mk H
            clear H
            have p158 : 0 ≤ (x5_1 : Int) := of_decide_eq_true (by first | (with_reducible assumption) | assumption)
            have q158 : x5_1 < (l0.length : Int) := of_decide_eq_true (by first | (with_reducible assumption) | assumption)
            obtain ⟨ad158, e158, hx158_0⟩ := Kd.at_int HR0.out x5_1 p158 q158
            cases e158
            replace p158 := eq_true p158
            replace q158 := eq_true q158
            go_wp2
            go_roundg k1
            case measure => have := HK1.out; omega
            case rel => exact ⟨(wrap64 (x5_1 + 1)), (by first | rfl | (simp; done) | (simp [*]; done)), H', ⟨by have := HK1.out; omega⟩, by repeat (first | exact Drawn0.refl _ | apply Drawn0.step)⟩
        · rw [if_neg c4] at H
          exact absurd H (by simp)
      · rw [if_neg c3] at H
        have c3b0 : decide (x5_1 < (l0.length : Int)) = false := decide_eq_false c3
        clear c3
        obtain rfl := Option.some.inj H
        go_wp2
        go_ret
        exact ⟨by first | rfl | (simp; done) | (simp [*]; done), by repeat (first | exact Drawn0.refl _ | apply Drawn0.step)⟩

/-! ### verditerref02_against: function 80 -/
mutual
def verditerref02_against.l0 : Nat → Int → List (S49) → List Int → Int → Option (List Int)
  | 0, _, _, _, _ => none
  | k + 1, x0, x1, x5, x6 => if x6 < x0 then (verditerref02_against.l1 k x0 x1 x5 x6 0 0) else (some x5)
def verditerref02_against.l1 : Nat → Int → List (S49) → List Int → Int → Int → Int → Option (List Int)
  | 0, _, _, _, _, _, _ => none
  | k + 1, x0, x1, x5, x6, x7, x8 => if x8 < (x1.length : Int) then (if 0 ≤ x8 then ((verditerref02_Has.f k ((rd_T49 x1 x8).f0) x6).bind fun t160 => (if (t160 != ((rd_T49 x1 x8).f1)) = true then (verditerref02_against.l1 k x0 x1 x5 x6 (wrap64 (x7 + 1)) (wrap64 (x8 + 1))) else (verditerref02_against.l1 k x0 x1 x5 x6 x7 (wrap64 (x8 + 1))))) else (none)) else (if x5.length < 17592186044416 then (verditerref02_against.l0 k x0 x1 (x5 ++ [x7]) (wrap64 (x6 + 1))) else (none))
end
def verditerref02_against.f (k : Nat) (a0 : Int) (l1 : List (S49)) : Option (List Int) := verditerref02_against.l0 k a0 l1 ([] : List Int) 0
theorem verditerref02_against.mono_l : ∀ k, (∀ y0 y1 y2 y3, LeO (verditerref02_against.l0 k y0 y1 y2 y3) (verditerref02_against.l0 (k + 1) y0 y1 y2 y3)) ∧ (∀ y0 y1 y2 y3 y4 y5, LeO (verditerref02_against.l1 k y0 y1 y2 y3 y4 y5) (verditerref02_against.l1 (k + 1) y0 y1 y2 y3 y4 y5))
  | 0 => ⟨fun _ _ _ _ r h => by simp [verditerref02_against.l0] at h, fun _ _ _ _ _ _ r h => by simp [verditerref02_against.l1] at h⟩
  | k + 1 => by
    obtain ⟨ih0, ih1⟩ := verditerref02_against.mono_l k
    refine ⟨?_, ?_⟩
    · intro y0 y1 y2 y3
      unfold verditerref02_against.l0
      repeat' first
      | (with_reducible exact ih0 _ _ _ _)
      | (with_reducible exact ih1 _ _ _ _ _ _)
      | (with_reducible exact verditerref02_Has.mono _ _ _)
      | (with_reducible exact LeO.refl _)
      | (with_reducible exact LeO.none _)
      | (with_reducible refine LeO.ite ?_ ?_)
      | (with_reducible refine LeO.bind ?_ (fun _ => ?_))
      | exact ih0 _ _ _ _
      | exact ih1 _ _ _ _ _ _
      | exact verditerref02_Has.mono _ _ _
      | exact LeO.none _
      | refine LeO.ite ?_ ?_
      | refine LeO.bind ?_ (fun _ => ?_)
    · intro y0 y1 y2 y3 y4 y5
      unfold verditerref02_against.l1
      repeat' first
      | (with_reducible exact ih0 _ _ _ _)
      | (with_reducible exact ih1 _ _ _ _ _ _)
      | (with_reducible exact verditerref02_Has.mono _ _ _)
      | (with_reducible exact LeO.refl _)
      | (with_reducible exact LeO.none _)
      | (with_reducible refine LeO.ite ?_ ?_)
      | (with_reducible refine LeO.bind ?_ (fun _ => ?_))
      | exact ih0 _ _ _ _
      | exact ih1 _ _ _ _ _ _
      | exact verditerref02_Has.mono _ _ _
      | exact LeO.none _
      | refine LeO.ite ?_ ?_
      | refine LeO.bind ?_ (fun _ => ?_)
theorem verditerref02_against.mono : ∀ a0 a1 k, LeO (verditerref02_against.f k a0 a1) (verditerref02_against.f (k + 1) a0 a1) := by
  intro a0 a1 k
  obtain ⟨ih0, ih1⟩ := verditerref02_against.mono_l k
  unfold verditerref02_against.f
  repeat' first
      | (with_reducible exact ih0 _ _ _ _)
      | (with_reducible exact ih1 _ _ _ _ _ _)
      | (with_reducible exact verditerref02_Has.mono _ _ _)
      | (with_reducible exact LeO.refl _)
      | (with_reducible exact LeO.none _)
      | (with_reducible refine LeO.ite ?_ ?_)
      | (with_reducible refine LeO.bind ?_ (fun _ => ?_))
      | exact ih0 _ _ _ _
      | exact ih1 _ _ _ _ _ _
      | exact verditerref02_Has.mono _ _ _
      | exact LeO.none _
      | refine LeO.ite ?_ ?_
      | refine LeO.bind ?_ (fun _ => ?_)
set_option maxHeartbeats 8000000 in
set_option maxRecDepth 100000 in
theorem verditerref02_against.calls (k : Nat) (a0 : Int) (A1 : Option Addr) (c1 : Nat) (l1 : List (S49)) (r : List Int) (w : World) (hr1 : Kd.C k49 w A1 l1.length l1) (hc1 : l1.length ≤ c1) (h : verditerref02_against.f k a0 l1 = some r) :
    Calls Try.prog 80 #[.int .i64 a0, .slice A1 l1.length c1] w fun e w' => ∃ v0_ : Value, e = .returned (v0_) ∧ Kd.R (Kd.int .i64) 3 w' w.heap.size (fun _ => True) v0_ r ∧ Below w.heap.size w w' := by
  have HR1 := Aside0.mk hr1
  have HC1 := Aside0.mk hc1
  clear hr1 hc1
  have HB := Aside0.mk (Below.refl w.heap.size w)
  have H : (verditerref02_against.l0 k a0 l1 ([] : List Int) 0) = some r := h
  clear h
  have H' := Aside0.mk H
  clear H
  go_enter Try.func80, Try.ntmps80
  go_wp2
  repeat (go_quiet (fail); try go_wp2)
  go_loopg [5, 6] k (fun kq v5 v6 w' => ∃ (x5_1 : List Int) (x6_1 : Int), v6 = .int .i64 x6_1 ∧ Aside0 (verditerref02_against.l0 kq a0 l1 x5_1 x6_1 = some r) ∧ Aside0 (kq ≤ k) ∧ Aside0 (Kd.R (Kd.int .i64) 3 w' w.heap.size (fun _ => True) v5 x5_1) ∧ Aside0 (Below w.heap.size w w'))
  case atStart => exact ⟨(([] : List Int)), (0), (by first | rfl | (simp; done) | (simp [*]; done)), H', ⟨Nat.le_refl _⟩, ⟨by first | exact Kd.R_nil _ _ _ _ _ | exact Kd.N_nil _ _ _ _ _ | exact Kd.V_nil _ _ _ _ _ | exact Kd.Q_nil _ _ _ _ _ | exact Kd.S_nil _ _ _ _ _⟩, ⟨by repeat (first | (with_reducible first | exact HB.out | apply below_alloc | apply pw_below_drewN | apply below_drew1) | exact HB.out)⟩⟩
  case round =>
    clear H'
    try clear c1
    try clear p2
    obtain ⟨x5_1, x6_1, rfl, HA, HK1, HO_5, HB⟩ := hrel
    cases gk with
    | zero => exact absurd HA.out (by simp [verditerref02_against.l0])
    | succ k1 =>
      have H := HA.out
      clear HA
      simp only [verditerref02_against.l0] at H
      by_cases c3 : x6_1 < a0
      · rw [if_pos c3] at H
        have c3b0 : decide (x6_1 < a0) = true := decide_eq_true c3
        clear c3
        have H' := Aside0.mk H
        clear H
        go_wp2
        repeat (go_quiet (fail); try go_wp2)
        go_loopg [7, 8] k1 (fun kq v7 v8 w' => ∃ (x7_2 : Int) (x8_2 : Int), v7 = .int .i64 x7_2 ∧ v8 = .int .i64 x8_2 ∧ Aside0 (verditerref02_against.l1 kq a0 l1 x5_1 x6_1 x7_2 x8_2 = some r) ∧ Aside0 (kq ≤ k1) ∧ Aside0 (Kd.R (Kd.int .i64) 3 w' w.heap.size (fun _ => True) u5 x5_1) ∧ Aside0 (Below w.heap.size w w'))
        case atStart => exact ⟨(0), (0), (by first | rfl | (simp; done) | (simp [*]; done)), (by first | rfl | (simp; done) | (simp [*]; done)), H', ⟨Nat.le_refl _⟩, ⟨by (with_reducible repeat (first | apply Kd.R_alloc | apply Kd.R_drewN | apply Kd.R_drew)); exact HO_5.out⟩, ⟨by repeat (first | (with_reducible first | exact HB.out | apply below_alloc | apply pw_below_drewN | apply below_drew1) | exact HB.out)⟩⟩
        case round =>
          clear H'
          try clear c1
          try clear p2
          try clear c3
          try clear c3b0
          try clear p2
          obtain ⟨x7_2, x8_2, rfl, rfl, HA, HK2, HO_5, HB⟩ := hrel
          cases gk with
          | zero => exact absurd HA.out (by simp [verditerref02_against.l1])
          | succ k2 =>
            have H := HA.out
            clear HA
            simp only [verditerref02_against.l1] at H
            by_cases c4 : x8_2 < (l1.length : Int)
            · rw [if_pos c4] at H
              have c4b0 : decide (x8_2 < (l1.length : Int)) = true := decide_eq_true c4
              clear c4
              by_cases c5 : 0 ≤ x8_2
              · rw [if_pos c5] at H
                have c5b0 : decide (0 ≤ x8_2) = true := decide_eq_true c5
                clear c5
                replace H := Option.bind_eq_some_iff.mp H
                obtain ⟨t160, A60, H⟩ := H
                replace H : (if (t160 != ((rd_T49 l1 x8_2).f1)) = true then (verditerref02_against.l1 k2 a0 l1 x5_1 x6_1 (wrap64 (x7_2 + 1)) (wrap64 (x8_2 + 1))) else (verditerref02_against.l1 k2 a0 l1 x5_1 x6_1 x7_2 (wrap64 (x8_2 + 1)))) = some r := H
                have A6 := Aside0.mk A60
                clear A60
                by_cases c7 : (t160 != ((rd_T49 l1 x8_2).f1)) = true
                · rw [if_pos c7] at H
                  have c7b0 : (t160 != ((rd_T49 l1 x8_2).f1)) = true := c7
                  (try (have c7b1 : decide (t160 = ((rd_T49 l1 x8_2).f1)) = false := by simpa using c7))
                  (try (have c7b2 : (t160 == ((rd_T49 l1 x8_2).f1)) = false := by simpa using c7))
                  (try (have c7b3 : ¬ (t160 = ((rd_T49 l1 x8_2).f1)) := by simpa using c7))
                  clear c7
                  have H' := Aside0.mk H
                  clear H
                  have p159 : 0 ≤ (x8_2 : Int) := of_decide_eq_true (by first | (with_reducible assumption) | assumption)
                  have q159 : x8_2 < (l1.length : Int) := of_decide_eq_true (by first | (with_reducible assumption) | assumption)
                  obtain ⟨ad159, A159_0, c159_0, e159, hx159_0, hx159_1, hl159_0, hi159_0⟩ := at_T49 HR1.out x8_2 p159 q159
                  cases e159
                  replace hx159_0 := (HB.out.cell (World.block_lt_of_cell? w _ hx159_0)).trans hx159_0
                  replace hx159_1 := (HB.out.cell (World.block_lt_of_cell? w _ hx159_1)).trans hx159_1
                  have HR159_0 := Aside0.mk hi159_0
                  have HC159_0 := Aside0.mk hl159_0
                  clear hi159_0 hl159_0
                  replace p159 := eq_true p159
                  replace q159 := eq_true q159
                  go_wp2_with (first | (go_at_call 59; (with_reducible refine (verditerref02_Has.calls k2 _ _ ((rd_T49 l1 x8_2).f0) x6_1 t160 _ ?side1 ?side2 A6.out).mono ?_); (case side1 => repeat (first | exact (Kd.C_below HR159_0.out HB.out) | (with_reducible refine Kd.C_alloc ?_ _) | (with_reducible refine Kd.C_drewN ?_ _) | (with_reducible refine Kd.C_drew ?_))); (case side2 => exact HC159_0.out); rintro e w' ⟨rfl, ⟨nd, rfl⟩⟩; (try first | exact ⟨rfl, _, World.drewN_drewN _ _ _⟩ | exact ⟨rfl, _, Eq.trans (World.drewN_drewN _ _ _) (congrArg (World.drewN _) (Nat.add_assoc _ _ _))⟩); have p161 : 0 ≤ (x8_2 : Int) := of_decide_eq_true (by first | (with_reducible assumption) | assumption); have q161 : x8_2 < (l1.length : Int) := of_decide_eq_true (by first | (with_reducible assumption) | assumption); obtain ⟨ad161, A161_0, c161_0, e161, hx161_0, hx161_1, hl161_0, hi161_0⟩ := at_T49 HR1.out x8_2 p161 q161; obtain rfl : ad159 = ad161 := (by injection e161); replace hx161_0 := (HB.out.cell (World.block_lt_of_cell? w _ hx161_0)).trans hx161_0; replace hx161_1 := (HB.out.cell (World.block_lt_of_cell? w _ hx161_1)).trans hx161_1; have HR161_0 := Aside0.mk hi161_0; have HC161_0 := Aside0.mk hl161_0; clear hi161_0 hl161_0; replace p161 := eq_true p161; replace q161 := eq_true q161; have ea_ := Option.some.inj (hx159_0.symm.trans hx161_0); injection ea_ with ea_ en_ ec_; subst ea_; subst ec_; clear en_))
                  repeat (go_quiet (first | (go_at_call 59; (with_reducible refine (verditerref02_Has.calls k2 _ _ ((rd_T49 l1 x8_2).f0) x6_1 t160 _ ?side1 ?side2 A6.out).mono ?_); (case side1 => repeat (first | exact (Kd.C_below HR159_0.out HB.out) | (with_reducible refine Kd.C_alloc ?_ _) | (with_reducible refine Kd.C_drewN ?_ _) | (with_reducible refine Kd.C_drew ?_))); (case side2 => exact HC159_0.out); rintro e w' ⟨rfl, ⟨nd, rfl⟩⟩; (try first | exact ⟨rfl, _, World.drewN_drewN _ _ _⟩ | exact ⟨rfl, _, Eq.trans (World.drewN_drewN _ _ _) (congrArg (World.drewN _) (Nat.add_assoc _ _ _))⟩); have p161 : 0 ≤ (x8_2 : Int) := of_decide_eq_true (by first | (with_reducible assumption) | assumption); have q161 : x8_2 < (l1.length : Int) := of_decide_eq_true (by first | (with_reducible assumption) | assumption); obtain ⟨ad161, A161_0, c161_0, e161, hx161_0, hx161_1, hl161_0, hi161_0⟩ := at_T49 HR1.out x8_2 p161 q161; obtain rfl : ad159 = ad161 := (by injection e161); replace hx161_0 := (HB.out.cell (World.block_lt_of_cell? w _ hx161_0)).trans hx161_0; replace hx161_1 := (HB.out.cell (World.block_lt_of_cell? w _ hx161_1)).trans hx161_1; have HR161_0 := Aside0.mk hi161_0; have HC161_0 := Aside0.mk hl161_0; clear hi161_0 hl161_0; replace p161 := eq_true p161; replace q161 := eq_true q161; have ea_ := Option.some.inj (hx159_0.symm.trans hx161_0); injection ea_ with ea_ en_ ec_; subst ea_; subst ec_; clear en_)); try go_wp2_with (first | (go_at_call 59; (with_reducible refine (verditerref02_Has.calls k2 _ _ ((rd_T49 l1 x8_2).f0) x6_1 t160 _ ?side1 ?side2 A6.out).mono ?_); (case side1 => repeat (first | exact (Kd.C_below HR159_0.out HB.out) | (with_reducible refine Kd.C_alloc ?_ _) | (with_reducible refine Kd.C_drewN ?_ _) | (with_reducible refine Kd.C_drew ?_))); (case side2 => exact HC159_0.out); rintro e w' ⟨rfl, ⟨nd, rfl⟩⟩; (try first | exact ⟨rfl, _, World.drewN_drewN _ _ _⟩ | exact ⟨rfl, _, Eq.trans (World.drewN_drewN _ _ _) (congrArg (World.drewN _) (Nat.add_assoc _ _ _))⟩); have p161 : 0 ≤ (x8_2 : Int) := of_decide_eq_true (by first | (with_reducible assumption) | assumption); have q161 : x8_2 < (l1.length : Int) := of_decide_eq_true (by first | (with_reducible assumption) | assumption); obtain ⟨ad161, A161_0, c161_0, e161, hx161_0, hx161_1, hl161_0, hi161_0⟩ := at_T49 HR1.out x8_2 p161 q161; obtain rfl : ad159 = ad161 := (by injection e161); replace hx161_0 := (HB.out.cell (World.block_lt_of_cell? w _ hx161_0)).trans hx161_0; replace hx161_1 := (HB.out.cell (World.block_lt_of_cell? w _ hx161_1)).trans hx161_1; have HR161_0 := Aside0.mk hi161_0; have HC161_0 := Aside0.mk hl161_0; clear hi161_0 hl161_0; replace p161 := eq_true p161; replace q161 := eq_true q161; have ea_ := Option.some.inj (hx159_0.symm.trans hx161_0); injection ea_ with ea_ en_ ec_; subst ea_; subst ec_; clear en_)))
                  go_roundg k2
                  case measure => have := HK1.out; have := HK2.out; omega
                  case rel => exact ⟨(wrap64 (x7_2 + 1)), (wrap64 (x8_2 + 1)), (by first | rfl | (simp; done) | (simp [*]; done)), (by first | rfl | (simp; done) | (simp [*]; done)), H', ⟨by have := HK1.out; have := HK2.out; omega⟩, ⟨by (with_reducible repeat (first | apply Kd.R_alloc | apply Kd.R_drewN | apply Kd.R_drew)); exact HO_5.out⟩, ⟨by repeat (first | (with_reducible first | exact HB.out | apply below_alloc | apply pw_below_drewN | apply below_drew1) | exact HB.out)⟩⟩
                · rw [if_neg c7] at H
                  have c7b0 : (t160 != ((rd_T49 l1 x8_2).f1)) = false := by simpa using c7
                  (try (have c7b1 : decide (t160 = ((rd_T49 l1 x8_2).f1)) = true := by simpa using c7))
                  (try (have c7b2 : (t160 == ((rd_T49 l1 x8_2).f1)) = true := by simpa using c7))
                  clear c7
                  have H' := Aside0.mk H
                  clear H
                  have p159 : 0 ≤ (x8_2 : Int) := of_decide_eq_true (by first | (with_reducible assumption) | assumption)
                  have q159 : x8_2 < (l1.length : Int) := of_decide_eq_true (by first | (with_reducible assumption) | assumption)
                  obtain ⟨ad159, A159_0, c159_0, e159, hx159_0, hx159_1, hl159_0, hi159_0⟩ := at_T49 HR1.out x8_2 p159 q159
                  cases e159
                  replace hx159_0 := (HB.out.cell (World.block_lt_of_cell? w _ hx159_0)).trans hx159_0
                  replace hx159_1 := (HB.out.cell (World.block_lt_of_cell? w _ hx159_1)).trans hx159_1
                  have HR159_0 := Aside0.mk hi159_0
                  have HC159_0 := Aside0.mk hl159_0
                  clear hi159_0 hl159_0
                  replace p159 := eq_true p159
                  replace q159 := eq_true q159
                  go_wp2_with (first | (go_at_call 59; (with_reducible refine (verditerref02_Has.calls k2 _ _ ((rd_T49 l1 x8_2).f0) x6_1 t160 _ ?side1 ?side2 A6.out).mono ?_); (case side1 => repeat (first | exact (Kd.C_below HR159_0.out HB.out) | (with_reducible refine Kd.C_alloc ?_ _) | (with_reducible refine Kd.C_drewN ?_ _) | (with_reducible refine Kd.C_drew ?_))); (case side2 => exact HC159_0.out); rintro e w' ⟨rfl, ⟨nd, rfl⟩⟩; (try first | exact ⟨rfl, _, World.drewN_drewN _ _ _⟩ | exact ⟨rfl, _, Eq.trans (World.drewN_drewN _ _ _) (congrArg (World.drewN _) (Nat.add_assoc _ _ _))⟩); have p161 : 0 ≤ (x8_2 : Int) := of_decide_eq_true (by first | (with_reducible assumption) | assumption); have q161 : x8_2 < (l1.length : Int) := of_decide_eq_true (by first | (with_reducible assumption) | assumption); obtain ⟨ad161, A161_0, c161_0, e161, hx161_0, hx161_1, hl161_0, hi161_0⟩ := at_T49 HR1.out x8_2 p161 q161; obtain rfl : ad159 = ad161 := (by injection e161); replace hx161_0 := (HB.out.cell (World.block_lt_of_cell? w _ hx161_0)).trans hx161_0; replace hx161_1 := (HB.out.cell (World.block_lt_of_cell? w _ hx161_1)).trans hx161_1; have HR161_0 := Aside0.mk hi161_0; have HC161_0 := Aside0.mk hl161_0; clear hi161_0 hl161_0; replace p161 := eq_true p161; replace q161 := eq_true q161; have ea_ := Option.some.inj (hx159_0.symm.trans hx161_0); injection ea_ with ea_ en_ ec_; subst ea_; subst ec_; clear en_))
                  repeat (go_quiet (first | (go_at_call 59; (with_reducible refine (verditerref02_Has.calls k2 _ _ ((rd_T49 l1 x8_2).f0) x6_1 t160 _ ?side1 ?side2 A6.out).mono ?_); (case side1 => repeat (first | exact (Kd.C_below HR159_0.out HB.out) | (with_reducible refine Kd.C_alloc ?_ _) | (with_reducible refine Kd.C_drewN ?_ _) | (with_reducible refine Kd.C_drew ?_))); (case side2 => exact HC159_0.out); rintro e w' ⟨rfl, ⟨nd, rfl⟩⟩; (try first | exact ⟨rfl, _, World.drewN_drewN _ _ _⟩ | exact ⟨rfl, _, Eq.trans (World.drewN_drewN _ _ _) (congrArg (World.drewN _) (Nat.add_assoc _ _ _))⟩); have p161 : 0 ≤ (x8_2 : Int) := of_decide_eq_true (by first | (with_reducible assumption) | assumption); have q161 : x8_2 < (l1.length : Int) := of_decide_eq_true (by first | (with_reducible assumption) | assumption); obtain ⟨ad161, A161_0, c161_0, e161, hx161_0, hx161_1, hl161_0, hi161_0⟩ := at_T49 HR1.out x8_2 p161 q161; obtain rfl : ad159 = ad161 := (by injection e161); replace hx161_0 := (HB.out.cell (World.block_lt_of_cell? w _ hx161_0)).trans hx161_0; replace hx161_1 := (HB.out.cell (World.block_lt_of_cell? w _ hx161_1)).trans hx161_1; have HR161_0 := Aside0.mk hi161_0; have HC161_0 := Aside0.mk hl161_0; clear hi161_0 hl161_0; replace p161 := eq_true p161; replace q161 := eq_true q161; have ea_ := Option.some.inj (hx159_0.symm.trans hx161_0); injection ea_ with ea_ en_ ec_; subst ea_; subst ec_; clear en_)); try go_wp2_with (first | (go_at_call 59; (with_reducible refine (verditerref02_Has.calls k2 _ _ ((rd_T49 l1 x8_2).f0) x6_1 t160 _ ?side1 ?side2 A6.out).mono ?_); (case side1 => repeat (first | exact (Kd.C_below HR159_0.out HB.out) | (with_reducible refine Kd.C_alloc ?_ _) | (with_reducible refine Kd.C_drewN ?_ _) | (with_reducible refine Kd.C_drew ?_))); (case side2 => exact HC159_0.out); rintro e w' ⟨rfl, ⟨nd, rfl⟩⟩; (try first | exact ⟨rfl, _, World.drewN_drewN _ _ _⟩ | exact ⟨rfl, _, Eq.trans (World.drewN_drewN _ _ _) (congrArg (World.drewN _) (Nat.add_assoc _ _ _))⟩); have p161 : 0 ≤ (x8_2 : Int) := of_decide_eq_true (by first | (with_reducible assumption) | assumption); have q161 : x8_2 < (l1.length : Int) := of_decide_eq_true (by first | (with_reducible assumption) | assumption); obtain ⟨ad161, A161_0, c161_0, e161, hx161_0, hx161_1, hl161_0, hi161_0⟩ := at_T49 HR1.out x8_2 p161 q161; obtain rfl : ad159 = ad161 := (by injection e161); replace hx161_0 := (HB.out.cell (World.block_lt_of_cell? w _ hx161_0)).trans hx161_0; replace hx161_1 := (HB.out.cell (World.block_lt_of_cell? w _ hx161_1)).trans hx161_1; have HR161_0 := Aside0.mk hi161_0; have HC161_0 := Aside0.mk hl161_0; clear hi161_0 hl161_0; replace p161 := eq_true p161; replace q161 := eq_true q161; have ea_ := Option.some.inj (hx159_0.symm.trans hx161_0); injection ea_ with ea_ en_ ec_; subst ea_; subst ec_; clear en_)))
                  go_roundg k2
                  case measure => have := HK1.out; have := HK2.out; omega
                  case rel => exact ⟨(x7_2), (wrap64 (x8_2 + 1)), (by first | rfl | (simp; done) | (simp [*]; done)), (by first | rfl | (simp; done) | (simp [*]; done)), H', ⟨by have := HK1.out; have := HK2.out; omega⟩, ⟨by (with_reducible repeat (first | apply Kd.R_alloc | apply Kd.R_drewN | apply Kd.R_drew)); exact HO_5.out⟩, ⟨by repeat (first | (with_reducible first | exact HB.out | apply below_alloc | apply pw_below_drewN | apply below_drew1) | exact HB.out)⟩⟩
              · rw [if_neg c5] at H
                exact absurd H (by simp)
            · rw [if_neg c4] at H
              have c4b0 : decide (x8_2 < (l1.length : Int)) = false := decide_eq_false c4
              clear c4
              by_cases c8 : x5_1.length < 17592186044416
              · rw [if_pos c8] at H
                have LMc8 := Aside0.mk c8
                clear c8
                obtain ⟨y162, hy162⟩ : ∃ y_ : List Int, y_ = (x5_1 ++ [x7_2]) := ⟨_, rfl⟩
                replace H : (verditerref02_against.l0 k2 a0 l1 y162 (wrap64 (x6_1 + 1))) = some r := by first | (rw [hy162]; with_reducible exact H) | (have H2_ := (Option.bind_some _ _).symm.trans H; rw [hy162]; with_reducible exact H2_) | (have H2_ := (Option.bind_some _ _).symm.trans H; with_reducible exact H2_) | with_reducible exact H | (rw [hy162]; exact H) | exact H
                have Ny162 := Aside0.mk hy162
                clear hy162
                have H' := Aside0.mk H
                clear H
                go_wp2_with (first | ((with_reducible refine gate_builtin (b := .append) (xs := #[.tmp 35, .tmp 37]) rfl ?_); at_builtin; refine Kd.R_append (Kd.int .i64) (w0 := w) w.heap.size rfl (.tmp 35) (.tmp 37) 47 3 (.int .i64 0) 8 rfl Try.underlying47 info3 rfl (by decide) (by omega) u5 x5_1 x7_2 [.int .i64 x7_2] (fun _ => True) (fun _ => False) rfl rfl ?aP (fun _ hk => hk.elim) ?aF ?aO ?aB ?aS ?aL ?_; (case aP => exact rfl); (case aB => exact (by repeat (first | (with_reducible first | exact HB.out | apply below_alloc | apply pw_below_drewN | apply below_drew1) | exact HB.out))); (case aF => exact (fun _ _ => trivial)); (case aO => exact (by (with_reducible repeat (first | apply Kd.R_alloc | apply Kd.R_drewN | apply Kd.R_drew)); exact HO_5.out)); (case aS => exact (below_size (by repeat (first | (with_reducible first | exact HB.out | apply below_alloc | apply pw_below_drewN | apply below_drew1) | exact HB.out)))); (case aL => have := LMc8.out; omega); intro v163 w9 ho hb hg hat; rw [← Ny162.out] at ho; have n0_ := Aside0.mk (hb); have n1_ := Aside0.mk (ho); clear HB; clear HO_5; have HB := n0_; have HO164 := n1_; clear n0_ n1_; clear ho hb hg hat))
                repeat (go_quiet (first | ((with_reducible refine gate_builtin (b := .append) (xs := #[.tmp 35, .tmp 37]) rfl ?_); at_builtin; refine Kd.R_append (Kd.int .i64) (w0 := w) w.heap.size rfl (.tmp 35) (.tmp 37) 47 3 (.int .i64 0) 8 rfl Try.underlying47 info3 rfl (by decide) (by omega) u5 x5_1 x7_2 [.int .i64 x7_2] (fun _ => True) (fun _ => False) rfl rfl ?aP (fun _ hk => hk.elim) ?aF ?aO ?aB ?aS ?aL ?_; (case aP => exact rfl); (case aB => exact (by repeat (first | (with_reducible first | exact HB.out | apply below_alloc | apply pw_below_drewN | apply below_drew1) | exact HB.out))); (case aF => exact (fun _ _ => trivial)); (case aO => exact (by (with_reducible repeat (first | apply Kd.R_alloc | apply Kd.R_drewN | apply Kd.R_drew)); exact HO_5.out)); (case aS => exact (below_size (by repeat (first | (with_reducible first | exact HB.out | apply below_alloc | apply pw_below_drewN | apply below_drew1) | exact HB.out)))); (case aL => have := LMc8.out; omega); intro v163 w9 ho hb hg hat; rw [← Ny162.out] at ho; have n0_ := Aside0.mk (hb); have n1_ := Aside0.mk (ho); clear HB; clear HO_5; have HB := n0_; have HO164 := n1_; clear n0_ n1_; clear ho hb hg hat)); try go_wp2_with (first | ((with_reducible refine gate_builtin (b := .append) (xs := #[.tmp 35, .tmp 37]) rfl ?_); at_builtin; refine Kd.R_append (Kd.int .i64) (w0 := w) w.heap.size rfl (.tmp 35) (.tmp 37) 47 3 (.int .i64 0) 8 rfl Try.underlying47 info3 rfl (by decide) (by omega) u5 x5_1 x7_2 [.int .i64 x7_2] (fun _ => True) (fun _ => False) rfl rfl ?aP (fun _ hk => hk.elim) ?aF ?aO ?aB ?aS ?aL ?_; (case aP => exact rfl); (case aB => exact (by repeat (first | (with_reducible first | exact HB.out | apply below_alloc | apply pw_below_drewN | apply below_drew1) | exact HB.out))); (case aF => exact (fun _ _ => trivial)); (case aO => exact (by (with_reducible repeat (first | apply Kd.R_alloc | apply Kd.R_drewN | apply Kd.R_drew)); exact HO_5.out)); (case aS => exact (below_size (by repeat (first | (with_reducible first | exact HB.out | apply below_alloc | apply pw_below_drewN | apply below_drew1) | exact HB.out)))); (case aL => have := LMc8.out; omega); intro v163 w9 ho hb hg hat; rw [← Ny162.out] at ho; have n0_ := Aside0.mk (hb); have n1_ := Aside0.mk (ho); clear HB; clear HO_5; have HB := n0_; have HO164 := n1_; clear n0_ n1_; clear ho hb hg hat)))
                go_roundg k2
                case measure => have := HK1.out; have := HK2.out; omega
                case rel => exact ⟨(y162), (wrap64 (x6_1 + 1)), (by first | rfl | (simp; done) | (simp [*]; done)), H', ⟨by have := HK1.out; have := HK2.out; omega⟩, ⟨by (with_reducible repeat (first | apply Kd.R_alloc | apply Kd.R_drewN | apply Kd.R_drew)); exact HO164.out⟩, ⟨by repeat (first | (with_reducible first | exact HB.out | apply below_alloc | apply pw_below_drewN | apply below_drew1) | exact HB.out)⟩⟩
              · rw [if_neg c8] at H
                exact absurd H (by simp)
      · rw [if_neg c3] at H
        have c3b0 : decide (x6_1 < a0) = false := decide_eq_false c3
        clear c3
        obtain rfl := Option.some.inj H
        go_wp2
        repeat (go_quiet (fail); try go_wp2)
        go_ret
        exact ⟨_, by first | rfl | (simp [errW_none, errW_some] <;> rfl) | (simp [*, errW_none, errW_some] <;> rfl), by (with_reducible repeat (first | apply Kd.R_alloc | apply Kd.R_drewN | apply Kd.R_drew)); exact HO_5.out, by repeat (first | (with_reducible first | exact HB.out | apply below_alloc | apply pw_below_drewN | apply below_drew1) | exact HB.out)⟩

/-! ### verditerref02_SameInts: function 53 -/
def verditerref02_SameInts.l0 : Nat → List Int → List Int → Int → Option (Bool)
  | 0, _, _, _ => none
  | k + 1, x0, x1, x5 => if x5 < (x0.length : Int) then (if 0 ≤ x5 then (if x5 < (x1.length : Int) then (if (rd x0 x5) = (rd x1 x5) then (verditerref02_SameInts.l0 k x0 x1 (wrap64 (x5 + 1))) else (some false)) else (none)) else (none)) else (some true)
def verditerref02_SameInts.f (k : Nat) (l0 : List Int) (l1 : List Int) : Option (Bool) := if (l0.length : Int) = (l1.length : Int) then (verditerref02_SameInts.l0 k l0 l1 0) else (some false)
theorem verditerref02_SameInts.mono_l : ∀ k, (∀ y0 y1 y2, LeO (verditerref02_SameInts.l0 k y0 y1 y2) (verditerref02_SameInts.l0 (k + 1) y0 y1 y2))
  | 0 => fun _ _ _ r h => by simp [verditerref02_SameInts.l0] at h
  | k + 1 => by
    have ih0 := verditerref02_SameInts.mono_l k
    · intro y0 y1 y2
      unfold verditerref02_SameInts.l0
      repeat' first
      | (with_reducible exact ih0 _ _ _)
      | (with_reducible exact LeO.refl _)
      | (with_reducible exact LeO.none _)
      | (with_reducible refine LeO.ite ?_ ?_)
      | (with_reducible refine LeO.bind ?_ (fun _ => ?_))
      | exact ih0 _ _ _
      | exact LeO.none _
      | refine LeO.ite ?_ ?_
      | refine LeO.bind ?_ (fun _ => ?_)
theorem verditerref02_SameInts.mono : ∀ a0 a1 k, LeO (verditerref02_SameInts.f k a0 a1) (verditerref02_SameInts.f (k + 1) a0 a1) := by
  intro a0 a1 k
  have ih0 := verditerref02_SameInts.mono_l k
  unfold verditerref02_SameInts.f
  repeat' first
      | (with_reducible exact ih0 _ _ _)
      | (with_reducible exact LeO.refl _)
      | (with_reducible exact LeO.none _)
      | (with_reducible refine LeO.ite ?_ ?_)
      | (with_reducible refine LeO.bind ?_ (fun _ => ?_))
      | exact ih0 _ _ _
      | exact LeO.none _
      | refine LeO.ite ?_ ?_
      | refine LeO.bind ?_ (fun _ => ?_)
set_option maxHeartbeats 8000000 in
set_option maxRecDepth 100000 in
theorem verditerref02_SameInts.calls (k : Nat) (A0 : Option Addr) (c0 : Nat) (l0 : List Int) (A1 : Option Addr) (c1 : Nat) (l1 : List Int) (r : Bool) (w : World) (hr0 : Kd.C (Kd.int .i64) w A0 l0.length l0) (hc0 : l0.length ≤ c0) (hr1 : Kd.C (Kd.int .i64) w A1 l1.length l1) (hc1 : l1.length ≤ c1) (h : verditerref02_SameInts.f k l0 l1 = some r) :
    Calls Try.prog 53 #[.slice A0 l0.length c0, .slice A1 l1.length c1] w fun e w' => e = .returned (.bool r) ∧ Drawn0 w w' := by
  have HR0 := Aside0.mk hr0
  have HC0 := Aside0.mk hc0
  clear hr0 hc0
  have HR1 := Aside0.mk hr1
  have HC1 := Aside0.mk hc1
  clear hr1 hc1
  have H : (if (l0.length : Int) = (l1.length : Int) then (verditerref02_SameInts.l0 k l0 l1 0) else (some false)) = some r := h
  clear h
  by_cases c3 : (l0.length : Int) = (l1.length : Int)
  · rw [if_pos c3] at H
    have c3b0 : ((l0.length : Int) == (l1.length : Int)) = true := beq_iff_eq.mpr c3
    have c3b1 : ((l0.length : Int) != (l1.length : Int)) = false := bne_eq_false_iff_eq.mpr c3
    have c3b2 : (l0.length == l1.length) = true := by first | simpa using c3 | (simp at c3 ⊢; omega)
    clear c3
    have H' := Aside0.mk H
    clear H
    go_enter Try.func53, Try.ntmps53
    go_wp2
    repeat (go_quiet (fail); try go_wp2)
    go_loopg [5] k (fun kq v5 w' => ∃ (x5_1 : Int), v5 = .int .i64 x5_1 ∧ Aside0 (verditerref02_SameInts.l0 kq l0 l1 x5_1 = some r) ∧ Aside0 (kq ≤ k) ∧ Drawn0 w w')
    case atStart => exact ⟨(0), (by first | rfl | (simp; done) | (simp [*]; done)), H', ⟨Nat.le_refl _⟩, by repeat (first | exact Drawn0.refl _ | apply Drawn0.step)⟩
    case round =>
      clear H'
      try clear c1
      try clear p2
      try clear c3
      try clear c3b0
      try clear c3b1
      try clear c3b2
      obtain ⟨x5_1, rfl, HA, HK1, ⟨m1, rfl⟩⟩ := hrel
      cases gk with
      | zero => exact absurd HA.out (by simp [verditerref02_SameInts.l0])
      | succ k1 =>
        have H := HA.out
        clear HA
        simp only [verditerref02_SameInts.l0] at H
        by_cases c4 : x5_1 < (l0.length : Int)
        · rw [if_pos c4] at H
          have c4b0 : decide (x5_1 < (l0.length : Int)) = true := decide_eq_true c4
          clear c4
          by_cases c5 : 0 ≤ x5_1
          · rw [if_pos c5] at H
            have c5b0 : decide (0 ≤ x5_1) = true := decide_eq_true c5
            clear c5
            by_cases c6 : x5_1 < (l1.length : Int)
            · rw [if_pos c6] at H
              have c6b0 : decide (x5_1 < (l1.length : Int)) = true := decide_eq_true c6
              clear c6
              by_cases c7 : (rd l0 x5_1) = (rd l1 x5_1)
              · rw [if_pos c7] at H
                have c7b0 : ((rd l0 x5_1) == (rd l1 x5_1)) = true := beq_iff_eq.mpr c7
                have c7b1 : ((rd l0 x5_1) != (rd l1 x5_1)) = false := bne_eq_false_iff_eq.mpr c7
                clear c7
                have H' := Aside0.mk H
                clear H
                have p173 : 0 ≤ (x5_1 : Int) := of_decide_eq_true (by first | (with_reducible assumption) | assumption)
                have q173 : x5_1 < (l0.length : Int) := of_decide_eq_true (by first | (with_reducible assumption) | assumption)
                obtain ⟨ad173, e173, hx173_0⟩ := Kd.at_int HR0.out x5_1 p173 q173
                cases e173
                replace p173 := eq_true p173
                replace q173 := eq_true q173
                have p174 : 0 ≤ (x5_1 : Int) := of_decide_eq_true (by first | (with_reducible assumption) | assumption)
                have q174 : x5_1 < (l1.length : Int) := of_decide_eq_true (by first | (with_reducible assumption) | assumption)
                obtain ⟨ad174, e174, hx174_0⟩ := Kd.at_int HR1.out x5_1 p174 q174
                cases e174
                replace p174 := eq_true p174
                replace q174 := eq_true q174
                go_wp2
                repeat (go_quiet (fail); try go_wp2)
                go_roundg k1
                case measure => have := HK1.out; omega
                case rel => exact ⟨(wrap64 (x5_1 + 1)), (by first | rfl | (simp; done) | (simp [*]; done)), H', ⟨by have := HK1.out; omega⟩, by repeat (first | exact Drawn0.refl _ | apply Drawn0.step)⟩
              · rw [if_neg c7] at H
                have c7b0 : ((rd l0 x5_1) == (rd l1 x5_1)) = false := beq_eq_false_iff_ne.mpr c7
                have c7b1 : ((rd l0 x5_1) != (rd l1 x5_1)) = true := bne_iff_ne.mpr c7
                obtain rfl := Option.some.inj H
                have p173 : 0 ≤ (x5_1 : Int) := of_decide_eq_true (by first | (with_reducible assumption) | assumption)
                have q173 : x5_1 < (l0.length : Int) := of_decide_eq_true (by first | (with_reducible assumption) | assumption)
                obtain ⟨ad173, e173, hx173_0⟩ := Kd.at_int HR0.out x5_1 p173 q173
                cases e173
                replace p173 := eq_true p173
                replace q173 := eq_true q173
                have p174 : 0 ≤ (x5_1 : Int) := of_decide_eq_true (by first | (with_reducible assumption) | assumption)
                have q174 : x5_1 < (l1.length : Int) := of_decide_eq_true (by first | (with_reducible assumption) | assumption)
                obtain ⟨ad174, e174, hx174_0⟩ := Kd.at_int HR1.out x5_1 p174 q174
                cases e174
                replace p174 := eq_true p174
                replace q174 := eq_true q174
                go_wp2
                repeat (go_quiet (fail); try go_wp2)
                go_ret
                exact ⟨by first | rfl | (simp; done) | (simp [*]; done), by repeat (first | exact Drawn0.refl _ | apply Drawn0.step)⟩
            · rw [if_neg c6] at H
              exact absurd H (by simp)
          · rw [if_neg c5] at H
            exact absurd H (by simp)
        · rw [if_neg c4] at H
          have c4b0 : decide (x5_1 < (l0.length : Int)) = false := decide_eq_false c4
          clear c4
          obtain rfl := Option.some.inj H
          go_wp2
          repeat (go_quiet (fail); try go_wp2)
          go_ret
          exact ⟨by first | rfl | (simp; done) | (simp [*]; done), by repeat (first | exact Drawn0.refl _ | apply Drawn0.step)⟩
  · rw [if_neg c3] at H
    have c3b0 : ((l0.length : Int) == (l1.length : Int)) = false := beq_eq_false_iff_ne.mpr c3
    have c3b1 : ((l0.length : Int) != (l1.length : Int)) = true := bne_iff_ne.mpr c3
    have c3b2 : (l0.length == l1.length) = false := by first | simpa using c3 | (simp at c3 ⊢; omega)
    obtain rfl := Option.some.inj H
    go_enter Try.func53, Try.ntmps53
    go_wp2
    repeat (go_quiet (fail); try go_wp2)
    go_ret
    exact ⟨by first | rfl | (simp; done) | (simp [*]; done), by repeat (first | exact Drawn0.refl _ | apply Drawn0.step)⟩

end Go.Proofs.Ytfejfljgdeglgaa.K

/- What both isSet answer: whether a list is a set of numbers below a count. -/
namespace Go.Proofs.Ytfejfljgdeglgaa.K
open Go.RowKit Go.Proofs.YtfejfljgdeglgaaW.PrintWords Go.Proofs.YtfejfljgdeglgaaW.PrintLast Go.Proofs.YtfejfljgdeglgaaW.PrintMore
set_option linter.unusedVariables false
set_option linter.unusedSimpArgs false

/-- Whether the element i of a list is a number below g, and greater than the one before it. -/
def setAt (l : List Int) (g : Int) (i : Nat) : Bool := decide (0 ≤ l.getD i 0 ∧ l.getD i 0 ≤ g - 1) && (decide (i = 0) || decide (l.getD (i - 1) 0 < l.getD i 0))
def isSetF (l : List Int) (g : Int) : Nat → Nat → Bool
  | 0, _ => true
  | m + 1, i => if setAt l g i = true then isSetF l g m (i + 1) else false
/-- A set of numbers below g. -/
def isSetP (l : List Int) (g : Int) : Bool := isSetF l g l.length 0
theorem isSetF_yes {l : List Int} {g : Int} {m i : Nat} (h : setAt l g i = true) : isSetF l g (m + 1) i = isSetF l g m (i + 1) := by rw [isSetF, if_pos h]
theorem isSetF_no {l : List Int} {g : Int} {m i : Nat} (h : setAt l g i = false) : isSetF l g (m + 1) i = false := by rw [isSetF, if_neg (by rw [h]; decide)]
theorem jwithin (n lo hi : Int) : judge_within.f n lo hi = some (decide (lo ≤ n ∧ n ≤ hi)) := by
  unfold judge_within.f
  split
  · congr 1; simp only [decide_eq_decide]; omega
  · congr 1; symm; simp only [decide_eq_false_iff_not]; omega
theorem rwithin (n lo hi : Int) : verditerref02_within.f n lo hi = some (decide (lo ≤ n ∧ n ≤ hi)) := by
  unfold verditerref02_within.f
  split
  · congr 1; simp only [decide_eq_decide]; omega
  · congr 1; symm; simp only [decide_eq_false_iff_not]; omega

theorem setAt_zero (l : List Int) (g : Int) : setAt l g 0 = decide (0 ≤ rd l ((0 : Nat) : Int) ∧ rd l ((0 : Nat) : Int) ≤ g - 1) := by unfold setAt rd; simp
theorem setAt_pos (l : List Int) (g : Int) (n : Nat) (h : 0 < n) : setAt l g n = decide (0 ≤ rd l (n : Int) ∧ rd l (n : Int) ≤ g - 1 ∧ rd l ((n : Int) - 1) < rd l (n : Int)) := by
  have e : ((n : Int) - 1).toNat = n - 1 := by omega
  unfold setAt rd
  rw [e, Int.toNat_natCast]
  generalize l.getD n 0 = x
  generalize l.getD (n - 1) 0 = y
  rw [decide_eq_false (show ¬ n = 0 by omega), Bool.false_or, ← Bool.decide_and, decide_eq_decide]
  omega
theorem no_set {l : List Int} {g : Int} {n : Nat} {b : Bool} (h : b = isSetF l g (l.length - n) n) (hn : n < l.length) (hs : setAt l g n = false) : b = false := by
  rw [h, show l.length - n = (l.length - n - 1) + 1 by omega, isSetF_no hs]
theorem yes_set {l : List Int} {g : Int} {n : Nat} {b : Bool} (h : b = isSetF l g (l.length - n) n) (hn : n < l.length) (hs : setAt l g n = true) : b = isSetF l g (l.length - (n + 1)) (n + 1) := by
  rw [h, show l.length - n = (l.length - (n + 1)) + 1 by omega, isSetF_yes hs]

set_option maxHeartbeats 4000000 in
set_option maxRecDepth 100000 in
theorem isSet84 (l : List Int) (A : Option Addr) (c : Nat) (g : Int) (hg0 : 0 ≤ g) (hg1 : g ≤ 1000) (w : World) (hr : Kd.C (Kd.int .i64) w A l.length l) (hc : l.length ≤ c) :
    Calls Try.prog 84 #[.slice A l.length c, .int .i64 g] w fun e w' => e = .returned (.bool (isSetP l g)) ∧ Drawn0 w w' := by
  have hm := hr.2.1
  have HR0 := Aside0.mk hr
  clear hr
  go_enter Try.func84, Try.ntmps84
  go_wp2
  go_loopw [9] (fun i wr => ∃ n : Nat, n ≤ l.length ∧ i = .int .i64 n ∧ isSetP l g = isSetF l g (l.length - n) n ∧ Drawn0 w wr) (fun i _ => l.length - (intOf i).toNat)
  case atStart => exact ⟨0, Nat.zero_le _, rfl, rfl, Drawn0.refl _⟩
  case round =>
    obtain ⟨n, hn, rfl, hs, ⟨m, rfl⟩⟩ := hrel
    have HS := Aside0.mk hs
    clear hs
    by_cases hlt : n < l.length
    · obtain ⟨ad, e, hx⟩ := Kd.at_int HR0.out (n : Int) (by omega) (by omega)
      cases e
      rw [Int.toNat_natCast] at hx
      have b0 := eq_true (show 0 ≤ (n : Int) by omega)
      have b1 := eq_true (show (n : Int) < (l.length : Int) by omega)
      by_cases hz : n = 0
      · have hd := setAt_zero l g
        rw [← hz] at hd
        have b2 := eq_false (show ¬ 0 < n by omega)
        have b3 : decide (0 < n) = false := decide_eq_false (by omega)
        have HZ := Aside0.mk hz
        clear hz
        have HD := Aside0.mk hd
        clear hd
        go_wp2
        all_goals first
          | (go_ret; exact ⟨by rw [no_set HS.out hlt (by rw [HD.out]; simp only [decide_eq_false_iff_not]; omega)]; first | rfl | simp, by repeat (first | exact Drawn0.refl _ | apply Drawn0.step)⟩)
          | (go_roundw; (case rel => exact ⟨n + 1, by omega, by go_num, yes_set HS.out hlt (by rw [HD.out]; simp only [decide_eq_true_eq]; omega), by repeat (first | exact Drawn0.refl _ | apply Drawn0.step)⟩); (case measure => simp [intOf]; omega))
          | skip
        all_goals trace_state
      · obtain ⟨ad1, e1, hx1⟩ := Kd.at_int HR0.out ((n : Int) - 1) (by omega) (by omega)
        cases e1
        rw [show ((n : Int) - 1).toNat = n - 1 by omega] at hx1
        have hd := setAt_pos l g n (by omega)
        have HD := Aside0.mk hd
        clear hd
        go_wp2
        all_goals first
          | (go_ret; exact ⟨by rw [no_set HS.out hlt (by rw [HD.out]; simp only [decide_eq_false_iff_not]; omega)]; first | rfl | simp, by repeat (first | exact Drawn0.refl _ | apply Drawn0.step)⟩)
          | (go_roundw; (case rel => exact ⟨n + 1, by omega, by go_num, yes_set HS.out hlt (by rw [HD.out]; simp only [decide_eq_true_eq]; omega), by repeat (first | exact Drawn0.refl _ | apply Drawn0.step)⟩); (case measure => simp [intOf]; omega))
          | skip
        all_goals trace_state
    · have e : n = l.length := by omega
      subst e
      go_wp2
      go_ret
      exact ⟨by rw [HS.out, Nat.sub_self]; rfl, by repeat (first | exact Drawn0.refl _ | apply Drawn0.step)⟩

/-- verditerref02.isSet. -/
def verditerref02_isSet.f (l : List Int) (g : Int) : Option Bool := if 0 ≤ g ∧ g ≤ 1000 then some (isSetP l g) else none
set_option maxHeartbeats 4000000 in
set_option maxRecDepth 100000 in
theorem verditerref02_isSet.calls (A : Option Addr) (c : Nat) (l : List Int) (g : Int) (r : Bool) (w : World) (hr : Kd.C (Kd.int .i64) w A l.length l) (hc : l.length ≤ c) (h : verditerref02_isSet.f l g = some r) :
    Calls Try.prog 85 #[.slice A l.length c, .int .i64 g] w fun e w' => e = .returned (.bool r) ∧ Drawn0 w w' := by
  unfold verditerref02_isSet.f at h
  split at h
  case isFalse => cases h
  case isTrue hg =>
    obtain ⟨hg0, hg1⟩ := hg
    obtain rfl := Option.some.inj h
    clear h
    have hm := hr.2.1
    have HR0 := Aside0.mk hr
    clear hr
    go_enter Try.func85, Try.ntmps85
    go_wp2
    go_loopw [5] (fun i wr => ∃ n : Nat, n ≤ l.length ∧ i = .int .i64 n ∧ isSetP l g = isSetF l g (l.length - n) n ∧ Drawn0 w wr) (fun i _ => l.length - (intOf i).toNat)
    case atStart => exact ⟨0, Nat.zero_le _, rfl, rfl, Drawn0.refl _⟩
    case round =>
      obtain ⟨n, hn, rfl, hs, ⟨m, rfl⟩⟩ := hrel
      have HS := Aside0.mk hs
      clear hs
      by_cases hlt : n < l.length
      · obtain ⟨ad, e, hx⟩ := Kd.at_int HR0.out (n : Int) (by omega) (by omega)
        cases e
        rw [Int.toNat_natCast] at hx
        have b0 := eq_true (show 0 ≤ (n : Int) by omega)
        have b1 := eq_true (show (n : Int) < (l.length : Int) by omega)
        by_cases hw : 0 ≤ rd l n ∧ rd l n ≤ g - 1
        · have HW := Aside0.mk ((rwithin (rd l n) 0 (g - 1)).trans (by rw [decide_eq_true hw]) : verditerref02_within.f (rd l n) 0 (g - 1) = some true)
          have HW2 := Aside0.mk hw
          clear hw
          by_cases hz : n = 0
          · have hd := setAt_zero l g
            rw [← hz] at hd
            have b2 := eq_false (show ¬ 0 < n by omega)
            have b3 : decide (0 < n) = false := decide_eq_false (by omega)
            have b4 : decide (0 < (n : Int)) = false := decide_eq_false (by omega)
            have HD := Aside0.mk hd
            clear hd hz
            go_wp2_with fail
            go_quiet (first | (go_at_call 61; (with_reducible refine (verditerref02_within.calls _ _ _ _ _ HW.out).mono ?_); rintro e w' ⟨rfl, ⟨nd, rfl⟩⟩; (try first | exact ⟨rfl, _, World.drewN_drewN _ _ _⟩ | exact ⟨rfl, _, Eq.trans (World.drewN_drewN _ _ _) (congrArg (World.drewN _) (Nat.add_assoc _ _ _))⟩)))
            go_wp2
            go_roundw
            case rel => exact ⟨n + 1, by omega, by go_num, yes_set HS.out hlt (by rw [HD.out]; exact decide_eq_true HW2.out), by repeat (first | exact Drawn0.refl _ | apply Drawn0.step)⟩
            case measure => simp [intOf]; omega
          · obtain ⟨ad1, e1, hx1⟩ := Kd.at_int HR0.out ((n : Int) - 1) (by omega) (by omega)
            cases e1
            rw [show ((n : Int) - 1).toNat = n - 1 by omega] at hx1
            have hd := setAt_pos l g n (by omega)
            have HD := Aside0.mk hd
            clear hd
            have b2 := eq_true (show 0 < n by omega)
            by_cases hle : rd l n ≤ rd l ((n : Int) - 1)
            · go_wp2_with fail
              go_quiet (first | (go_at_call 61; (with_reducible refine (verditerref02_within.calls _ _ _ _ _ HW.out).mono ?_); rintro e w' ⟨rfl, ⟨nd, rfl⟩⟩; (try first | exact ⟨rfl, _, World.drewN_drewN _ _ _⟩ | exact ⟨rfl, _, Eq.trans (World.drewN_drewN _ _ _) (congrArg (World.drewN _) (Nat.add_assoc _ _ _))⟩)))
              go_wp2
              go_ret
              exact ⟨by rw [no_set HS.out hlt (by rw [HD.out]; simp only [decide_eq_false_iff_not]; omega)]; first | rfl | simp, by repeat (first | exact Drawn0.refl _ | apply Drawn0.step)⟩
            · go_wp2_with fail
              go_quiet (first | (go_at_call 61; (with_reducible refine (verditerref02_within.calls _ _ _ _ _ HW.out).mono ?_); rintro e w' ⟨rfl, ⟨nd, rfl⟩⟩; (try first | exact ⟨rfl, _, World.drewN_drewN _ _ _⟩ | exact ⟨rfl, _, Eq.trans (World.drewN_drewN _ _ _) (congrArg (World.drewN _) (Nat.add_assoc _ _ _))⟩)))
              go_wp2
              go_roundw
              case rel => exact ⟨n + 1, by omega, by go_num, yes_set HS.out hlt (by rw [HD.out]; exact decide_eq_true ⟨HW2.out.1, HW2.out.2, by omega⟩), by repeat (first | exact Drawn0.refl _ | apply Drawn0.step)⟩
              case measure => simp [intOf]; omega
        · have HW := Aside0.mk ((rwithin (rd l n) 0 (g - 1)).trans (by rw [decide_eq_false hw]) : verditerref02_within.f (rd l n) 0 (g - 1) = some false)
          have hd : setAt l g n = false := by
            by_cases hz : n = 0
            · rw [hz, setAt_zero]; rw [hz] at hw; exact decide_eq_false hw
            · rw [setAt_pos l g n (by omega)]; simp only [decide_eq_false_iff_not]; omega
          have HD := Aside0.mk hd
          clear hd hw
          go_wp2_with fail
          go_quiet (first | (go_at_call 61; (with_reducible refine (verditerref02_within.calls _ _ _ _ _ HW.out).mono ?_); rintro e w' ⟨rfl, ⟨nd, rfl⟩⟩; (try first | exact ⟨rfl, _, World.drewN_drewN _ _ _⟩ | exact ⟨rfl, _, Eq.trans (World.drewN_drewN _ _ _) (congrArg (World.drewN _) (Nat.add_assoc _ _ _))⟩)))
          go_wp2
          go_ret
          exact ⟨by rw [no_set HS.out hlt HD.out]; first | rfl | simp, by repeat (first | exact Drawn0.refl _ | apply Drawn0.step)⟩
      · have e : n = l.length := by omega
        subst e
        go_wp2
        go_ret
        exact ⟨by rw [HS.out, Nat.sub_self]; rfl, by repeat (first | exact Drawn0.refl _ | apply Drawn0.step)⟩
end Go.Proofs.Ytfejfljgdeglgaa.K

/- What the document's 'enough' answers: the table of the states for which so many questions are enough. -/
namespace Go.Proofs.Ytfejfljgdeglgaa.K
open Go.RowKit Go.Proofs.YtfejfljgdeglgaaW.PrintWords Go.Proofs.YtfejfljgdeglgaaW.PrintLast Go.Proofs.YtfejfljgdeglgaaW.PrintMore
set_option linter.unusedVariables false
set_option linter.unusedSimpArgs false
theorem info67 : (Try.prog.info? 67).map (fun i => (i.zero, i.size)) = some (some (.agg (Array.replicate 1089 (.bool false))), 1089) := by kernel_rfl
theorem zero67 (w : World) : (zeroValue 67).run Try.prog w = .ok (.agg (Array.replicate 1089 (.bool false))) w := (zero_of_info info67).1 w
theorem size67 : (Try.prog.info? 67).map (·.size) = some 1089 := (zero_of_info info67).2
/-- The cells of a table. -/
def cellsT (T : Nat → Bool) : Array Value := ((List.range 1089).map fun i => Value.bool (T i)).toArray
theorem cellsT_size (T : Nat → Bool) : (cellsT T).size = 1089 := by simp [cellsT]
theorem cellsT_get (T : Nat → Bool) (i : Nat) (h : i < 1089) : (cellsT T)[i]? = some (.bool (T i)) := by simp [cellsT, h]
theorem cellsT_one (T : Nat → Bool) : ((cellsT T).all fun x => x.oneCell') = true := by
  rw [Array.all_eq_true]
  intro i hi
  simp [cellsT, Value.oneCell']
def upd (T : Nat → Bool) (i : Nat) (v : Bool) : Nat → Bool := fun j => if j = i then v else T j
theorem cellsT_set (T : Nat → Bool) (i : Nat) (v : Bool) : (cellsT T).setIfInBounds i (.bool v) = cellsT (upd T i v) := by
  apply Array.ext_getElem?
  intro j
  rw [Array.getElem?_setIfInBounds]
  by_cases hj : j < 1089
  · rw [cellsT_get _ j hj, cellsT_get _ j hj]
    by_cases e : i = j
    · subst e
      rw [if_pos rfl, if_pos (by rw [cellsT_size]; exact hj)]
      simp [upd]
    · rw [if_neg e]
      simp [upd, Ne.symm e]
  · have hn : ∀ T' : Nat → Bool, (cellsT T')[j]? = none := fun T' => by rw [Array.getElem?_eq_none]; rw [cellsT_size]; omega
    rw [hn, hn]
    by_cases e : i = j
    · rw [if_pos e, if_neg (by rw [cellsT_size]; omega)]
    · rw [if_neg e]
def T0 (i : Nat) : Bool := i == 0 || i == 1 || i == 33
theorem cellsT_zero : (((Array.replicate 1089 (Value.bool false)).setIfInBounds 0 (.bool true)).setIfInBounds 1 (.bool true)).setIfInBounds 33 (.bool true) = cellsT T0 := by kernel_rfl
def ry (f : Nat → Bool) : Nat → Nat → Bool → Bool
  | 0, _, v => v
  | m + 1, y, v => if v = true then true else ry f m (y + 1) (f y)
theorem ry_no (f : Nat → Bool) (m y : Nat) : ry f (m + 1) y false = ry f m (y + 1) (f y) := by rw [ry, if_neg (by decide)]
theorem ry_yes (f : Nat → Bool) : ∀ m y, ry f m y true = true
  | 0, _ => rfl
  | m + 1, y => by rw [ry, if_pos rfl]
def rx (f : Nat → Nat → Bool) (b : Nat) : Nat → Nat → Bool → Bool
  | 0, _, v => v
  | m + 1, x, v => if v = true then true else rx f b m (x + 1) (ry (f x) (b + 1) 0 v)
theorem rx_no (f : Nat → Nat → Bool) (b m x : Nat) : rx f b (m + 1) x false = rx f b m (x + 1) (ry (f x) (b + 1) 0 false) := by rw [rx, if_neg (by decide)]
theorem rx_yes (f : Nat → Nat → Bool) (b : Nat) : ∀ m x, rx f b m x true = true
  | 0, _ => rfl
  | m + 1, x => by rw [rx, if_pos rfl]
/-- Whether both answers to the question (x, y) lead to states of the table. -/
def fT (T : Nat → Bool) (a b x y : Nat) : Bool := T (x * 33 + (y + a - x)) && T ((a - x) * 33 + (b - y + x))
def stepV (T : Nat → Bool) (a b : Nat) : Bool := rx (fT T a b) b (a + 1) 0 (T (a * 33 + b))
/-- The table on the way: all cells before (a, b) are done. -/
def Tab (T : Nat → Bool) (n a b : Nat) : Nat → Bool := fun i => if (i / 33 < a ∨ (i / 33 = a ∧ i % 33 < b)) ∧ i / 33 + i % 33 ≤ n then stepV T (i / 33) (i % 33) else T i
def tabQ (n : Nat) : Nat → Nat → Bool
  | 0 => T0
  | q + 1 => Tab (tabQ n q) n (n + 1) 0
theorem Tab_start (T : Nat → Bool) (n : Nat) : Tab T n 0 0 = T := by
  funext i
  unfold Tab
  rw [if_neg (by omega)]
theorem Tab_cell (T : Nat → Bool) (n a b : Nat) (hb : b ≤ 32) (h : a + b ≤ n) : upd (Tab T n a b) (a * 33 + b) (stepV T a b) = Tab T n a (b + 1) := by
  funext i
  unfold upd Tab
  by_cases e : i = a * 33 + b
  · have e1 : i / 33 = a := by omega
    have e2 : i % 33 = b := by omega
    rw [if_pos e, if_pos (by omega), e1, e2]
  · rw [if_neg e]
    by_cases c : (i / 33 < a ∨ (i / 33 = a ∧ i % 33 < b)) ∧ i / 33 + i % 33 ≤ n
    · rw [if_pos c, if_pos (by omega)]
    · rw [if_neg c, if_neg (by omega)]
theorem Tab_row (T : Nat → Bool) (n a b : Nat) (h : n < a + b) : Tab T n a b = Tab T n (a + 1) 0 := by
  funext i
  unfold Tab
  by_cases c : (i / 33 < a ∨ (i / 33 = a ∧ i % 33 < b)) ∧ i / 33 + i % 33 ≤ n
  · rw [if_pos c, if_pos (by omega)]
  · rw [if_neg c, if_neg (by omega)]
theorem Tab_here (T : Nat → Bool) (n a b : Nat) (hb : b ≤ 32) : Tab T n a b (a * 33 + b) = T (a * 33 + b) := by
  unfold Tab
  rw [if_neg (by omega)]
theorem upd_same (T : Nat → Bool) (i : Nat) : upd T i (T i) = T := by
  funext j
  unfold upd
  split
  · rename_i h; rw [h]
  · rfl
theorem upd_upd (T : Nat → Bool) (i : Nat) (u v : Bool) : upd (upd T i u) i v = upd T i v := by
  funext j
  unfold upd
  split <;> simp_all
theorem upd_at (T : Nat → Bool) (i : Nat) (u : Bool) : upd T i u i = u := by simp [upd]
/-- What stands where: the result's cells, the table of the last round, and what was there. -/
structure E5 (w wr : World) (T : Nat → Bool) : Prop where
  b4 : wr.heap[w.heap.size]? = some (.cells (Array.replicate 1089 (.bool false)) 67 (0, 0))
  b5 : wr.heap[w.heap.size + 1]? = some (.cells (cellsT T) 67 (0, 0))
  bl : Below w.heap.size w wr
/-- .. and the table that is made. -/
structure E7 (w wr : World) (T S : Nat → Bool) (g : Nat) : Prop where
  e5 : E5 w wr T
  b7 : wr.heap[g]? = some (.cells (cellsT S) 67 (0, 0))
  ne : w.heap.size + 2 ≤ g
theorem E7.cell {w wr : World} {T S : Nat → Bool} {g : Nat} (h : E7 w wr T S g) (i : Nat) (hi : i < 1089) : wr.cell? ⟨g, i, none⟩ = some (.bool (S i)) := (blk_cell h.b7 i).trans (cellsT_get S i hi)
theorem E7.cell5 {w wr : World} {T S : Nat → Bool} {g : Nat} (h : E7 w wr T S g) (i : Nat) (hi : i < 1089) : wr.cell? ⟨w.heap.size + 1, i, none⟩ = some (.bool (T i)) := (blk_cell h.e5.b5 i).trans (cellsT_get T i hi)
theorem E7.set {w wr : World} {T S : Nat → Bool} {g : Nat} (h : E7 w wr T S g) (i : Nat) (v : Bool) : E7 w (wr.setCell ⟨g, i, none⟩ (.bool v)) T (upd S i v) g := by
  have hn := h.ne
  refine ⟨⟨blk_far h.e5.b4 (by show w.heap.size ≠ g; omega) _, blk_far h.e5.b5 (by show w.heap.size + 1 ≠ g; omega) _, below_set h.e5.bl (by show w.heap.size ≤ g; omega)⟩, blk_put h.b7 i _ (cellsT_set S i v), h.ne⟩
theorem E7.drew {w wr : World} {T S : Nat → Bool} {g : Nat} (h : E7 w wr T S g) : E7 w wr.drew T S g := ⟨⟨h.e5.b4, h.e5.b5, below_drew1 h.e5.bl⟩, h.b7, h.ne⟩
theorem E5.load {w wr : World} {T : Nat → Bool} (h : E5 w wr T) : (Instr.loadAt 67 (.pointer (some ⟨w.heap.size + 1, 0, none⟩))).run Try.prog wr = .ok (.agg (cellsT T)) wr := by
  simp only [Instr.loadAt, Instr.sureAddr, Sem.run_bind, Sem.run_pure, Result.andThen]
  exact run_loadVar_row wr _ 67 67 (cellsT T) (0, 0) _ h.b5 Try.underlying67 rfl (by rw [size67, cellsT_size])
theorem E7.load {w wr : World} {T S : Nat → Bool} {g : Nat} (h : E7 w wr T S g) : (Instr.loadAt 67 (.pointer (some ⟨g, 0, none⟩))).run Try.prog wr = .ok (.agg (cellsT S)) wr := by
  simp only [Instr.loadAt, Instr.sureAddr, Sem.run_bind, Sem.run_pure, Result.andThen]
  exact run_loadVar_row wr _ 67 67 (cellsT S) (0, 0) _ h.b7 Try.underlying67 rfl (by rw [size67, cellsT_size])
theorem row_at {wr : World} {g k : Nat} {c : Array Value} (h : k ≠ g) : (wr.setRow g c).heap[k]? = wr.heap[k]? := by
  simp only [World.setRow]
  rw [Array.getElem?_modify, if_neg (fun e => h e.symm)]
theorem row_here {wr : World} {g : Nat} {c c0 : Array Value} (h : wr.heap[g]? = some (.cells c0 67 (0, 0))) : (wr.setRow g c).heap[g]? = some (.cells c 67 (0, 0)) := by
  simp only [World.setRow]
  rw [Array.getElem?_modify, if_pos rfl, h]
  rfl
theorem row_below {w wr : World} {g : Nat} {c : Array Value} (h : Below w.heap.size w wr) (hg : w.heap.size ≤ g) : Below w.heap.size w (wr.setRow g c) := by
  refine ⟨h.os, h.tape, h.output, ?_, fun k hk => ?_⟩
  · simp only [World.setRow, Array.size_modify]; exact h.size
  · rw [row_at (by omega)]; exact h.block k hk
theorem E5.store {w wr : World} {T : Nat → Bool} (h : E5 w wr T) (S : Nat → Bool) : (Instr.storeAt 67 (.pointer (some ⟨w.heap.size + 1, 0, none⟩)) (.agg (cellsT S))).run Try.prog wr = .ok () (wr.setRow (w.heap.size + 1) (cellsT S)) := by
  simp only [Instr.storeAt, Instr.sureAddr, Sem.run_bind, Sem.run_pure, Result.andThen]
  exact run_storeVar_row wr _ 67 67 (cellsT T) (cellsT S) h.b5 (by rw [size67, cellsT_size]) (by rw [cellsT_size, cellsT_size]) (cellsT_one S)
theorem E5.stored {w wr : World} {T : Nat → Bool} (h : E5 w wr T) (S : Nat → Bool) : E5 w (wr.setRow (w.heap.size + 1) (cellsT S)) S :=
  ⟨(row_at (by omega)).trans h.b4, row_here h.b5, row_below h.bl (by omega)⟩
theorem E5.store4 {w wr : World} {T : Nat → Bool} (h : E5 w wr T) : (Instr.storeAt 67 (.pointer (some ⟨w.heap.size, 0, none⟩)) (.agg (cellsT T))).run Try.prog wr = .ok () (wr.setRow w.heap.size (cellsT T)) := by
  simp only [Instr.storeAt, Instr.sureAddr, Sem.run_bind, Sem.run_pure, Result.andThen]
  exact run_storeVar_row wr _ 67 67 _ (cellsT T) h.b4 (by rw [size67, cellsT_size]) (by rw [cellsT_size]; simp) (cellsT_one T)
theorem E5.load4 {w wr : World} {T : Nat → Bool} (h : E5 w wr T) : (loadVar 67 ⟨w.heap.size, 0, none⟩).run Try.prog (wr.setRow w.heap.size (cellsT T)) = .ok (.agg (cellsT T)) (wr.setRow w.heap.size (cellsT T)) :=
  run_loadVar_row _ _ 67 67 (cellsT T) (0, 0) _ (row_here h.b4) Try.underlying67 rfl (by rw [size67, cellsT_size])
theorem E5.below4 {w wr : World} {T : Nat → Bool} (h : E5 w wr T) : Below w.heap.size w (wr.setRow w.heap.size (cellsT T)) := row_below h.bl (Nat.le_refl _)
theorem store_new (wr : World) (T : Nat → Bool) : (Instr.storeAt 67 (.pointer (some ⟨wr.heap.size, 0, none⟩)) (.agg (cellsT T))).run Try.prog (wr.alloc (.cells (Array.replicate 1089 (.bool false)) 67)) = .ok () (wr.alloc (.cells (cellsT T) 67)) :=
  run_storeAt_new wr 67 _ (cellsT T) (by rw [size67, cellsT_size]) (by rw [cellsT_size]; simp) (cellsT_one T)
section
variable {P : Program} {ops : Array Oper} {rest : List Oper} {o : Oper} {a : Act} {Q : Exit → Act → World → Prop} {W W1 : World}
theorem load_wp (t : TypeId) (p : Operand) (ho : o.op = .load t p) (hgd : o.guard = none) (ptr v : Value) (hp : a.eval p = ptr) (hld : (Instr.loadAt t ptr).run P W = .ok v W1) (h : wpList P ops Q rest (a.put o.dst v) W1) : wpList P ops Q (o :: rest) a W := by
  refine Kd.event_run hgd ?_ h
  unfold execOp
  rw [ho]
  simp only [Sem.run_bind, Sem.run_pure, hp, hld, Result.andThen]
theorem store_wp (t : TypeId) (p : Tmp) (x : Operand) (ho : o.op = .store t (.tmp p) x) (hgd : o.guard = none) (hN : o.dst = none) (ptr v : Value) (hp : a.eval (.tmp p) = ptr) (hx : a.eval x = v) (hst : (Instr.storeAt t ptr v).run P W = .ok () W1) (h : wpList P ops Q rest a W1) : wpList P ops Q (o :: rest) a W := by
  refine store_event hgd ho hN (w1 := W1) ?_ (fun w' e => by rw [e]; exact h)
  unfold execOp
  rw [ho]
  simp only [Sem.run_bind, Sem.run_pure, hp, hx, hst, Result.andThen]
end

set_option maxHeartbeats 8000000 in
set_option maxRecDepth 100000 in
theorem enough_calls (n q : Nat) (hn : n ≤ 32) (hq : q ≤ 12) (w : World) : Calls Try.prog 54 #[.int .i64 (n : Int), .int .i64 (q : Int)] w fun e w' => e = .returned (.agg (cellsT (tabQ n q))) ∧ Below w.heap.size w w' := by
  have h1 := zero67
  have h0 : E5 w ((w.alloc (Obj.cells (Array.replicate 1089 (Value.bool false)) 67)).alloc (Obj.cells ((((Array.replicate 1089 (Value.bool false)).setIfInBounds 0 (.bool true)).setIfInBounds 1 (.bool true)).setIfInBounds 33 (.bool true)) 67)) (tabQ n 0) := by
    refine ⟨blk_alloc (blk_new w _) _, ?_, below_alloc (below_alloc (Below.refl _ _) _) _⟩
    rw [cellsT_zero]
    have := blk_new (w.alloc (Obj.cells (Array.replicate 1089 (Value.bool false)) 67)) (Obj.cells (cellsT T0) 67)
    rw [show (w.alloc (Obj.cells (Array.replicate 1089 (Value.bool false)) 67)).heap.size = w.heap.size + 1 by simp] at this
    exact this
  have H0 := Aside0.mk h0
  clear h0
  go_enter Try.func54, Try.ntmps54
  go_wp2
  go_loopw [6] (fun i wr => ∃ c : Nat, c ≤ q ∧ i = .int .i64 c ∧ E5 w wr (tabQ n c)) (fun i _ => q - (intOf i).toNat)
  case atStart => exact ⟨0, by omega, rfl, H0.out⟩
  case round =>
    obtain ⟨c, hc, rfl, he⟩ := hrel
    by_cases hlt : c < q
    · have b1 := eq_true (show (c : Int) < (q : Int) by omega)
      have hld := he.load
      have hst := store_new wr (tabQ n c)
      have he7 : E7 w (wr.alloc (Obj.cells (cellsT (tabQ n c)) 67)) (tabQ n c) (Tab (tabQ n c) n 0 0) wr.heap.size := by
        rw [Tab_start]
        exact ⟨⟨blk_alloc he.b4 _, blk_alloc he.b5 _, below_step he.bl (below_alloc (Below.refl _ _) _)⟩, blk_new wr _, by have := blk_lt he.b5; omega⟩
      have HE := Aside0.mk he7
      clear he7
      have hTT : ∃ T, T = tabQ n c := ⟨_, rfl⟩
      obtain ⟨T, hTT⟩ := hTT
      rw [← hTT] at hld hst HE
      have HQ := Aside0.mk hTT.symm
      clear hTT
      clear he
      go_wp2_with (first | ((with_reducible refine gate_dst (N := 23) rfl ?_); refine load_wp 67 (.tmp 5) rfl rfl _ _ rfl hld ?_) | ((with_reducible refine gate_store (t := 67) (p := 7) (v := .tmp 23) rfl ?_); refine store_wp 67 7 (.tmp 23) rfl rfl rfl _ _ rfl rfl hst ?_))
      clear hld hst
      have hg : w.heap.size + 2 ≤ wr.heap.size := HE.out.ne
      generalize (wr.alloc (Obj.cells (cellsT T) 67)) = w7 at HE ⊢
      generalize wr.heap.size = g at HE hg ⊢
      go_loopw [8] (fun i wr => ∃ a : Nat, a ≤ n + 1 ∧ i = .int .i64 a ∧ E7 w wr T (Tab T n a 0) g) (fun i _ => n + 1 - (intOf i).toNat)
      case atStart => exact ⟨0, by omega, rfl, HE.out⟩
      case round =>
        clear HE
        obtain ⟨a, ha, rfl, he⟩ := hrel
        have HE := Aside0.mk he
        clear he
        by_cases hla : a ≤ n
        · have b2 := eq_true (show (a : Int) ≤ (n : Int) by omega)
          go_wp2
          go_loopw [9] (fun i wr => ∃ b : Nat, a + b ≤ n + 1 ∧ i = .int .i64 b ∧ E7 w wr T (Tab T n a b) g) (fun i _ => n + 1 - (intOf i).toNat)
          case atStart => exact ⟨0, by omega, rfl, HE.out⟩
          case round =>
            clear HE
            obtain ⟨b, hb, rfl, he⟩ := hrel
            by_cases hlb : a + b ≤ n
            · have b3 := eq_true (show (a : Int) + (b : Int) ≤ (n : Int) by omega)
              have he1 : E7 w wr T (upd (Tab T n a b) (a * 33 + b) (T (a * 33 + b))) g := by
                have e := upd_same (Tab T n a b) (a * 33 + b)
                rw [Tab_here T n a b (by omega)] at e
                rw [e]
                exact he
              have HE := Aside0.mk he1
              clear he he1
              go_wp2
              go_loopw [10] (fun i wr => ∃ x : Nat, ∃ v : Bool, x ≤ a + 1 ∧ i = .int .i64 x ∧ E7 w wr T (upd (Tab T n a b) (a * 33 + b) v) g ∧ stepV T a b = rx (fT T a b) b (a + 1 - x) x v) (fun i _ => a + 1 - (intOf i).toNat)
              case atStart => exact ⟨0, _, by omega, rfl, HE.out, rfl⟩
              case round =>
                clear HE
                obtain ⟨x, v, hx, rfl, he, hv⟩ := hrel
                have HE := Aside0.mk he
                have HV := Aside0.mk hv
                clear hv
                by_cases hlx : x ≤ a
                · have b4 := eq_true (show (x : Int) ≤ (a : Int) by omega)
                  have hcell := he.cell (a * 33 + b) (by omega)
                  rw [upd_at] at hcell
                  clear he
                  cases v
                  · go_wp2
                    go_loopw [11] (fun i wr => ∃ y : Nat, ∃ v : Bool, y ≤ b + 1 ∧ i = .int .i64 y ∧ E7 w wr T (upd (Tab T n a b) (a * 33 + b) v) g ∧ ry (fT T a b x) (b + 1) 0 false = ry (fT T a b x) (b + 1 - y) y v) (fun i _ => b + 1 - (intOf i).toNat)
                    case atStart => exact ⟨0, _, by omega, rfl, HE.out, rfl⟩
                    case round =>
                      clear HE hcell
                      obtain ⟨y, v, hy, rfl, he, hv2⟩ := hrel
                      have HE := Aside0.mk he
                      have HV2 := Aside0.mk hv2
                      clear hv2
                      have hcell := he.cell (a * 33 + b) (by omega)
                      rw [upd_at] at hcell
                      have hfz := blk_frozen he.b7 (a * 33 + b)
                      by_cases hly : y ≤ b
                      · have b5 := eq_true (show (y : Int) ≤ (b : Int) by omega)
                        have hc1 := he.cell5 (x * 33 + (y + a - x)) (by omega)
                        have hc2 := he.cell5 ((a - x) * 33 + (b - y + x)) (by omega)
                        have HF := Aside0.mk (show fT T a b x y = (T (x * 33 + (y + a - x)) && T ((a - x) * 33 + (b - y + x))) from rfl)
                        generalize T (x * 33 + (y + a - x)) = u1 at hc1 HF
                        generalize T ((a - x) * 33 + (b - y + x)) = u2 at hc2 HF
                        clear he
                        cases v
                        · cases u1
                          · go_wp2
                            go_big_region
                            go_wp2
                            go_roundw
                            case rel => exact ⟨y + 1, false, by omega, by go_num, by have := (HE.out.set (a * 33 + b) false).drew; rw [upd_upd] at this; exact this, by rw [HV2.out, show b + 1 - y = (b - y) + 1 by omega, show b + 1 - (y + 1) = b - y by omega, ry_no, HF.out]; rfl⟩
                            case measure => simp [intOf]; omega
                          · go_wp2
                            go_big_region
                            go_wp2
                            go_roundw
                            case rel => exact ⟨y + 1, u2, by omega, by go_num, by have := (HE.out.set (a * 33 + b) u2).drew; rw [upd_upd] at this; exact this, by rw [HV2.out, show b + 1 - y = (b - y) + 1 by omega, show b + 1 - (y + 1) = b - y by omega, ry_no, HF.out]; rfl⟩
                            case measure => simp [intOf]; omega
                        · go_wp2
                          go_roundw
                          case rel => exact ⟨x + 1, true, by omega, by go_num, HE.out, by rw [HV.out, show a + 1 - x = (a - x) + 1 by omega, show a + 1 - (x + 1) = a - x by omega, rx_no, HV2.out, ry_yes]⟩
                          case measure => simp [intOf]; omega
                      · have e : y = b + 1 := by omega
                        subst e
                        have b5 := eq_false (show ¬ (((b + 1 : Nat) : Int) ≤ (b : Int)) by omega)
                        clear he
                        go_wp2
                        go_roundw
                        case rel => exact ⟨x + 1, v, by omega, by go_num, HE.out, by rw [HV.out, show a + 1 - x = (a - x) + 1 by omega, show a + 1 - (x + 1) = a - x by omega, rx_no, HV2.out, Nat.sub_self]; rfl⟩
                        case measure => simp [intOf]; omega
                  · go_wp2
                    go_roundw
                    case rel => exact ⟨b + 1, by omega, by go_num, by have e := HV.out; rw [rx_yes] at e; rw [← Tab_cell T n a b (by omega) (by omega), e]; exact HE.out⟩
                    case measure => simp [intOf]; omega
                · have e : x = a + 1 := by omega
                  subst e
                  have b4 := eq_false (show ¬ (((a + 1 : Nat) : Int) ≤ (a : Int)) by omega)
                  clear he
                  go_wp2
                  go_roundw
                  case rel => exact ⟨b + 1, by omega, by go_num, by have e := HV.out; rw [Nat.sub_self] at e; rw [← Tab_cell T n a b (by omega) (by omega), e]; exact HE.out⟩
                  case measure => simp [intOf]; omega
            · have b3 := eq_false (show ¬ ((a : Int) + (b : Int) ≤ (n : Int)) by omega)
              have HE := Aside0.mk he
              clear he
              go_wp2
              go_roundw
              case rel => exact ⟨a + 1, by omega, by go_num, by rw [← Tab_row T n a b (by omega)]; exact HE.out⟩
              case measure => simp [intOf]; omega
        · have e : a = n + 1 := by omega
          subst e
          have b2 := eq_false (show ¬ (((n + 1 : Nat) : Int) ≤ (n : Int)) by omega)
          have hld := HE.out.load
          have hst := HE.out.e5.store (Tab T n (n + 1) 0)
          go_wp2_with (first | ((with_reducible refine gate_dst (N := 88) rfl ?_); refine load_wp 67 (.tmp 7) rfl rfl _ _ rfl hld ?_) | ((with_reducible refine gate_store (t := 67) (p := 5) (v := .tmp 88) rfl ?_); refine store_wp 67 5 (.tmp 88) rfl rfl rfl _ _ rfl rfl hst ?_))
          go_roundw
          case rel => exact ⟨c + 1, by omega, by go_num, by rw [tabQ, HQ.out]; exact HE.out.e5.stored (Tab T n (n + 1) 0)⟩
          case measure => simp [intOf]; omega
    · have e : c = q := by omega
      subst e
      have hld := he.load
      have hst := he.store4
      have hrl := he.load4
      have HE := Aside0.mk he
      clear he
      go_wp2_with (first | ((with_reducible refine gate_dst (N := 89) rfl ?_); refine load_wp 67 (.tmp 5) rfl rfl _ _ rfl hld ?_) | ((with_reducible refine gate_store (t := 67) (p := 4) (v := .tmp 89) rfl ?_); refine store_wp 67 4 (.tmp 89) rfl rfl rfl _ _ rfl rfl hst ?_))
      refine bodyPost_ret (v := .agg (cellsT (tabQ n c))) ?_ rfl ⟨rfl, HE.out.below4⟩
      have hrs : Try.f54.results = #[.cell 4 67] := rfl
      simp [results, hrs, asAddr, Result.andThen, hrl, Act.put]
end Go.Proofs.Ytfejfljgdeglgaa.K

/- DERIVED by wip/pr.py: for each Go function named below a Lean function with the same answers, and that a call of it comes to these answers, for all arguments and memories, where the Lean function has an answer. -/
namespace Go.Proofs.Ytfejfljgdeglgaa.K
open Go.RowKit Go.Proofs.YtfejfljgdeglgaaW.PrintWords Go.Proofs.YtfejfljgdeglgaaW.PrintLast Go.Proofs.YtfejfljgdeglgaaW.PrintMore
attribute [local go_sem] max2_int min2_int max_two min_two max_three min_three max_four min_four   -- for this text's walks alone
set_option linter.unusedVariables false
set_option linter.unusedSimpArgs false

/-! ### verditerref02_asked: function 42 -/
def verditerref02_asked.f (a0 : Int) (a1 : Int) (a2 : Int) : Option (Int) := (verditerref02_within.f a0 0 16).bind fun t267 => (if t267 = true then ((verditerref02_within.f a1 0 16).bind fun t268 => (if t268 = true then ((verditerref02_within.f a2 0 12).bind fun t269 => (if t269 = true then (some 0) else (some 1))) else (some 1))) else (some 1))
set_option maxHeartbeats 8000000 in
set_option maxRecDepth 100000 in
theorem verditerref02_asked.calls (a0 : Int) (a1 : Int) (a2 : Int) (r : Int) (w : World) (h : verditerref02_asked.f a0 a1 a2 = some r) :
    Calls Try.prog 42 #[.int .i64 a0, .int .i64 a1, .int .i64 a2] w fun e w' => e = .returned (.int .i64 r) ∧ Drawn0 w w' := by
  have H : ((verditerref02_within.f a0 0 16).bind fun t267 => (if t267 = true then ((verditerref02_within.f a1 0 16).bind fun t268 => (if t268 = true then ((verditerref02_within.f a2 0 12).bind fun t269 => (if t269 = true then (some 0) else (some 1))) else (some 1))) else (some 1))) = some r := h
  clear h
  replace H := Option.bind_eq_some_iff.mp H
  obtain ⟨t267, A40, H⟩ := H
  replace H : (if t267 = true then ((verditerref02_within.f a1 0 16).bind fun t268 => (if t268 = true then ((verditerref02_within.f a2 0 12).bind fun t269 => (if t269 = true then (some 0) else (some 1))) else (some 1))) else (some 1)) = some r := H
  have A4 := Aside0.mk A40
  clear A40
  by_cases c5 : t267 = true
  · subst c5
    have H1 : ((verditerref02_within.f a1 0 16).bind fun t268 => (if t268 = true then ((verditerref02_within.f a2 0 12).bind fun t269 => (if t269 = true then (some 0) else (some 1))) else (some 1))) = some r := by rw [if_pos rfl] at H; exact H
    clear H
    have H := H1
    clear H1
    replace H := Option.bind_eq_some_iff.mp H
    obtain ⟨t268, A60, H⟩ := H
    replace H : (if t268 = true then ((verditerref02_within.f a2 0 12).bind fun t269 => (if t269 = true then (some 0) else (some 1))) else (some 1)) = some r := H
    have A6 := Aside0.mk A60
    clear A60
    by_cases c7 : t268 = true
    · subst c7
      have H1 : ((verditerref02_within.f a2 0 12).bind fun t269 => (if t269 = true then (some 0) else (some 1))) = some r := by rw [if_pos rfl] at H; exact H
      clear H
      have H := H1
      clear H1
      replace H := Option.bind_eq_some_iff.mp H
      obtain ⟨t269, A80, H⟩ := H
      replace H : (if t269 = true then (some 0) else (some 1)) = some r := H
      have A8 := Aside0.mk A80
      clear A80
      by_cases c9 : t269 = true
      · subst c9
        have H1 : (some 0) = some r := by rw [if_pos rfl] at H; exact H
        clear H
        have H := H1
        clear H1
        obtain rfl := Option.some.inj H
        go_enter Try.func42, Try.ntmps42
        go_wp2_with (first | ((with_reducible refine gate_callee (f := 61) rfl ?_); refine goesL_ (some 8) rfl rfl Try.func61 (by kernel_rfl) rfl #[.int .i64 a0, .int .i64 0, .int .i64 16] rfl (by (try simp only [List.map_toArray, List.map_cons, List.map_nil]); first | done | rfl | (simp only [List.length_drop, List.length_take]; rfl)) ?_; (with_reducible refine (verditerref02_within.calls a0 0 16 true _ A4.out).mono ?_); rintro e w' ⟨rfl, ⟨nd, rfl⟩⟩; refine ⟨_, rfl, ?_⟩) | (go_at_call 61; (with_reducible refine (verditerref02_within.calls a1 0 16 true _ A6.out).mono ?_); rintro e w' ⟨rfl, ⟨nd, rfl⟩⟩) | (go_at_call 61; (with_reducible refine (verditerref02_within.calls a2 0 12 true _ A8.out).mono ?_); rintro e w' ⟨rfl, ⟨nd, rfl⟩⟩))
        go_ret
        exact ⟨by first | rfl | (simp; done) | (simp [*]; done), by repeat (first | exact Drawn0.refl _ | apply Drawn0.step)⟩
      · replace c9 := Bool.eq_false_iff.mpr c9
        subst c9
        have H1 : (some 1) = some r := by rw [if_neg (show ¬ (false = true) by decide)] at H; exact H
        clear H
        have H := H1
        clear H1
        obtain rfl := Option.some.inj H
        go_enter Try.func42, Try.ntmps42
        go_wp2_with (first | ((with_reducible refine gate_callee (f := 61) rfl ?_); refine goesL_ (some 8) rfl rfl Try.func61 (by kernel_rfl) rfl #[.int .i64 a0, .int .i64 0, .int .i64 16] rfl (by (try simp only [List.map_toArray, List.map_cons, List.map_nil]); first | done | rfl | (simp only [List.length_drop, List.length_take]; rfl)) ?_; (with_reducible refine (verditerref02_within.calls a0 0 16 true _ A4.out).mono ?_); rintro e w' ⟨rfl, ⟨nd, rfl⟩⟩; refine ⟨_, rfl, ?_⟩) | (go_at_call 61; (with_reducible refine (verditerref02_within.calls a1 0 16 true _ A6.out).mono ?_); rintro e w' ⟨rfl, ⟨nd, rfl⟩⟩) | (go_at_call 61; (with_reducible refine (verditerref02_within.calls a2 0 12 false _ A8.out).mono ?_); rintro e w' ⟨rfl, ⟨nd, rfl⟩⟩))
        go_ret
        exact ⟨by first | rfl | (simp; done) | (simp [*]; done), by repeat (first | exact Drawn0.refl _ | apply Drawn0.step)⟩
    · replace c7 := Bool.eq_false_iff.mpr c7
      subst c7
      have H1 : (some 1) = some r := by rw [if_neg (show ¬ (false = true) by decide)] at H; exact H
      clear H
      have H := H1
      clear H1
      obtain rfl := Option.some.inj H
      go_enter Try.func42, Try.ntmps42
      go_wp2_with (first | ((with_reducible refine gate_callee (f := 61) rfl ?_); refine goesL_ (some 8) rfl rfl Try.func61 (by kernel_rfl) rfl #[.int .i64 a0, .int .i64 0, .int .i64 16] rfl (by (try simp only [List.map_toArray, List.map_cons, List.map_nil]); first | done | rfl | (simp only [List.length_drop, List.length_take]; rfl)) ?_; (with_reducible refine (verditerref02_within.calls a0 0 16 true _ A4.out).mono ?_); rintro e w' ⟨rfl, ⟨nd, rfl⟩⟩; refine ⟨_, rfl, ?_⟩) | (go_at_call 61; (with_reducible refine (verditerref02_within.calls a1 0 16 false _ A6.out).mono ?_); rintro e w' ⟨rfl, ⟨nd, rfl⟩⟩))
      go_ret
      exact ⟨by first | rfl | (simp; done) | (simp [*]; done), by repeat (first | exact Drawn0.refl _ | apply Drawn0.step)⟩
  · replace c5 := Bool.eq_false_iff.mpr c5
    subst c5
    have H1 : (some 1) = some r := by rw [if_neg (show ¬ (false = true) by decide)] at H; exact H
    clear H
    have H := H1
    clear H1
    obtain rfl := Option.some.inj H
    go_enter Try.func42, Try.ntmps42
    go_wp2_with (first | ((with_reducible refine gate_callee (f := 61) rfl ?_); refine goesL_ (some 8) rfl rfl Try.func61 (by kernel_rfl) rfl #[.int .i64 a0, .int .i64 0, .int .i64 16] rfl (by (try simp only [List.map_toArray, List.map_cons, List.map_nil]); first | done | rfl | (simp only [List.length_drop, List.length_take]; rfl)) ?_; (with_reducible refine (verditerref02_within.calls a0 0 16 false _ A4.out).mono ?_); rintro e w' ⟨rfl, ⟨nd, rfl⟩⟩; refine ⟨_, rfl, ?_⟩))
    go_ret
    exact ⟨by first | rfl | (simp; done) | (simp [*]; done), by repeat (first | exact Drawn0.refl _ | apply Drawn0.step)⟩

end Go.Proofs.Ytfejfljgdeglgaa.K

/- DERIVED by wip/pr.py: for each Go function named below a Lean function with the same answers, and that a call of it comes to these answers, for all arguments and memories, where the Lean function has an answer. -/
namespace Go.Proofs.Ytfejfljgdeglgaa.K
open Go.RowKit Go.Proofs.YtfejfljgdeglgaaW.PrintWords Go.Proofs.YtfejfljgdeglgaaW.PrintLast Go.Proofs.YtfejfljgdeglgaaW.PrintMore
attribute [local go_sem] max2_int min2_int max_two min_two max_three min_three max_four min_four   -- for this text's walks alone
set_option linter.unusedVariables false
set_option linter.unusedSimpArgs false

/-! ### verditerref02_after: function 62 -/
def verditerref02_after.f (a0 : Int) (a1 : Int) (a2 : Int) (a3 : Int) (a4 : Bool) : Option (Int × Int) := if a4 = true then (some (a2, wrap64 ((wrap64 (a3 + a0)) - a2))) else (some (wrap64 (a0 - a2), wrap64 ((wrap64 (a1 - a3)) + a2)))
set_option maxHeartbeats 8000000 in
set_option maxRecDepth 100000 in
theorem verditerref02_after.calls (a0 : Int) (a1 : Int) (a2 : Int) (a3 : Int) (a4 : Bool) (r1 : Int) (r2 : Int) (w : World) (h : verditerref02_after.f a0 a1 a2 a3 a4 = some (r1, r2)) :
    Calls Try.prog 62 #[.int .i64 a0, .int .i64 a1, .int .i64 a2, .int .i64 a3, .bool a4] w fun e w' => e = .returned (.tuple #[.int .i64 r1, .int .i64 r2]) ∧ Drawn0 w w' := by
  have H : (if a4 = true then (some (a2, wrap64 ((wrap64 (a3 + a0)) - a2))) else (some (wrap64 (a0 - a2), wrap64 ((wrap64 (a1 - a3)) + a2)))) = some (r1, r2) := h
  clear h
  by_cases c6 : a4 = true
  · subst c6
    have H1 : (some (a2, wrap64 ((wrap64 (a3 + a0)) - a2))) = some (r1, r2) := by rw [if_pos rfl] at H; exact H
    clear H
    have H := H1
    clear H1
    simp only [Option.some.injEq, Prod.mk.injEq] at H
    obtain ⟨rfl, rfl⟩ := H
    go_enter Try.func62, Try.ntmps62
    go_wp2
    go_ret2
    exact ⟨by first | rfl | (simp; done) | (simp [*]; done), by repeat (first | exact Drawn0.refl _ | apply Drawn0.step)⟩
  · replace c6 := Bool.eq_false_iff.mpr c6
    subst c6
    have H1 : (some (wrap64 (a0 - a2), wrap64 ((wrap64 (a1 - a3)) + a2))) = some (r1, r2) := by rw [if_neg (show ¬ (false = true) by decide)] at H; exact H
    clear H
    have H := H1
    clear H1
    simp only [Option.some.injEq, Prod.mk.injEq] at H
    obtain ⟨rfl, rfl⟩ := H
    go_enter Try.func62, Try.ntmps62
    go_wp2
    go_ret2
    exact ⟨by first | rfl | (simp; done) | (simp [*]; done), by repeat (first | exact Drawn0.refl _ | apply Drawn0.step)⟩

end Go.Proofs.Ytfejfljgdeglgaa.K

/- What the documents need, Enough and CheckQuestion answer. -/
namespace Go.Proofs.Ytfejfljgdeglgaa.K
open Go.RowKit Go.Proofs.YtfejfljgdeglgaaW.PrintWords Go.Proofs.YtfejfljgdeglgaaW.PrintLast Go.Proofs.YtfejfljgdeglgaaW.PrintMore
set_option linter.unusedVariables false
set_option linter.unusedSimpArgs false
theorem info66 : (Try.prog.info? 66).map (fun i => (i.zero, i.size)) = some (some (.agg (Array.replicate 33 (.bool false))), 33) := by kernel_rfl
theorem info4b : (Try.prog.info? 4).map (fun i => (i.zero, i.size)) = some (some (.bool false), 1) := by kernel_rfl
theorem sizeOf_of {t : TypeId} {v : Value} {n : Nat} (h : (Try.prog.info? t).map (fun i => (i.zero, i.size)) = some (some v, n)) (w : World) : (sizeOf t).run Try.prog w = .ok n w := by
  cases hq : Try.prog.info? t with
  | none => simp [hq] at h
  | some i =>
    simp [hq] at h
    simp [sizeOf, typeInfo, hq, h.2]
theorem under_run (t : TypeId) (d : TypeDesc) (h : Try.prog.underlying t = some d) (w : World) : (underlying t).run Try.prog w = .ok d w := by
  simp [underlying, h]
theorem index67 (T : Nat → Bool) (a : Nat) (ha : a < 33) (w : World) : (Instr.index 67 (.agg (cellsT T)) (.int .i64 (a : Int))).run Try.prog w = .ok (.agg ((cellsT T).extract (a * 33) (a * 33 + 33))) w := by
  unfold Instr.index
  simp [asIntOf, under_run 67 _ Try.underlying67 w, sizeOf_of info66 w, Result.andThen, ha, part]
theorem index66 (T : Nat → Bool) (a b : Nat) (ha : a < 33) (hb : b < 33) (w : World) : (Instr.index 66 (.agg ((cellsT T).extract (a * 33) (a * 33 + 33))) (.int .i64 (b : Int))).run Try.prog w = .ok (.bool (T (a * 33 + b))) w := by
  have hx : ((cellsT T).extract (a * 33) (a * 33 + 33))[b]? = some (.bool (T (a * 33 + b))) := by
    rw [Array.getElem?_extract, if_pos (by rw [cellsT_size]; omega)]
    exact cellsT_get T (a * 33 + b) (by omega)
  unfold Instr.index
  simp [hx, asIntOf, under_run 66 _ Try.underlying66 w, sizeOf_of info4b w, Result.andThen, hb, part]

theorem enoughAB (a b q : Nat) (ha : a ≤ 16) (hb : b ≤ 16) (hq : q ≤ 12) (w : World) : Calls Try.prog 54 #[.int .i64 ((a : Int) + (b : Int)), .int .i64 (q : Int)] w fun e w' => e = .returned (.agg (cellsT (tabQ (a + b) q))) ∧ Below w.heap.size w w' := by
  have := enough_calls (a + b) q (by omega) hq w
  rw [show ((a + b : Nat) : Int) = (a : Int) + (b : Int) by omega] at this
  exact this
/-- What the document's need answers: the first number of questions, from q on and below 12, that is enough. -/
def needF (a b : Nat) : Nat → Nat → Nat
  | 0, q => q
  | m + 1, q => if tabQ (a + b) q (a * 33 + b) = true then q else needF a b m (q + 1)
def verditerref02_need.f (a b : Int) : Option Int := if 0 ≤ a ∧ a ≤ 16 ∧ 0 ≤ b ∧ b ≤ 16 then some ((needF a.toNat b.toNat 12 0 : Nat) : Int) else none
set_option maxHeartbeats 4000000 in
set_option maxRecDepth 100000 in
theorem verditerref02_need.calls (a0 a1 r : Int) (w : World) (h : verditerref02_need.f a0 a1 = some r) :
    Calls Try.prog 43 #[.int .i64 a0, .int .i64 a1] w fun e w' => e = .returned (.int .i64 r) ∧ Below w.heap.size w w' := by
  unfold verditerref02_need.f at h
  split at h
  case isFalse => cases h
  case isTrue hc =>
    obtain ⟨h0, h1, h2, h3⟩ := hc
    obtain ⟨a, rfl⟩ := Int.eq_ofNat_of_zero_le h0
    obtain ⟨b, rfl⟩ := Int.eq_ofNat_of_zero_le h2
    simp only [Int.toNat_natCast, Option.some.injEq] at h
    subst h
    go_enter Try.func43, Try.ntmps43
    go_wp2
    go_loopw [5] (fun i wr => ∃ q : Nat, q ≤ 12 ∧ i = .int .i64 q ∧ needF a b 12 0 = needF a b (12 - q) q ∧ Below w.heap.size w wr) (fun i _ => 12 - (intOf i).toNat)
    case atStart => exact ⟨0, by omega, rfl, rfl, Below.refl _ _⟩
    case round =>
      obtain ⟨q, hq, rfl, hn, hB⟩ := hrel
      have HN := Aside0.mk hn
      have HB := Aside0.mk hB
      clear hn hB
      by_cases hlt : q < 12
      · have b1 := eq_true (show (q : Int) < 12 by omega)
        have b2 : decide ((q : Int) < 12) = true := decide_eq_true (by omega)
        have i1 := index67 (tabQ (a + b) q) a (by omega)
        have i2 := index66 (tabQ (a + b) q) a b (by omega) (by omega)
        generalize hTv : tabQ (a + b) q (a * 33 + b) = v at i2
        have HT := Aside0.mk hTv
        clear hTv
        cases v
        · go_wp2_with (first | (go_at_call 54; (with_reducible refine (enoughAB a b q (by omega) (by omega) (by omega) _).mono ?_); rintro e w2 ⟨rfl, hb⟩; have HB2 := Aside0.mk (below_step HB.out hb); clear hb))
          go_roundw
          case rel => exact ⟨q + 1, by omega, by go_num, by rw [HN.out, show 12 - q = (12 - (q + 1)) + 1 by omega, needF, HT.out]; simp, HB2.out⟩
          case measure => simp [intOf]; omega
        · go_wp2_with (first | (go_at_call 54; (with_reducible refine (enoughAB a b q (by omega) (by omega) (by omega) _).mono ?_); rintro e w2 ⟨rfl, hb⟩; have HB2 := Aside0.mk (below_step HB.out hb); clear hb))
          go_ret
          exact ⟨by rw [HN.out, show 12 - q = (12 - (q + 1)) + 1 by omega, needF, if_pos HT.out]; rfl, HB2.out⟩
      · have e : q = 12 := by omega
        subst e
        go_wp2
        go_ret
        exact ⟨by rw [HN.out]; rfl, HB.out⟩
theorem rnum' (a b q : Int) : verditerref02_asked.f a b q = some (if 0 ≤ a ∧ a ≤ 16 ∧ 0 ≤ b ∧ b ≤ 16 ∧ 0 ≤ q ∧ q ≤ 12 then 0 else 1) := by
  unfold verditerref02_asked.f
  simp only [rwithin, Option.bind_some, decide_eq_true_eq]
  by_cases h1 : 0 ≤ a ∧ a ≤ 16
  · by_cases h2 : 0 ≤ b ∧ b ≤ 16
    · by_cases h3 : 0 ≤ q ∧ q ≤ 12
      · rw [if_pos h1, if_pos h2, if_pos h3, if_pos (by omega)]
      · rw [if_pos h1, if_pos h2, if_neg h3, if_neg (by omega)]
    · rw [if_pos h1, if_neg h2, if_neg (by omega)]
  · rw [if_neg h1, if_neg (by omega)]
/-- verditerref02.Enough. -/
def verditerref02_Enough.f (a b q : Int) : Option (Bool × Int) := if 0 ≤ a ∧ a ≤ 16 ∧ 0 ≤ b ∧ b ≤ 16 ∧ 0 ≤ q ∧ q ≤ 12 then some (tabQ (a.toNat + b.toNat) q.toNat (a.toNat * 33 + b.toNat), 0) else some (false, 1)
set_option maxHeartbeats 4000000 in
set_option maxRecDepth 100000 in
theorem verditerref02_Enough.calls (a0 a1 a2 : Int) (r1 : Bool) (r2 : Int) (w : World) (h : verditerref02_Enough.f a0 a1 a2 = some (r1, r2)) :
    Calls Try.prog 24 #[.int .i64 a0, .int .i64 a1, .int .i64 a2] w fun e w' => e = .returned (.tuple #[.bool r1, .int .i64 r2]) ∧ Below w.heap.size w w' := by
  unfold verditerref02_Enough.f at h
  have hn := rnum' a0 a1 a2
  by_cases hc : 0 ≤ a0 ∧ a0 ≤ 16 ∧ 0 ≤ a1 ∧ a1 ≤ 16 ∧ 0 ≤ a2 ∧ a2 ≤ 12
  · rw [if_pos hc] at h hn
    obtain ⟨h0, h1, h2, h3, h4, h5⟩ := hc
    obtain ⟨a, rfl⟩ := Int.eq_ofNat_of_zero_le h0
    obtain ⟨b, rfl⟩ := Int.eq_ofNat_of_zero_le h2
    obtain ⟨q, rfl⟩ := Int.eq_ofNat_of_zero_le h4
    simp only [Int.toNat_natCast, Option.some.injEq, Prod.mk.injEq] at h
    obtain ⟨rfl, rfl⟩ := h
    have HN := Aside0.mk hn
    clear hn
    have i1 := index67 (tabQ (a + b) q) a (by omega)
    have i2 := index66 (tabQ (a + b) q) a b (by omega) (by omega)
    go_enter Try.func24, Try.ntmps24
    go_wp2_with (first
      | (go_at_call 42; (with_reducible refine (verditerref02_asked.calls _ _ _ _ _ HN.out).mono ?_); rintro e w' ⟨rfl, ⟨nd, rfl⟩⟩)
      | (go_at_call 54; (with_reducible refine (enoughAB a b q (by omega) (by omega) (by omega) _).mono ?_); rintro e w2 ⟨rfl, hb⟩; have HB2 := Aside0.mk (below_step (pw_below_drewN (Below.refl _ _) _) hb); clear hb))
    go_ret2
    exact ⟨rfl, HB2.out⟩
  · rw [if_neg hc] at h hn
    simp only [Option.some.injEq, Prod.mk.injEq] at h
    obtain ⟨rfl, rfl⟩ := h
    have HN := Aside0.mk hn
    clear hn hc
    go_enter Try.func24, Try.ntmps24
    go_wp2_with (first
      | (go_at_call 42; (with_reducible refine (verditerref02_asked.calls _ _ _ _ _ HN.out).mono ?_); rintro e w' ⟨rfl, ⟨nd, rfl⟩⟩)
      | fail)
    go_ret2
    exact ⟨rfl, pw_below_drewN (Below.refl _ _) _⟩
theorem wrapS {x : Int} (h1 : -9223372036854775808 ≤ x) (h2 : x ≤ 9223372036854775807) : wrap64 x = x := by unfold wrap64; omega
theorem afterYes (a b x y : Nat) (ha : a ≤ 16) (hb : b ≤ 16) (hx : x ≤ a) (hy : y ≤ b) : verditerref02_after.f a b x y true = some ((x : Int), (y : Int) + a - x) := by
  unfold verditerref02_after.f
  rw [if_pos rfl, wrapS (x := (y : Int) + a) (by omega) (by omega), wrapS (x := (y : Int) + a - x) (by omega) (by omega)]
theorem afterNo (a b x y : Nat) (ha : a ≤ 16) (hb : b ≤ 16) (hx : x ≤ a) (hy : y ≤ b) : verditerref02_after.f a b x y false = some ((a : Int) - x, (b : Int) - y + x) := by
  unfold verditerref02_after.f
  rw [if_neg (by decide), wrapS (x := (a : Int) - x) (by omega) (by omega), wrapS (x := (b : Int) - y) (by omega) (by omega), wrapS (x := (b : Int) - y + x) (by omega) (by omega)]
/-- verditerref02.CheckQuestion. -/
def verditerref02_CheckQuestion.f (a b x y q : Int) : Option Int := if 0 ≤ a ∧ a ≤ 16 ∧ 0 ≤ b ∧ b ≤ 16 ∧ 0 ≤ q ∧ q ≤ 12 then (if q = 0 then some 1 else if 0 ≤ x ∧ x ≤ a then (if 0 ≤ y ∧ y ≤ b then some (cond (fT (tabQ (a.toNat + b.toNat) (q.toNat - 1)) a.toNat b.toNat x.toNat y.toNat) 0 7) else some 8) else some 8) else some 1
set_option maxHeartbeats 4000000 in
set_option maxRecDepth 100000 in
theorem verditerref02_CheckQuestion.calls (a0 a1 a2 a3 a4 r : Int) (w : World) (h : verditerref02_CheckQuestion.f a0 a1 a2 a3 a4 = some r) :
    Calls Try.prog 29 #[.int .i64 a0, .int .i64 a1, .int .i64 a2, .int .i64 a3, .int .i64 a4] w fun e w' => e = .returned (.int .i64 r) ∧ Below w.heap.size w w' := by
  unfold verditerref02_CheckQuestion.f at h
  have hn := rnum' a0 a1 a4
  by_cases hc : 0 ≤ a0 ∧ a0 ≤ 16 ∧ 0 ≤ a1 ∧ a1 ≤ 16 ∧ 0 ≤ a4 ∧ a4 ≤ 12
  · rw [if_pos hc] at h hn
    obtain ⟨h0, h1, h2, h3, h4, h5⟩ := hc
    have HN := Aside0.mk hn
    clear hn
    by_cases hq : a4 = 0
    · rw [if_pos hq] at h
      obtain rfl := Option.some.inj h
      subst hq
      clear h
      go_enter Try.func29, Try.ntmps29
      go_wp2_with (first
        | (go_at_call 42; (with_reducible refine (verditerref02_asked.calls _ _ _ _ _ HN.out).mono ?_); rintro e w' ⟨rfl, ⟨nd, rfl⟩⟩)
        | fail)
      go_ret
      exact ⟨rfl, pw_below_drewN (Below.refl _ _) _⟩
    · rw [if_neg hq] at h
      by_cases hx : 0 ≤ a2 ∧ a2 ≤ a0
      · rw [if_pos hx] at h
        have HX := Aside0.mk ((rwithin a2 0 a0).trans (by rw [decide_eq_true hx]) : verditerref02_within.f a2 0 a0 = some true)
        by_cases hy : 0 ≤ a3 ∧ a3 ≤ a1
        · rw [if_pos hy] at h
          have HY := Aside0.mk ((rwithin a3 0 a1).trans (by rw [decide_eq_true hy]) : verditerref02_within.f a3 0 a1 = some true)
          obtain ⟨a, rfl⟩ := Int.eq_ofNat_of_zero_le h0
          obtain ⟨b, rfl⟩ := Int.eq_ofNat_of_zero_le h2
          obtain ⟨x, rfl⟩ := Int.eq_ofNat_of_zero_le hx.1
          obtain ⟨y, rfl⟩ := Int.eq_ofNat_of_zero_le hy.1
          obtain ⟨q, rfl⟩ : ∃ q : Nat, a4 = (q : Int) + 1 := ⟨(a4 - 1).toNat, by omega⟩
          have hx2 : x ≤ a := by omega
          have hy2 : y ≤ b := by omega
          rw [show ((q : Int) + 1).toNat - 1 = q by omega] at h
          simp only [Int.toNat_natCast, Option.some.injEq] at h
          have HA := Aside0.mk (afterYes a b x y (by omega) (by omega) hx2 hy2)
          have HB := Aside0.mk (afterNo a b x y (by omega) (by omega) hx2 hy2)
          have HF : Aside0 (fT (tabQ (a + b) q) a b x y = (tabQ (a + b) q (x * 33 + (y + a - x)) && tabQ (a + b) q ((a - x) * 33 + (b - y + x)))) := ⟨rfl⟩
          have HR := Aside0.mk h
          have hqz : ((q : Int) + 1 == 0) = false := by simp; omega
          have z1 := zero67
          clear h hx hy hq
          obtain ⟨T, hT⟩ : ∃ T, T = tabQ (a + b) q := ⟨_, rfl⟩
          have HT := Aside0.mk hT
          rw [← hT] at HF HR
          clear hT
          obtain ⟨u1, hu1⟩ : ∃ u1, T (x * 33 + (y + a - x)) = u1 := ⟨_, rfl⟩
          obtain ⟨u2, hu2⟩ : ∃ u2, T ((a - x) * 33 + (b - y + x)) = u2 := ⟨_, rfl⟩
          have U1 := Aside0.mk hu1
          have U2 := Aside0.mk hu2
          clear hu1 hu2
          have b0 := eq_true (show x ≤ a from hx2)
          have b1 := eq_true (show y ≤ b from hy2)
          cases u1
          all_goals cases u2
          all_goals go_enter Try.func29, Try.ntmps29
          all_goals go_wp2_with (first
            | (go_at_call 42; (with_reducible refine (verditerref02_asked.calls _ _ _ _ _ HN.out).mono ?_); rintro e w' ⟨rfl, ⟨nd, rfl⟩⟩)
            | (go_at_call 61; (with_reducible refine (verditerref02_within.calls _ _ _ _ _ HX.out).mono ?_); rintro e w' ⟨rfl, ⟨nd, rfl⟩⟩)
            | (go_at_call 61; (with_reducible refine (verditerref02_within.calls _ _ _ _ _ HY.out).mono ?_); rintro e w' ⟨rfl, ⟨nd, rfl⟩⟩)
            | (go_at_call 54; (with_reducible refine (enoughAB a b q (by omega) (by omega) (by omega) _).mono ?_); rintro e w2 ⟨rfl, hb⟩; rw [← HT.out]; have hb1 : Below w.heap.size w w2 := below_step (by repeat (first | exact Below.refl _ _ | apply pw_below_drewN)) hb; have HB2 := Aside0.mk hb1; have hst := store_new w2 T; have hc1 := (World.cell?_alloc_at (w := w2) (cellsT T) 67 w2.heap.size (x * 33 + (y + a - x)) rfl).trans (cellsT_get T (x * 33 + (y + a - x)) (by omega)); rw [U1.out] at hc1; have hc2 := (World.cell?_alloc_at (w := w2) (cellsT T) 67 w2.heap.size ((a - x) * 33 + (b - y + x)) rfl).trans (cellsT_get T ((a - x) * 33 + (b - y + x)) (by omega)); rw [U2.out] at hc2; clear hb1; clear hb)
            | ((with_reducible refine gate_store (t := 67) (p := 12) (v := .tmp 41) rfl ?_); refine store_wp 67 12 (.tmp 41) rfl rfl rfl _ _ rfl rfl hst ?_)
            | (go_at_call 62; (with_reducible refine (verditerref02_after.calls _ _ _ _ _ _ _ _ HA.out).mono ?_); rintro e w' ⟨rfl, ⟨nd, rfl⟩⟩)
            | (go_at_call 62; (with_reducible refine (verditerref02_after.calls _ _ _ _ _ _ _ _ HB.out).mono ?_); rintro e w' ⟨rfl, ⟨nd, rfl⟩⟩))
          all_goals go_ret
          all_goals exact ⟨by rw [← HR.out, HF.out, U1.out, U2.out]; rfl, by repeat (first | exact HB2.out | apply pw_below_drewN | apply below_alloc)⟩
        · rw [if_neg hy] at h
          obtain rfl := Option.some.inj h
          have HY := Aside0.mk ((rwithin a3 0 a1).trans (by rw [decide_eq_false hy]) : verditerref02_within.f a3 0 a1 = some false)
          clear h hx hy
          have hqz : (a4 == 0) = false := by simpa using hq
          go_enter Try.func29, Try.ntmps29
          go_wp2_with (first
            | (go_at_call 42; (with_reducible refine (verditerref02_asked.calls _ _ _ _ _ HN.out).mono ?_); rintro e w' ⟨rfl, ⟨nd, rfl⟩⟩)
            | (go_at_call 61; (with_reducible refine (verditerref02_within.calls _ _ _ _ _ HX.out).mono ?_); rintro e w' ⟨rfl, ⟨nd, rfl⟩⟩)
            | (go_at_call 61; (with_reducible refine (verditerref02_within.calls _ _ _ _ _ HY.out).mono ?_); rintro e w' ⟨rfl, ⟨nd, rfl⟩⟩))
          go_ret
          exact ⟨rfl, by repeat (first | exact Below.refl _ _ | apply pw_below_drewN)⟩
      · rw [if_neg hx] at h
        obtain rfl := Option.some.inj h
        have HX := Aside0.mk ((rwithin a2 0 a0).trans (by rw [decide_eq_false hx]) : verditerref02_within.f a2 0 a0 = some false)
        clear h hx
        have hqz : (a4 == 0) = false := by simpa using hq
        go_enter Try.func29, Try.ntmps29
        go_wp2_with (first
          | (go_at_call 42; (with_reducible refine (verditerref02_asked.calls _ _ _ _ _ HN.out).mono ?_); rintro e w' ⟨rfl, ⟨nd, rfl⟩⟩)
          | (go_at_call 61; (with_reducible refine (verditerref02_within.calls _ _ _ _ _ HX.out).mono ?_); rintro e w' ⟨rfl, ⟨nd, rfl⟩⟩))
        go_ret
        exact ⟨rfl, by repeat (first | exact Below.refl _ _ | apply pw_below_drewN)⟩
  · rw [if_neg hc] at h hn
    obtain rfl := Option.some.inj h
    have HN := Aside0.mk hn
    clear hn hc h
    go_enter Try.func29, Try.ntmps29
    go_wp2_with (first
      | (go_at_call 42; (with_reducible refine (verditerref02_asked.calls _ _ _ _ _ HN.out).mono ?_); rintro e w' ⟨rfl, ⟨nd, rfl⟩⟩)
      | fail)
    go_ret
    exact ⟨rfl, pw_below_drewN (Below.refl _ _) _⟩
end Go.Proofs.Ytfejfljgdeglgaa.K

/- The solver of judge: its answer where the weight is too great, and where its memory holds the state. -/
namespace Go.Proofs.Ytfejfljgdeglgaa.K
open Go.RowKit Go.Maps Go.Proofs.YtfejfljgdeglgaaW.PrintWords Go.Proofs.YtfejfljgdeglgaaW.PrintLast Go.Proofs.YtfejfljgdeglgaaW.PrintMore
set_option linter.unusedVariables false
set_option linter.unusedSimpArgs false
theorem wrap_id {x : Int} (h1 : -9223372036854775808 ≤ x) (h2 : x ≤ 9223372036854775807) : wrap64 x = x := by unfold wrap64; omega
theorem wrapK (x : Int) : IntKind.i64.wrap x = wrap64 x := by rw [IntKind.wrap_i64]; unfold wrap64; omega
theorem pow_le (q : Nat) (hq : q ≤ 60) : (2 : Int) ^ (q + 1) ≤ 2305843009213693952 := by
  have : (2 : Nat) ^ (q + 1) ≤ 2 ^ 61 := Nat.pow_le_pow_right (by omega) (by omega)
  have h2 : ((2 ^ (q + 1) : Nat) : Int) ≤ ((2 ^ 61 : Nat) : Int) := Int.ofNat_le.2 this
  simpa using h2
theorem pow_wrap (q : Nat) (hq : q ≤ 60) : IntKind.i64.wrap ((2 : Int) ^ (q + 1)) = 2 ^ (q + 1) := by
  rw [wrapK]
  have := pow_le q hq
  have h0 : (0 : Int) ≤ 2 ^ (q + 1) := by
    have : ((0 : Nat) : Int) ≤ ((2 ^ (q + 1) : Nat) : Int) := Int.ofNat_le.2 (Nat.zero_le _)
    simpa using this
  exact wrap_id (by omega) (by omega)
theorem mul_small {a q : Nat} (ha : a ≤ 64) (hq : q ≤ 60) : (a : Int) * ((q : Int) + 2) ≤ 4096 ∧ 0 ≤ (a : Int) * ((q : Int) + 2) := by
  have h : a * (q + 2) ≤ 64 * 62 := Nat.mul_le_mul ha (by omega)
  have h2 : ((a * (q + 2) : Nat) : Int) ≤ ((64 * 62 : Nat) : Int) := Int.ofNat_le.2 h
  have h3 : ((0 : Nat) : Int) ≤ ((a * (q + 2) : Nat) : Int) := Int.ofNat_le.2 (Nat.zero_le _)
  simp at h2 h3
  omega
theorem cell_kept {W W' : World} {row : Option Nat} {B o : Nat} {v : Value} (h : W.cell? ⟨B, o, none⟩ = some v) (hg : W.grownBy W' row) (hne : some B ≠ row) : W'.cell? ⟨B, o, none⟩ = some v :=
  (World.cell?_of_block (hg.block B (World.block_lt_of_cell? W _ h) hne)).trans h
theorem box_cells (W : World) (a b : Int) : (W.alloc (Obj.cells #[.int .i64 a, .int .i64 b] 58)).cell? ⟨W.heap.size, 0, none⟩ = some (.int .i64 a) ∧ (W.alloc (Obj.cells #[.int .i64 a, .int .i64 b] 58)).cell? ⟨W.heap.size, 1, none⟩ = some (.int .i64 b) := by
  exact ⟨World.cell?_alloc_at _ _ _ _ rfl, World.cell?_alloc_at _ _ _ _ rfl⟩
theorem best0 (w : World) : (zeroValue 96).run Try.prog w = .ok (.agg #[.int .i64 0, .int .i64 0, .bool false]) w := by kernel_rfl
theorem weight_calls (q a b : Nat) (W : World) (hq : q ≤ 60) (hs : a + b ≤ 64) : Calls Try.prog 46 #[.agg #[.int .i64 (a : Int), .int .i64 (b : Int)], .int .i64 ((q : Int) + 1)] W fun e w' =>
    e = .returned (.int .i64 ((a : Int) * ((q : Int) + 2) + b)) ∧ Below W.heap.size W w' := by
  refine judge_state_weight.calls a b ((q : Int) + 1) _ W ?_
  unfold judge_state_weight.f
  obtain ⟨m1, m2⟩ := mul_small (a := a) (q := q) (by omega) hq
  rw [wrap_id (x := (q : Int) + 1 + 1) (by omega) (by omega)]
  rw [show (q : Int) + 1 + 1 = (q : Int) + 2 by omega]
  rw [wrap_id (x := (a : Int) * ((q : Int) + 2)) (by omega) (by omega), wrap_id (by omega) (by omega)]

set_option maxHeartbeats 4000000 in
set_option maxRecDepth 100000 in
theorem solve_heavy (q a b B1 B2 M : Nat) (f : Lit → Option Value) (W : World) (hq : q ≤ 60) (hab : 1 < a + b) (hs : a + b ≤ 64) (hw : 2 ^ (q + 1) < a * (q + 2) + b) (hm : Mem W B1 B2 M f) :
  Calls Try.prog 87 #[.agg #[.int .i64 (a : Int), .int .i64 (b : Int)], .int .i64 ((q : Int) + 1), .pointer (some ⟨B1, 0, none⟩), .pointer (some ⟨B2, 0, none⟩)] W fun e W' =>
    e = .returned (.tuple #[.int .i64 0, .int .i64 0, .bool false]) ∧ (∃ f', Mem W' B1 B2 M f') ∧ W.grownBy W' (some M) := by
  have HM := Aside0.mk hm
  have h1 : ¬ ((a : Int) + (b : Int) ≤ 1) := by omega
  have hqz : ¬ ((q : Int) + 1 = 0) := by omega
  clear hm
  go_enter Try.func87, Try.ntmps87
  go_wp2_with fail
  have hd : decide ((q : Int) + 1 = 0) = false := by simpa using hqz
  have hd' : (((q : Int) + 1) == 0) = false := by simpa using hqz
  have hp := pow_wrap q hq
  have hw2 : (2 : Int) ^ (q + 1) < (a : Int) * ((q : Int) + 2) + b := by
    have : ((2 ^ (q + 1) : Nat) : Int) < ((a * (q + 2) + b : Nat) : Int) := Int.ofNat_lt.2 hw
    simpa using this
  clear hw
  go_region_with (first | (go_at_call 46; refine (weight_calls q a b _ hq hs).mono ?_; rintro e w1 ⟨rfl, hb⟩; have HB := Aside0.mk hb; clear hb))
  all_goals go_wp2

  all_goals go_ret3

  all_goals
    refine ⟨rfl, ⟨f, HM.out.grown (grown_of_below ?_)⟩, grown_none (grown_of_below ?_)⟩ <;>
    repeat (first | exact Below.refl _ _ | (with_reducible refine below_step ?_ HB.out) | (with_reducible first | apply below_alloc | apply pw_below_drewN | apply below_drew1 | apply below_drew))

set_option maxHeartbeats 4000000 in
set_option maxRecDepth 100000 in
theorem solve_found (q a b B1 B2 M : Nat) (f : Lit → Option Value) (W : World) (hq : q ≤ 60) (hab : 1 < a + b) (hs : a + b ≤ 64) (hw : ¬ 2 ^ (q + 1) < a * (q + 2) + b) (hm : Mem W B1 B2 M f) (x y : Nat) (z : Bool)
  (hf : f (.string (keyBytes [.int .i64 a, .int .i64 b, .int .i64 ((q : Int) + 1)])) = some (.agg #[.int .i64 (x : Int), .int .i64 (y : Int), .bool z])) :
  Calls Try.prog 87 #[.agg #[.int .i64 (a : Int), .int .i64 (b : Int)], .int .i64 ((q : Int) + 1), .pointer (some ⟨B1, 0, none⟩), .pointer (some ⟨B2, 0, none⟩)] W fun e W' =>
    e = .returned (.tuple #[.int .i64 (x : Int), .int .i64 (y : Int), .bool z]) ∧ (∃ f', Mem W' B1 B2 M f') ∧ W.grownBy W' (some M) := by
  have HM := Aside0.mk hm
  have HF := Aside0.mk hf
  clear hf
  have h1 : ¬ ((a : Int) + (b : Int) ≤ 1) := by omega
  have hqz : ¬ ((q : Int) + 1 = 0) := by omega
  clear hm
  go_enter Try.func87, Try.ntmps87
  go_wp2_with fail
  have hd : decide ((q : Int) + 1 = 0) = false := by simpa using hqz
  have hd' : (((q : Int) + 1) == 0) = false := by simpa using hqz
  have hp := pow_wrap q hq
  have hw2 : ¬ (2 : Int) ^ (q + 1) < (a : Int) * ((q : Int) + 2) + b := by
    intro h
    have : ((2 ^ (q + 1) : Nat) : Int) < ((a * (q + 2) + b : Nat) : Int) := by simpa using h
    exact hw (Int.ofNat_lt.1 this)
  clear hw
  go_region_with (first | (go_at_call 46; refine (weight_calls q a b _ hq hs).mono ?_; rintro e w1 ⟨rfl, hb⟩; have HB := Aside0.mk hb; have HM1 := Aside0.mk (HM.out.grown (grown_of_below (below_step (by repeat (first | exact Below.refl _ _ | apply below_drew1 | apply below_alloc)) hb))); have ⟨k0, k1⟩ := box_cells W a b; have g0 := cell_kept k0 (grown_of_below (below_step (by repeat (first | exact Below.refl _ _ | apply below_drew1 | apply below_alloc)) hb)) (by simp); have g1 := cell_kept k1 (grown_of_below (below_step (by repeat (first | exact Below.refl _ _ | apply below_drew1 | apply below_alloc)) hb)) (by simp); have g2 := HM1.out.c1; have hlk := HM1.out.m.look_ok (e := 96) keyed99 Try.underlying94 (best0 w1) (key99 a b ((q : Int) + 1) (by go_wf) (by go_wf) (by go_wf)); rw [HF.out] at hlk; simp only [Option.getD_some, Option.isSome_some] at hlk; clear k0 k1 hb))
  all_goals go_wp2_with fail
  all_goals go_quiet (fail)
  all_goals go_wp2_with fail
  all_goals go_ret3
  all_goals trace_state
  all_goals
    refine ⟨rfl, ⟨f, HM1.out.grown (grown_of_below ?_)⟩, grown_none (grown_of_below ?_)⟩ <;>
    repeat (first | exact Below.refl _ _ | (with_reducible refine below_step ?_ HB.out) | (with_reducible first | apply below_alloc | apply pw_below_drewN | apply below_drew1 | apply below_drew))
end Go.Proofs.Ytfejfljgdeglgaa.K
