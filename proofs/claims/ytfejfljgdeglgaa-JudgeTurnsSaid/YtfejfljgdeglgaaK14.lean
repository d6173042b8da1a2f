/- DERIVED by wip/pr.py: for each Go function named below a Lean function with the same answers, and that a call of it comes to these answers, for all arguments and memories, where the Lean function has an answer. -/
import Derived.Test.YtfejfljgdeglgaaK0
import Derived.Test.YtfejfljgdeglgaaK1
import Derived.Test.YtfejfljgdeglgaaHV
namespace Go.Proofs.Ytfejfljgdeglgaa.K
open Go.RowKit Go.Proofs.YtfejfljgdeglgaaW.PrintWords Go.Proofs.YtfejfljgdeglgaaW.PrintLast Go.Proofs.YtfejfljgdeglgaaW.PrintMore
attribute [local go_sem] max2_int min2_int max_two min_two max_three min_three max_four min_four   -- for this text's walks alone
set_option linter.unusedVariables false
set_option linter.unusedSimpArgs false

/-! ### judge_Turn: function 69 -/
mutual
def judge_Turn.l0 : Nat → Int → List (S49) → List (S49) → Int → Int → Option ((List (S49)) × Int)
  | 0, _, _, _, _, _ => none
  | k + 1, x1, x7, x18, x19, x20 => if x20 < x19 then (if 0 ≤ x20 then (if x20 < (x18.length : Int) then (judge_Turn.l1 k x1 x7 ([] : List Int) x18 x19 x20 x1 0 ((rd_T49 x18 x20).f0) ((rd_T49 x18 x20).f1)) else (none)) else (none)) else (some (x7, 0))
def judge_Turn.l1 : Nat → Int → List (S49) → List Int → List (S49) → Int → Int → Int → Int → List Int → Bool → Option ((List (S49)) × Int)
  | 0, _, _, _, _, _, _, _, _, _, _ => none
  | k + 1, x1, x7, x10, x18, x19, x20, x24, x25, x321000, x321001 => if x25 < x24 then ((slices_Contains_int_int.f k x321000 x25).bind fun t321 => (if t321 = true then (judge_Turn.l1 k x1 x7 x10 x18 x19 x20 x24 (wrap64 (x25 + 1)) x321000 x321001) else (if x10.length < 17592186044416 then (judge_Turn.l1 k x1 x7 (x10 ++ [x25]) x18 x19 x20 x24 (wrap64 (x25 + 1)) x321000 x321001) else (none)))) else (if x7.length < 4398046511104 then (judge_Turn.l0 k x1 (x7 ++ [(⟨x10, !x321001⟩ : S49)]) x18 x19 (wrap64 (x20 + 1))) else (none))
end
def judge_Turn.f (k : Nat) (l0 : List (S49)) (a1 : Int) : Option ((List (S49)) × Int) := (judge_Validate.f a1 l0).bind fun t318 => (if t318 = 0 then (judge_Turn.l0 k a1 ([] : List (S49)) l0 (l0.length : Int) 0) else (some (([] : List (S49)), t318)))
theorem judge_Turn.mono_l : ∀ k, (∀ y0 y1 y2 y3 y4, LeO (judge_Turn.l0 k y0 y1 y2 y3 y4) (judge_Turn.l0 (k + 1) y0 y1 y2 y3 y4)) ∧ (∀ y0 y1 y2 y3 y4 y5 y6 y7 y8 y9, LeO (judge_Turn.l1 k y0 y1 y2 y3 y4 y5 y6 y7 y8 y9) (judge_Turn.l1 (k + 1) y0 y1 y2 y3 y4 y5 y6 y7 y8 y9))
  | 0 => ⟨fun _ _ _ _ _ r h => by simp [judge_Turn.l0] at h, fun _ _ _ _ _ _ _ _ _ _ r h => by simp [judge_Turn.l1] at h⟩
  | k + 1 => by
    obtain ⟨ih0, ih1⟩ := judge_Turn.mono_l k
    refine ⟨?_, ?_⟩
    · intro y0 y1 y2 y3 y4
      unfold judge_Turn.l0
      repeat' first
      | (with_reducible exact ih0 _ _ _ _ _)
      | (with_reducible exact ih1 _ _ _ _ _ _ _ _ _ _)
      | (with_reducible exact slices_Contains_int_int.mono _ _ _)
      | (with_reducible exact LeO.refl _)
      | (with_reducible exact LeO.none _)
      | (with_reducible refine LeO.ite ?_ ?_)
      | (with_reducible refine LeO.bind ?_ (fun _ => ?_))
      | exact ih0 _ _ _ _ _
      | exact ih1 _ _ _ _ _ _ _ _ _ _
      | exact slices_Contains_int_int.mono _ _ _
      | exact LeO.none _
      | refine LeO.ite ?_ ?_
      | refine LeO.bind ?_ (fun _ => ?_)
    · intro y0 y1 y2 y3 y4 y5 y6 y7 y8 y9
      unfold judge_Turn.l1
      repeat' first
      | (with_reducible exact ih0 _ _ _ _ _)
      | (with_reducible exact ih1 _ _ _ _ _ _ _ _ _ _)
      | (with_reducible exact slices_Contains_int_int.mono _ _ _)
      | (with_reducible exact LeO.refl _)
      | (with_reducible exact LeO.none _)
      | (with_reducible refine LeO.ite ?_ ?_)
      | (with_reducible refine LeO.bind ?_ (fun _ => ?_))
      | exact ih0 _ _ _ _ _
      | exact ih1 _ _ _ _ _ _ _ _ _ _
      | exact slices_Contains_int_int.mono _ _ _
      | exact LeO.none _
      | refine LeO.ite ?_ ?_
      | refine LeO.bind ?_ (fun _ => ?_)
theorem judge_Turn.mono : ∀ a0 a1 k, LeO (judge_Turn.f k a0 a1) (judge_Turn.f (k + 1) a0 a1) := by
  intro a0 a1 k
  obtain ⟨ih0, ih1⟩ := judge_Turn.mono_l k
  unfold judge_Turn.f
  repeat' first
      | (with_reducible exact ih0 _ _ _ _ _)
      | (with_reducible exact ih1 _ _ _ _ _ _ _ _ _ _)
      | (with_reducible exact slices_Contains_int_int.mono _ _ _)
      | (with_reducible exact LeO.refl _)
      | (with_reducible exact LeO.none _)
      | (with_reducible refine LeO.ite ?_ ?_)
      | (with_reducible refine LeO.bind ?_ (fun _ => ?_))
      | exact ih0 _ _ _ _ _
      | exact ih1 _ _ _ _ _ _ _ _ _ _
      | exact slices_Contains_int_int.mono _ _ _
      | exact LeO.none _
      | refine LeO.ite ?_ ?_
      | refine LeO.bind ?_ (fun _ => ?_)
set_option maxHeartbeats 8000000 in
set_option maxRecDepth 100000 in
theorem judge_Turn.calls (k : Nat) (A0 : Option Addr) (c0 : Nat) (l0 : List (S49)) (a1 : Int) (r1 : List (S49)) (r2 : Int) (w : World) (hr0 : Kd.C k49 w A0 l0.length l0) (hc0 : l0.length ≤ c0) (h : judge_Turn.f k l0 a1 = some (r1, r2)) :
    Calls Try.prog 69 #[.slice A0 l0.length c0, .int .i64 a1] w fun e w' => ∃ v0_ : Value, e = .returned (.tuple #[v0_, .int .i64 r2]) ∧ Kd.S k49 49 w' w.heap.size (fun _ => True) v0_ r1 ∧ Below w.heap.size w w' := by
  have hu49 := Try.underlying49
  have HR0 := Aside0.mk hr0
  have HC0 := Aside0.mk hc0
  clear hr0 hc0
  have HB := Aside0.mk (Below.refl w.heap.size w)
  have H : ((judge_Validate.f a1 l0).bind fun t318 => (if t318 = 0 then (judge_Turn.l0 k a1 ([] : List (S49)) l0 (l0.length : Int) 0) else (some (([] : List (S49)), t318)))) = some (r1, r2) := h
  clear h
  replace H := Option.bind_eq_some_iff.mp H
  obtain ⟨t318, A30, H⟩ := H
  replace H : (if t318 = 0 then (judge_Turn.l0 k a1 ([] : List (S49)) l0 (l0.length : Int) 0) else (some (([] : List (S49)), t318))) = some (r1, r2) := H
  have A3 := Aside0.mk A30
  clear A30
  by_cases c4 : t318 = 0
  · rw [if_pos c4] at H
    have c4b0 : (t318 == 0) = true := beq_iff_eq.mpr c4
    have c4b1 : (t318 != 0) = false := bne_eq_false_iff_eq.mpr c4
    clear c4
    have H' := Aside0.mk H
    clear H
    go_enter Try.func69, Try.ntmps69
    go_wp2_with (first | ((with_reducible refine gate_callee (f := 51) rfl ?_); refine goesL_ (some 14) rfl rfl Try.func51 (by kernel_rfl) rfl #[.int .i64 a1, .slice A0 l0.length c0] rfl (by (try simp only [List.map_toArray, List.map_cons, List.map_nil]); first | done | rfl | (simp only [List.length_drop, List.length_take]; rfl)) ?_; (with_reducible refine (judge_Validate.calls a1 _ _ l0 t318 _ ?side1 ?side2 A3.out).mono ?_); (case side1 => repeat (first | exact HR0.out | (with_reducible refine Kd.C_alloc ?_ _) | (with_reducible refine Kd.C_drewN ?_ _) | (with_reducible refine Kd.C_drew ?_))); (case side2 => exact HC0.out); rintro e w5 ⟨rfl, hb⟩; refine ⟨_, rfl, ?_⟩; have n0_ := Aside0.mk (below_step (by repeat (first | (with_reducible first | exact HB.out | apply below_alloc | apply pw_below_drewN | apply below_drew1) | exact HB.out)) hb); clear HB; have HB := n0_; clear n0_; (try clear hb); (try clear hb2); (try clear hk); (try clear hi)))
    go_loopg [7, 20] k (fun kq v7 v20 w' => ∃ (x7_1 : List (S49)) (x20_1 : Int), v20 = .int .i64 x20_1 ∧ Aside0 (judge_Turn.l0 kq a1 x7_1 l0 (l0.length : Int) x20_1 = some (r1, r2)) ∧ Aside0 (kq ≤ k) ∧ Aside0 (Kd.S k49 49 w' w.heap.size (fun _ => True) v7 x7_1) ∧ Aside0 (Below w.heap.size w w'))
    case atStart => exact ⟨(([] : List (S49))), (0), (by first | rfl | (simp; done) | (simp [*]; done)), H', ⟨Nat.le_refl _⟩, ⟨by first | exact Kd.S_nil _ _ _ _ _ | exact Kd.N_nil _ _ _ _ _ | exact Kd.V_nil _ _ _ _ _ | exact Kd.Q_nil _ _ _ _ _ | exact Kd.R_nil _ _ _ _ _⟩, ⟨by repeat (first | (with_reducible first | exact HB.out | apply below_alloc | apply pw_below_drewN | apply below_drew1) | exact HB.out)⟩⟩
    case round =>
      clear H'
      try clear p2
      try clear c4
      try clear c4b0
      try clear c4b1
      try clear c5
      obtain ⟨x7_1, x20_1, rfl, HA, HK1, HO_7, HB⟩ := hrel
      cases gk with
      | zero => exact absurd HA.out (by simp [judge_Turn.l0])
      | succ k1 =>
        have H := HA.out
        clear HA
        simp only [judge_Turn.l0] at H
        by_cases c6 : x20_1 < (l0.length : Int)
        · rw [if_pos c6] at H
          have c6b0 : decide (x20_1 < (l0.length : Int)) = true := decide_eq_true c6
          clear c6
          by_cases c7 : 0 ≤ x20_1
          · rw [if_pos c7] at H
            have c7b0 : decide (0 ≤ x20_1) = true := decide_eq_true c7
            clear c7
            by_cases c8 : x20_1 < (l0.length : Int)
            · rw [if_pos c8] at H
              have c8b0 : decide (x20_1 < (l0.length : Int)) = true := decide_eq_true c8
              clear c8
              have H' := Aside0.mk H
              clear H
              have p319 : 0 ≤ (x20_1 : Int) := of_decide_eq_true (by first | (with_reducible assumption) | assumption)
              have q319 : x20_1 < (l0.length : Int) := of_decide_eq_true (by first | (with_reducible assumption) | assumption)
              obtain ⟨ad319, A319_0, c319_0, e319, hx319_0, hx319_1, hl319_0, hi319_0⟩ := at_T49 HR0.out x20_1 p319 q319
              cases e319
              replace hx319_0 := (HB.out.cell (World.block_lt_of_cell? w _ hx319_0)).trans hx319_0
              replace hx319_1 := (HB.out.cell (World.block_lt_of_cell? w _ hx319_1)).trans hx319_1
              have HR319_0 := Aside0.mk hi319_0
              have HC319_0 := Aside0.mk hl319_0
              clear hi319_0 hl319_0
              replace p319 := eq_true p319
              replace q319 := eq_true q319
              go_wp2_with (first | ((with_reducible refine gate_dst (N := 9) rfl ?_); refine box_event ?hg (N := 9) ?hd (cs := #[.slice none 0 0, .bool false]) (t := 49) ?hr ?_; (case hd => rfl); (case hg => rfl); (case hr => first | (go_simp; done) | (go_simp; rfl)); intro gb320 hg w9 hbox hb; have n0_ := Aside0.mk (Kd.S_below (Kd.S_elderB (by (with_reducible repeat (first | apply Kd.S_alloc | apply Kd.S_drewN | apply Kd.S_drew)); exact HO_7.out) gb320 (Nat.le_of_eq hg.symm)) hb); have n1_ := Aside0.mk (below_step (by repeat (first | (with_reducible first | exact HB.out | apply below_alloc | apply pw_below_drewN | apply below_drew1) | exact HB.out)) hb); have n2_ := Aside0.mk (hbox); have n3_ := Aside0.mk ((by rw [hg]; exact (below_size (by repeat (first | (with_reducible first | exact HB.out | apply below_alloc | apply pw_below_drewN | apply below_drew1) | exact HB.out))) : w.heap.size ≤ gb320)); have n4_ := Aside0.mk ((by rw [hg]; exact (below_size (by repeat (first | (with_reducible first | exact HB.out | apply below_alloc | apply pw_below_drewN | apply below_drew1) | exact HB.out))) : w.heap.size ≤ gb320)); clear HO_7; clear HB; have HO_7 := n0_; have HB := n1_; have BK320 := n2_; have GW320 := n3_; have GE320 := n4_; clear n0_ n1_ n2_ n3_ n4_; clear hb hbox hg; have hcz10_0 : w9.cell? ⟨gb320, 0, none⟩ = some (.slice none 0 0) := (blk_cell BK320.out 0).trans rfl; have hcz10_1 : w9.cell? ⟨gb320, 1, none⟩ = some (.bool false) := (blk_cell BK320.out 1).trans rfl; have hfz10_0 := blk_frozen BK320.out 0; have hfz10_1 := blk_frozen BK320.out 1))
              go_loopg [10, 25] k1 (fun kq v10 v25 w' => ∃ (x10_2 : List Int) (x25_2 : Int), v25 = .int .i64 x25_2 ∧ Aside0 (judge_Turn.l1 kq a1 x7_1 x10_2 l0 (l0.length : Int) x20_1 a1 x25_2 ((rd_T49 l0 x20_1).f0) ((rd_T49 l0 x20_1).f1) = some (r1, r2)) ∧ Aside0 (kq ≤ k1) ∧ Aside0 (Kd.S k49 49 w' w.heap.size (fun k_ => some k_ ≠ (v10 : Value).ownBlock ∧ k_ ≠ gb320) u7 x7_1) ∧ Aside0 (Kd.R (Kd.int .i64) 3 w' w.heap.size (fun _ => True) v10 x10_2) ∧ Aside0 (w'.heap[gb320]? = some (.cells #[(.slice A319_0 ((rd_T49 l0 x20_1).f0).length c319_0), .bool ((rd_T49 l0 x20_1).f1)] 49 (0, 0))) ∧ Aside0 (Below w.heap.size w w'))
              case atStart => exact ⟨(([] : List Int)), (0), (by first | rfl | (simp; done) | (simp [*]; done)), H', ⟨Nat.le_refl _⟩, ⟨by (with_reducible repeat (first | apply Kd.S_alloc | apply Kd.S_drewN | apply Kd.S_drew)); exact Kd.S_mono (Kd.S_far (p := ⟨gb320, 1, none⟩) (Kd.S_far (p := ⟨gb320, 0, none⟩) (Kd.S_mono HO_7.out (fun k_ hk => (⟨hk, hk.2⟩ : _ ∧ k_ ≠ gb320))) (fun _ hk => hk.2) (.slice A319_0 ((rd_T49 l0 x20_1).f0).length c319_0)) (fun _ hk => hk.2) (.bool ((rd_T49 l0 x20_1).f1))) (fun _ hk => ⟨(by simp [Value.ownBlock]), hk.1.2⟩)⟩, ⟨by first | exact Kd.R_nil _ _ _ _ _ | exact Kd.N_nil _ _ _ _ _ | exact Kd.V_nil _ _ _ _ _ | exact Kd.Q_nil _ _ _ _ _ | exact Kd.S_nil _ _ _ _ _⟩, ⟨by (with_reducible repeat (first | refine blk_drewN ?_ _ | refine blk_drew ?_ | refine blk_alloc ?_ _)); refine blk_put (cs := #[.slice A319_0 ((rd_T49 l0 x20_1).f0).length c319_0, .bool false]) ?_ 1 _ rfl; (with_reducible repeat (first | refine blk_drewN ?_ _ | refine blk_drew ?_ | refine blk_alloc ?_ _)); refine blk_put (cs := #[.slice none 0 0, .bool false]) ?_ 0 _ rfl; (with_reducible repeat (first | refine blk_drewN ?_ _ | refine blk_drew ?_ | refine blk_alloc ?_ _)); exact BK320.out⟩, ⟨by repeat (first | (with_reducible first | exact HB.out | apply below_alloc | apply pw_below_drewN | apply below_drew1 | refine below_set ?_ GE320.out) | exact HB.out)⟩⟩
              case round =>
                clear H'
                try clear p2
                try clear c3
                try clear p3
                try clear q3
                try clear hx3
                try clear c4
                try clear c4b0
                try clear c4b1
                try clear c5
                try clear c6
                try clear c6b0
                try clear c7
                try clear c7b0
                try clear c8
                try clear c8b0
                try clear hcz10_0
                try clear hcz10_1
                try clear hfz10_0
                try clear hfz10_1
                try clear hx319_0
                try clear hx319_1
                try clear p2
                try clear p319
                try clear q319
                obtain ⟨x10_2, x25_2, rfl, HA, HK2, HO_7, HO_10, BK320, HB⟩ := hrel
                cases gk with
                | zero => exact absurd HA.out (by simp [judge_Turn.l1])
                | succ k2 =>
                  have H := HA.out
                  clear HA
                  simp only [judge_Turn.l1] at H
                  by_cases c11 : x25_2 < a1
                  · rw [if_pos c11] at H
                    have c11b0 : decide (x25_2 < a1) = true := decide_eq_true c11
                    clear c11
                    replace H := Option.bind_eq_some_iff.mp H
                    obtain ⟨t321, A120, H⟩ := H
                    replace H : (if t321 = true then (judge_Turn.l1 k2 a1 x7_1 x10_2 l0 (l0.length : Int) x20_1 a1 (wrap64 (x25_2 + 1)) ((rd_T49 l0 x20_1).f0) ((rd_T49 l0 x20_1).f1)) else (if x10_2.length < 17592186044416 then (judge_Turn.l1 k2 a1 x7_1 (x10_2 ++ [x25_2]) l0 (l0.length : Int) x20_1 a1 (wrap64 (x25_2 + 1)) ((rd_T49 l0 x20_1).f0) ((rd_T49 l0 x20_1).f1)) else (none))) = some (r1, r2) := H
                    have A12 := Aside0.mk A120
                    clear A120
                    by_cases c13 : t321 = true
                    · subst c13
                      have H1 : (judge_Turn.l1 k2 a1 x7_1 x10_2 l0 (l0.length : Int) x20_1 a1 (wrap64 (x25_2 + 1)) ((rd_T49 l0 x20_1).f0) ((rd_T49 l0 x20_1).f1)) = some (r1, r2) := by rw [if_pos rfl] at H; exact H
                      clear H
                      have H := H1
                      clear H1
                      have H' := Aside0.mk H
                      clear H
                      have hcz14_0 : wr.cell? ⟨gb320, 0, none⟩ = some (.slice A319_0 ((rd_T49 l0 x20_1).f0).length c319_0) := (blk_cell BK320.out 0).trans rfl
                      have hcz14_1 : wr.cell? ⟨gb320, 1, none⟩ = some (.bool ((rd_T49 l0 x20_1).f1)) := (blk_cell BK320.out 1).trans rfl
                      have hfz14_0 := blk_frozen BK320.out 0
                      have hfz14_1 := blk_frozen BK320.out 1
                      go_wp2_with (first | ((with_reducible refine gate_callee (f := 88) rfl ?_); refine goesL_ (some 31) rfl rfl Try.func88 (by kernel_rfl) rfl #[.slice A319_0 ((rd_T49 l0 x20_1).f0).length c319_0, .int .i64 x25_2] rfl (by (try simp only [List.map_toArray, List.map_cons, List.map_nil]); first | done | rfl | (simp only [List.length_drop, List.length_take]; rfl)) ?_; (with_reducible refine (slices_Contains_int_int.calls k2 _ _ ((rd_T49 l0 x20_1).f0) x25_2 true _ ?side1 ?side2 A12.out).mono ?_); (case side1 => repeat (first | exact (Kd.C_below HR319_0.out HB.out) | (with_reducible refine Kd.C_alloc ?_ _) | (with_reducible refine Kd.C_drewN ?_ _) | (with_reducible refine Kd.C_drew ?_))); (case side2 => exact HC319_0.out); rintro e w' ⟨rfl, ⟨nd, rfl⟩⟩; refine ⟨_, rfl, ?_⟩))
                      go_roundg k2
                      case measure => have := HK1.out; have := HK2.out; omega
                      case rel => exact ⟨(x10_2), (wrap64 (x25_2 + 1)), (by first | rfl | (simp; done) | (simp [*]; done)), H', ⟨by have := HK1.out; have := HK2.out; omega⟩, ⟨by (with_reducible repeat (first | apply Kd.S_alloc | apply Kd.S_drewN | apply Kd.S_drew)); exact HO_7.out⟩, ⟨by (with_reducible repeat (first | apply Kd.R_alloc | apply Kd.R_drewN | apply Kd.R_drew)); exact HO_10.out⟩, ⟨by (with_reducible repeat (first | refine blk_drewN ?_ _ | refine blk_drew ?_ | refine blk_alloc ?_ _)); exact BK320.out⟩, ⟨by repeat (first | (with_reducible first | exact HB.out | apply below_alloc | apply pw_below_drewN | apply below_drew1 | refine below_set ?_ GE320.out) | exact HB.out)⟩⟩
                    · replace c13 := Bool.eq_false_iff.mpr c13
                      subst c13
                      have H1 : (if x10_2.length < 17592186044416 then (judge_Turn.l1 k2 a1 x7_1 (x10_2 ++ [x25_2]) l0 (l0.length : Int) x20_1 a1 (wrap64 (x25_2 + 1)) ((rd_T49 l0 x20_1).f0) ((rd_T49 l0 x20_1).f1)) else (none)) = some (r1, r2) := by rw [if_neg (show ¬ (false = true) by decide)] at H; exact H
                      clear H
                      have H := H1
                      clear H1
                      by_cases c15 : x10_2.length < 17592186044416
                      · rw [if_pos c15] at H
                        have LMc15 := Aside0.mk c15
                        clear c15
                        obtain ⟨y322, hy322⟩ : ∃ y_ : List Int, y_ = (x10_2 ++ [x25_2]) := ⟨_, rfl⟩
                        replace H : (judge_Turn.l1 k2 a1 x7_1 y322 l0 (l0.length : Int) x20_1 a1 (wrap64 (x25_2 + 1)) ((rd_T49 l0 x20_1).f0) ((rd_T49 l0 x20_1).f1)) = some (r1, r2) := by first | (rw [hy322]; with_reducible exact H) | (have H2_ := (Option.bind_some _ _).symm.trans H; rw [hy322]; with_reducible exact H2_) | (have H2_ := (Option.bind_some _ _).symm.trans H; with_reducible exact H2_) | with_reducible exact H | (rw [hy322]; exact H) | exact H
                        have Ny322 := Aside0.mk hy322
                        clear hy322
                        have H' := Aside0.mk H
                        clear H
                        have hcz16_0 : wr.cell? ⟨gb320, 0, none⟩ = some (.slice A319_0 ((rd_T49 l0 x20_1).f0).length c319_0) := (blk_cell BK320.out 0).trans rfl
                        have hcz16_1 : wr.cell? ⟨gb320, 1, none⟩ = some (.bool ((rd_T49 l0 x20_1).f1)) := (blk_cell BK320.out 1).trans rfl
                        have hfz16_0 := blk_frozen BK320.out 0
                        have hfz16_1 := blk_frozen BK320.out 1
                        go_wp2_with (first | ((with_reducible refine gate_callee (f := 88) rfl ?_); refine goesL_ (some 31) rfl rfl Try.func88 (by kernel_rfl) rfl #[.slice A319_0 ((rd_T49 l0 x20_1).f0).length c319_0, .int .i64 x25_2] rfl (by (try simp only [List.map_toArray, List.map_cons, List.map_nil]); first | done | rfl | (simp only [List.length_drop, List.length_take]; rfl)) ?_; (with_reducible refine (slices_Contains_int_int.calls k2 _ _ ((rd_T49 l0 x20_1).f0) x25_2 false _ ?side1 ?side2 A12.out).mono ?_); (case side1 => repeat (first | exact (Kd.C_below HR319_0.out HB.out) | (with_reducible refine Kd.C_alloc ?_ _) | (with_reducible refine Kd.C_drewN ?_ _) | (with_reducible refine Kd.C_drew ?_))); (case side2 => exact HC319_0.out); rintro e w' ⟨rfl, ⟨nd, rfl⟩⟩; refine ⟨_, rfl, ?_⟩) | ((with_reducible refine gate_builtin (b := .append) (xs := #[.tmp 33, .tmp 35]) rfl ?_); at_builtin; refine Kd.R_append (Kd.int .i64) (w0 := w) w.heap.size rfl (.tmp 33) (.tmp 35) 47 3 (.int .i64 0) 8 rfl Try.underlying47 info3 rfl (by decide) (by omega) u10 x10_2 x25_2 [.int .i64 x25_2] (fun _ => True) (fun _ => False) rfl rfl ?aP (fun _ hk => hk.elim) ?aF ?aO ?aB ?aS ?aL ?_; (case aP => exact rfl); (case aB => exact (by repeat (first | (with_reducible first | exact HB.out | apply below_alloc | apply pw_below_drewN | apply below_drew1 | refine below_set ?_ GE320.out) | exact HB.out))); (case aF => exact (fun _ _ => trivial)); (case aO => exact (by (with_reducible repeat (first | apply Kd.R_alloc | apply Kd.R_drewN | apply Kd.R_drew)); exact HO_10.out)); (case aS => exact (below_size (by repeat (first | (with_reducible first | exact HB.out | apply below_alloc | apply pw_below_drewN | apply below_drew1 | refine below_set ?_ GE320.out) | exact HB.out)))); (case aL => have := LMc15.out; omega); intro v323 w17 ho hb hg hat; rw [← Ny322.out] at ho; have n0_ := Aside0.mk (Kd.S_after (ok := (fun k_ => k_ ≠ gb320)) (by (with_reducible repeat (first | apply Kd.S_alloc | apply Kd.S_drewN | apply Kd.S_drew)); exact Kd.S_mono HO_7.out (fun _ hk => ⟨hk.2, hk.1⟩)) hg hat); have n1_ := Aside0.mk (blk_grown (g := gb320) (o := .cells #[.slice A319_0 ((rd_T49 l0 x20_1).f0).length c319_0, .bool ((rd_T49 l0 x20_1).f1)] 49 (0, 0)) (by (with_reducible repeat (first | refine blk_drewN ?_ _ | refine blk_drew ?_ | refine blk_alloc ?_ _)); exact BK320.out) hg (Kd.R_ne HO_10.out BK320.out (by decide))); have n2_ := Aside0.mk (hb); have n3_ := Aside0.mk (ho); clear HO_7; clear BK320; clear HB; clear HO_10; have HO_7 := n0_; have BK320 := n1_; have HB := n2_; have HO324 := n3_; clear n0_ n1_ n2_ n3_; clear ho hb hg hat))
                        go_roundg k2
                        case measure => have := HK1.out; have := HK2.out; omega
                        case rel => exact ⟨(y322), (wrap64 (x25_2 + 1)), (by first | rfl | (simp; done) | (simp [*]; done)), H', ⟨by have := HK1.out; have := HK2.out; omega⟩, ⟨by (with_reducible repeat (first | apply Kd.S_alloc | apply Kd.S_drewN | apply Kd.S_drew)); exact Kd.S_mono HO_7.out (fun _ hk => ⟨hk.2, hk.1⟩)⟩, ⟨by (with_reducible repeat (first | apply Kd.R_alloc | apply Kd.R_drewN | apply Kd.R_drew)); exact HO324.out⟩, ⟨by (with_reducible repeat (first | refine blk_drewN ?_ _ | refine blk_drew ?_ | refine blk_alloc ?_ _)); exact BK320.out⟩, ⟨by repeat (first | (with_reducible first | exact HB.out | apply below_alloc | apply pw_below_drewN | apply below_drew1 | refine below_set ?_ GE320.out) | exact HB.out)⟩⟩
                      · rw [if_neg c15] at H
                        exact absurd H (by simp)
                  · rw [if_neg c11] at H
                    have c11b0 : decide (x25_2 < a1) = false := decide_eq_false c11
                    clear c11
                    by_cases c18 : x7_1.length < 4398046511104
                    · rw [if_pos c18] at H
                      have LMc18 := Aside0.mk c18
                      clear c18
                      obtain ⟨y325, hy325⟩ : ∃ y_ : List (S49), y_ = (x7_1 ++ [(⟨x10_2, !((rd_T49 l0 x20_1).f1)⟩ : S49)]) := ⟨_, rfl⟩
                      replace H : (judge_Turn.l0 k2 a1 y325 l0 (l0.length : Int) (wrap64 (x20_1 + 1))) = some (r1, r2) := by first | (rw [hy325]; with_reducible exact H) | (have H2_ := (Option.bind_some _ _).symm.trans H; rw [hy325]; with_reducible exact H2_) | (have H2_ := (Option.bind_some _ _).symm.trans H; with_reducible exact H2_) | with_reducible exact H | (rw [hy325]; exact H) | exact H
                      have Ny325 := Aside0.mk hy325
                      clear hy325
                      have H' := Aside0.mk H
                      clear H
                      have hcz19_0 : wr.cell? ⟨gb320, 0, none⟩ = some (.slice A319_0 ((rd_T49 l0 x20_1).f0).length c319_0) := (blk_cell BK320.out 0).trans rfl
                      have hcz19_1 : wr.cell? ⟨gb320, 1, none⟩ = some (.bool ((rd_T49 l0 x20_1).f1)) := (blk_cell BK320.out 1).trans rfl
                      have hfz19_0 := blk_frozen BK320.out 0
                      have hfz19_1 := blk_frozen BK320.out 1
                      obtain ⟨Ao20, co20, eo20⟩ := Kd.R_slice HO_10.out
                      subst eo20
                      go_wp2_with (first | ((with_reducible refine gate_builtin (b := .append) (xs := #[.tmp 38, .tmp 44]) rfl ?_); at_builtin; refine Kd.S_append k49 (w0 := w) w.heap.size rfl (.tmp 38) (.tmp 44) 29 49 (.agg #[(.slice none 0 0), (.bool false)]) 32 rfl Try.underlying29 info49 rfl (by decide) (by omega) u7 x7_1 (⟨x10_2, !((rd_T49 l0 x20_1).f1)⟩ : S49) [.slice Ao20 x10_2.length co20, .bool (!((rd_T49 l0 x20_1).f1))] (fun k_ => k_ ≠ gb320) (fun k_ => some k_ = (.slice Ao20 x10_2.length co20 : Value).ownBlock) rfl rfl ?aP (fun k_ hk_ => ((Kd.R_mono (ok' := fun k_ => ((fun k_ => k_ ≠ gb320)) k_ ∧ some k_ ≠ (u7 : Value).ownBlock) (Kd.R_types (Kd.R_apart' (HO_10.out) (Kd.S_typed HO_7.out) (by decide)) BK320.out (by decide)) (fun k_ hk => ⟨hk.2, hk.1.2⟩))).1 k_ hk_.symm) ?aF ?aO ?aB ?aS ?aL ?_; (case aP => exact k49_mkM _ _ _ (⟨x10_2, !((rd_T49 l0 x20_1).f1)⟩ : S49) (Kd.R_mono (Kd.R_tight rfl (Kd.R_mono (ok' := fun k_ => ((fun k_ => k_ ≠ gb320)) k_ ∧ some k_ ≠ (u7 : Value).ownBlock) (Kd.R_types (Kd.R_apart' (HO_10.out) (Kd.S_typed HO_7.out) (by decide)) BK320.out (by decide)) (fun k_ hk => ⟨hk.2, hk.1.2⟩))) (fun _ h_ => h_))); (case aB => exact (by repeat (first | (with_reducible first | exact HB.out | apply below_alloc | apply pw_below_drewN | apply below_drew1 | refine below_set ?_ GE320.out) | exact HB.out))); (case aF => exact (fun k_ hk => Kd.freshB (g := gb320) (o := .cells #[.slice A319_0 ((rd_T49 l0 x20_1).f0).length c319_0, .bool ((rd_T49 l0 x20_1).f1)] 49 (0, 0)) (by (with_reducible repeat (first | refine blk_drewN ?_ _ | refine blk_drew ?_ | refine blk_alloc ?_ _)); exact BK320.out) k_ hk)); (case aO => exact (by (with_reducible repeat (first | apply Kd.S_alloc | apply Kd.S_drewN | apply Kd.S_drew)); exact Kd.S_mono HO_7.out (fun k_ hk => ⟨hk.2, fun e_ => hk.1 e_⟩))); (case aS => exact (below_size (by repeat (first | (with_reducible first | exact HB.out | apply below_alloc | apply pw_below_drewN | apply below_drew1 | refine below_set ?_ GE320.out) | exact HB.out)))); (case aL => have := LMc18.out; omega); intro v326 w21 ho hb hg hat; rw [← Ny325.out] at ho; have n0_ := Aside0.mk (blk_grown (g := gb320) (o := .cells #[.slice A319_0 ((rd_T49 l0 x20_1).f0).length c319_0, .bool ((rd_T49 l0 x20_1).f1)] 49 (0, 0)) (by (with_reducible repeat (first | refine blk_drewN ?_ _ | refine blk_drew ?_ | refine blk_alloc ?_ _)); exact BK320.out) hg (Kd.S_away HO_7.out (fun _ hk => hk.2))); have n1_ := Aside0.mk (hb); have n2_ := Aside0.mk (ho); clear BK320; clear HB; clear HO_7; clear HO_10; have BK320 := n0_; have HB := n1_; have HO327 := n2_; clear n0_ n1_ n2_; clear ho hb hg hat))
                      go_roundg k2
                      case measure => have := HK1.out; have := HK2.out; omega
                      case rel => exact ⟨(y325), (wrap64 (x20_1 + 1)), (by first | rfl | (simp; done) | (simp [*]; done)), H', ⟨by have := HK1.out; have := HK2.out; omega⟩, ⟨by (with_reducible repeat (first | apply Kd.S_alloc | apply Kd.S_drewN | apply Kd.S_drew)); exact Kd.S_mono HO327.out (fun _ hk => trivial)⟩, ⟨by repeat (first | (with_reducible first | exact HB.out | apply below_alloc | apply pw_below_drewN | apply below_drew1 | refine below_set ?_ GE320.out) | exact HB.out)⟩⟩
                    · rw [if_neg c18] at H
                      exact absurd H (by simp)
            · rw [if_neg c8] at H
              exact absurd H (by simp)
          · rw [if_neg c7] at H
            exact absurd H (by simp)
        · rw [if_neg c6] at H
          have c6b0 : decide (x20_1 < (l0.length : Int)) = false := decide_eq_false c6
          clear c6
          simp only [Option.some.injEq, Prod.mk.injEq] at H
          obtain ⟨rfl, rfl⟩ := H
          go_wp2
          go_ret2
          exact ⟨_, by first | rfl | (simp [errW_none, errW_some] <;> rfl) | (simp [*, errW_none, errW_some] <;> rfl), by (with_reducible repeat (first | apply Kd.S_alloc | apply Kd.S_drewN | apply Kd.S_drew)); exact HO_7.out, by repeat (first | (with_reducible first | exact HB.out | apply below_alloc | apply pw_below_drewN | apply below_drew1) | exact HB.out)⟩
  · rw [if_neg c4] at H
    have c4b0 : (t318 == 0) = false := beq_eq_false_iff_ne.mpr c4
    have c4b1 : (t318 != 0) = true := bne_iff_ne.mpr c4
    simp only [Option.some.injEq, Prod.mk.injEq] at H
    obtain ⟨rfl, rfl⟩ := H
    go_enter Try.func69, Try.ntmps69
    go_wp2_with (first | ((with_reducible refine gate_callee (f := 51) rfl ?_); refine goesL_ (some 14) rfl rfl Try.func51 (by kernel_rfl) rfl #[.int .i64 a1, .slice A0 l0.length c0] rfl (by (try simp only [List.map_toArray, List.map_cons, List.map_nil]); first | done | rfl | (simp only [List.length_drop, List.length_take]; rfl)) ?_; (with_reducible refine (judge_Validate.calls a1 _ _ l0 t318 _ ?side1 ?side2 A3.out).mono ?_); (case side1 => repeat (first | exact HR0.out | (with_reducible refine Kd.C_alloc ?_ _) | (with_reducible refine Kd.C_drewN ?_ _) | (with_reducible refine Kd.C_drew ?_))); (case side2 => exact HC0.out); rintro e w22 ⟨rfl, hb⟩; refine ⟨_, rfl, ?_⟩; have n0_ := Aside0.mk (below_step (by repeat (first | (with_reducible first | exact HB.out | apply below_alloc | apply pw_below_drewN | apply below_drew1) | exact HB.out)) hb); clear HB; have HB := n0_; clear n0_; (try clear hb); (try clear hb2); (try clear hk); (try clear hi)))
    go_ret2
    exact ⟨_, by first | rfl | (simp [errW_none, errW_some] <;> rfl) | (simp [*, errW_none, errW_some] <;> rfl), by first | exact Kd.S_nil _ _ _ _ _ | exact Kd.N_nil _ _ _ _ _ | exact Kd.V_nil _ _ _ _ _ | exact Kd.Q_nil _ _ _ _ _ | exact Kd.R_nil _ _ _ _ _, by repeat (first | (with_reducible first | exact HB.out | apply below_alloc | apply pw_below_drewN | apply below_drew1) | exact HB.out)⟩

end Go.Proofs.Ytfejfljgdeglgaa.K
