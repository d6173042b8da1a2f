/- DERIVED by wip/pr.py: for each Go function named below a Lean function with the same answers, and that a call of it comes to these answers, for all arguments and memories, where the Lean function has an answer. -/
import Derived.Test.YtgnklmhjejbcoaaK0
import Derived.Test.YtgnklmhjejbcoaaK1
import Derived.Test.YtgnklmhjejbcoaaK2
import Derived.Test.YtgnklmhjejbcoaaK5
import Derived.Test.YtgnklmhjejbcoaaK6
import Derived.Test.YtgnklmhjejbcoaaK11
import Derived.Test.YtgnklmhjejbcoaaK12
import Derived.Test.YtgnklmhjejbcoaaHF
namespace Go.Proofs.Ytgnklmhjejbcoaa.K
open Go.RowKit Go.Proofs.YtgnklmhjejbcoaaW.PrintWords Go.Proofs.YtgnklmhjejbcoaaW.PrintLast Go.Proofs.YtgnklmhjejbcoaaW.PrintMore
attribute [local go_sem] max2_int min2_int max_two min_two max_three min_three max_four min_four   -- for this text's walks alone
set_option linter.unusedVariables false
set_option linter.unusedSimpArgs false

/-! ### verditerlaw07_KneadTimes: function 12 -/
mutual
def verditerlaw07_KneadTimes.j0 : Nat → Int → Int → Int → Int → List Int → Bool → Option (Bool)
  | 0, _, _, _, _, _, _ => none
  | k + 1, x0, x1, x9, x10, x11, x60 => if x60 = true then (some false) else (if x10 = 0 then ((verditerref01_Sum.f k x11).bind fun t586 => (if t586 = x0 then (verditerlaw07_KneadTimes.l0 k x0 x1 x9 x11 0) else (some false))) else ((verditerlaw07_known.f k).bind fun t585 => (some t585)))
def verditerlaw07_KneadTimes.l0 : Nat → Int → Int → Int → List Int → Int → Option (Bool)
  | 0, _, _, _, _, _ => none
  | k + 1, x0, x1, x9, x11, x13 => if x13 < (x11.length : Int) then (if 0 ≤ x13 then (if (rd x11 x13) < 1 then (some false) else (if (rd x11 x13) = 0 then (none) else (if (Int.tmod x9 (rd x11 x13)) = 0 then (verditerlaw07_KneadTimes.l0 k x0 x1 x9 x11 (wrap64 (x13 + 1))) else (some false)))) else (none)) else ((verditerref01_Numbers.f k x0).bind fun t589 => (verditerlaw07_KneadTimes.l1 k x0 x1 x9 t589 0))
def verditerlaw07_KneadTimes.l1 : Nat → Int → Int → Int → List Int → Int → Option (Bool)
  | 0, _, _, _, _, _ => none
  | k + 1, x0, x1, x9, x14, x15 => if x15 < x9 then ((knead_Fold.f k x14 (([x1] : List Int))).bind fun bt600 => (if bt600.2 = 0 then (if (bt600.1.length : Int) = x0 then (if (wrap64 (x15 + 1)) < x9 then ((verditerref01_Numbers.f k x0).bind fun t604 => ((verditerref01_SameInts.f k bt600.1 t604).bind fun t607 => (if t607 = true then (some false) else ((some (([] : List Int) : List Int)).bind fun y608 => (if y608.length + bt600.1.length < 17592186044416 then (verditerlaw07_KneadTimes.l1 k x0 x1 x9 (y608 ++ bt600.1) (wrap64 (x15 + 1))) else (none)))))) else ((some (([] : List Int) : List Int)).bind fun y614 => (if y614.length + bt600.1.length < 17592186044416 then (verditerlaw07_KneadTimes.l1 k x0 x1 x9 (y614 ++ bt600.1) (wrap64 (x15 + 1))) else (none)))) else (some false)) else (some false))) else ((verditerref01_Numbers.f k x0).bind fun t592 => ((verditerref01_SameInts.f k x14 t592).bind fun t595 => (if t595 = true then ((verditerlaw07_known.f k).bind fun t596 => (some t596)) else (some false))))
end
def verditerlaw07_KneadTimes.f (k : Nat) (a0 : Int) (a1 : Int) : Option (Bool) := (verditerref07_Times.f k a0 a1).bind fun bt572 => ((verditerref07_Rounds.f k a0 a1).bind fun bt574 => ((knead_Times.f k a0 a1).bind fun bt578 => ((knead_Rounds.f a0 a1).bind fun bt580 => (if bt578.1 = bt572.1 then (if bt578.2 = bt572.2 then ((verditerref01_SameInts.f k bt580.1 bt574.1).bind fun t584 => (if t584 = true then (verditerlaw07_KneadTimes.j0 k a0 a1 bt578.1 bt578.2 bt580.1 (bt580.2 != bt574.2)) else (verditerlaw07_KneadTimes.j0 k a0 a1 bt578.1 bt578.2 bt580.1 true))) else (verditerlaw07_KneadTimes.j0 k a0 a1 bt578.1 bt578.2 bt580.1 true)) else (verditerlaw07_KneadTimes.j0 k a0 a1 bt578.1 bt578.2 bt580.1 true)))))
theorem verditerlaw07_KneadTimes.mono_l : ∀ k, (∀ y0 y1 y2 y3 y4 y5, LeO (verditerlaw07_KneadTimes.j0 k y0 y1 y2 y3 y4 y5) (verditerlaw07_KneadTimes.j0 (k + 1) y0 y1 y2 y3 y4 y5)) ∧ (∀ y0 y1 y2 y3 y4, LeO (verditerlaw07_KneadTimes.l0 k y0 y1 y2 y3 y4) (verditerlaw07_KneadTimes.l0 (k + 1) y0 y1 y2 y3 y4)) ∧ (∀ y0 y1 y2 y3 y4, LeO (verditerlaw07_KneadTimes.l1 k y0 y1 y2 y3 y4) (verditerlaw07_KneadTimes.l1 (k + 1) y0 y1 y2 y3 y4))
  | 0 => ⟨fun _ _ _ _ _ _ r h => by simp [verditerlaw07_KneadTimes.j0] at h, fun _ _ _ _ _ r h => by simp [verditerlaw07_KneadTimes.l0] at h, fun _ _ _ _ _ r h => by simp [verditerlaw07_KneadTimes.l1] at h⟩
  | k + 1 => by
    obtain ⟨ih0, ih1, ih2⟩ := verditerlaw07_KneadTimes.mono_l k
    refine ⟨?_, ?_, ?_⟩
    · intro y0 y1 y2 y3 y4 y5
      unfold verditerlaw07_KneadTimes.j0
      repeat' first
      | (with_reducible exact ih0 _ _ _ _ _ _)
      | (with_reducible exact ih1 _ _ _ _ _)
      | (with_reducible exact ih2 _ _ _ _ _)
      | (with_reducible exact knead_Fold.mono _ _ _)
      | (with_reducible exact knead_Times.mono _ _ _)
      | (with_reducible exact verditerlaw07_known.mono _)
      | (with_reducible exact verditerref01_Numbers.mono _ _)
      | (with_reducible exact verditerref01_SameInts.mono _ _ _)
      | (with_reducible exact verditerref01_Sum.mono _ _)
      | (with_reducible exact verditerref07_Rounds.mono _ _ _)
      | (with_reducible exact verditerref07_Times.mono _ _ _)
      | (with_reducible exact LeO.refl _)
      | (with_reducible exact LeO.none _)
      | (with_reducible refine LeO.ite ?_ ?_)
      | (with_reducible refine LeO.bind ?_ (fun _ => ?_))
      | exact ih0 _ _ _ _ _ _
      | exact ih1 _ _ _ _ _
      | exact ih2 _ _ _ _ _
      | exact knead_Fold.mono _ _ _
      | exact knead_Times.mono _ _ _
      | exact verditerlaw07_known.mono _
      | exact verditerref01_Numbers.mono _ _
      | exact verditerref01_SameInts.mono _ _ _
      | exact verditerref01_Sum.mono _ _
      | exact verditerref07_Rounds.mono _ _ _
      | exact verditerref07_Times.mono _ _ _
      | exact LeO.none _
      | refine LeO.ite ?_ ?_
      | refine LeO.bind ?_ (fun _ => ?_)
    · intro y0 y1 y2 y3 y4
      unfold verditerlaw07_KneadTimes.l0
      repeat' first
      | (with_reducible exact ih0 _ _ _ _ _ _)
      | (with_reducible exact ih1 _ _ _ _ _)
      | (with_reducible exact ih2 _ _ _ _ _)
      | (with_reducible exact knead_Fold.mono _ _ _)
      | (with_reducible exact knead_Times.mono _ _ _)
      | (with_reducible exact verditerlaw07_known.mono _)
      | (with_reducible exact verditerref01_Numbers.mono _ _)
      | (with_reducible exact verditerref01_SameInts.mono _ _ _)
      | (with_reducible exact verditerref01_Sum.mono _ _)
      | (with_reducible exact verditerref07_Rounds.mono _ _ _)
      | (with_reducible exact verditerref07_Times.mono _ _ _)
      | (with_reducible exact LeO.refl _)
      | (with_reducible exact LeO.none _)
      | (with_reducible refine LeO.ite ?_ ?_)
      | (with_reducible refine LeO.bind ?_ (fun _ => ?_))
      | exact ih0 _ _ _ _ _ _
      | exact ih1 _ _ _ _ _
      | exact ih2 _ _ _ _ _
      | exact knead_Fold.mono _ _ _
      | exact knead_Times.mono _ _ _
      | exact verditerlaw07_known.mono _
      | exact verditerref01_Numbers.mono _ _
      | exact verditerref01_SameInts.mono _ _ _
      | exact verditerref01_Sum.mono _ _
      | exact verditerref07_Rounds.mono _ _ _
      | exact verditerref07_Times.mono _ _ _
      | exact LeO.none _
      | refine LeO.ite ?_ ?_
      | refine LeO.bind ?_ (fun _ => ?_)
    · intro y0 y1 y2 y3 y4
      unfold verditerlaw07_KneadTimes.l1
      repeat' first
      | (with_reducible exact ih0 _ _ _ _ _ _)
      | (with_reducible exact ih1 _ _ _ _ _)
      | (with_reducible exact ih2 _ _ _ _ _)
      | (with_reducible exact knead_Fold.mono _ _ _)
      | (with_reducible exact knead_Times.mono _ _ _)
      | (with_reducible exact verditerlaw07_known.mono _)
      | (with_reducible exact verditerref01_Numbers.mono _ _)
      | (with_reducible exact verditerref01_SameInts.mono _ _ _)
      | (with_reducible exact verditerref01_Sum.mono _ _)
      | (with_reducible exact verditerref07_Rounds.mono _ _ _)
      | (with_reducible exact verditerref07_Times.mono _ _ _)
      | (with_reducible exact LeO.refl _)
      | (with_reducible exact LeO.none _)
      | (with_reducible refine LeO.ite ?_ ?_)
      | (with_reducible refine LeO.bind ?_ (fun _ => ?_))
      | exact ih0 _ _ _ _ _ _
      | exact ih1 _ _ _ _ _
      | exact ih2 _ _ _ _ _
      | exact knead_Fold.mono _ _ _
      | exact knead_Times.mono _ _ _
      | exact verditerlaw07_known.mono _
      | exact verditerref01_Numbers.mono _ _
      | exact verditerref01_SameInts.mono _ _ _
      | exact verditerref01_Sum.mono _ _
      | exact verditerref07_Rounds.mono _ _ _
      | exact verditerref07_Times.mono _ _ _
      | exact LeO.none _
      | refine LeO.ite ?_ ?_
      | refine LeO.bind ?_ (fun _ => ?_)
theorem verditerlaw07_KneadTimes.mono : ∀ a0 a1 k, LeO (verditerlaw07_KneadTimes.f k a0 a1) (verditerlaw07_KneadTimes.f (k + 1) a0 a1) := by
  intro a0 a1 k
  obtain ⟨ih0, ih1, ih2⟩ := verditerlaw07_KneadTimes.mono_l k
  unfold verditerlaw07_KneadTimes.f
  repeat' first
      | (with_reducible exact ih0 _ _ _ _ _ _)
      | (with_reducible exact ih1 _ _ _ _ _)
      | (with_reducible exact ih2 _ _ _ _ _)
      | (with_reducible exact knead_Fold.mono _ _ _)
      | (with_reducible exact knead_Times.mono _ _ _)
      | (with_reducible exact verditerlaw07_known.mono _)
      | (with_reducible exact verditerref01_Numbers.mono _ _)
      | (with_reducible exact verditerref01_SameInts.mono _ _ _)
      | (with_reducible exact verditerref01_Sum.mono _ _)
      | (with_reducible exact verditerref07_Rounds.mono _ _ _)
      | (with_reducible exact verditerref07_Times.mono _ _ _)
      | (with_reducible exact LeO.refl _)
      | (with_reducible exact LeO.none _)
      | (with_reducible refine LeO.ite ?_ ?_)
      | (with_reducible refine LeO.bind ?_ (fun _ => ?_))
      | exact ih0 _ _ _ _ _ _
      | exact ih1 _ _ _ _ _
      | exact ih2 _ _ _ _ _
      | exact knead_Fold.mono _ _ _
      | exact knead_Times.mono _ _ _
      | exact verditerlaw07_known.mono _
      | exact verditerref01_Numbers.mono _ _
      | exact verditerref01_SameInts.mono _ _ _
      | exact verditerref01_Sum.mono _ _
      | exact verditerref07_Rounds.mono _ _ _
      | exact verditerref07_Times.mono _ _ _
      | exact LeO.none _
      | refine LeO.ite ?_ ?_
      | refine LeO.bind ?_ (fun _ => ?_)
set_option maxHeartbeats 8000000 in
set_option maxRecDepth 100000 in
theorem verditerlaw07_KneadTimes.calls (k : Nat) (a0 : Int) (a1 : Int) (r : Bool) (w : World) (h : verditerlaw07_KneadTimes.f k a0 a1 = some r) :
    Calls Try.prog 12 #[.int .i64 a0, .int .i64 a1] w fun e w' => e = .returned (.bool r) ∧ Below w.heap.size w w' := by
  have HB := Aside0.mk (Below.refl w.heap.size w)
  have H : ((verditerref07_Times.f k a0 a1).bind fun bt572 => ((verditerref07_Rounds.f k a0 a1).bind fun bt574 => ((knead_Times.f k a0 a1).bind fun bt578 => ((knead_Rounds.f a0 a1).bind fun bt580 => (if bt578.1 = bt572.1 then (if bt578.2 = bt572.2 then ((verditerref01_SameInts.f k bt580.1 bt574.1).bind fun t584 => (if t584 = true then (verditerlaw07_KneadTimes.j0 k a0 a1 bt578.1 bt578.2 bt580.1 (bt580.2 != bt574.2)) else (verditerlaw07_KneadTimes.j0 k a0 a1 bt578.1 bt578.2 bt580.1 true))) else (verditerlaw07_KneadTimes.j0 k a0 a1 bt578.1 bt578.2 bt580.1 true)) else (verditerlaw07_KneadTimes.j0 k a0 a1 bt578.1 bt578.2 bt580.1 true)))))) = some r := h
  clear h
  replace H := Option.bind_eq_some_iff.mp H
  obtain ⟨⟨t572, t573⟩, A30, H⟩ := H
  replace H : ((verditerref07_Rounds.f k a0 a1).bind fun bt574 => ((knead_Times.f k a0 a1).bind fun bt578 => ((knead_Rounds.f a0 a1).bind fun bt580 => (if bt578.1 = t572 then (if bt578.2 = t573 then ((verditerref01_SameInts.f k bt580.1 bt574.1).bind fun t584 => (if t584 = true then (verditerlaw07_KneadTimes.j0 k a0 a1 bt578.1 bt578.2 bt580.1 (bt580.2 != bt574.2)) else (verditerlaw07_KneadTimes.j0 k a0 a1 bt578.1 bt578.2 bt580.1 true))) else (verditerlaw07_KneadTimes.j0 k a0 a1 bt578.1 bt578.2 bt580.1 true)) else (verditerlaw07_KneadTimes.j0 k a0 a1 bt578.1 bt578.2 bt580.1 true))))) = some r := H
  have A3 := Aside0.mk A30
  clear A30
  replace H := Option.bind_eq_some_iff.mp H
  obtain ⟨⟨t574, t575⟩, A40, H⟩ := H
  replace H : ((knead_Times.f k a0 a1).bind fun bt578 => ((knead_Rounds.f a0 a1).bind fun bt580 => (if bt578.1 = t572 then (if bt578.2 = t573 then ((verditerref01_SameInts.f k bt580.1 t574).bind fun t584 => (if t584 = true then (verditerlaw07_KneadTimes.j0 k a0 a1 bt578.1 bt578.2 bt580.1 (bt580.2 != t575)) else (verditerlaw07_KneadTimes.j0 k a0 a1 bt578.1 bt578.2 bt580.1 true))) else (verditerlaw07_KneadTimes.j0 k a0 a1 bt578.1 bt578.2 bt580.1 true)) else (verditerlaw07_KneadTimes.j0 k a0 a1 bt578.1 bt578.2 bt580.1 true)))) = some r := H
  have A4 := Aside0.mk A40
  clear A40
  replace H := Option.bind_eq_some_iff.mp H
  obtain ⟨⟨t578, t579⟩, A50, H⟩ := H
  replace H : ((knead_Rounds.f a0 a1).bind fun bt580 => (if t578 = t572 then (if t579 = t573 then ((verditerref01_SameInts.f k bt580.1 t574).bind fun t584 => (if t584 = true then (verditerlaw07_KneadTimes.j0 k a0 a1 t578 t579 bt580.1 (bt580.2 != t575)) else (verditerlaw07_KneadTimes.j0 k a0 a1 t578 t579 bt580.1 true))) else (verditerlaw07_KneadTimes.j0 k a0 a1 t578 t579 bt580.1 true)) else (verditerlaw07_KneadTimes.j0 k a0 a1 t578 t579 bt580.1 true))) = some r := H
  have A5 := Aside0.mk A50
  clear A50
  replace H := Option.bind_eq_some_iff.mp H
  obtain ⟨⟨t580, t581⟩, A60, H⟩ := H
  replace H : (if t578 = t572 then (if t579 = t573 then ((verditerref01_SameInts.f k t580 t574).bind fun t584 => (if t584 = true then (verditerlaw07_KneadTimes.j0 k a0 a1 t578 t579 t580 (t581 != t575)) else (verditerlaw07_KneadTimes.j0 k a0 a1 t578 t579 t580 true))) else (verditerlaw07_KneadTimes.j0 k a0 a1 t578 t579 t580 true)) else (verditerlaw07_KneadTimes.j0 k a0 a1 t578 t579 t580 true)) = some r := H
  have A6 := Aside0.mk A60
  clear A60
  have HC7 := Aside0.mk H
  clear H
  go_enter Try.func12, Try.ntmps12
  go_upto_region 5 with (first | ((with_reducible refine gate_callee (f := 30) rfl ?_); refine goesL_ (some 21) rfl rfl Try.func30 (by kernel_rfl) rfl #[.int .i64 a0, .int .i64 a1] rfl (by (try simp only [List.map_toArray, List.map_cons, List.map_nil]); first | done | rfl | (simp only [List.length_drop, List.length_take]; rfl)) ?_; (with_reducible refine (verditerref07_Times.calls k a0 a1 t572 t573 _ A3.out).mono ?_); rintro e w' ⟨rfl, ⟨nd, rfl⟩⟩; refine ⟨_, rfl, ?_⟩) | ((with_reducible refine gate_callee (f := 31) rfl ?_); refine goesL_ (some 27) rfl rfl Try.func31 (by kernel_rfl) rfl #[.int .i64 a0, .int .i64 a1] rfl (by (try simp only [List.map_toArray, List.map_cons, List.map_nil]); first | done | rfl | (simp only [List.length_drop, List.length_take]; rfl)) ?_; (with_reducible refine (verditerref07_Rounds.calls k a0 a1 t574 t575 _ A4.out).mono ?_); rintro e w8 ⟨v576, rfl, ho0, hb⟩; refine ⟨_, rfl, ?_⟩; have n0_ := Aside0.mk (Kd.R_lower ho0 (below_size (by repeat (first | (with_reducible first | exact HB.out | apply below_alloc | apply pw_below_drewN | apply below_drew1) | exact HB.out)))); have n1_ := Aside0.mk (below_step (by repeat (first | (with_reducible first | exact HB.out | apply below_alloc | apply pw_below_drewN | apply below_drew1) | exact HB.out)) hb); clear HB; have HO577 := n0_; have HB := n1_; clear n0_ n1_; (try clear hb); (try clear hb2); (try clear hk); (try clear hi); (try clear ho0)) | ((with_reducible refine gate_callee (f := 32) rfl ?_); refine goesL_ (some 33) rfl rfl Try.func32 (by kernel_rfl) rfl #[.int .i64 a0, .int .i64 a1] rfl (by (try simp only [List.map_toArray, List.map_cons, List.map_nil]); first | done | rfl | (simp only [List.length_drop, List.length_take]; rfl)) ?_; (with_reducible refine (knead_Times.calls k a0 a1 t578 t579 _ A5.out).mono ?_); rintro e w9 ⟨rfl, hb⟩; refine ⟨_, rfl, ?_⟩; have n0_ := Aside0.mk (Kd.R_below (by (with_reducible repeat (first | apply Kd.R_alloc | apply Kd.R_drewN | apply Kd.R_drew)); exact HO577.out) hb); have n1_ := Aside0.mk (below_step (by repeat (first | (with_reducible first | exact HB.out | apply below_alloc | apply pw_below_drewN | apply below_drew1) | exact HB.out)) hb); clear HO577; clear HB; have HO577 := n0_; have HB := n1_; clear n0_ n1_; (try clear hb); (try clear hb2); (try clear hk); (try clear hi)) | ((with_reducible refine gate_callee (f := 33) rfl ?_); refine goesL_ (some 39) rfl rfl Try.func33 (by kernel_rfl) rfl #[.int .i64 a0, .int .i64 a1] rfl (by (try simp only [List.map_toArray, List.map_cons, List.map_nil]); first | done | rfl | (simp only [List.length_drop, List.length_take]; rfl)) ?_; (with_reducible refine (knead_Rounds.calls a0 a1 t580 t581 _ A6.out).mono ?_); rintro e w10 ⟨v582, rfl, ho0, hb⟩; refine ⟨_, rfl, ?_⟩; have n0_ := Aside0.mk (Kd.R_elder' (by (with_reducible repeat (first | apply Kd.R_alloc | apply Kd.R_drewN | apply Kd.R_drew)); exact HO577.out) (Kd.R_base ho0) hb); have n1_ := Aside0.mk (Kd.R_lower (Kd.R_new' ho0 (Kd.R_lt (by (with_reducible repeat (first | apply Kd.R_alloc | apply Kd.R_drewN | apply Kd.R_drew)); exact HO577.out))) (below_size (by repeat (first | (with_reducible first | exact HB.out | apply below_alloc | apply pw_below_drewN | apply below_drew1) | exact HB.out)))); have n2_ := Aside0.mk (below_step (by repeat (first | (with_reducible first | exact HB.out | apply below_alloc | apply pw_below_drewN | apply below_drew1) | exact HB.out)) hb); clear HO577; clear HB; have HO577 := n0_; have HO583 := n1_; have HB := n2_; clear n0_ n1_ n2_; (try clear hb); (try clear hb2); (try clear hk); (try clear hi); (try clear ho0)))
  (try simp only [Act.put, List.setIfInBounds_toArray, List.set_cons_zero, List.set_cons_succ])
  go_cut [60] (fun v60 wc => ∃ (kq : Nat) (x60_6 : Bool), v60 = .bool x60_6 ∧ Aside0 (verditerlaw07_KneadTimes.j0 kq a0 a1 t578 t579 t580 x60_6 = some r) ∧ Aside0 (kq ≤ k) ∧ Aside0 (Kd.R (Kd.int .i64) 3 wc w.heap.size (fun _ => True) v582 t580) ∧ Aside0 (Below w.heap.size w wc))
  case first =>
    have H := HC7.out
    clear HC7
    by_cases c11 : t578 = t572
    · rw [if_pos c11] at H
      have c11b0 : (t578 == t572) = true := beq_iff_eq.mpr c11
      have c11b1 : (t578 != t572) = false := bne_eq_false_iff_eq.mpr c11
      clear c11
      (first | rw [c11b0] | (simp only [i64_w, i32_w]; rw [c11b0]) | skip)
      by_cases c12 : t579 = t573
      · rw [if_pos c12] at H
        have c12b0 : (t579 == t573) = true := beq_iff_eq.mpr c12
        have c12b1 : (t579 != t573) = false := bne_eq_false_iff_eq.mpr c12
        clear c12
        replace H := Option.bind_eq_some_iff.mp H
        obtain ⟨t584, A130, H⟩ := H
        replace H : (if t584 = true then (verditerlaw07_KneadTimes.j0 k a0 a1 t578 t579 t580 (t581 != t575)) else (verditerlaw07_KneadTimes.j0 k a0 a1 t578 t579 t580 true)) = some r := H
        have A13 := Aside0.mk A130
        clear A130
        by_cases c14 : t584 = true
        · subst c14
          have H1 : (verditerlaw07_KneadTimes.j0 k a0 a1 t578 t579 t580 (t581 != t575)) = some r := by rw [if_pos rfl] at H; exact H
          clear H
          have H := H1
          clear H1
          have H' := Aside0.mk H
          clear H
          obtain ⟨Ao15, co15, eo15⟩ := Kd.R_slice HO583.out
          subst eo15
          obtain ⟨Ao16, co16, eo16⟩ := Kd.R_slice HO577.out
          subst eo16
          go_wp2_with (first | (go_at_call 22; (with_reducible refine (verditerref01_SameInts.calls k _ _ t580 _ _ t574 true _ ?side1 ?side2 ?side3 ?side4 A13.out).mono ?_); (case side1 => repeat (first | exact (Kd.R_reads' HO583.out).2.2 | (with_reducible refine Kd.C_alloc ?_ _) | (with_reducible refine Kd.C_drewN ?_ _) | (with_reducible refine Kd.C_drew ?_))); (case side2 => exact (Kd.R_reads' HO583.out).2.1); (case side3 => repeat (first | exact (Kd.R_reads' HO577.out).2.2 | (with_reducible refine Kd.C_alloc ?_ _) | (with_reducible refine Kd.C_drewN ?_ _) | (with_reducible refine Kd.C_drew ?_))); (case side4 => exact (Kd.R_reads' HO577.out).2.1); rintro e w' ⟨rfl, ⟨nd, rfl⟩⟩))
          go_meet
          case rel => exact ⟨_, ((t581 != t575)), (by first | rfl | (simp; done) | (simp [*]; done)), H', ⟨by first | omega | exact Nat.le_refl _⟩, ⟨by (with_reducible repeat (first | apply Kd.R_alloc | apply Kd.R_drewN | apply Kd.R_drew)); exact Kd.R_mono HO583.out (fun _ hk => trivial)⟩, ⟨by repeat (first | (with_reducible first | exact HB.out | apply below_alloc | apply pw_below_drewN | apply below_drew1) | exact HB.out)⟩⟩
        · replace c14 := Bool.eq_false_iff.mpr c14
          subst c14
          have H1 : (verditerlaw07_KneadTimes.j0 k a0 a1 t578 t579 t580 true) = some r := by rw [if_neg (show ¬ (false = true) by decide)] at H; exact H
          clear H
          have H := H1
          clear H1
          have H' := Aside0.mk H
          clear H
          obtain ⟨Ao17, co17, eo17⟩ := Kd.R_slice HO583.out
          subst eo17
          obtain ⟨Ao18, co18, eo18⟩ := Kd.R_slice HO577.out
          subst eo18
          go_wp2_with (first | (go_at_call 22; (with_reducible refine (verditerref01_SameInts.calls k _ _ t580 _ _ t574 false _ ?side1 ?side2 ?side3 ?side4 A13.out).mono ?_); (case side1 => repeat (first | exact (Kd.R_reads' HO583.out).2.2 | (with_reducible refine Kd.C_alloc ?_ _) | (with_reducible refine Kd.C_drewN ?_ _) | (with_reducible refine Kd.C_drew ?_))); (case side2 => exact (Kd.R_reads' HO583.out).2.1); (case side3 => repeat (first | exact (Kd.R_reads' HO577.out).2.2 | (with_reducible refine Kd.C_alloc ?_ _) | (with_reducible refine Kd.C_drewN ?_ _) | (with_reducible refine Kd.C_drew ?_))); (case side4 => exact (Kd.R_reads' HO577.out).2.1); rintro e w' ⟨rfl, ⟨nd, rfl⟩⟩))
          go_meet
          case rel => exact ⟨_, (true), (by first | rfl | (simp; done) | (simp [*]; done)), H', ⟨by first | omega | exact Nat.le_refl _⟩, ⟨by (with_reducible repeat (first | apply Kd.R_alloc | apply Kd.R_drewN | apply Kd.R_drew)); exact Kd.R_mono HO583.out (fun _ hk => trivial)⟩, ⟨by repeat (first | (with_reducible first | exact HB.out | apply below_alloc | apply pw_below_drewN | apply below_drew1) | exact HB.out)⟩⟩
      · rw [if_neg c12] at H
        have c12b0 : (t579 == t573) = false := beq_eq_false_iff_ne.mpr c12
        have c12b1 : (t579 != t573) = true := bne_iff_ne.mpr c12
        have H' := Aside0.mk H
        clear H
        go_wp2
        go_meet
        case rel => exact ⟨_, (true), (by first | rfl | (simp; done) | (simp [*]; done)), H', ⟨by first | omega | exact Nat.le_refl _⟩, ⟨by (with_reducible repeat (first | apply Kd.R_alloc | apply Kd.R_drewN | apply Kd.R_drew)); exact Kd.R_mono HO583.out (fun _ hk => trivial)⟩, ⟨by repeat (first | (with_reducible first | exact HB.out | apply below_alloc | apply pw_below_drewN | apply below_drew1) | exact HB.out)⟩⟩
    · rw [if_neg c11] at H
      have c11b0 : (t578 == t572) = false := beq_eq_false_iff_ne.mpr c11
      have c11b1 : (t578 != t572) = true := bne_iff_ne.mpr c11
      (first | rw [c11b0] | (simp only [i64_w, i32_w]; rw [c11b0]) | skip)
      have H' := Aside0.mk H
      clear H
      go_wp2
      go_meet
      case rel => exact ⟨_, (true), (by first | rfl | (simp; done) | (simp [*]; done)), H', ⟨by first | omega | exact Nat.le_refl _⟩, ⟨by (with_reducible repeat (first | apply Kd.R_alloc | apply Kd.R_drewN | apply Kd.R_drew)); exact Kd.R_mono HO583.out (fun _ hk => trivial)⟩, ⟨by repeat (first | (with_reducible first | exact HB.out | apply below_alloc | apply pw_below_drewN | apply below_drew1) | exact HB.out)⟩⟩
  case rest =>
    clear HC7
    try clear c1
    try clear p2
    try clear c3
    try clear c11
    try clear c11b0
    try clear c11b1
    try clear c12
    try clear c12b0
    try clear c12b1
    try clear c14
    obtain ⟨kq, x60_6, rfl, HA, HJ6, HO_11, HB⟩ := hcut
    cases kq with
    | zero => exact absurd HA.out (by simp [verditerlaw07_KneadTimes.j0])
    | succ kj6 =>
      have H := HA.out
      clear HA
      simp only [verditerlaw07_KneadTimes.j0] at H
      by_cases c19 : x60_6 = true
      · subst c19
        have H1 : (some false) = some r := by rw [if_pos rfl] at H; exact H
        clear H
        have H := H1
        clear H1
        obtain rfl := Option.some.inj H
        go_wp2
        go_ret
        exact ⟨by first | rfl | (simp [errW_none, errW_some] <;> rfl) | (simp [*, errW_none, errW_some] <;> rfl), by repeat (first | (with_reducible first | exact HB.out | apply below_alloc | apply pw_below_drewN | apply below_drew1) | exact HB.out)⟩
      · replace c19 := Bool.eq_false_iff.mpr c19
        subst c19
        have H1 : (if t579 = 0 then ((verditerref01_Sum.f kj6 t580).bind fun t586 => (if t586 = a0 then (verditerlaw07_KneadTimes.l0 kj6 a0 a1 t578 t580 0) else (some false))) else ((verditerlaw07_known.f kj6).bind fun t585 => (some t585))) = some r := by rw [if_neg (show ¬ (false = true) by decide)] at H; exact H
        clear H
        have H := H1
        clear H1
        by_cases c20 : t579 = 0
        · rw [if_pos c20] at H
          have c20b0 : (t579 == 0) = true := beq_iff_eq.mpr c20
          have c20b1 : (t579 != 0) = false := bne_eq_false_iff_eq.mpr c20
          clear c20
          replace H := Option.bind_eq_some_iff.mp H
          obtain ⟨t586, A210, H⟩ := H
          replace H : (if t586 = a0 then (verditerlaw07_KneadTimes.l0 kj6 a0 a1 t578 t580 0) else (some false)) = some r := H
          have A21 := Aside0.mk A210
          clear A210
          by_cases c22 : t586 = a0
          · rw [if_pos c22] at H
            have c22b0 : (t586 == a0) = true := beq_iff_eq.mpr c22
            have c22b1 : (t586 != a0) = false := bne_eq_false_iff_eq.mpr c22
            clear c22
            have H' := Aside0.mk H
            clear H
            obtain ⟨Ao23, co23, eo23⟩ := Kd.R_slice HO_11.out
            subst eo23
            go_wp2_with (first | ((with_reducible refine gate_callee (f := 34) rfl ?_); refine goesL_ (some 65) rfl rfl Try.func34 (by kernel_rfl) rfl #[.slice Ao23 t580.length co23] rfl (by (try simp only [List.map_toArray, List.map_cons, List.map_nil]); first | done | rfl | (simp only [List.length_drop, List.length_take]; rfl)) ?_; (with_reducible refine (verditerref01_Sum.calls kj6 _ _ t580 t586 _ ?side1 ?side2 A21.out).mono ?_); (case side1 => repeat (first | exact (Kd.R_reads' HO_11.out).2.2 | (with_reducible refine Kd.C_alloc ?_ _) | (with_reducible refine Kd.C_drewN ?_ _) | (with_reducible refine Kd.C_drew ?_))); (case side2 => exact (Kd.R_reads' HO_11.out).2.1); rintro e w' ⟨rfl, ⟨nd, rfl⟩⟩; refine ⟨_, rfl, ?_⟩))
            go_loopg [13] kj6 (fun kq v13 w' => ∃ (x13_2 : Int), v13 = .int .i64 x13_2 ∧ Aside0 (verditerlaw07_KneadTimes.l0 kq a0 a1 t578 t580 x13_2 = some r) ∧ Aside0 (kq ≤ kj6) ∧ Aside0 (Kd.R (Kd.int .i64) 3 w' w.heap.size (fun _ => True) (.slice Ao23 t580.length co23) t580) ∧ Aside0 (Below w.heap.size w w'))
            case atStart => exact ⟨(0), (by first | rfl | (simp; done) | (simp [*]; done)), H', ⟨Nat.le_refl _⟩, ⟨by (with_reducible repeat (first | apply Kd.R_alloc | apply Kd.R_drewN | apply Kd.R_drew)); exact HO_11.out⟩, ⟨by repeat (first | (with_reducible first | exact HB.out | apply below_alloc | apply pw_below_drewN | apply below_drew1) | exact HB.out)⟩⟩
            case round =>
              clear H'
              try clear c1
              try clear c2
              try clear p2
              try clear c3
              try clear c11
              try clear c11b0
              try clear c11b1
              try clear c12
              try clear c12b0
              try clear c12b1
              try clear c14
              try clear c19
              try clear c20
              try clear c20b0
              try clear c20b1
              try clear c22
              try clear c22b0
              try clear c22b1
              try clear p2
              obtain ⟨x13_2, rfl, HA, HK2, HO_11, HB⟩ := hrel
              cases gk with
              | zero => exact absurd HA.out (by simp [verditerlaw07_KneadTimes.l0])
              | succ k2 =>
                have H := HA.out
                clear HA
                simp only [verditerlaw07_KneadTimes.l0] at H
                by_cases c24 : x13_2 < (t580.length : Int)
                · rw [if_pos c24] at H
                  have c24b0 : decide (x13_2 < (t580.length : Int)) = true := decide_eq_true c24
                  clear c24
                  by_cases c25 : 0 ≤ x13_2
                  · rw [if_pos c25] at H
                    have c25b0 : decide (0 ≤ x13_2) = true := decide_eq_true c25
                    clear c25
                    by_cases c26 : (rd t580 x13_2) < 1
                    · rw [if_pos c26] at H
                      have c26b0 : decide ((rd t580 x13_2) < 1) = true := decide_eq_true c26
                      clear c26
                      obtain rfl := Option.some.inj H
                      have p587 : 0 ≤ (x13_2 : Int) := of_decide_eq_true (by first | (with_reducible assumption) | assumption)
                      have q587 : x13_2 < (t580.length : Int) := of_decide_eq_true (by first | (with_reducible assumption) | assumption)
                      obtain ⟨ad587, e587, hx587_0⟩ := Kd.at_int (Kd.R_reads' HO_11.out).2.2 x13_2 p587 q587
                      cases e587
                      replace p587 := eq_true p587
                      replace q587 := eq_true q587
                      go_wp2
                      go_ret
                      exact ⟨by first | rfl | (simp [errW_none, errW_some] <;> rfl) | (simp [*, errW_none, errW_some] <;> rfl), by repeat (first | (with_reducible first | exact HB.out | apply below_alloc | apply pw_below_drewN | apply below_drew1) | exact HB.out)⟩
                    · rw [if_neg c26] at H
                      have c26b0 : decide ((rd t580 x13_2) < 1) = false := decide_eq_false c26
                      clear c26
                      by_cases c27 : (rd t580 x13_2) = 0
                      · rw [if_pos c27] at H
                        exact absurd H (by simp)
                      · rw [if_neg c27] at H
                        have c27b0 : ((rd t580 x13_2) == 0) = false := beq_eq_false_iff_ne.mpr c27
                        have c27b1 : ((rd t580 x13_2) != 0) = true := bne_iff_ne.mpr c27
                        by_cases c28 : (Int.tmod t578 (rd t580 x13_2)) = 0
                        · rw [if_pos c28] at H
                          have c28b0 : ((Int.tmod t578 (rd t580 x13_2)) == 0) = true := beq_iff_eq.mpr c28
                          have c28b1 : ((Int.tmod t578 (rd t580 x13_2)) != 0) = false := bne_eq_false_iff_eq.mpr c28
                          clear c28
                          have H' := Aside0.mk H
                          clear H
                          have p587 : 0 ≤ (x13_2 : Int) := of_decide_eq_true (by first | (with_reducible assumption) | assumption)
                          have q587 : x13_2 < (t580.length : Int) := of_decide_eq_true (by first | (with_reducible assumption) | assumption)
                          obtain ⟨ad587, e587, hx587_0⟩ := Kd.at_int (Kd.R_reads' HO_11.out).2.2 x13_2 p587 q587
                          cases e587
                          replace p587 := eq_true p587
                          replace q587 := eq_true q587
                          have p588 : 0 ≤ (x13_2 : Int) := of_decide_eq_true (by first | (with_reducible assumption) | assumption)
                          have q588 : x13_2 < (t580.length : Int) := of_decide_eq_true (by first | (with_reducible assumption) | assumption)
                          obtain ⟨ad588, e588, hx588_0⟩ := Kd.at_int (Kd.R_reads' HO_11.out).2.2 x13_2 p588 q588
                          obtain rfl : ad587 = ad588 := (by injection e588)
                          replace p588 := eq_true p588
                          replace q588 := eq_true q588
                          go_wp2
                          go_roundg k2
                          case measure => have := HJ6.out; have := HK2.out; omega
                          case rel => exact ⟨(wrap64 (x13_2 + 1)), (by first | rfl | (simp; done) | (simp [*]; done)), H', ⟨by have := HJ6.out; have := HK2.out; omega⟩, ⟨by (with_reducible repeat (first | apply Kd.R_alloc | apply Kd.R_drewN | apply Kd.R_drew)); exact HO_11.out⟩, ⟨by repeat (first | (with_reducible first | exact HB.out | apply below_alloc | apply pw_below_drewN | apply below_drew1) | exact HB.out)⟩⟩
                        · rw [if_neg c28] at H
                          have c28b0 : ((Int.tmod t578 (rd t580 x13_2)) == 0) = false := beq_eq_false_iff_ne.mpr c28
                          have c28b1 : ((Int.tmod t578 (rd t580 x13_2)) != 0) = true := bne_iff_ne.mpr c28
                          obtain rfl := Option.some.inj H
                          have p587 : 0 ≤ (x13_2 : Int) := of_decide_eq_true (by first | (with_reducible assumption) | assumption)
                          have q587 : x13_2 < (t580.length : Int) := of_decide_eq_true (by first | (with_reducible assumption) | assumption)
                          obtain ⟨ad587, e587, hx587_0⟩ := Kd.at_int (Kd.R_reads' HO_11.out).2.2 x13_2 p587 q587
                          cases e587
                          replace p587 := eq_true p587
                          replace q587 := eq_true q587
                          have p588 : 0 ≤ (x13_2 : Int) := of_decide_eq_true (by first | (with_reducible assumption) | assumption)
                          have q588 : x13_2 < (t580.length : Int) := of_decide_eq_true (by first | (with_reducible assumption) | assumption)
                          obtain ⟨ad588, e588, hx588_0⟩ := Kd.at_int (Kd.R_reads' HO_11.out).2.2 x13_2 p588 q588
                          obtain rfl : ad587 = ad588 := (by injection e588)
                          replace p588 := eq_true p588
                          replace q588 := eq_true q588
                          go_wp2
                          go_ret
                          exact ⟨by first | rfl | (simp [errW_none, errW_some] <;> rfl) | (simp [*, errW_none, errW_some] <;> rfl), by repeat (first | (with_reducible first | exact HB.out | apply below_alloc | apply pw_below_drewN | apply below_drew1) | exact HB.out)⟩
                  · rw [if_neg c25] at H
                    exact absurd H (by simp)
                · rw [if_neg c24] at H
                  have c24b0 : decide (x13_2 < (t580.length : Int)) = false := decide_eq_false c24
                  clear c24
                  replace H := Option.bind_eq_some_iff.mp H
                  obtain ⟨t589, A290, H⟩ := H
                  replace H : (verditerlaw07_KneadTimes.l1 k2 a0 a1 t578 t589 0) = some r := H
                  have A29 := Aside0.mk A290
                  clear A290
                  have H' := Aside0.mk H
                  clear H
                  go_wp2_with (first | ((with_reducible refine gate_callee (f := 35) rfl ?_); refine goesL_ (some 89) rfl rfl Try.func35 (by kernel_rfl) rfl #[.int .i64 a0] rfl (by (try simp only [List.map_toArray, List.map_cons, List.map_nil]); first | done | rfl | (simp only [List.length_drop, List.length_take]; rfl)) ?_; (with_reducible refine (verditerref01_Numbers.calls k2 a0 t589 _ A29.out).mono ?_); rintro e w30 ⟨v590, rfl, ho0, hb⟩; refine ⟨_, rfl, ?_⟩; have n0_ := Aside0.mk (Kd.R_elder' (by (with_reducible repeat (first | apply Kd.R_alloc | apply Kd.R_drewN | apply Kd.R_drew)); exact HO_11.out) (Kd.R_base ho0) hb); have n1_ := Aside0.mk (Kd.R_lower (Kd.R_new' ho0 (Kd.R_lt (by (with_reducible repeat (first | apply Kd.R_alloc | apply Kd.R_drewN | apply Kd.R_drew)); exact HO_11.out))) (below_size (by repeat (first | (with_reducible first | exact HB.out | apply below_alloc | apply pw_below_drewN | apply below_drew1) | exact HB.out)))); have n2_ := Aside0.mk (below_step (by repeat (first | (with_reducible first | exact HB.out | apply below_alloc | apply pw_below_drewN | apply below_drew1) | exact HB.out)) hb); clear HO_11; clear HB; have HO_11 := n0_; have HO591 := n1_; have HB := n2_; clear n0_ n1_ n2_; (try clear hb); (try clear hb2); (try clear hk); (try clear hi); (try clear ho0)))
                  go_loopg [14, 15] k2 (fun kq v14 v15 w' => ∃ (x14_3 : List Int) (x15_3 : Int), v15 = .int .i64 x15_3 ∧ Aside0 (verditerlaw07_KneadTimes.l1 kq a0 a1 t578 x14_3 x15_3 = some r) ∧ Aside0 (kq ≤ k2) ∧ Aside0 (Kd.R (Kd.int .i64) 3 w' w.heap.size (fun _ => True) v14 x14_3) ∧ Aside0 (Below w.heap.size w w'))
                  case atStart => exact ⟨(t589), (0), (by first | rfl | (simp; done) | (simp [*]; done)), H', ⟨Nat.le_refl _⟩, ⟨by (with_reducible repeat (first | apply Kd.R_alloc | apply Kd.R_drewN | apply Kd.R_drew)); exact Kd.R_mono HO591.out (fun _ hk => trivial)⟩, ⟨by repeat (first | (with_reducible first | exact HB.out | apply below_alloc | apply pw_below_drewN | apply below_drew1) | exact HB.out)⟩⟩
                  case round =>
                    clear H'
                    try clear c1
                    try clear c2
                    try clear p2
                    try clear c3
                    try clear p5
                    try clear q5
                    try clear hx5
                    try clear p6
                    try clear c11
                    try clear c11b0
                    try clear c11b1
                    try clear c12
                    try clear c12b0
                    try clear c12b1
                    try clear c14
                    try clear c19
                    try clear c20
                    try clear c20b0
                    try clear c20b1
                    try clear c22
                    try clear c22b0
                    try clear c22b1
                    try clear c24
                    try clear c24b0
                    try clear c25
                    try clear c25b0
                    try clear c26
                    try clear c26b0
                    try clear c27
                    try clear c27b0
                    try clear c27b1
                    try clear c28
                    try clear c28b0
                    try clear c28b1
                    try clear c30
                    try clear hx587_0
                    try clear hx588_0
                    try clear p2
                    try clear p587
                    try clear p588
                    try clear q587
                    try clear q588
                    obtain ⟨x14_3, x15_3, rfl, HA, HK3, HO_14, HB⟩ := hrel
                    cases gk with
                    | zero => exact absurd HA.out (by simp [verditerlaw07_KneadTimes.l1])
                    | succ k3 =>
                      have H := HA.out
                      clear HA
                      simp only [verditerlaw07_KneadTimes.l1] at H
                      by_cases c31 : x15_3 < t578
                      · rw [if_pos c31] at H
                        have c31b0 : decide (x15_3 < t578) = true := decide_eq_true c31
                        clear c31
                        obtain ⟨y597, hy597⟩ : ∃ y_ : List Int, y_ = (([a1] : List Int)) := ⟨_, rfl⟩
                        replace H : ((knead_Fold.f k3 x14_3 y597).bind fun bt600 => (if bt600.2 = 0 then (if (bt600.1.length : Int) = a0 then (if (wrap64 (x15_3 + 1)) < t578 then ((verditerref01_Numbers.f k3 a0).bind fun t604 => ((verditerref01_SameInts.f k3 bt600.1 t604).bind fun t607 => (if t607 = true then (some false) else ((some (([] : List Int) : List Int)).bind fun y608 => (if y608.length + bt600.1.length < 17592186044416 then (verditerlaw07_KneadTimes.l1 k3 a0 a1 t578 (y608 ++ bt600.1) (wrap64 (x15_3 + 1))) else (none)))))) else ((some (([] : List Int) : List Int)).bind fun y614 => (if y614.length + bt600.1.length < 17592186044416 then (verditerlaw07_KneadTimes.l1 k3 a0 a1 t578 (y614 ++ bt600.1) (wrap64 (x15_3 + 1))) else (none)))) else (some false)) else (some false))) = some r := by first | (rw [hy597]; with_reducible exact H) | (have H2_ := (Option.bind_some _ _).symm.trans H; rw [hy597]; with_reducible exact H2_) | (have H2_ := (Option.bind_some _ _).symm.trans H; with_reducible exact H2_) | with_reducible exact H | (rw [hy597]; exact H) | exact H
                        have Ny597 := Aside0.mk hy597
                        clear hy597
                        replace H := Option.bind_eq_some_iff.mp H
                        obtain ⟨⟨t600, t601⟩, A320, H⟩ := H
                        replace H : (if t601 = 0 then (if (t600.length : Int) = a0 then (if (wrap64 (x15_3 + 1)) < t578 then ((verditerref01_Numbers.f k3 a0).bind fun t604 => ((verditerref01_SameInts.f k3 t600 t604).bind fun t607 => (if t607 = true then (some false) else ((some (([] : List Int) : List Int)).bind fun y608 => (if y608.length + t600.length < 17592186044416 then (verditerlaw07_KneadTimes.l1 k3 a0 a1 t578 (y608 ++ t600) (wrap64 (x15_3 + 1))) else (none)))))) else ((some (([] : List Int) : List Int)).bind fun y614 => (if y614.length + t600.length < 17592186044416 then (verditerlaw07_KneadTimes.l1 k3 a0 a1 t578 (y614 ++ t600) (wrap64 (x15_3 + 1))) else (none)))) else (some false)) else (some false)) = some r := H
                        have A32 := Aside0.mk A320
                        clear A320
                        by_cases c33 : t601 = 0
                        · rw [if_pos c33] at H
                          have c33b0 : (t601 == 0) = true := beq_iff_eq.mpr c33
                          have c33b1 : (t601 != 0) = false := bne_eq_false_iff_eq.mpr c33
                          clear c33
                          by_cases c34 : (t600.length : Int) = a0
                          · rw [if_pos c34] at H
                            have c34b0 : ((t600.length : Int) == a0) = true := beq_iff_eq.mpr c34
                            have c34b1 : ((t600.length : Int) != a0) = false := bne_eq_false_iff_eq.mpr c34
                            clear c34
                            by_cases c35 : (wrap64 (x15_3 + 1)) < t578
                            · rw [if_pos c35] at H
                              have c35b0 : decide ((wrap64 (x15_3 + 1)) < t578) = true := decide_eq_true c35
                              clear c35
                              replace H := Option.bind_eq_some_iff.mp H
                              obtain ⟨t604, A360, H⟩ := H
                              replace H : ((verditerref01_SameInts.f k3 t600 t604).bind fun t607 => (if t607 = true then (some false) else ((some (([] : List Int) : List Int)).bind fun y608 => (if y608.length + t600.length < 17592186044416 then (verditerlaw07_KneadTimes.l1 k3 a0 a1 t578 (y608 ++ t600) (wrap64 (x15_3 + 1))) else (none))))) = some r := H
                              have A36 := Aside0.mk A360
                              clear A360
                              replace H := Option.bind_eq_some_iff.mp H
                              obtain ⟨t607, A370, H⟩ := H
                              replace H : (if t607 = true then (some false) else ((some (([] : List Int) : List Int)).bind fun y608 => (if y608.length + t600.length < 17592186044416 then (verditerlaw07_KneadTimes.l1 k3 a0 a1 t578 (y608 ++ t600) (wrap64 (x15_3 + 1))) else (none)))) = some r := H
                              have A37 := Aside0.mk A370
                              clear A370
                              by_cases c38 : t607 = true
                              · subst c38
                                have H1 : (some false) = some r := by rw [if_pos rfl] at H; exact H
                                clear H
                                have H := H1
                                clear H1
                                obtain rfl := Option.some.inj H
                                go_wp2_with (first | ((with_reducible refine gate_dst (N := 98) rfl ?_); (try (refine gate_guard (by rfl) ?_; dsimp only)); refine Kd.R_lit (Kd.int .i64) _ 3 ?hg (N := 98) ?hd (xs := ([a1] : List Int)) (inner := [.int .i64 a1]) (ok := fun _ => True) (okp := fun _ => True) ?hr ?hp (fun _ hk => hk) trivial (Below.refl _ _) (Nat.le_refl _) (by simp) ?_; (case hd => rfl); (case hg => rfl); (case hr => first | (go_simp; done) | (go_simp; rfl)); (case hp => exact (Reps.one (show Kd.M (Kd.int .i64) _ _ _ a1 [.int .i64 a1] from rfl) (Reps.none _ _))); intro v598 w39 ho40 hb hg_ hnew_; clear hg_ hnew_; (first | rw [← Ny597.out] at ho40 | (simp only [Int.reduceToNat] at ho40; rw [← Ny597.out] at ho40)); have n0_ := Aside0.mk (Kd.R_elder' (by (with_reducible repeat (first | apply Kd.R_alloc | apply Kd.R_drewN | apply Kd.R_drew)); exact HO_14.out) (Kd.R_base ho40) hb); have n1_ := Aside0.mk (Kd.R_lower (Kd.R_new' ho40 (Kd.R_lt (by (with_reducible repeat (first | apply Kd.R_alloc | apply Kd.R_drewN | apply Kd.R_drew)); exact HO_14.out))) (below_size (by repeat (first | (with_reducible first | exact HB.out | apply below_alloc | apply pw_below_drewN | apply below_drew1) | exact HB.out)))); have n2_ := Aside0.mk (below_step (by repeat (first | (with_reducible first | exact HB.out | apply below_alloc | apply pw_below_drewN | apply below_drew1) | exact HB.out)) hb); clear HO_14; clear HB; have HO_14 := n0_; have HO599 := n1_; have HB := n2_; clear n0_ n1_ n2_; clear hb ho40; obtain ⟨Ao41, co41, eo41⟩ := Kd.R_slice HO_14.out; subst eo41; obtain ⟨Ao42, co42, eo42⟩ := Kd.R_slice HO599.out; subst eo42) | ((with_reducible refine gate_callee (f := 36) rfl ?_); refine goesL_ (some 99) rfl rfl Try.func36 (by kernel_rfl) rfl #[.slice Ao41 x14_3.length co41, .slice Ao42 y597.length co42] rfl (by (try simp only [List.map_toArray, List.map_cons, List.map_nil]); first | done | rfl | (simp only [List.length_drop, List.length_take]; rfl)) ?_; (with_reducible refine (knead_Fold.calls k3 _ _ x14_3 _ _ y597 t600 t601 _ ?side1 ?side2 ?side3 ?side4 A32.out).mono ?_); (case side1 => repeat (first | exact (Kd.R_reads' HO_14.out).2.2 | (with_reducible refine Kd.C_alloc ?_ _) | (with_reducible refine Kd.C_drewN ?_ _) | (with_reducible refine Kd.C_drew ?_))); (case side2 => exact (Kd.R_reads' HO_14.out).2.1); (case side3 => repeat (first | exact (Kd.R_reads' HO599.out).2.2 | (with_reducible refine Kd.C_alloc ?_ _) | (with_reducible refine Kd.C_drewN ?_ _) | (with_reducible refine Kd.C_drew ?_))); (case side4 => exact (Kd.R_reads' HO599.out).2.1); rintro e w43 ⟨v602, rfl, ho0, hb⟩; refine ⟨_, rfl, ?_⟩; have n0_ := Aside0.mk (Kd.R_elder' (by (with_reducible repeat (first | apply Kd.R_alloc | apply Kd.R_drewN | apply Kd.R_drew)); exact HO_14.out) (Kd.R_base ho0) hb); have n1_ := Aside0.mk (Kd.R_elder' (by (with_reducible repeat (first | apply Kd.R_alloc | apply Kd.R_drewN | apply Kd.R_drew)); exact HO599.out) (Kd.R_base ho0) hb); have n2_ := Aside0.mk (Kd.R_lower (Kd.R_new' (Kd.R_new' ho0 (Kd.R_lt (by (with_reducible repeat (first | apply Kd.R_alloc | apply Kd.R_drewN | apply Kd.R_drew)); exact HO_14.out))) (Kd.R_lt (by (with_reducible repeat (first | apply Kd.R_alloc | apply Kd.R_drewN | apply Kd.R_drew)); exact HO599.out))) (below_size (by repeat (first | (with_reducible first | exact HB.out | apply below_alloc | apply pw_below_drewN | apply below_drew1) | exact HB.out)))); have n3_ := Aside0.mk (below_step (by repeat (first | (with_reducible first | exact HB.out | apply below_alloc | apply pw_below_drewN | apply below_drew1) | exact HB.out)) hb); clear HO_14; clear HO599; clear HB; have HO_14 := n0_; have HO599 := n1_; have HO603 := n2_; have HB := n3_; clear n0_ n1_ n2_ n3_; (try clear hb); (try clear hb2); (try clear hk); (try clear hi); (try clear ho0); obtain ⟨Ao44, co44, eo44⟩ := Kd.R_slice HO603.out; subst eo44) | (go_at_call 35; (with_reducible refine (verditerref01_Numbers.calls k3 a0 t604 _ A36.out).mono ?_); rintro e w45 ⟨v605, rfl, ho0, hb⟩; have n0_ := Aside0.mk (Kd.R_elder' (by (with_reducible repeat (first | apply Kd.R_alloc | apply Kd.R_drewN | apply Kd.R_drew)); exact HO_14.out) (Kd.R_base ho0) hb); have n1_ := Aside0.mk (Kd.R_elder' (by (with_reducible repeat (first | apply Kd.R_alloc | apply Kd.R_drewN | apply Kd.R_drew)); exact HO599.out) (Kd.R_base ho0) hb); have n2_ := Aside0.mk (Kd.R_elder' (by (with_reducible repeat (first | apply Kd.R_alloc | apply Kd.R_drewN | apply Kd.R_drew)); exact HO603.out) (Kd.R_base ho0) hb); have n3_ := Aside0.mk (Kd.R_lower (Kd.R_new' (Kd.R_new' (Kd.R_new' ho0 (Kd.R_lt (by (with_reducible repeat (first | apply Kd.R_alloc | apply Kd.R_drewN | apply Kd.R_drew)); exact HO_14.out))) (Kd.R_lt (by (with_reducible repeat (first | apply Kd.R_alloc | apply Kd.R_drewN | apply Kd.R_drew)); exact HO599.out))) (Kd.R_lt (by (with_reducible repeat (first | apply Kd.R_alloc | apply Kd.R_drewN | apply Kd.R_drew)); exact HO603.out))) (below_size (by repeat (first | (with_reducible first | exact HB.out | apply below_alloc | apply pw_below_drewN | apply below_drew1) | exact HB.out)))); have n4_ := Aside0.mk (below_step (by repeat (first | (with_reducible first | exact HB.out | apply below_alloc | apply pw_below_drewN | apply below_drew1) | exact HB.out)) hb); clear HO_14; clear HO599; clear HO603; clear HB; have HO_14 := n0_; have HO599 := n1_; have HO603 := n2_; have HO606 := n3_; have HB := n4_; clear n0_ n1_ n2_ n3_ n4_; (try clear hb); (try clear hb2); (try clear hk); (try clear hi); (try clear ho0); obtain ⟨Ao46, co46, eo46⟩ := Kd.R_slice HO606.out; subst eo46) | (go_at_call 22; (with_reducible refine (verditerref01_SameInts.calls k3 _ _ t600 _ _ t604 true _ ?side1 ?side2 ?side3 ?side4 A37.out).mono ?_); (case side1 => repeat (first | exact (Kd.R_reads' HO603.out).2.2 | (with_reducible refine Kd.C_alloc ?_ _) | (with_reducible refine Kd.C_drewN ?_ _) | (with_reducible refine Kd.C_drew ?_))); (case side2 => exact (Kd.R_reads' HO603.out).2.1); (case side3 => repeat (first | exact (Kd.R_reads' HO606.out).2.2 | (with_reducible refine Kd.C_alloc ?_ _) | (with_reducible refine Kd.C_drewN ?_ _) | (with_reducible refine Kd.C_drew ?_))); (case side4 => exact (Kd.R_reads' HO606.out).2.1); rintro e w' ⟨rfl, ⟨nd, rfl⟩⟩))
                                go_ret
                                exact ⟨by first | rfl | (simp [errW_none, errW_some] <;> rfl) | (simp [*, errW_none, errW_some] <;> rfl), by repeat (first | (with_reducible first | exact HB.out | apply below_alloc | apply pw_below_drewN | apply below_drew1) | exact HB.out)⟩
                              · replace c38 := Bool.eq_false_iff.mpr c38
                                subst c38
                                have H1 : ((some (([] : List Int) : List Int)).bind fun y608 => (if y608.length + t600.length < 17592186044416 then (verditerlaw07_KneadTimes.l1 k3 a0 a1 t578 (y608 ++ t600) (wrap64 (x15_3 + 1))) else (none))) = some r := by rw [if_neg (show ¬ (false = true) by decide)] at H; exact H
                                clear H
                                have H := H1
                                clear H1
                                obtain ⟨y608, hy608⟩ : ∃ y_ : List Int, y_ = (([] : List Int)) := ⟨_, rfl⟩
                                replace H : (if y608.length + t600.length < 17592186044416 then (verditerlaw07_KneadTimes.l1 k3 a0 a1 t578 (y608 ++ t600) (wrap64 (x15_3 + 1))) else (none)) = some r := by first | (rw [hy608]; with_reducible exact H) | (have H2_ := (Option.bind_some _ _).symm.trans H; rw [hy608]; with_reducible exact H2_) | (have H2_ := (Option.bind_some _ _).symm.trans H; with_reducible exact H2_) | with_reducible exact H | (rw [hy608]; exact H) | exact H
                                have Ny608 := Aside0.mk hy608
                                clear hy608
                                by_cases c47 : y608.length + t600.length < 17592186044416
                                · rw [if_pos c47] at H
                                  have LMc47 := Aside0.mk c47
                                  clear c47
                                  obtain ⟨y611, hy611⟩ : ∃ y_ : List Int, y_ = (y608 ++ t600) := ⟨_, rfl⟩
                                  replace H : (verditerlaw07_KneadTimes.l1 k3 a0 a1 t578 y611 (wrap64 (x15_3 + 1))) = some r := by first | (rw [hy611]; with_reducible exact H) | (have H2_ := (Option.bind_some _ _).symm.trans H; rw [hy611]; with_reducible exact H2_) | (have H2_ := (Option.bind_some _ _).symm.trans H; with_reducible exact H2_) | with_reducible exact H | (rw [hy611]; exact H) | exact H
                                  have Ny611 := Aside0.mk hy611
                                  clear hy611
                                  have H' := Aside0.mk H
                                  clear H
                                  go_wp2_with (first | ((with_reducible refine gate_dst (N := 98) rfl ?_); (try (refine gate_guard (by rfl) ?_; dsimp only)); refine Kd.R_lit (Kd.int .i64) _ 3 ?hg (N := 98) ?hd (xs := ([a1] : List Int)) (inner := [.int .i64 a1]) (ok := fun _ => True) (okp := fun _ => True) ?hr ?hp (fun _ hk => hk) trivial (Below.refl _ _) (Nat.le_refl _) (by simp) ?_; (case hd => rfl); (case hg => rfl); (case hr => first | (go_simp; done) | (go_simp; rfl)); (case hp => exact (Reps.one (show Kd.M (Kd.int .i64) _ _ _ a1 [.int .i64 a1] from rfl) (Reps.none _ _))); intro v598 w48 ho49 hb hg_ hnew_; clear hg_ hnew_; (first | rw [← Ny597.out] at ho49 | (simp only [Int.reduceToNat] at ho49; rw [← Ny597.out] at ho49)); have n0_ := Aside0.mk (Kd.R_elder' (by (with_reducible repeat (first | apply Kd.R_alloc | apply Kd.R_drewN | apply Kd.R_drew)); exact HO_14.out) (Kd.R_base ho49) hb); have n1_ := Aside0.mk (Kd.R_lower (Kd.R_new' ho49 (Kd.R_lt (by (with_reducible repeat (first | apply Kd.R_alloc | apply Kd.R_drewN | apply Kd.R_drew)); exact HO_14.out))) (below_size (by repeat (first | (with_reducible first | exact HB.out | apply below_alloc | apply pw_below_drewN | apply below_drew1) | exact HB.out)))); have n2_ := Aside0.mk (below_step (by repeat (first | (with_reducible first | exact HB.out | apply below_alloc | apply pw_below_drewN | apply below_drew1) | exact HB.out)) hb); clear HO_14; clear HB; have HO_14 := n0_; have HO599 := n1_; have HB := n2_; clear n0_ n1_ n2_; clear hb ho49; obtain ⟨Ao50, co50, eo50⟩ := Kd.R_slice HO_14.out; subst eo50; obtain ⟨Ao51, co51, eo51⟩ := Kd.R_slice HO599.out; subst eo51) | ((with_reducible refine gate_callee (f := 36) rfl ?_); refine goesL_ (some 99) rfl rfl Try.func36 (by kernel_rfl) rfl #[.slice Ao50 x14_3.length co50, .slice Ao51 y597.length co51] rfl (by (try simp only [List.map_toArray, List.map_cons, List.map_nil]); first | done | rfl | (simp only [List.length_drop, List.length_take]; rfl)) ?_; (with_reducible refine (knead_Fold.calls k3 _ _ x14_3 _ _ y597 t600 t601 _ ?side1 ?side2 ?side3 ?side4 A32.out).mono ?_); (case side1 => repeat (first | exact (Kd.R_reads' HO_14.out).2.2 | (with_reducible refine Kd.C_alloc ?_ _) | (with_reducible refine Kd.C_drewN ?_ _) | (with_reducible refine Kd.C_drew ?_))); (case side2 => exact (Kd.R_reads' HO_14.out).2.1); (case side3 => repeat (first | exact (Kd.R_reads' HO599.out).2.2 | (with_reducible refine Kd.C_alloc ?_ _) | (with_reducible refine Kd.C_drewN ?_ _) | (with_reducible refine Kd.C_drew ?_))); (case side4 => exact (Kd.R_reads' HO599.out).2.1); rintro e w52 ⟨v602, rfl, ho0, hb⟩; refine ⟨_, rfl, ?_⟩; have n0_ := Aside0.mk (Kd.R_elder' (by (with_reducible repeat (first | apply Kd.R_alloc | apply Kd.R_drewN | apply Kd.R_drew)); exact HO_14.out) (Kd.R_base ho0) hb); have n1_ := Aside0.mk (Kd.R_elder' (by (with_reducible repeat (first | apply Kd.R_alloc | apply Kd.R_drewN | apply Kd.R_drew)); exact HO599.out) (Kd.R_base ho0) hb); have n2_ := Aside0.mk (Kd.R_lower (Kd.R_new' (Kd.R_new' ho0 (Kd.R_lt (by (with_reducible repeat (first | apply Kd.R_alloc | apply Kd.R_drewN | apply Kd.R_drew)); exact HO_14.out))) (Kd.R_lt (by (with_reducible repeat (first | apply Kd.R_alloc | apply Kd.R_drewN | apply Kd.R_drew)); exact HO599.out))) (below_size (by repeat (first | (with_reducible first | exact HB.out | apply below_alloc | apply pw_below_drewN | apply below_drew1) | exact HB.out)))); have n3_ := Aside0.mk (below_step (by repeat (first | (with_reducible first | exact HB.out | apply below_alloc | apply pw_below_drewN | apply below_drew1) | exact HB.out)) hb); clear HO_14; clear HO599; clear HB; have HO_14 := n0_; have HO599 := n1_; have HO603 := n2_; have HB := n3_; clear n0_ n1_ n2_ n3_; (try clear hb); (try clear hb2); (try clear hk); (try clear hi); (try clear ho0); obtain ⟨Ao53, co53, eo53⟩ := Kd.R_slice HO603.out; subst eo53) | (go_at_call 35; (with_reducible refine (verditerref01_Numbers.calls k3 a0 t604 _ A36.out).mono ?_); rintro e w54 ⟨v605, rfl, ho0, hb⟩; have n0_ := Aside0.mk (Kd.R_elder' (by (with_reducible repeat (first | apply Kd.R_alloc | apply Kd.R_drewN | apply Kd.R_drew)); exact HO_14.out) (Kd.R_base ho0) hb); have n1_ := Aside0.mk (Kd.R_elder' (by (with_reducible repeat (first | apply Kd.R_alloc | apply Kd.R_drewN | apply Kd.R_drew)); exact HO599.out) (Kd.R_base ho0) hb); have n2_ := Aside0.mk (Kd.R_elder' (by (with_reducible repeat (first | apply Kd.R_alloc | apply Kd.R_drewN | apply Kd.R_drew)); exact HO603.out) (Kd.R_base ho0) hb); have n3_ := Aside0.mk (Kd.R_lower (Kd.R_new' (Kd.R_new' (Kd.R_new' ho0 (Kd.R_lt (by (with_reducible repeat (first | apply Kd.R_alloc | apply Kd.R_drewN | apply Kd.R_drew)); exact HO_14.out))) (Kd.R_lt (by (with_reducible repeat (first | apply Kd.R_alloc | apply Kd.R_drewN | apply Kd.R_drew)); exact HO599.out))) (Kd.R_lt (by (with_reducible repeat (first | apply Kd.R_alloc | apply Kd.R_drewN | apply Kd.R_drew)); exact HO603.out))) (below_size (by repeat (first | (with_reducible first | exact HB.out | apply below_alloc | apply pw_below_drewN | apply below_drew1) | exact HB.out)))); have n4_ := Aside0.mk (below_step (by repeat (first | (with_reducible first | exact HB.out | apply below_alloc | apply pw_below_drewN | apply below_drew1) | exact HB.out)) hb); clear HO_14; clear HO599; clear HO603; clear HB; have HO_14 := n0_; have HO599 := n1_; have HO603 := n2_; have HO606 := n3_; have HB := n4_; clear n0_ n1_ n2_ n3_ n4_; (try clear hb); (try clear hb2); (try clear hk); (try clear hi); (try clear ho0); obtain ⟨Ao55, co55, eo55⟩ := Kd.R_slice HO606.out; subst eo55) | (go_at_call 22; (with_reducible refine (verditerref01_SameInts.calls k3 _ _ t600 _ _ t604 false _ ?side1 ?side2 ?side3 ?side4 A37.out).mono ?_); (case side1 => repeat (first | exact (Kd.R_reads' HO603.out).2.2 | (with_reducible refine Kd.C_alloc ?_ _) | (with_reducible refine Kd.C_drewN ?_ _) | (with_reducible refine Kd.C_drew ?_))); (case side2 => exact (Kd.R_reads' HO603.out).2.1); (case side3 => repeat (first | exact (Kd.R_reads' HO606.out).2.2 | (with_reducible refine Kd.C_alloc ?_ _) | (with_reducible refine Kd.C_drewN ?_ _) | (with_reducible refine Kd.C_drew ?_))); (case side4 => exact (Kd.R_reads' HO606.out).2.1); rintro e w' ⟨rfl, ⟨nd, rfl⟩⟩) | ((with_reducible refine gate_dst (N := 122) rfl ?_); (try (refine gate_guard (by rfl) ?_; dsimp only)); refine Kd.R_lit (Kd.int .i64) _ 3 ?hg (N := 122) ?hd (xs := ([] : List Int)) (inner := []) (ok := fun _ => True) (okp := fun _ => True) ?hr ?hp (fun _ hk => hk) trivial (Below.refl _ _) (Nat.le_refl _) (by simp) ?_; (case hd => rfl); (case hg => rfl); (case hr => first | (go_simp; done) | (go_simp; rfl)); (case hp => exact (Reps.none _ _)); intro v609 w56 ho57 hb hg_ hnew_; clear hg_ hnew_; (first | rw [← Ny608.out] at ho57 | (simp only [Int.reduceToNat] at ho57; rw [← Ny608.out] at ho57)); have n0_ := Aside0.mk (Kd.R_elder' (by (with_reducible repeat (first | apply Kd.R_alloc | apply Kd.R_drewN | apply Kd.R_drew)); exact HO_14.out) (Kd.R_base ho57) hb); have n1_ := Aside0.mk (Kd.R_elder' (by (with_reducible repeat (first | apply Kd.R_alloc | apply Kd.R_drewN | apply Kd.R_drew)); exact HO599.out) (Kd.R_base ho57) hb); have n2_ := Aside0.mk (Kd.R_elder' (by (with_reducible repeat (first | apply Kd.R_alloc | apply Kd.R_drewN | apply Kd.R_drew)); exact HO603.out) (Kd.R_base ho57) hb); have n3_ := Aside0.mk (Kd.R_elder' (by (with_reducible repeat (first | apply Kd.R_alloc | apply Kd.R_drewN | apply Kd.R_drew)); exact HO606.out) (Kd.R_base ho57) hb); have n4_ := Aside0.mk (Kd.R_lower (Kd.R_new' (Kd.R_new' (Kd.R_new' (Kd.R_new' ho57 (Kd.R_lt (by (with_reducible repeat (first | apply Kd.R_alloc | apply Kd.R_drewN | apply Kd.R_drew)); exact HO_14.out))) (Kd.R_lt (by (with_reducible repeat (first | apply Kd.R_alloc | apply Kd.R_drewN | apply Kd.R_drew)); exact HO599.out))) (Kd.R_lt (by (with_reducible repeat (first | apply Kd.R_alloc | apply Kd.R_drewN | apply Kd.R_drew)); exact HO603.out))) (Kd.R_lt (by (with_reducible repeat (first | apply Kd.R_alloc | apply Kd.R_drewN | apply Kd.R_drew)); exact HO606.out))) (below_size (by repeat (first | (with_reducible first | exact HB.out | apply below_alloc | apply pw_below_drewN | apply below_drew1) | exact HB.out)))); have n5_ := Aside0.mk (below_step (by repeat (first | (with_reducible first | exact HB.out | apply below_alloc | apply pw_below_drewN | apply below_drew1) | exact HB.out)) hb); clear HO_14; clear HO599; clear HO603; clear HO606; clear HB; have HO_14 := n0_; have HO599 := n1_; have HO603 := n2_; have HO606 := n3_; have HO610 := n4_; have HB := n5_; clear n0_ n1_ n2_ n3_ n4_ n5_; clear hb ho57) | ((with_reducible refine gate_builtin (b := .append) (xs := #[.tmp 122, .tmp 123]) rfl ?_); (try (refine gate_guard (by rfl) ?_; dsimp only)); at_builtin; refine Kd.R_append_rows (Kd.int .i64) (w0 := w) w.heap.size rfl (.tmp 122) (.tmp 123) 22 3 (.int .i64 0) 8 rfl Try.underlying22 info3 rfl (by decide) (by omega) v609 y608 t600 _ _ _ (fun k_ => some k_ ≠ (.slice Ao50 x14_3.length co50 : Value).ownBlock ∧ some k_ ≠ (.slice Ao51 y597.length co51 : Value).ownBlock ∧ some k_ ≠ (.slice Ao53 t600.length co53 : Value).ownBlock ∧ some k_ ≠ (.slice Ao55 t604.length co55 : Value).ownBlock) (fun _ => False) rfl rfl ?aO ?aR (fun _ _ h => h) (fun _ h => h.elim) ?aF ?aB ?aS ?aL ?_; (case aR => repeat (first | exact (Kd.R_reads' HO603.out).2.2 | (with_reducible refine Kd.C_alloc ?_ _) | (with_reducible refine Kd.C_drewN ?_ _) | (with_reducible refine Kd.C_drew ?_))); (case aB => exact (by repeat (first | (with_reducible first | exact HB.out | apply below_alloc | apply pw_below_drewN | apply below_drew1) | exact HB.out))); (case aF => exact (fun k_ hk => ⟨Kd.fresh' (Kd.R_lt (by (with_reducible repeat (first | apply Kd.R_alloc | apply Kd.R_drewN | apply Kd.R_drew)); exact HO_14.out)) k_ hk, Kd.fresh' (Kd.R_lt (by (with_reducible repeat (first | apply Kd.R_alloc | apply Kd.R_drewN | apply Kd.R_drew)); exact HO599.out)) k_ hk, Kd.fresh' (Kd.R_lt (by (with_reducible repeat (first | apply Kd.R_alloc | apply Kd.R_drewN | apply Kd.R_drew)); exact HO603.out)) k_ hk, Kd.fresh' (Kd.R_lt (by (with_reducible repeat (first | apply Kd.R_alloc | apply Kd.R_drewN | apply Kd.R_drew)); exact HO606.out)) k_ hk⟩)); (case aO => exact (by (with_reducible repeat (first | apply Kd.R_alloc | apply Kd.R_drewN | apply Kd.R_drew)); exact Kd.R_mono HO610.out (fun _ hk => ⟨hk.1.1.1.2, ⟨hk.1.1.2, ⟨hk.1.2, hk.2⟩⟩⟩))); (case aS => exact (below_size (by repeat (first | (with_reducible first | exact HB.out | apply below_alloc | apply pw_below_drewN | apply below_drew1) | exact HB.out)))); (case aL => have := LMc47.out; omega); intro v612 w58 ho hb hg hat; rw [← Ny611.out] at ho; have n0_ := Aside0.mk (Kd.R_after (ok := (fun k_ => some k_ ≠ (.slice Ao51 y597.length co51 : Value).ownBlock ∧ some k_ ≠ (.slice Ao53 t600.length co53 : Value).ownBlock ∧ some k_ ≠ (.slice Ao55 t604.length co55 : Value).ownBlock)) (by (with_reducible repeat (first | apply Kd.R_alloc | apply Kd.R_drewN | apply Kd.R_drew)); exact Kd.R_mono HO_14.out (fun _ hk => ⟨⟨hk.1.1.1.2, ⟨hk.1.1.2, hk.1.2⟩⟩, hk.2⟩)) hg hat); have n1_ := Aside0.mk (Kd.R_after (ok := (fun k_ => some k_ ≠ (.slice Ao50 x14_3.length co50 : Value).ownBlock ∧ some k_ ≠ (.slice Ao53 t600.length co53 : Value).ownBlock ∧ some k_ ≠ (.slice Ao55 t604.length co55 : Value).ownBlock)) (by (with_reducible repeat (first | apply Kd.R_alloc | apply Kd.R_drewN | apply Kd.R_drew)); exact Kd.R_mono HO599.out (fun _ hk => ⟨⟨hk.1.1.1.2, ⟨hk.1.1.2, hk.1.2⟩⟩, hk.2⟩)) hg hat); have n2_ := Aside0.mk (Kd.R_after (ok := (fun k_ => some k_ ≠ (.slice Ao50 x14_3.length co50 : Value).ownBlock ∧ some k_ ≠ (.slice Ao51 y597.length co51 : Value).ownBlock ∧ some k_ ≠ (.slice Ao55 t604.length co55 : Value).ownBlock)) (by (with_reducible repeat (first | apply Kd.R_alloc | apply Kd.R_drewN | apply Kd.R_drew)); exact Kd.R_mono HO603.out (fun _ hk => ⟨⟨hk.1.1.1.2, ⟨hk.1.1.2, hk.1.2⟩⟩, hk.2⟩)) hg hat); have n3_ := Aside0.mk (Kd.R_after (ok := (fun k_ => some k_ ≠ (.slice Ao50 x14_3.length co50 : Value).ownBlock ∧ some k_ ≠ (.slice Ao51 y597.length co51 : Value).ownBlock ∧ some k_ ≠ (.slice Ao53 t600.length co53 : Value).ownBlock)) (by (with_reducible repeat (first | apply Kd.R_alloc | apply Kd.R_drewN | apply Kd.R_drew)); exact Kd.R_mono HO606.out (fun _ hk => ⟨⟨hk.1.1.1.2, ⟨hk.1.1.2, hk.1.2⟩⟩, hk.2⟩)) hg hat); have n4_ := Aside0.mk (hb); have n5_ := Aside0.mk (ho); clear HO_14; clear HO599; clear HO603; clear HO606; clear HB; clear HO610; have HO_14 := n0_; have HO599 := n1_; have HO603 := n2_; have HO606 := n3_; have HB := n4_; have HO613 := n5_; clear n0_ n1_ n2_ n3_ n4_ n5_; clear ho hb hg hat))
                                  go_roundg k3
                                  case measure => have := HJ6.out; have := HK2.out; have := HK3.out; omega
                                  case rel => exact ⟨(y611), (wrap64 (x15_3 + 1)), (by first | rfl | (simp; done) | (simp [*]; done)), H', ⟨by have := HJ6.out; have := HK2.out; have := HK3.out; omega⟩, ⟨by (with_reducible repeat (first | apply Kd.R_alloc | apply Kd.R_drewN | apply Kd.R_drew)); exact Kd.R_mono HO613.out (fun _ hk => trivial)⟩, ⟨by repeat (first | (with_reducible first | exact HB.out | apply below_alloc | apply pw_below_drewN | apply below_drew1) | exact HB.out)⟩⟩
                                · rw [if_neg c47] at H
                                  exact absurd H (by simp)
                            · rw [if_neg c35] at H
                              have c35b0 : decide ((wrap64 (x15_3 + 1)) < t578) = false := decide_eq_false c35
                              clear c35
                              obtain ⟨y614, hy614⟩ : ∃ y_ : List Int, y_ = (([] : List Int)) := ⟨_, rfl⟩
                              replace H : (if y614.length + t600.length < 17592186044416 then (verditerlaw07_KneadTimes.l1 k3 a0 a1 t578 (y614 ++ t600) (wrap64 (x15_3 + 1))) else (none)) = some r := by first | (rw [hy614]; with_reducible exact H) | (have H2_ := (Option.bind_some _ _).symm.trans H; rw [hy614]; with_reducible exact H2_) | (have H2_ := (Option.bind_some _ _).symm.trans H; with_reducible exact H2_) | with_reducible exact H | (rw [hy614]; exact H) | exact H
                              have Ny614 := Aside0.mk hy614
                              clear hy614
                              by_cases c59 : y614.length + t600.length < 17592186044416
                              · rw [if_pos c59] at H
                                have LMc59 := Aside0.mk c59
                                clear c59
                                obtain ⟨y617, hy617⟩ : ∃ y_ : List Int, y_ = (y614 ++ t600) := ⟨_, rfl⟩
                                replace H : (verditerlaw07_KneadTimes.l1 k3 a0 a1 t578 y617 (wrap64 (x15_3 + 1))) = some r := by first | (rw [hy617]; with_reducible exact H) | (have H2_ := (Option.bind_some _ _).symm.trans H; rw [hy617]; with_reducible exact H2_) | (have H2_ := (Option.bind_some _ _).symm.trans H; with_reducible exact H2_) | with_reducible exact H | (rw [hy617]; exact H) | exact H
                                have Ny617 := Aside0.mk hy617
                                clear hy617
                                have H' := Aside0.mk H
                                clear H
                                go_wp2_with (first | ((with_reducible refine gate_dst (N := 98) rfl ?_); (try (refine gate_guard (by rfl) ?_; dsimp only)); refine Kd.R_lit (Kd.int .i64) _ 3 ?hg (N := 98) ?hd (xs := ([a1] : List Int)) (inner := [.int .i64 a1]) (ok := fun _ => True) (okp := fun _ => True) ?hr ?hp (fun _ hk => hk) trivial (Below.refl _ _) (Nat.le_refl _) (by simp) ?_; (case hd => rfl); (case hg => rfl); (case hr => first | (go_simp; done) | (go_simp; rfl)); (case hp => exact (Reps.one (show Kd.M (Kd.int .i64) _ _ _ a1 [.int .i64 a1] from rfl) (Reps.none _ _))); intro v598 w60 ho61 hb hg_ hnew_; clear hg_ hnew_; (first | rw [← Ny597.out] at ho61 | (simp only [Int.reduceToNat] at ho61; rw [← Ny597.out] at ho61)); have n0_ := Aside0.mk (Kd.R_elder' (by (with_reducible repeat (first | apply Kd.R_alloc | apply Kd.R_drewN | apply Kd.R_drew)); exact HO_14.out) (Kd.R_base ho61) hb); have n1_ := Aside0.mk (Kd.R_lower (Kd.R_new' ho61 (Kd.R_lt (by (with_reducible repeat (first | apply Kd.R_alloc | apply Kd.R_drewN | apply Kd.R_drew)); exact HO_14.out))) (below_size (by repeat (first | (with_reducible first | exact HB.out | apply below_alloc | apply pw_below_drewN | apply below_drew1) | exact HB.out)))); have n2_ := Aside0.mk (below_step (by repeat (first | (with_reducible first | exact HB.out | apply below_alloc | apply pw_below_drewN | apply below_drew1) | exact HB.out)) hb); clear HO_14; clear HB; have HO_14 := n0_; have HO599 := n1_; have HB := n2_; clear n0_ n1_ n2_; clear hb ho61; obtain ⟨Ao62, co62, eo62⟩ := Kd.R_slice HO_14.out; subst eo62; obtain ⟨Ao63, co63, eo63⟩ := Kd.R_slice HO599.out; subst eo63) | ((with_reducible refine gate_callee (f := 36) rfl ?_); refine goesL_ (some 99) rfl rfl Try.func36 (by kernel_rfl) rfl #[.slice Ao62 x14_3.length co62, .slice Ao63 y597.length co63] rfl (by (try simp only [List.map_toArray, List.map_cons, List.map_nil]); first | done | rfl | (simp only [List.length_drop, List.length_take]; rfl)) ?_; (with_reducible refine (knead_Fold.calls k3 _ _ x14_3 _ _ y597 t600 t601 _ ?side1 ?side2 ?side3 ?side4 A32.out).mono ?_); (case side1 => repeat (first | exact (Kd.R_reads' HO_14.out).2.2 | (with_reducible refine Kd.C_alloc ?_ _) | (with_reducible refine Kd.C_drewN ?_ _) | (with_reducible refine Kd.C_drew ?_))); (case side2 => exact (Kd.R_reads' HO_14.out).2.1); (case side3 => repeat (first | exact (Kd.R_reads' HO599.out).2.2 | (with_reducible refine Kd.C_alloc ?_ _) | (with_reducible refine Kd.C_drewN ?_ _) | (with_reducible refine Kd.C_drew ?_))); (case side4 => exact (Kd.R_reads' HO599.out).2.1); rintro e w64 ⟨v602, rfl, ho0, hb⟩; refine ⟨_, rfl, ?_⟩; have n0_ := Aside0.mk (Kd.R_elder' (by (with_reducible repeat (first | apply Kd.R_alloc | apply Kd.R_drewN | apply Kd.R_drew)); exact HO_14.out) (Kd.R_base ho0) hb); have n1_ := Aside0.mk (Kd.R_elder' (by (with_reducible repeat (first | apply Kd.R_alloc | apply Kd.R_drewN | apply Kd.R_drew)); exact HO599.out) (Kd.R_base ho0) hb); have n2_ := Aside0.mk (Kd.R_lower (Kd.R_new' (Kd.R_new' ho0 (Kd.R_lt (by (with_reducible repeat (first | apply Kd.R_alloc | apply Kd.R_drewN | apply Kd.R_drew)); exact HO_14.out))) (Kd.R_lt (by (with_reducible repeat (first | apply Kd.R_alloc | apply Kd.R_drewN | apply Kd.R_drew)); exact HO599.out))) (below_size (by repeat (first | (with_reducible first | exact HB.out | apply below_alloc | apply pw_below_drewN | apply below_drew1) | exact HB.out)))); have n3_ := Aside0.mk (below_step (by repeat (first | (with_reducible first | exact HB.out | apply below_alloc | apply pw_below_drewN | apply below_drew1) | exact HB.out)) hb); clear HO_14; clear HO599; clear HB; have HO_14 := n0_; have HO599 := n1_; have HO603 := n2_; have HB := n3_; clear n0_ n1_ n2_ n3_; (try clear hb); (try clear hb2); (try clear hk); (try clear hi); (try clear ho0); obtain ⟨Ao65, co65, eo65⟩ := Kd.R_slice HO603.out; subst eo65) | ((with_reducible refine gate_dst (N := 122) rfl ?_); (try (refine gate_guard (by rfl) ?_; dsimp only)); refine Kd.R_lit (Kd.int .i64) _ 3 ?hg (N := 122) ?hd (xs := ([] : List Int)) (inner := []) (ok := fun _ => True) (okp := fun _ => True) ?hr ?hp (fun _ hk => hk) trivial (Below.refl _ _) (Nat.le_refl _) (by simp) ?_; (case hd => rfl); (case hg => rfl); (case hr => first | (go_simp; done) | (go_simp; rfl)); (case hp => exact (Reps.none _ _)); intro v615 w66 ho67 hb hg_ hnew_; clear hg_ hnew_; (first | rw [← Ny614.out] at ho67 | (simp only [Int.reduceToNat] at ho67; rw [← Ny614.out] at ho67)); have n0_ := Aside0.mk (Kd.R_elder' (by (with_reducible repeat (first | apply Kd.R_alloc | apply Kd.R_drewN | apply Kd.R_drew)); exact HO_14.out) (Kd.R_base ho67) hb); have n1_ := Aside0.mk (Kd.R_elder' (by (with_reducible repeat (first | apply Kd.R_alloc | apply Kd.R_drewN | apply Kd.R_drew)); exact HO599.out) (Kd.R_base ho67) hb); have n2_ := Aside0.mk (Kd.R_elder' (by (with_reducible repeat (first | apply Kd.R_alloc | apply Kd.R_drewN | apply Kd.R_drew)); exact HO603.out) (Kd.R_base ho67) hb); have n3_ := Aside0.mk (Kd.R_lower (Kd.R_new' (Kd.R_new' (Kd.R_new' ho67 (Kd.R_lt (by (with_reducible repeat (first | apply Kd.R_alloc | apply Kd.R_drewN | apply Kd.R_drew)); exact HO_14.out))) (Kd.R_lt (by (with_reducible repeat (first | apply Kd.R_alloc | apply Kd.R_drewN | apply Kd.R_drew)); exact HO599.out))) (Kd.R_lt (by (with_reducible repeat (first | apply Kd.R_alloc | apply Kd.R_drewN | apply Kd.R_drew)); exact HO603.out))) (below_size (by repeat (first | (with_reducible first | exact HB.out | apply below_alloc | apply pw_below_drewN | apply below_drew1) | exact HB.out)))); have n4_ := Aside0.mk (below_step (by repeat (first | (with_reducible first | exact HB.out | apply below_alloc | apply pw_below_drewN | apply below_drew1) | exact HB.out)) hb); clear HO_14; clear HO599; clear HO603; clear HB; have HO_14 := n0_; have HO599 := n1_; have HO603 := n2_; have HO616 := n3_; have HB := n4_; clear n0_ n1_ n2_ n3_ n4_; clear hb ho67) | ((with_reducible refine gate_builtin (b := .append) (xs := #[.tmp 122, .tmp 123]) rfl ?_); (try (refine gate_guard (by rfl) ?_; dsimp only)); at_builtin; refine Kd.R_append_rows (Kd.int .i64) (w0 := w) w.heap.size rfl (.tmp 122) (.tmp 123) 22 3 (.int .i64 0) 8 rfl Try.underlying22 info3 rfl (by decide) (by omega) v615 y614 t600 _ _ _ (fun k_ => some k_ ≠ (.slice Ao62 x14_3.length co62 : Value).ownBlock ∧ some k_ ≠ (.slice Ao63 y597.length co63 : Value).ownBlock ∧ some k_ ≠ (.slice Ao65 t600.length co65 : Value).ownBlock) (fun _ => False) rfl rfl ?aO ?aR (fun _ _ h => h) (fun _ h => h.elim) ?aF ?aB ?aS ?aL ?_; (case aR => repeat (first | exact (Kd.R_reads' HO603.out).2.2 | (with_reducible refine Kd.C_alloc ?_ _) | (with_reducible refine Kd.C_drewN ?_ _) | (with_reducible refine Kd.C_drew ?_))); (case aB => exact (by repeat (first | (with_reducible first | exact HB.out | apply below_alloc | apply pw_below_drewN | apply below_drew1) | exact HB.out))); (case aF => exact (fun k_ hk => ⟨Kd.fresh' (Kd.R_lt (by (with_reducible repeat (first | apply Kd.R_alloc | apply Kd.R_drewN | apply Kd.R_drew)); exact HO_14.out)) k_ hk, Kd.fresh' (Kd.R_lt (by (with_reducible repeat (first | apply Kd.R_alloc | apply Kd.R_drewN | apply Kd.R_drew)); exact HO599.out)) k_ hk, Kd.fresh' (Kd.R_lt (by (with_reducible repeat (first | apply Kd.R_alloc | apply Kd.R_drewN | apply Kd.R_drew)); exact HO603.out)) k_ hk⟩)); (case aO => exact (by (with_reducible repeat (first | apply Kd.R_alloc | apply Kd.R_drewN | apply Kd.R_drew)); exact Kd.R_mono HO616.out (fun _ hk => ⟨hk.1.1.2, ⟨hk.1.2, hk.2⟩⟩))); (case aS => exact (below_size (by repeat (first | (with_reducible first | exact HB.out | apply below_alloc | apply pw_below_drewN | apply below_drew1) | exact HB.out)))); (case aL => have := LMc59.out; omega); intro v618 w68 ho hb hg hat; rw [← Ny617.out] at ho; have n0_ := Aside0.mk (Kd.R_after (ok := (fun k_ => some k_ ≠ (.slice Ao63 y597.length co63 : Value).ownBlock ∧ some k_ ≠ (.slice Ao65 t600.length co65 : Value).ownBlock)) (by (with_reducible repeat (first | apply Kd.R_alloc | apply Kd.R_drewN | apply Kd.R_drew)); exact Kd.R_mono HO_14.out (fun _ hk => ⟨⟨hk.1.1.2, hk.1.2⟩, hk.2⟩)) hg hat); have n1_ := Aside0.mk (Kd.R_after (ok := (fun k_ => some k_ ≠ (.slice Ao62 x14_3.length co62 : Value).ownBlock ∧ some k_ ≠ (.slice Ao65 t600.length co65 : Value).ownBlock)) (by (with_reducible repeat (first | apply Kd.R_alloc | apply Kd.R_drewN | apply Kd.R_drew)); exact Kd.R_mono HO599.out (fun _ hk => ⟨⟨hk.1.1.2, hk.1.2⟩, hk.2⟩)) hg hat); have n2_ := Aside0.mk (Kd.R_after (ok := (fun k_ => some k_ ≠ (.slice Ao62 x14_3.length co62 : Value).ownBlock ∧ some k_ ≠ (.slice Ao63 y597.length co63 : Value).ownBlock)) (by (with_reducible repeat (first | apply Kd.R_alloc | apply Kd.R_drewN | apply Kd.R_drew)); exact Kd.R_mono HO603.out (fun _ hk => ⟨⟨hk.1.1.2, hk.1.2⟩, hk.2⟩)) hg hat); have n3_ := Aside0.mk (hb); have n4_ := Aside0.mk (ho); clear HO_14; clear HO599; clear HO603; clear HB; clear HO616; have HO_14 := n0_; have HO599 := n1_; have HO603 := n2_; have HB := n3_; have HO619 := n4_; clear n0_ n1_ n2_ n3_ n4_; clear ho hb hg hat))
                                go_roundg k3
                                case measure => have := HJ6.out; have := HK2.out; have := HK3.out; omega
                                case rel => exact ⟨(y617), (wrap64 (x15_3 + 1)), (by first | rfl | (simp; done) | (simp [*]; done)), H', ⟨by have := HJ6.out; have := HK2.out; have := HK3.out; omega⟩, ⟨by (with_reducible repeat (first | apply Kd.R_alloc | apply Kd.R_drewN | apply Kd.R_drew)); exact Kd.R_mono HO619.out (fun _ hk => trivial)⟩, ⟨by repeat (first | (with_reducible first | exact HB.out | apply below_alloc | apply pw_below_drewN | apply below_drew1) | exact HB.out)⟩⟩
                              · rw [if_neg c59] at H
                                exact absurd H (by simp)
                          · rw [if_neg c34] at H
                            have c34b0 : ((t600.length : Int) == a0) = false := beq_eq_false_iff_ne.mpr c34
                            have c34b1 : ((t600.length : Int) != a0) = true := bne_iff_ne.mpr c34
                            obtain rfl := Option.some.inj H
                            go_wp2_with (first | ((with_reducible refine gate_dst (N := 98) rfl ?_); (try (refine gate_guard (by rfl) ?_; dsimp only)); refine Kd.R_lit (Kd.int .i64) _ 3 ?hg (N := 98) ?hd (xs := ([a1] : List Int)) (inner := [.int .i64 a1]) (ok := fun _ => True) (okp := fun _ => True) ?hr ?hp (fun _ hk => hk) trivial (Below.refl _ _) (Nat.le_refl _) (by simp) ?_; (case hd => rfl); (case hg => rfl); (case hr => first | (go_simp; done) | (go_simp; rfl)); (case hp => exact (Reps.one (show Kd.M (Kd.int .i64) _ _ _ a1 [.int .i64 a1] from rfl) (Reps.none _ _))); intro v598 w69 ho70 hb hg_ hnew_; clear hg_ hnew_; (first | rw [← Ny597.out] at ho70 | (simp only [Int.reduceToNat] at ho70; rw [← Ny597.out] at ho70)); have n0_ := Aside0.mk (Kd.R_elder' (by (with_reducible repeat (first | apply Kd.R_alloc | apply Kd.R_drewN | apply Kd.R_drew)); exact HO_14.out) (Kd.R_base ho70) hb); have n1_ := Aside0.mk (Kd.R_lower (Kd.R_new' ho70 (Kd.R_lt (by (with_reducible repeat (first | apply Kd.R_alloc | apply Kd.R_drewN | apply Kd.R_drew)); exact HO_14.out))) (below_size (by repeat (first | (with_reducible first | exact HB.out | apply below_alloc | apply pw_below_drewN | apply below_drew1) | exact HB.out)))); have n2_ := Aside0.mk (below_step (by repeat (first | (with_reducible first | exact HB.out | apply below_alloc | apply pw_below_drewN | apply below_drew1) | exact HB.out)) hb); clear HO_14; clear HB; have HO_14 := n0_; have HO599 := n1_; have HB := n2_; clear n0_ n1_ n2_; clear hb ho70; obtain ⟨Ao71, co71, eo71⟩ := Kd.R_slice HO_14.out; subst eo71; obtain ⟨Ao72, co72, eo72⟩ := Kd.R_slice HO599.out; subst eo72) | ((with_reducible refine gate_callee (f := 36) rfl ?_); refine goesL_ (some 99) rfl rfl Try.func36 (by kernel_rfl) rfl #[.slice Ao71 x14_3.length co71, .slice Ao72 y597.length co72] rfl (by (try simp only [List.map_toArray, List.map_cons, List.map_nil]); first | done | rfl | (simp only [List.length_drop, List.length_take]; rfl)) ?_; (with_reducible refine (knead_Fold.calls k3 _ _ x14_3 _ _ y597 t600 t601 _ ?side1 ?side2 ?side3 ?side4 A32.out).mono ?_); (case side1 => repeat (first | exact (Kd.R_reads' HO_14.out).2.2 | (with_reducible refine Kd.C_alloc ?_ _) | (with_reducible refine Kd.C_drewN ?_ _) | (with_reducible refine Kd.C_drew ?_))); (case side2 => exact (Kd.R_reads' HO_14.out).2.1); (case side3 => repeat (first | exact (Kd.R_reads' HO599.out).2.2 | (with_reducible refine Kd.C_alloc ?_ _) | (with_reducible refine Kd.C_drewN ?_ _) | (with_reducible refine Kd.C_drew ?_))); (case side4 => exact (Kd.R_reads' HO599.out).2.1); rintro e w73 ⟨v602, rfl, ho0, hb⟩; refine ⟨_, rfl, ?_⟩; have n0_ := Aside0.mk (Kd.R_elder' (by (with_reducible repeat (first | apply Kd.R_alloc | apply Kd.R_drewN | apply Kd.R_drew)); exact HO_14.out) (Kd.R_base ho0) hb); have n1_ := Aside0.mk (Kd.R_elder' (by (with_reducible repeat (first | apply Kd.R_alloc | apply Kd.R_drewN | apply Kd.R_drew)); exact HO599.out) (Kd.R_base ho0) hb); have n2_ := Aside0.mk (Kd.R_lower (Kd.R_new' (Kd.R_new' ho0 (Kd.R_lt (by (with_reducible repeat (first | apply Kd.R_alloc | apply Kd.R_drewN | apply Kd.R_drew)); exact HO_14.out))) (Kd.R_lt (by (with_reducible repeat (first | apply Kd.R_alloc | apply Kd.R_drewN | apply Kd.R_drew)); exact HO599.out))) (below_size (by repeat (first | (with_reducible first | exact HB.out | apply below_alloc | apply pw_below_drewN | apply below_drew1) | exact HB.out)))); have n3_ := Aside0.mk (below_step (by repeat (first | (with_reducible first | exact HB.out | apply below_alloc | apply pw_below_drewN | apply below_drew1) | exact HB.out)) hb); clear HO_14; clear HO599; clear HB; have HO_14 := n0_; have HO599 := n1_; have HO603 := n2_; have HB := n3_; clear n0_ n1_ n2_ n3_; (try clear hb); (try clear hb2); (try clear hk); (try clear hi); (try clear ho0); obtain ⟨Ao74, co74, eo74⟩ := Kd.R_slice HO603.out; subst eo74))
                            go_ret
                            exact ⟨by first | rfl | (simp [errW_none, errW_some] <;> rfl) | (simp [*, errW_none, errW_some] <;> rfl), by repeat (first | (with_reducible first | exact HB.out | apply below_alloc | apply pw_below_drewN | apply below_drew1) | exact HB.out)⟩
                        · rw [if_neg c33] at H
                          have c33b0 : (t601 == 0) = false := beq_eq_false_iff_ne.mpr c33
                          have c33b1 : (t601 != 0) = true := bne_iff_ne.mpr c33
                          obtain rfl := Option.some.inj H
                          go_wp2_with (first | ((with_reducible refine gate_dst (N := 98) rfl ?_); (try (refine gate_guard (by rfl) ?_; dsimp only)); refine Kd.R_lit (Kd.int .i64) _ 3 ?hg (N := 98) ?hd (xs := ([a1] : List Int)) (inner := [.int .i64 a1]) (ok := fun _ => True) (okp := fun _ => True) ?hr ?hp (fun _ hk => hk) trivial (Below.refl _ _) (Nat.le_refl _) (by simp) ?_; (case hd => rfl); (case hg => rfl); (case hr => first | (go_simp; done) | (go_simp; rfl)); (case hp => exact (Reps.one (show Kd.M (Kd.int .i64) _ _ _ a1 [.int .i64 a1] from rfl) (Reps.none _ _))); intro v598 w75 ho76 hb hg_ hnew_; clear hg_ hnew_; (first | rw [← Ny597.out] at ho76 | (simp only [Int.reduceToNat] at ho76; rw [← Ny597.out] at ho76)); have n0_ := Aside0.mk (Kd.R_elder' (by (with_reducible repeat (first | apply Kd.R_alloc | apply Kd.R_drewN | apply Kd.R_drew)); exact HO_14.out) (Kd.R_base ho76) hb); have n1_ := Aside0.mk (Kd.R_lower (Kd.R_new' ho76 (Kd.R_lt (by (with_reducible repeat (first | apply Kd.R_alloc | apply Kd.R_drewN | apply Kd.R_drew)); exact HO_14.out))) (below_size (by repeat (first | (with_reducible first | exact HB.out | apply below_alloc | apply pw_below_drewN | apply below_drew1) | exact HB.out)))); have n2_ := Aside0.mk (below_step (by repeat (first | (with_reducible first | exact HB.out | apply below_alloc | apply pw_below_drewN | apply below_drew1) | exact HB.out)) hb); clear HO_14; clear HB; have HO_14 := n0_; have HO599 := n1_; have HB := n2_; clear n0_ n1_ n2_; clear hb ho76; obtain ⟨Ao77, co77, eo77⟩ := Kd.R_slice HO_14.out; subst eo77; obtain ⟨Ao78, co78, eo78⟩ := Kd.R_slice HO599.out; subst eo78) | ((with_reducible refine gate_callee (f := 36) rfl ?_); refine goesL_ (some 99) rfl rfl Try.func36 (by kernel_rfl) rfl #[.slice Ao77 x14_3.length co77, .slice Ao78 y597.length co78] rfl (by (try simp only [List.map_toArray, List.map_cons, List.map_nil]); first | done | rfl | (simp only [List.length_drop, List.length_take]; rfl)) ?_; (with_reducible refine (knead_Fold.calls k3 _ _ x14_3 _ _ y597 t600 t601 _ ?side1 ?side2 ?side3 ?side4 A32.out).mono ?_); (case side1 => repeat (first | exact (Kd.R_reads' HO_14.out).2.2 | (with_reducible refine Kd.C_alloc ?_ _) | (with_reducible refine Kd.C_drewN ?_ _) | (with_reducible refine Kd.C_drew ?_))); (case side2 => exact (Kd.R_reads' HO_14.out).2.1); (case side3 => repeat (first | exact (Kd.R_reads' HO599.out).2.2 | (with_reducible refine Kd.C_alloc ?_ _) | (with_reducible refine Kd.C_drewN ?_ _) | (with_reducible refine Kd.C_drew ?_))); (case side4 => exact (Kd.R_reads' HO599.out).2.1); rintro e w79 ⟨v602, rfl, ho0, hb⟩; refine ⟨_, rfl, ?_⟩; have n0_ := Aside0.mk (Kd.R_elder' (by (with_reducible repeat (first | apply Kd.R_alloc | apply Kd.R_drewN | apply Kd.R_drew)); exact HO_14.out) (Kd.R_base ho0) hb); have n1_ := Aside0.mk (Kd.R_elder' (by (with_reducible repeat (first | apply Kd.R_alloc | apply Kd.R_drewN | apply Kd.R_drew)); exact HO599.out) (Kd.R_base ho0) hb); have n2_ := Aside0.mk (Kd.R_lower (Kd.R_new' (Kd.R_new' ho0 (Kd.R_lt (by (with_reducible repeat (first | apply Kd.R_alloc | apply Kd.R_drewN | apply Kd.R_drew)); exact HO_14.out))) (Kd.R_lt (by (with_reducible repeat (first | apply Kd.R_alloc | apply Kd.R_drewN | apply Kd.R_drew)); exact HO599.out))) (below_size (by repeat (first | (with_reducible first | exact HB.out | apply below_alloc | apply pw_below_drewN | apply below_drew1) | exact HB.out)))); have n3_ := Aside0.mk (below_step (by repeat (first | (with_reducible first | exact HB.out | apply below_alloc | apply pw_below_drewN | apply below_drew1) | exact HB.out)) hb); clear HO_14; clear HO599; clear HB; have HO_14 := n0_; have HO599 := n1_; have HO603 := n2_; have HB := n3_; clear n0_ n1_ n2_ n3_; (try clear hb); (try clear hb2); (try clear hk); (try clear hi); (try clear ho0)))
                          go_ret
                          exact ⟨by first | rfl | (simp [errW_none, errW_some] <;> rfl) | (simp [*, errW_none, errW_some] <;> rfl), by repeat (first | (with_reducible first | exact HB.out | apply below_alloc | apply pw_below_drewN | apply below_drew1) | exact HB.out)⟩
                      · rw [if_neg c31] at H
                        have c31b0 : decide (x15_3 < t578) = false := decide_eq_false c31
                        clear c31
                        replace H := Option.bind_eq_some_iff.mp H
                        obtain ⟨t592, A800, H⟩ := H
                        replace H : ((verditerref01_SameInts.f k3 x14_3 t592).bind fun t595 => (if t595 = true then ((verditerlaw07_known.f k3).bind fun t596 => (some t596)) else (some false))) = some r := H
                        have A80 := Aside0.mk A800
                        clear A800
                        replace H := Option.bind_eq_some_iff.mp H
                        obtain ⟨t595, A810, H⟩ := H
                        replace H : (if t595 = true then ((verditerlaw07_known.f k3).bind fun t596 => (some t596)) else (some false)) = some r := H
                        have A81 := Aside0.mk A810
                        clear A810
                        by_cases c82 : t595 = true
                        · subst c82
                          have H1 : ((verditerlaw07_known.f k3).bind fun t596 => (some t596)) = some r := by rw [if_pos rfl] at H; exact H
                          clear H
                          have H := H1
                          clear H1
                          replace H := Option.bind_eq_some_iff.mp H
                          obtain ⟨t596, A830, H⟩ := H
                          replace H : (some t596) = some r := H
                          have A83 := Aside0.mk A830
                          clear A830
                          obtain rfl := Option.some.inj H
                          go_wp2_with (first | ((with_reducible refine gate_callee (f := 35) rfl ?_); refine goesL_ (some 127) rfl rfl Try.func35 (by kernel_rfl) rfl #[.int .i64 a0] rfl (by (try simp only [List.map_toArray, List.map_cons, List.map_nil]); first | done | rfl | (simp only [List.length_drop, List.length_take]; rfl)) ?_; (with_reducible refine (verditerref01_Numbers.calls k3 a0 t592 _ A80.out).mono ?_); rintro e w84 ⟨v593, rfl, ho0, hb⟩; refine ⟨_, rfl, ?_⟩; have n0_ := Aside0.mk (Kd.R_elder' (by (with_reducible repeat (first | apply Kd.R_alloc | apply Kd.R_drewN | apply Kd.R_drew)); exact HO_14.out) (Kd.R_base ho0) hb); have n1_ := Aside0.mk (Kd.R_lower (Kd.R_new' ho0 (Kd.R_lt (by (with_reducible repeat (first | apply Kd.R_alloc | apply Kd.R_drewN | apply Kd.R_drew)); exact HO_14.out))) (below_size (by repeat (first | (with_reducible first | exact HB.out | apply below_alloc | apply pw_below_drewN | apply below_drew1) | exact HB.out)))); have n2_ := Aside0.mk (below_step (by repeat (first | (with_reducible first | exact HB.out | apply below_alloc | apply pw_below_drewN | apply below_drew1) | exact HB.out)) hb); clear HO_14; clear HB; have HO_14 := n0_; have HO594 := n1_; have HB := n2_; clear n0_ n1_ n2_; (try clear hb); (try clear hb2); (try clear hk); (try clear hi); (try clear ho0); obtain ⟨Ao85, co85, eo85⟩ := Kd.R_slice HO_14.out; subst eo85; obtain ⟨Ao86, co86, eo86⟩ := Kd.R_slice HO594.out; subst eo86) | ((with_reducible refine gate_callee (f := 22) rfl ?_); refine goesL_ (some 128) rfl rfl Try.func22 (by kernel_rfl) rfl #[.slice Ao85 x14_3.length co85, .slice Ao86 t592.length co86] rfl (by (try simp only [List.map_toArray, List.map_cons, List.map_nil]); first | done | rfl | (simp only [List.length_drop, List.length_take]; rfl)) ?_; (with_reducible refine (verditerref01_SameInts.calls k3 _ _ x14_3 _ _ t592 true _ ?side1 ?side2 ?side3 ?side4 A81.out).mono ?_); (case side1 => repeat (first | exact (Kd.R_reads' HO_14.out).2.2 | (with_reducible refine Kd.C_alloc ?_ _) | (with_reducible refine Kd.C_drewN ?_ _) | (with_reducible refine Kd.C_drew ?_))); (case side2 => exact (Kd.R_reads' HO_14.out).2.1); (case side3 => repeat (first | exact (Kd.R_reads' HO594.out).2.2 | (with_reducible refine Kd.C_alloc ?_ _) | (with_reducible refine Kd.C_drewN ?_ _) | (with_reducible refine Kd.C_drew ?_))); (case side4 => exact (Kd.R_reads' HO594.out).2.1); rintro e w' ⟨rfl, ⟨nd, rfl⟩⟩; refine ⟨_, rfl, ?_⟩) | (go_at_call 23; (with_reducible refine (verditerlaw07_known.calls k3  t596 _ A83.out).mono ?_); rintro e w87 ⟨rfl, hb⟩; have n0_ := Aside0.mk (Kd.R_below (by (with_reducible repeat (first | apply Kd.R_alloc | apply Kd.R_drewN | apply Kd.R_drew)); exact HO_14.out) hb); have n1_ := Aside0.mk (Kd.R_below (by (with_reducible repeat (first | apply Kd.R_alloc | apply Kd.R_drewN | apply Kd.R_drew)); exact HO594.out) hb); have n2_ := Aside0.mk (below_step (by repeat (first | (with_reducible first | exact HB.out | apply below_alloc | apply pw_below_drewN | apply below_drew1) | exact HB.out)) hb); clear HO_14; clear HO594; clear HB; have HO_14 := n0_; have HO594 := n1_; have HB := n2_; clear n0_ n1_ n2_; (try clear hb); (try clear hb2); (try clear hk); (try clear hi)))
                          go_ret
                          exact ⟨by first | rfl | (simp [errW_none, errW_some] <;> rfl) | (simp [*, errW_none, errW_some] <;> rfl), by repeat (first | (with_reducible first | exact HB.out | apply below_alloc | apply pw_below_drewN | apply below_drew1) | exact HB.out)⟩
                        · replace c82 := Bool.eq_false_iff.mpr c82
                          subst c82
                          have H1 : (some false) = some r := by rw [if_neg (show ¬ (false = true) by decide)] at H; exact H
                          clear H
                          have H := H1
                          clear H1
                          obtain rfl := Option.some.inj H
                          go_wp2_with (first | ((with_reducible refine gate_callee (f := 35) rfl ?_); refine goesL_ (some 127) rfl rfl Try.func35 (by kernel_rfl) rfl #[.int .i64 a0] rfl (by (try simp only [List.map_toArray, List.map_cons, List.map_nil]); first | done | rfl | (simp only [List.length_drop, List.length_take]; rfl)) ?_; (with_reducible refine (verditerref01_Numbers.calls k3 a0 t592 _ A80.out).mono ?_); rintro e w88 ⟨v593, rfl, ho0, hb⟩; refine ⟨_, rfl, ?_⟩; have n0_ := Aside0.mk (Kd.R_elder' (by (with_reducible repeat (first | apply Kd.R_alloc | apply Kd.R_drewN | apply Kd.R_drew)); exact HO_14.out) (Kd.R_base ho0) hb); have n1_ := Aside0.mk (Kd.R_lower (Kd.R_new' ho0 (Kd.R_lt (by (with_reducible repeat (first | apply Kd.R_alloc | apply Kd.R_drewN | apply Kd.R_drew)); exact HO_14.out))) (below_size (by repeat (first | (with_reducible first | exact HB.out | apply below_alloc | apply pw_below_drewN | apply below_drew1) | exact HB.out)))); have n2_ := Aside0.mk (below_step (by repeat (first | (with_reducible first | exact HB.out | apply below_alloc | apply pw_below_drewN | apply below_drew1) | exact HB.out)) hb); clear HO_14; clear HB; have HO_14 := n0_; have HO594 := n1_; have HB := n2_; clear n0_ n1_ n2_; (try clear hb); (try clear hb2); (try clear hk); (try clear hi); (try clear ho0); obtain ⟨Ao89, co89, eo89⟩ := Kd.R_slice HO_14.out; subst eo89; obtain ⟨Ao90, co90, eo90⟩ := Kd.R_slice HO594.out; subst eo90) | ((with_reducible refine gate_callee (f := 22) rfl ?_); refine goesL_ (some 128) rfl rfl Try.func22 (by kernel_rfl) rfl #[.slice Ao89 x14_3.length co89, .slice Ao90 t592.length co90] rfl (by (try simp only [List.map_toArray, List.map_cons, List.map_nil]); first | done | rfl | (simp only [List.length_drop, List.length_take]; rfl)) ?_; (with_reducible refine (verditerref01_SameInts.calls k3 _ _ x14_3 _ _ t592 false _ ?side1 ?side2 ?side3 ?side4 A81.out).mono ?_); (case side1 => repeat (first | exact (Kd.R_reads' HO_14.out).2.2 | (with_reducible refine Kd.C_alloc ?_ _) | (with_reducible refine Kd.C_drewN ?_ _) | (with_reducible refine Kd.C_drew ?_))); (case side2 => exact (Kd.R_reads' HO_14.out).2.1); (case side3 => repeat (first | exact (Kd.R_reads' HO594.out).2.2 | (with_reducible refine Kd.C_alloc ?_ _) | (with_reducible refine Kd.C_drewN ?_ _) | (with_reducible refine Kd.C_drew ?_))); (case side4 => exact (Kd.R_reads' HO594.out).2.1); rintro e w' ⟨rfl, ⟨nd, rfl⟩⟩; refine ⟨_, rfl, ?_⟩))
                          go_ret
                          exact ⟨by first | rfl | (simp [errW_none, errW_some] <;> rfl) | (simp [*, errW_none, errW_some] <;> rfl), by repeat (first | (with_reducible first | exact HB.out | apply below_alloc | apply pw_below_drewN | apply below_drew1) | exact HB.out)⟩
          · rw [if_neg c22] at H
            have c22b0 : (t586 == a0) = false := beq_eq_false_iff_ne.mpr c22
            have c22b1 : (t586 != a0) = true := bne_iff_ne.mpr c22
            obtain rfl := Option.some.inj H
            obtain ⟨Ao91, co91, eo91⟩ := Kd.R_slice HO_11.out
            subst eo91
            go_wp2_with (first | ((with_reducible refine gate_callee (f := 34) rfl ?_); refine goesL_ (some 65) rfl rfl Try.func34 (by kernel_rfl) rfl #[.slice Ao91 t580.length co91] rfl (by (try simp only [List.map_toArray, List.map_cons, List.map_nil]); first | done | rfl | (simp only [List.length_drop, List.length_take]; rfl)) ?_; (with_reducible refine (verditerref01_Sum.calls kj6 _ _ t580 t586 _ ?side1 ?side2 A21.out).mono ?_); (case side1 => repeat (first | exact (Kd.R_reads' HO_11.out).2.2 | (with_reducible refine Kd.C_alloc ?_ _) | (with_reducible refine Kd.C_drewN ?_ _) | (with_reducible refine Kd.C_drew ?_))); (case side2 => exact (Kd.R_reads' HO_11.out).2.1); rintro e w' ⟨rfl, ⟨nd, rfl⟩⟩; refine ⟨_, rfl, ?_⟩))
            go_ret
            exact ⟨by first | rfl | (simp [errW_none, errW_some] <;> rfl) | (simp [*, errW_none, errW_some] <;> rfl), by repeat (first | (with_reducible first | exact HB.out | apply below_alloc | apply pw_below_drewN | apply below_drew1) | exact HB.out)⟩
        · rw [if_neg c20] at H
          have c20b0 : (t579 == 0) = false := beq_eq_false_iff_ne.mpr c20
          have c20b1 : (t579 != 0) = true := bne_iff_ne.mpr c20
          replace H := Option.bind_eq_some_iff.mp H
          obtain ⟨t585, A920, H⟩ := H
          replace H : (some t585) = some r := H
          have A92 := Aside0.mk A920
          clear A920
          obtain rfl := Option.some.inj H
          go_wp2_with (first | ((with_reducible refine gate_callee (f := 23) rfl ?_); refine goesL_ (some 63) rfl rfl Try.func23 (by kernel_rfl) rfl #[] rfl (by (try simp only [List.map_toArray, List.map_cons, List.map_nil]); first | done | rfl | (simp only [List.length_drop, List.length_take]; rfl)) ?_; (with_reducible refine (verditerlaw07_known.calls kj6  t585 _ A92.out).mono ?_); rintro e w93 ⟨rfl, hb⟩; refine ⟨_, rfl, ?_⟩; have n0_ := Aside0.mk (Kd.R_below (by (with_reducible repeat (first | apply Kd.R_alloc | apply Kd.R_drewN | apply Kd.R_drew)); exact HO_11.out) hb); have n1_ := Aside0.mk (below_step (by repeat (first | (with_reducible first | exact HB.out | apply below_alloc | apply pw_below_drewN | apply below_drew1) | exact HB.out)) hb); clear HO_11; clear HB; have HO_11 := n0_; have HB := n1_; clear n0_ n1_; (try clear hb); (try clear hb2); (try clear hk); (try clear hi)))
          go_ret
          exact ⟨by first | rfl | (simp [errW_none, errW_some] <;> rfl) | (simp [*, errW_none, errW_some] <;> rfl), by repeat (first | (with_reducible first | exact HB.out | apply below_alloc | apply pw_below_drewN | apply below_drew1) | exact HB.out)⟩

/-- THE ONE PURE STATEMENT of verditerlaw07_KneadTimes: yours. -/
def verditerlaw07_KneadTimes.Pure : Prop := ∀ (a0 : Int) (a1 : Int), (Lit.int .i64 a0).wf = true → (Lit.int .i64 a1).wf = true → ∃ k, verditerlaw07_KneadTimes.f k a0 a1 = some true
theorem verditerlaw07_KneadTimes.walk (P : verditerlaw07_KneadTimes.Pure) (a0 : Int) (a1 : Int) (w : World) (w0 : (Lit.int .i64 a0).wf = true) (w1 : (Lit.int .i64 a1).wf = true) :
    Calls Try.prog 12 #[.int .i64 a0, .int .i64 a1] w fun e w' => e = .returned (.bool true) ∧ Below w.heap.size w w' := by
  obtain ⟨k, h⟩ := P a0 a1 w0 w1
  refine (verditerlaw07_KneadTimes.calls k a0 a1 true w h).mono ?_
  rintro e w' ⟨rfl, hd⟩
  exact ⟨rfl, hd⟩

end Go.Proofs.Ytgnklmhjejbcoaa.K
