/- Texts of this claim in one file: K4, HSC, HE, K8, QNa, K9, HV, K10. -/
import Derived.Test.YtfejfljgdeglgaaMJudgeNexts0
import Derived.Test.YtfejfljgdeglgaaMJudgeNexts1
import Derived.Laws.EntriesVeiled

/- DERIVED by wip/pr.py: for each Go function named below a Lean function with the same answers, and that a call of it comes to these answers, for all arguments and memories, where the Lean function has an answer. -/
namespace Go.Proofs.Ytfejfljgdeglgaa.K
open Go.RowKit Go.Proofs.YtfejfljgdeglgaaW.PrintWords Go.Proofs.YtfejfljgdeglgaaW.PrintLast Go.Proofs.YtfejfljgdeglgaaW.PrintMore
attribute [local go_sem] max2_int min2_int max_two min_two max_three min_three max_four min_four   -- for this text's walks alone
set_option linter.unusedVariables false
set_option linter.unusedSimpArgs false

/-! ### judge_state_after: function 66 -/
def judge_state_after.f (a0_0 : Int) (a0_1 : Int) (a1 : Int) (a2 : Int) : Option (Int × Int × Int × Int) := some (a1, wrap64 ((wrap64 (a2 + a0_0)) - a1), wrap64 (a0_0 - a1), wrap64 ((wrap64 (a0_1 - a2)) + a1))
def judge_state_after.T1 : Bool × List (List Nat × List Nat) := (true, [([], []), ([], []), ([], []), ([2], [2]), ([1, 3], [1, 3]), ([], []), ([4, 5], [4, 5]), ([0, 6], [0, 6]), ([], []), ([8], [8]), ([], []), ([9, 10], [9, 10]), ([], []), ([12], [12]), ([], []), ([13, 14], [13, 14]), ([], []), ([15, 16], [15, 16]), ([11, 17], [11, 17]), ([7, 0, 1, 2, 3, 4, 5, 6, 7], [7]), ([18, 19, 0, 1, 2, 3, 4, 5, 6, 7, 8, 9, 10, 11, 12, 13, 14, 15, 16, 17, 18, 19], [18])])
def judge_state_after.B1 : List Nat := [0, 0, 0, 4, 14, 0, 62, 127, 0, 256, 0, 1792, 0, 4096, 0, 28672, 0, 126976, 261888, 255, 1048575]
theorem judge_state_after.tab1 : rtab .any (opsOf Try.f66 1) = judge_state_after.T1 := by kernel_rfl
theorem judge_state_after.bits1 : waitsOk judge_state_after.T1.2 judge_state_after.B1 = true := by kernel_rfl
set_option maxHeartbeats 8000000 in
set_option maxRecDepth 100000 in
theorem judge_state_after.calls (a0_0 : Int) (a0_1 : Int) (a1 : Int) (a2 : Int) (r1 : Int) (r2 : Int) (r3 : Int) (r4 : Int) (w : World) (h : judge_state_after.f a0_0 a0_1 a1 a2 = some (r1, r2, r3, r4)) :
    Calls Try.prog 66 #[.agg #[.int .i64 a0_0, .int .i64 a0_1], .int .i64 a1, .int .i64 a2] w fun e w' => e = .returned (.tuple #[.agg #[.int .i64 r1, .int .i64 r2], .agg #[.int .i64 r3, .int .i64 r4]]) ∧ Below w.heap.size w w' := by
  have hu58 := Try.underlying58
  have HB := Aside0.mk (Below.refl w.heap.size w)
  have H : (some (a1, wrap64 ((wrap64 (a2 + a0_0)) - a1), wrap64 (a0_0 - a1), wrap64 ((wrap64 (a0_1 - a2)) + a1))) = some (r1, r2, r3, r4) := h
  clear h
  simp only [Option.some.injEq, Prod.mk.injEq] at H
  obtain ⟨rfl, rfl, rfl, rfl⟩ := H
  go_enter Try.func66, Try.ntmps66
  try go_wp2_with (first | ((with_reducible refine gate_dst (N := 3) rfl ?_); refine box_event ?hg (N := 3) ?hd (cs := #[.int .i64 a0_0, .int .i64 a0_1]) (t := 58) ?hr ?_; (case hd => rfl); (case hg => rfl); (case hr => first | (go_simp; done) | (go_simp; rfl)); intro gb262 hg w4 hbox hb; have n0_ := Aside0.mk (below_step (by repeat (first | (with_reducible first | exact HB.out | apply below_alloc | apply pw_below_drewN | apply below_drew1) | exact HB.out)) hb); have n1_ := Aside0.mk (hbox); have n2_ := Aside0.mk ((by rw [hg]; exact (below_size (by repeat (first | (with_reducible first | exact HB.out | apply below_alloc | apply pw_below_drewN | apply below_drew1) | exact HB.out))) : w.heap.size ≤ gb262)); have n3_ := Aside0.mk ((by rw [hg]; exact (below_size (by repeat (first | (with_reducible first | exact HB.out | apply below_alloc | apply pw_below_drewN | apply below_drew1) | exact HB.out))) : w.heap.size ≤ gb262)); clear HB; have HB := n0_; have BK262 := n1_; have GW262 := n2_; have GE262 := n3_; clear n0_ n1_ n2_ n3_; clear hb hbox hg) | ((with_reducible refine gate_dst (N := 6) rfl ?_); refine box_event ?hg (N := 6) ?hd (cs := #[.int .i64 0, .int .i64 0]) (t := 58) ?hr ?_; (case hd => rfl); (case hg => rfl); (case hr => first | (go_simp; done) | (go_simp; rfl)); intro gb263 hg w5 hbox hb; have n0_ := Aside0.mk (blk_below (g := gb262) (o := .cells #[.int .i64 a0_0, .int .i64 a0_1] 58 (0, 0)) (by (with_reducible repeat (first | refine blk_drewN ?_ _ | refine blk_drew ?_ | refine blk_alloc ?_ _)); exact BK262.out) hb); have n1_ := Aside0.mk (below_step (by repeat (first | (with_reducible first | exact HB.out | apply below_alloc | apply pw_below_drewN | apply below_drew1 | refine below_set ?_ GE262.out) | exact HB.out)) hb); have n2_ := Aside0.mk (hbox); have n3_ := Aside0.mk ((by rw [hg]; exact (below_size (by repeat (first | (with_reducible first | exact HB.out | apply below_alloc | apply pw_below_drewN | apply below_drew1 | refine below_set ?_ GE262.out) | exact HB.out))) : w.heap.size ≤ gb263)); have n4_ := Aside0.mk ((by rw [hg]; exact (below_size (by repeat (first | (with_reducible first | exact HB.out | apply below_alloc | apply pw_below_drewN | apply below_drew1 | refine below_set ?_ GE262.out) | exact HB.out))) : w.heap.size ≤ gb263)); have n5_ := Aside0.mk ((by rw [hg]; exact Nat.ne_of_lt (blk_lt (g := gb262) (o := .cells #[.int .i64 a0_0, .int .i64 a0_1] 58 (0, 0)) (by (with_reducible repeat (first | refine blk_drewN ?_ _ | refine blk_drew ?_ | refine blk_alloc ?_ _)); exact BK262.out)) : gb262 ≠ gb263)); have n6_ := Aside0.mk ((by rw [hg]; exact Nat.ne_of_gt (blk_lt (g := gb262) (o := .cells #[.int .i64 a0_0, .int .i64 a0_1] 58 (0, 0)) (by (with_reducible repeat (first | refine blk_drewN ?_ _ | refine blk_drew ?_ | refine blk_alloc ?_ _)); exact BK262.out)) : gb263 ≠ gb262)); clear BK262; clear HB; have BK262 := n0_; have HB := n1_; have BK263 := n2_; have GW263 := n3_; have GE263 := n4_; have NB262_263 := n5_; have NB263_262 := n6_; clear n0_ n1_ n2_ n3_ n4_ n5_ n6_; clear hb hbox hg) | ((with_reducible refine gate_dst (N := 7) rfl ?_); refine box_event ?hg (N := 7) ?hd (cs := #[.int .i64 0, .int .i64 0]) (t := 58) ?hr ?_; (case hd => rfl); (case hg => rfl); (case hr => first | (go_simp; done) | (go_simp; rfl)); intro gb264 hg w6 hbox hb; have n0_ := Aside0.mk (blk_below (g := gb262) (o := .cells #[.int .i64 a0_0, .int .i64 a0_1] 58 (0, 0)) (by (with_reducible repeat (first | refine blk_drewN ?_ _ | refine blk_drew ?_ | refine blk_alloc ?_ _)); exact BK262.out) hb); have n1_ := Aside0.mk (blk_below (g := gb263) (o := .cells #[.int .i64 0, .int .i64 0] 58 (0, 0)) (by (with_reducible repeat (first | refine blk_drewN ?_ _ | refine blk_drew ?_ | refine blk_alloc ?_ _)); exact BK263.out) hb); have n2_ := Aside0.mk (below_step (by repeat (first | (with_reducible first | exact HB.out | apply below_alloc | apply pw_below_drewN | apply below_drew1 | refine below_set ?_ GE262.out | refine below_set ?_ GE263.out) | exact HB.out)) hb); have n3_ := Aside0.mk (hbox); have n4_ := Aside0.mk ((by rw [hg]; exact (below_size (by repeat (first | (with_reducible first | exact HB.out | apply below_alloc | apply pw_below_drewN | apply below_drew1 | refine below_set ?_ GE262.out | refine below_set ?_ GE263.out) | exact HB.out))) : w.heap.size ≤ gb264)); have n5_ := Aside0.mk ((by rw [hg]; exact (below_size (by repeat (first | (with_reducible first | exact HB.out | apply below_alloc | apply pw_below_drewN | apply below_drew1 | refine below_set ?_ GE262.out | refine below_set ?_ GE263.out) | exact HB.out))) : w.heap.size ≤ gb264)); have n6_ := Aside0.mk ((by rw [hg]; exact Nat.ne_of_lt (blk_lt (g := gb262) (o := .cells #[.int .i64 a0_0, .int .i64 a0_1] 58 (0, 0)) (by (with_reducible repeat (first | refine blk_drewN ?_ _ | refine blk_drew ?_ | refine blk_alloc ?_ _)); exact BK262.out)) : gb262 ≠ gb264)); have n7_ := Aside0.mk ((by rw [hg]; exact Nat.ne_of_gt (blk_lt (g := gb262) (o := .cells #[.int .i64 a0_0, .int .i64 a0_1] 58 (0, 0)) (by (with_reducible repeat (first | refine blk_drewN ?_ _ | refine blk_drew ?_ | refine blk_alloc ?_ _)); exact BK262.out)) : gb264 ≠ gb262)); have n8_ := Aside0.mk ((by rw [hg]; exact Nat.ne_of_lt (blk_lt (g := gb263) (o := .cells #[.int .i64 0, .int .i64 0] 58 (0, 0)) (by (with_reducible repeat (first | refine blk_drewN ?_ _ | refine blk_drew ?_ | refine blk_alloc ?_ _)); exact BK263.out)) : gb263 ≠ gb264)); have n9_ := Aside0.mk ((by rw [hg]; exact Nat.ne_of_gt (blk_lt (g := gb263) (o := .cells #[.int .i64 0, .int .i64 0] 58 (0, 0)) (by (with_reducible repeat (first | refine blk_drewN ?_ _ | refine blk_drew ?_ | refine blk_alloc ?_ _)); exact BK263.out)) : gb264 ≠ gb263)); clear BK262; clear BK263; clear HB; have BK262 := n0_; have BK263 := n1_; have HB := n2_; have BK264 := n3_; have GW264 := n4_; have GE264 := n5_; have NB262_264 := n6_; have NB264_262 := n7_; have NB263_264 := n8_; have NB264_263 := n9_; clear n0_ n1_ n2_ n3_ n4_ n5_ n6_ n7_ n8_ n9_; clear hb hbox hg))
  have n0_ := Aside0.mk (blk_drew BK262.out)
  have n1_ := Aside0.mk (blk_drew BK263.out)
  have n2_ := Aside0.mk (blk_drew BK264.out)
  have n3_ := Aside0.mk (below_drew1 HB.out)
  clear BK262
  clear BK263
  clear BK264
  clear HB
  have BK262 := n0_
  have BK263 := n1_
  have BK264 := n2_
  have HB := n3_
  clear n0_ n1_ n2_ n3_
  refine start_ (n := 21) (S := fun w' => w'.cell? ⟨gb262, 0, none⟩ = some (.int .i64 a0_0) ∧ w'.cell? ⟨gb262, 1, none⟩ = some (.int .i64 a0_1)) (ds := []) #[false, false, false, false, false, false, false, false, false, false, false, false, false, false, false, false, false, false, false, false, false] (by kernel_rfl) rfl rfl ⟨(blk_cell BK262.out 0).trans rfl, (blk_cell BK262.out 1).trans rfl⟩ (fun hHeld => ?_); refine with_tabW judge_state_after.tab1 judge_state_after.bits1 (fun HT_ HW_ => ?_)
  generalize w6.drew = w7 at BK262 BK263 BK264 HB hHeld ⊢
  refine pure_ (i := 0) (N := some 8) (v := ?_) (a' := ?_) #[true, false, false, false, false, false, false, false, false, false, false, false, false, false, false, false, false, false, false, false, false] rfl rfl (any_of HT_.out (by kernel_rfl)) (fun _ _ _ h => h) (Or.inl ⟨by rfl, ?_⟩) ?_ ?_
  rotate_left
  · intro w'
    go_simp
    with_reducible rfl
  rotate_left
  · simp only [Act.put, List.setIfInBounds_toArray, List.set_cons_zero, List.set_cons_succ, i64_w, i32_w]
    rfl
  refine pure_ (i := 1) (N := some 9) (v := ?_) (a' := ?_) #[true, true, false, false, false, false, false, false, false, false, false, false, false, false, false, false, false, false, false, false, false] rfl rfl (any_of HT_.out (by kernel_rfl)) (fun _ _ _ h => h) (Or.inl ⟨by rfl, ?_⟩) ?_ ?_
  rotate_left
  · intro w'
    go_simp
    with_reducible rfl
  rotate_left
  · simp only [Act.put, List.setIfInBounds_toArray, List.set_cons_zero, List.set_cons_succ, i64_w, i32_w]
    rfl
  refine pure_ (i := 2) (N := some 10) (v := ?_) (a' := ?_) #[true, true, true, false, false, false, false, false, false, false, false, false, false, false, false, false, false, false, false, false, false] rfl rfl (any_of HT_.out (by kernel_rfl)) (fun _ _ _ h => h) (Or.inl ⟨by rfl, ?_⟩) ?_ ?_
  rotate_left
  · intro w'
    go_simp
    with_reducible rfl
  rotate_left
  · simp only [Act.put, List.setIfInBounds_toArray, List.set_cons_zero, List.set_cons_succ, i64_w, i32_w]
    rfl
  refine pure_ (i := 5) (N := some 13) (v := ?_) (a' := ?_) #[true, true, true, false, false, true, false, false, false, false, false, false, false, false, false, false, false, false, false, false, false] rfl rfl (any_of HT_.out (by kernel_rfl)) (fun _ _ _ h => h) (Or.inl ⟨by rfl, ?_⟩) ?_ ?_
  rotate_left
  · intro w'
    go_simp
    with_reducible rfl
  rotate_left
  · simp only [Act.put, List.setIfInBounds_toArray, List.set_cons_zero, List.set_cons_succ, i64_w, i32_w]
    rfl
  refine pure_ (i := 8) (N := some 16) (v := ?_) (a' := ?_) #[true, true, true, false, false, true, false, false, true, false, false, false, false, false, false, false, false, false, false, false, false] rfl rfl (any_of HT_.out (by kernel_rfl)) (fun _ _ _ h => h) (Or.inl ⟨by rfl, ?_⟩) ?_ ?_
  rotate_left
  · intro w'
    go_simp
    with_reducible rfl
  rotate_left
  · simp only [Act.put, List.setIfInBounds_toArray, List.set_cons_zero, List.set_cons_succ, i64_w, i32_w]
    rfl
  refine pure_ (i := 10) (N := some 18) (v := ?_) (a' := ?_) #[true, true, true, false, false, true, false, false, true, false, true, false, false, false, false, false, false, false, false, false, false] rfl rfl (any_of HT_.out (by kernel_rfl)) (fun _ _ _ h => h) (Or.inl ⟨by rfl, ?_⟩) ?_ ?_
  rotate_left
  · intro w'
    go_simp
    with_reducible rfl
  rotate_left
  · simp only [Act.put, List.setIfInBounds_toArray, List.set_cons_zero, List.set_cons_succ, i64_w, i32_w]
    rfl
  refine pure_ (i := 12) (N := some 20) (v := ?_) (a' := ?_) #[true, true, true, false, false, true, false, false, true, false, true, false, true, false, false, false, false, false, false, false, false] rfl rfl (any_of HT_.out (by kernel_rfl)) (fun _ _ _ h => h) (Or.inl ⟨by rfl, ?_⟩) ?_ ?_
  rotate_left
  · intro w'
    go_simp
    with_reducible rfl
  rotate_left
  · simp only [Act.put, List.setIfInBounds_toArray, List.set_cons_zero, List.set_cons_succ, i64_w, i32_w]
    rfl
  refine pure_ (i := 14) (N := some 22) (v := ?_) (a' := ?_) #[true, true, true, false, false, true, false, false, true, false, true, false, true, false, true, false, false, false, false, false, false] rfl rfl (any_of HT_.out (by kernel_rfl)) (fun _ _ _ h => h) (Or.inl ⟨by rfl, ?_⟩) ?_ ?_
  rotate_left
  · intro w'
    go_simp
    with_reducible rfl
  rotate_left
  · simp only [Act.put, List.setIfInBounds_toArray, List.set_cons_zero, List.set_cons_succ, i64_w, i32_w]
    rfl
  refine pure_ (i := 16) (N := some 24) (v := ?_) (a' := ?_) #[true, true, true, false, false, true, false, false, true, false, true, false, true, false, true, false, true, false, false, false, false] rfl rfl (any_of HT_.out (by kernel_rfl)) (fun _ _ _ h => h) (Or.inl ⟨by rfl, ?_⟩) ?_ ?_
  rotate_left
  · intro w'
    go_simp
    with_reducible rfl
  rotate_left
  · simp only [Act.put, List.setIfInBounds_toArray, List.set_cons_zero, List.set_cons_succ, i64_w, i32_w]
    rfl
  refine take_ (i := 3) (N := some 11) (v := ?_) (a' := ?_) #[true, true, true, true, false, true, false, false, true, false, true, false, true, false, true, false, true, false, false, false, false] rfl rfl (take_ofW HT_.out HW_.out (by kernel_rfl)) (fun _ _ _ h => h) (Or.inl ⟨by rfl, ?_⟩) hHeld ?_ ?_
  rotate_left
  · rintro w' ⟨s0, s1⟩
    go_simp
    with_reducible rfl
  rotate_left
  · simp only [Act.put, List.setIfInBounds_toArray, List.set_cons_zero, List.set_cons_succ, i64_w, i32_w]
    rfl
  refine pure_ (i := 4) (N := some 12) (v := ?_) (a' := ?_) #[true, true, true, true, true, true, false, false, true, false, true, false, true, false, true, false, true, false, false, false, false] rfl rfl (any_of HT_.out (by kernel_rfl)) (fun _ _ _ h => h) (Or.inl ⟨by rfl, ?_⟩) ?_ ?_
  rotate_left
  · intro w'
    go_simp
    with_reducible rfl
  rotate_left
  · simp only [Act.put, List.setIfInBounds_toArray, List.set_cons_zero, List.set_cons_succ, i64_w, i32_w]
    rfl
  refine pure_ (i := 6) (N := some 14) (v := ?_) (a' := ?_) #[true, true, true, true, true, true, true, false, true, false, true, false, true, false, true, false, true, false, false, false, false] rfl rfl (any_of HT_.out (by kernel_rfl)) (fun _ _ _ h => h) (Or.inl ⟨by rfl, ?_⟩) ?_ ?_
  rotate_left
  · intro w'
    go_simp
    with_reducible rfl
  rotate_left
  · simp only [Act.put, List.setIfInBounds_toArray, List.set_cons_zero, List.set_cons_succ, i64_w, i32_w]
    rfl
  refine pure_ (i := 7) (N := some 15) (v := ?_) (a' := ?_) #[true, true, true, true, true, true, true, true, true, false, true, false, true, false, true, false, true, false, false, false, false] rfl rfl (any_of HT_.out (by kernel_rfl)) (fun _ _ _ h => h) (Or.inl ⟨by rfl, ?_⟩) ?_ ?_
  rotate_left
  · intro w'
    go_simp
    with_reducible rfl
  rotate_left
  · simp only [Act.put, List.setIfInBounds_toArray, List.set_cons_zero, List.set_cons_succ, i64_w, i32_w]
    rfl
  refine take_ (i := 9) (N := some 17) (v := ?_) (a' := ?_) #[true, true, true, true, true, true, true, true, true, true, true, false, true, false, true, false, true, false, false, false, false] rfl rfl (take_ofW HT_.out HW_.out (by kernel_rfl)) (fun _ _ _ h => h) (Or.inl ⟨by rfl, ?_⟩) hHeld ?_ ?_
  rotate_left
  · rintro w' ⟨s0, s1⟩
    go_simp
    with_reducible rfl
  rotate_left
  · simp only [Act.put, List.setIfInBounds_toArray, List.set_cons_zero, List.set_cons_succ, i64_w, i32_w]
    rfl
  refine pure_ (i := 11) (N := some 19) (v := ?_) (a' := ?_) #[true, true, true, true, true, true, true, true, true, true, true, true, true, false, true, false, true, false, false, false, false] rfl rfl (any_of HT_.out (by kernel_rfl)) (fun _ _ _ h => h) (Or.inl ⟨by rfl, ?_⟩) ?_ ?_
  rotate_left
  · intro w'
    go_simp
    with_reducible rfl
  rotate_left
  · simp only [Act.put, List.setIfInBounds_toArray, List.set_cons_zero, List.set_cons_succ, i64_w, i32_w]
    rfl
  refine take_ (i := 13) (N := some 21) (v := ?_) (a' := ?_) #[true, true, true, true, true, true, true, true, true, true, true, true, true, true, true, false, true, false, false, false, false] rfl rfl (take_ofW HT_.out HW_.out (by kernel_rfl)) (fun _ _ _ h => h) (Or.inl ⟨by rfl, ?_⟩) hHeld ?_ ?_
  rotate_left
  · rintro w' ⟨s0, s1⟩
    go_simp
    with_reducible rfl
  rotate_left
  · simp only [Act.put, List.setIfInBounds_toArray, List.set_cons_zero, List.set_cons_succ, i64_w, i32_w]
    rfl
  refine pure_ (i := 15) (N := some 23) (v := ?_) (a' := ?_) #[true, true, true, true, true, true, true, true, true, true, true, true, true, true, true, true, true, false, false, false, false] rfl rfl (any_of HT_.out (by kernel_rfl)) (fun _ _ _ h => h) (Or.inl ⟨by rfl, ?_⟩) ?_ ?_
  rotate_left
  · intro w'
    go_simp
    with_reducible rfl
  rotate_left
  · simp only [Act.put, List.setIfInBounds_toArray, List.set_cons_zero, List.set_cons_succ, i64_w, i32_w]
    rfl
  refine pure_ (i := 17) (N := some 25) (v := ?_) (a' := ?_) #[true, true, true, true, true, true, true, true, true, true, true, true, true, true, true, true, true, true, false, false, false] rfl rfl (any_of HT_.out (by kernel_rfl)) (fun _ _ _ h => h) (Or.inl ⟨by rfl, ?_⟩) ?_ ?_
  rotate_left
  · intro w'
    go_simp
    with_reducible rfl
  rotate_left
  · simp only [Act.put, List.setIfInBounds_toArray, List.set_cons_zero, List.set_cons_succ, i64_w, i32_w]
    rfl
  refine pure_ (i := 18) (N := some 26) (v := ?_) (a' := ?_) #[true, true, true, true, true, true, true, true, true, true, true, true, true, true, true, true, true, true, true, false, false] rfl rfl (any_of HT_.out (by kernel_rfl)) (fun _ _ _ h => h) (Or.inl ⟨by rfl, ?_⟩) ?_ ?_
  rotate_left
  · intro w'
    go_simp
    with_reducible rfl
  rotate_left
  · simp only [Act.put, List.setIfInBounds_toArray, List.set_cons_zero, List.set_cons_succ, i64_w, i32_w]
    rfl
  refine one_ (i := 19) (N := none) #[true, true, true, true, true, true, true, true, true, true, true, true, true, true, true, true, true, true, true, true, false] rfl rfl (one_of HT_.out (by kernel_rfl)) (by decide) (fun K hK => ?_)
  have hs8 : w7.cell? ⟨gb263, 0, none⟩ = some (.int .i64 0) := (blk_cell BK263.out 0).trans rfl
  have hfs8 := blk_frozen BK263.out 0
  have hns8_0 := NB262_263.out
  have hns8_2 := NB264_263.out
  have hms8_0 := NB263_262.out
  have hms8_2 := NB263_264.out
  have hs9 : w7.cell? ⟨gb263, 1, none⟩ = some (.int .i64 0) := (blk_cell BK263.out 1).trans rfl
  have hfs9 := blk_frozen BK263.out 1
  have hns9_0 := NB262_263.out
  have hns9_2 := NB264_263.out
  have hms9_0 := NB263_262.out
  have hms9_2 := NB263_264.out
  refine skip_ (w1 := ?_) (by rfl) rfl ?_ ?_
  rotate_left
  · go_simp
    rfl
  refine hK.out _ _ ⟨((cell_far (p := ⟨gb263, _, none⟩) NB262_263.out _).trans (((cell_far (p := ⟨gb263, _, none⟩) NB262_263.out _).trans (hHeld.1)))), ((cell_far (p := ⟨gb263, _, none⟩) NB262_263.out _).trans (((cell_far (p := ⟨gb263, _, none⟩) NB262_263.out _).trans (hHeld.2))))⟩ (fun hHeld => ?_)
  clear hK K
  refine one_ (i := 20) (N := none) #[true, true, true, true, true, true, true, true, true, true, true, true, true, true, true, true, true, true, true, true, true] rfl rfl (one_of HT_.out (by kernel_rfl)) (by decide) (fun K hK => ?_)
  have hs10 : w7.cell? ⟨gb264, 0, none⟩ = some (.int .i64 0) := (blk_cell BK264.out 0).trans rfl
  have hfs10 := blk_frozen BK264.out 0
  have hns10_0 := NB262_264.out
  have hns10_1 := NB263_264.out
  have hms10_0 := NB264_262.out
  have hms10_1 := NB264_263.out
  have hs11 : w7.cell? ⟨gb264, 1, none⟩ = some (.int .i64 0) := (blk_cell BK264.out 1).trans rfl
  have hfs11 := blk_frozen BK264.out 1
  have hns11_0 := NB262_264.out
  have hns11_1 := NB263_264.out
  have hms11_0 := NB264_262.out
  have hms11_1 := NB264_263.out
  refine skip_ (w1 := ?_) (by rfl) rfl ?_ ?_
  rotate_left
  · go_simp
    rfl
  refine hK.out _ _ ⟨((cell_far (p := ⟨gb264, _, none⟩) NB262_264.out _).trans (((cell_far (p := ⟨gb264, _, none⟩) NB262_264.out _).trans (hHeld.1)))), ((cell_far (p := ⟨gb264, _, none⟩) NB262_264.out _).trans (((cell_far (p := ⟨gb264, _, none⟩) NB262_264.out _).trans (hHeld.2))))⟩ (fun hHeld => ?_)
  clear hK K
  refine done_ (done_of HT_.out (by kernel_rfl)) ?_
  try go_wp2
  refine bodyPost_ret (results_cc rfl _ _ gb263 gb264 58 58 #[.int .i64 a1, .int .i64 (wrap64 ((wrap64 (a2 + a0_0)) - a1))] #[.int .i64 (wrap64 (a0_0 - a1)), .int .i64 (wrap64 ((wrap64 (a0_1 - a2)) + a1))] (0, 0) (0, 0) _ _ rfl (by (with_reducible repeat (first | refine blk_drewN ?_ _ | refine blk_drew ?_ | refine blk_alloc ?_ _)); refine blk_far ?_ NB263_264.out _; (with_reducible repeat (first | refine blk_drewN ?_ _ | refine blk_drew ?_ | refine blk_alloc ?_ _)); refine blk_far ?_ NB263_264.out _; (with_reducible repeat (first | refine blk_drewN ?_ _ | refine blk_drew ?_ | refine blk_alloc ?_ _)); refine blk_put (cs := #[.int .i64 a1, .int .i64 0]) ?_ 1 _ rfl; (with_reducible repeat (first | refine blk_drewN ?_ _ | refine blk_drew ?_ | refine blk_alloc ?_ _)); refine blk_put (cs := #[.int .i64 0, .int .i64 0]) ?_ 0 _ rfl; (with_reducible repeat (first | refine blk_drewN ?_ _ | refine blk_drew ?_ | refine blk_alloc ?_ _)); exact BK263.out) Try.underlying58 rfl (by kernel_rfl) rfl (by (with_reducible repeat (first | refine blk_drewN ?_ _ | refine blk_drew ?_ | refine blk_alloc ?_ _)); refine blk_put (cs := #[.int .i64 (wrap64 (a0_0 - a1)), .int .i64 0]) ?_ 1 _ rfl; (with_reducible repeat (first | refine blk_drewN ?_ _ | refine blk_drew ?_ | refine blk_alloc ?_ _)); refine blk_put (cs := #[.int .i64 0, .int .i64 0]) ?_ 0 _ rfl; (with_reducible repeat (first | refine blk_drewN ?_ _ | refine blk_drew ?_ | refine blk_alloc ?_ _)); refine blk_far ?_ NB264_263.out _; (with_reducible repeat (first | refine blk_drewN ?_ _ | refine blk_drew ?_ | refine blk_alloc ?_ _)); refine blk_far ?_ NB264_263.out _; (with_reducible repeat (first | refine blk_drewN ?_ _ | refine blk_drew ?_ | refine blk_alloc ?_ _)); exact BK264.out) Try.underlying58 rfl (by kernel_rfl)) rfl ?_
  exact ⟨by first | rfl | (simp [errW_none, errW_some] <;> rfl) | (simp [*, errW_none, errW_some] <;> rfl), by repeat (first | (with_reducible first | exact HB.out | apply below_alloc | apply pw_below_drewN | apply below_drew1 | refine below_set ?_ GE262.out | refine below_set ?_ GE263.out | refine below_set ?_ GE264.out) | exact HB.out)⟩

end Go.Proofs.Ytfejfljgdeglgaa.K

/- The solver of judge: the search where its memory does not hold the state; and that it answers as solveP says. -/
namespace Go.Proofs.Ytfejfljgdeglgaa.K
open Go.RowKit Go.Maps Go.Proofs.YtfejfljgdeglgaaW.PrintWords Go.Proofs.YtfejfljgdeglgaaW.PrintLast Go.Proofs.YtfejfljgdeglgaaW.PrintMore
set_option linter.unusedVariables false
set_option linter.unusedSimpArgs false
theorem after_calls (a b x y : Nat) (W : World) (hs : a + b ≤ 64) (hx : x ≤ a) (hy : y ≤ b) : Calls Try.prog 66 #[.agg #[.int .i64 (a : Int), .int .i64 (b : Int)], .int .i64 (x : Int), .int .i64 (y : Int)] W fun e w' =>
    e = .returned (.tuple #[.agg #[.int .i64 (x : Int), .int .i64 ((y : Int) + a - x)], .agg #[.int .i64 ((a : Int) - x), .int .i64 ((b : Int) - y + x)]]) ∧ Below W.heap.size W w' := by
  refine judge_state_after.calls a b x y _ _ _ _ W ?_
  unfold judge_state_after.f
  rw [wrap_id (x := (y : Int) + a) (by omega) (by omega), wrap_id (x := (y : Int) + a - x) (by omega) (by omega), wrap_id (x := (a : Int) - x) (by omega) (by omega), wrap_id (x := (b : Int) - y) (by omega) (by omega), wrap_id (x := (b : Int) - y + x) (by omega) (by omega)]
/-- Where the solver stands in its search: its memory, and its own state's cells in the block N. -/
structure Inv (W Wr : World) (a b B1 B2 M : Nat) : Prop where
  m : ∃ f', Mem Wr B1 B2 M f'
  g : W.grownBy Wr (some M)
  c0 : Wr.cell? ⟨W.heap.size, 0, none⟩ = some (.int .i64 (a : Int))
  c1 : Wr.cell? ⟨W.heap.size, 1, none⟩ = some (.int .i64 (b : Int))
theorem Inv.step {W Wr W' : World} {a b B1 B2 M : Nat} (h : Inv W Wr a b B1 B2 M) (hM : M < W.heap.size) (hm : ∃ f', Mem W' B1 B2 M f') (hg : Wr.grownBy W' (some M)) : Inv W W' a b B1 B2 M :=
  ⟨hm, h.g.trans hg, cell_kept h.c0 hg (by simp; omega), cell_kept h.c1 hg (by simp; omega)⟩
theorem Inv.below {W Wr W' : World} {a b B1 B2 M : Nat} (h : Inv W Wr a b B1 B2 M) (hM : M < W.heap.size) (hb : Below Wr.heap.size Wr W') : Inv W W' a b B1 B2 M := by
  obtain ⟨f', hm⟩ := h.m
  exact h.step hM ⟨f', hm.grown (grown_of_below hb)⟩ (grown_none (grown_of_below hb))
theorem flat_len {α β : Type} (g : α → List β) (n : Nat) : ∀ l : List α, (∀ x ∈ l, (g x).length = n) → (l.flatMap g).length = l.length * n
  | [], _ => by simp
  | x :: l, h => by
    rw [List.flatMap_cons, List.length_append, h x (List.mem_cons_self ..), flat_len g n l (fun y hy => h y (List.mem_cons_of_mem _ hy)), List.length_cons, Nat.add_mul]
    omega
theorem allKeys_len : allKeys.length = 65 * (65 * 65) := by
  unfold allKeys
  rw [flat_len _ (65 * 65) _ (fun x _ => ?_), List.length_range]
  rw [flat_len _ 65 _ (fun y _ => ?_), List.length_range]
  rw [List.length_map, List.length_range]
theorem mem_allKeys {a b q : Nat} (ha : a ≤ 64) (hb : b ≤ 64) (hq : q ≤ 64) : Lit.string (keyBytes [.int .i64 (a : Nat), .int .i64 (b : Nat), .int .i64 (q : Nat)]) ∈ allKeys := by
  unfold allKeys
  rw [List.mem_flatMap]
  refine ⟨a, List.mem_range.2 (by omega), ?_⟩
  rw [List.mem_flatMap]
  refine ⟨b, List.mem_range.2 (by omega), ?_⟩
  rw [List.mem_map]
  exact ⟨q, List.mem_range.2 (by omega), rfl⟩
theorem Mem.put {w : World} {B1 B2 M : Nat} {f : Lit → Option Value} (h : Mem w B1 B2 M f) (q a b : Nat) (x y : Nat) (z : Bool) (hq : q ≤ 60) (hs : a + b ≤ 64) (hr : solveP (q + 1) a b = (x, y, z)) :
    ∃ wm, (Instr.mapUpdate 94 (.map (some M)) (.agg #[.int .i64 (a : Int), .int .i64 (b : Int), .int .i64 ((q : Int) + 1)]) (.agg #[.int .i64 (x : Int), .int .i64 (y : Int), .bool z])).run Try.prog w = .ok () wm ∧ (∃ f', Mem wm B1 B2 M f') ∧ w.grownBy wm (some M) := by
  have hk := key99 a b ((q : Int) + 1) (by go_wf) (by go_wf) (by go_wf)
  obtain ⟨wm, hrun, hmv, hg⟩ := h.m.store keyed99 Try.underlying94 (by rw [allKeys_len]; decide) hk (.agg #[.int .i64 (x : Int), .int .i64 (y : Int), .bool z])
  have sup : ∀ kl, putV f (.string (keyBytes [.int .i64 a, .int .i64 b, .int .i64 ((q : Int) + 1)])) (.agg #[.int .i64 (x : Int), .int .i64 (y : Int), .bool z]) kl ≠ none → kl ∈ allKeys := by
    intro kl hkl
    by_cases e : kl = .string (keyBytes [.int .i64 a, .int .i64 b, .int .i64 ((q : Int) + 1)])
    · rw [e]
      have := mem_allKeys (a := a) (b := b) (q := q + 1) (by omega) (by omega) (by omega)
      rw [show ((q + 1 : Nat) : Int) = (q : Int) + 1 by omega] at this
      exact this
    · exact h.sup kl (by simpa [putV, sameKey_ne e] using hkl)
  refine ⟨wm, hrun, ⟨_, cell_grown h.c1 hg (by simp; exact h.n1), cell_grown h.c2 hg (by simp; exact h.n2), h.n1, h.n2, (hmv.tight keyed99 allKeys ?_), ?_, ?_⟩, hg⟩
  · exact sup
  · intro a' b' q' v ha hb hq' hv
    by_cases e : Lit.string (keyBytes [.int .i64 (a' : Int), .int .i64 (b' : Int), .int .i64 (q' : Int)]) = .string (keyBytes [.int .i64 a, .int .i64 b, .int .i64 ((q : Int) + 1)])
    · obtain ⟨e1, e2, e3⟩ := key99_inj (by go_wf) (by go_wf) (by go_wf) (by go_wf) (by go_wf) (by go_wf) e
      have e1 : a' = a := by omega
      have e2 : b' = b := by omega
      have e3 : q' = q + 1 := by omega
      subst e1 e2 e3
      rw [hr]
      rw [e] at hv
      simp only [putV, WideAt.sameKey_self (keyed99.key hk), if_true, Option.some.injEq] at hv
      exact hv.symm
    · exact h.knows a' b' q' v ha hb hq' (by simpa [putV, sameKey_ne e] using hv)
  · exact sup
theorem firstY_step (t : Nat → Bool) (m y : Nat) (h : t y = false) : firstY t (m + 1) y = firstY t m (y + 1) := by rw [firstY, h]; simp
theorem firstX_step (t : Nat → Nat → Bool) (b m x : Nat) (h : firstY (t x) (b + 1) 0 = none) : firstX t b (m + 1) x = firstX t b m (x + 1) := by rw [firstX, h]
def TT (q a b x y : Nat) : Bool := (solveP q x (y + a - x)).2.2 && (solveP q (a - x) (b - y + x)).2.2

set_option maxHeartbeats 8000000 in
set_option maxRecDepth 100000 in
theorem solve_new (q a b B1 B2 M : Nat) (f : Lit → Option Value) (W : World) (hq : q ≤ 60) (ih : SolveAt q) (hab : 1 < a + b) (hs : a + b ≤ 64) (hw : ¬ 2 ^ (q + 1) < a * (q + 2) + b) (hm : Mem W B1 B2 M f)
  (hf : f (.string (keyBytes [.int .i64 a, .int .i64 b, .int .i64 ((q : Int) + 1)])) = none) :
  Calls Try.prog 87 #[.agg #[.int .i64 (a : Int), .int .i64 (b : Int)], .int .i64 ((q : Int) + 1), .pointer (some ⟨B1, 0, none⟩), .pointer (some ⟨B2, 0, none⟩)] W fun e W' =>
    e = .returned (.tuple #[.int .i64 ((solveP (q + 1) a b).1 : Int), .int .i64 ((solveP (q + 1) a b).2.1 : Int), .bool (solveP (q + 1) a b).2.2]) ∧ (∃ f', Mem W' B1 B2 M f') ∧ W.grownBy W' (some M) := by
  have HM := Aside0.mk hm
  have HF := Aside0.mk hf
  have IH := Aside0.mk ih
  clear hf ih
  have h1 : ¬ ((a : Int) + (b : Int) ≤ 1) := by omega
  have hqz : ¬ ((q : Int) + 1 = 0) := by omega
  clear hm
  go_enter Try.func87, Try.ntmps87
  go_wp2_with fail
  have hd : decide ((q : Int) + 1 = 0) = false := by simpa using hqz
  have hd' : (((q : Int) + 1) == 0) = false := by simpa using hqz
  have hp := pow_wrap q hq
  have hw2 : ¬ (2 : Int) ^ (q + 1) < (a : Int) * ((q : Int) + 2) + b := by
    intro h
    have : ((2 ^ (q + 1) : Nat) : Int) < ((a * (q + 2) + b : Nat) : Int) := by simpa using h
    exact hw (Int.ofNat_lt.1 this)
  have HW := Aside0.mk hw
  clear hw
  go_region_with (first | (go_at_call 46; refine (weight_calls q a b _ hq hs).mono ?_; rintro e w1 ⟨rfl, hb⟩; have hbw : Below W.heap.size W w1 := below_step (by repeat (first | exact Below.refl _ _ | apply below_drew1 | apply below_alloc)) hb; have HB := Aside0.mk hbw; have HM1 := Aside0.mk (HM.out.grown (grown_of_below hbw));  have ⟨k0, k1⟩ := box_cells W a b; have g0 := cell_kept k0 (grown_of_below (below_step (by repeat (first | exact Below.refl _ _ | apply below_drew1 | apply below_alloc)) hb)) (by simp); have g1 := cell_kept k1 (grown_of_below (below_step (by repeat (first | exact Below.refl _ _ | apply below_drew1 | apply below_alloc)) hb)) (by simp); have g2 := HM1.out.c1; have hlk := HM1.out.m.look_ok (e := 96) keyed99 Try.underlying94 (best0 w1) (key99 a b ((q : Int) + 1) (by go_wf) (by go_wf) (by go_wf)); rw [HF.out] at hlk; simp only [Option.getD_none, Option.isSome_none] at hlk; have hBa : Below w1.heap.size w1 (w1.alloc (Obj.cells #[.int .i64 0, .int .i64 0, .bool false] 96)) := below_alloc (Below.refl _ _) _; have j0 := cell_kept g0 (grown_of_below hBa) (by simp); have j1 := cell_kept g1 (grown_of_below hBa) (by simp); have HMa := Aside0.mk (HM1.out.grown (grown_of_below hBa)); have HBa := Aside0.mk (below_step hbw hBa); clear k0 k1 hb hbw hBa))
  have hM : M < W.heap.size := HM.out.m.lt
  go_wp2_with fail
  have hI0 : Inv W (w1.alloc (Obj.cells #[.int .i64 0, .int .i64 0, .bool false] 96)) a b B1 B2 M := ⟨⟨f, HMa.out⟩, grown_none (grown_of_below HBa.out), j0, j1⟩
  clear j0 j1 g0 g1 g2 hlk hd hd' hw2
  go_loopw [55] (fun i wr => ∃ x : Nat, x ≤ a + 1 ∧ i = .int .i64 x ∧ Inv W wr a b B1 B2 M ∧ firstX (TT q a b) b (a + 1) 0 = firstX (TT q a b) b (a + 1 - x) x) (fun i _ => a + 1 - (intOf i).toNat)
  case atStart => exact ⟨0, by omega, rfl, hI0, rfl⟩
  case round =>
    obtain ⟨x, hx, rfl, hinv, hfx⟩ := hrel
    by_cases hlt : x < a + 1
    · have k1 := hinv.c1
      have HI := Aside0.mk hinv
      have HX := Aside0.mk hfx
      clear hinv hfx
      have b1 := eq_true (show (x : Int) < (a : Int) + 1 by omega)
      go_wp2_with fail
      go_loopw [61] (fun i wr => ∃ y : Nat, y ≤ b + 1 ∧ i = .int .i64 y ∧ Inv W wr a b B1 B2 M ∧ firstY (TT q a b x) (b + 1) 0 = firstY (TT q a b x) (b + 1 - y) y) (fun i _ => b + 1 - (intOf i).toNat)
      case atStart => exact ⟨0, by omega, rfl, HI.out, rfl⟩
      case round =>
        obtain ⟨y, hy, rfl, hinv, hfy⟩ := hrel
        by_cases hlt2 : y < b + 1
        · have k1 := hinv.c1
          have k0 := hinv.c0
          have HI := Aside0.mk hinv
          have HY := Aside0.mk hfy
          clear hinv hfy
          have b2 := eq_true (show (y : Int) < (b : Int) + 1 by omega)
          obtain ⟨u1, u2, hA⟩ : ∃ u1 u2 : Nat, solveP q x (y + a - x) = (u1, u2, (solveP q x (y + a - x)).2.2) := ⟨_, _, rfl⟩
          obtain ⟨v1, v2, hB⟩ : ∃ v1 v2 : Nat, solveP q (a - x) (b - y + x) = (v1, v2, (solveP q (a - x) (b - y + x)).2.2) := ⟨_, _, rfl⟩
          have HT := Aside0.mk (show TT q a b x y = ((solveP q x (y + a - x)).2.2 && (solveP q (a - x) (b - y + x)).2.2) from rfl)
          generalize (solveP q x (y + a - x)).2.2 = zA at hA HT
          generalize (solveP q (a - x) (b - y + x)).2.2 = zB at hB HT
          have C1 : ∀ (wr : World) (f' : Lit → Option Value), Mem wr B1 B2 M f' → Calls Try.prog 87 #[.agg #[.int .i64 (x : Int), .int .i64 ((y : Int) + a - x)], .int .i64 (q : Int), .pointer (some ⟨B1, 0, none⟩), .pointer (some ⟨B2, 0, none⟩)] wr fun e W' => e = .returned (.tuple #[.int .i64 (u1 : Int), .int .i64 (u2 : Int), .bool zA]) ∧ (∃ f', Mem W' B1 B2 M f') ∧ wr.grownBy W' (some M) := by
            intro wr f' hm'
            have := IH.out x (y + a - x) B1 B2 M f' wr (by omega) hm'
            rw [show ((y + a - x : Nat) : Int) = (y : Int) + a - x by omega, hA] at this
            exact this
          have C2 : ∀ (wr : World) (f' : Lit → Option Value), Mem wr B1 B2 M f' → Calls Try.prog 87 #[.agg #[.int .i64 ((a : Int) - x), .int .i64 ((b : Int) - y + x)], .int .i64 (q : Int), .pointer (some ⟨B1, 0, none⟩), .pointer (some ⟨B2, 0, none⟩)] wr fun e W' => e = .returned (.tuple #[.int .i64 (v1 : Int), .int .i64 (v2 : Int), .bool zB]) ∧ (∃ f', Mem W' B1 B2 M f') ∧ wr.grownBy W' (some M) := by
            intro wr f' hm'
            have := IH.out (a - x) (b - y + x) B1 B2 M f' wr (by omega) hm'
            rw [show ((b - y + x : Nat) : Int) = (b : Int) - y + x by omega, show ((a - x : Nat) : Int) = (a : Int) - x by omega, hB] at this
            exact this
          have C1 := Aside0.mk C1
          have C2 := Aside0.mk C2
          clear hA hB
          have hres : zA = true → zB = true → solveP (q + 1) a b = (x, y, true) := by
            intro ea eb
            have e1 : TT q a b x y = true := by rw [HT.out, ea, eb]; rfl
            have e2 := HY.out
            rw [show b + 1 - y = (b - y) + 1 by omega] at e2
            unfold firstY at e2
            rw [e1] at e2
            simp only [if_true] at e2
            have e3 := HX.out
            rw [show a + 1 - x = (a - x) + 1 by omega] at e3
            unfold firstX at e3
            rw [show firstY (TT q a b x) (b + 1) 0 = some y from e2] at e3
            unfold solveP
            rw [if_neg (by omega), if_neg HW.out]
            rw [show firstX (fun x y => (solveP q x (y + a - x)).2.2 && (solveP q (a - x) (b - y + x)).2.2) b (a + 1) 0 = some (x, y) from e3]
          have HR := Aside0.mk hres
          clear hres
          cases zA
          · go_wp2_with (first | (go_at_call 66; refine (after_calls a b x y _ hs (by omega) (by omega)).mono ?_; rintro e w2 ⟨rfl, hb⟩; have hI2 := HI.out.below hM (below_step hb (below_alloc (below_alloc (Below.refl _ _) (Obj.cells #[.int .i64 (x : Int), .int .i64 ((y : Int) + a - x)] 58)) (Obj.cells #[.int .i64 ((a : Int) - x), .int .i64 ((b : Int) - y + x)] 58))); obtain ⟨f2, hm2⟩ := hI2.m; have m2 := hm2.c2; have HM2 := Aside0.mk hm2; have HI2 := Aside0.mk hI2; clear hI2 hm2) | (go_at_call_of 87 ((y : Int) + a - x); with_reducible refine (C1.out _ _ HM2.out).mono ?_; rintro e w3 ⟨rfl, hm3, hg3⟩; have HI3 := Aside0.mk (HI2.out.step hM hm3 hg3); clear hm3 hg3))
            go_roundw
            case rel => exact ⟨y + 1, by omega, by go_num, HI3.out, by rw [HY.out, show b + 1 - y = (b - y) + 1 by omega, show b + 1 - (y + 1) = b - y by omega]; exact firstY_step _ _ _ (by rw [HT.out]; rfl)⟩
            case measure => simp [intOf]; omega
          · cases zB
            · go_wp2_with (first
                | (go_at_call 66; refine (after_calls a b x y _ hs (by omega) (by omega)).mono ?_; rintro e w2 ⟨rfl, hb⟩; have hI2 := HI.out.below hM (below_step hb (below_alloc (below_alloc (Below.refl _ _) (Obj.cells #[.int .i64 (x : Int), .int .i64 ((y : Int) + a - x)] 58)) (Obj.cells #[.int .i64 ((a : Int) - x), .int .i64 ((b : Int) - y + x)] 58))); have hsz : M < w2.heap.size := Nat.lt_of_lt_of_le hM (Nat.le_trans HI.out.g.size hb.size); have HS := Aside0.mk hsz; have n0 := (box_cells (w2.alloc (Obj.cells #[.int .i64 (x : Int), .int .i64 ((y : Int) + a - x)] 58)) ((a : Int) - x) ((b : Int) - y + x)).1; have n1 := (box_cells (w2.alloc (Obj.cells #[.int .i64 (x : Int), .int .i64 ((y : Int) + a - x)] 58)) ((a : Int) - x) ((b : Int) - y + x)).2; rw [show (w2.alloc (Obj.cells #[.int .i64 (x : Int), .int .i64 ((y : Int) + a - x)] 58)).heap.size = w2.heap.size + 1 by simp] at n0 n1; have N0 := Aside0.mk n0; have N1 := Aside0.mk n1; obtain ⟨f2, hm2⟩ := hI2.m; have m2 := hm2.c2; have HM2 := Aside0.mk hm2; have HI2 := Aside0.mk hI2; clear hI2 hm2 hsz n0 n1)
                | (go_at_call_of 87 ((y : Int) + a - x); with_reducible refine (C1.out _ _ HM2.out).mono ?_; rintro e w3 ⟨rfl, hm3, hg3⟩; have i0 := cell_kept N0.out hg3 (by simp; have := HS.out; omega); have i1 := cell_kept N1.out hg3 (by simp; have := HS.out; omega); have hI3 := HI2.out.step hM hm3 hg3; obtain ⟨f3, hm3'⟩ := hI3.m; have m3 := hm3'.c2; have HM3 := Aside0.mk hm3'; have HI3 := Aside0.mk hI3; clear hm3 hg3 hI3 hm3')
                | (go_at_call_of 87 ((b : Int) - y + x); with_reducible refine (C2.out _ _ HM3.out).mono ?_; rintro e w4 ⟨rfl, hm4, hg4⟩; have HI4 := Aside0.mk (HI3.out.step hM hm4 hg4); clear hm4 hg4))
              go_roundw
              case rel => exact ⟨y + 1, by omega, by go_num, HI4.out, by rw [HY.out, show b + 1 - y = (b - y) + 1 by omega, show b + 1 - (y + 1) = b - y by omega]; exact firstY_step _ _ _ (by rw [HT.out]; rfl)⟩
              case measure => simp [intOf]; omega
            · have HR2 := Aside0.mk (HR.out rfl rfl)
              clear HR
              go_wp2_with (first
                | (go_at_call 66; refine (after_calls a b x y _ hs (by omega) (by omega)).mono ?_; rintro e w2 ⟨rfl, hb⟩; have hI2 := HI.out.below hM (below_step hb (below_alloc (below_alloc (Below.refl _ _) (Obj.cells #[.int .i64 (x : Int), .int .i64 ((y : Int) + a - x)] 58)) (Obj.cells #[.int .i64 ((a : Int) - x), .int .i64 ((b : Int) - y + x)] 58))); have hsz : M < w2.heap.size := Nat.lt_of_lt_of_le hM (Nat.le_trans HI.out.g.size hb.size); have HS := Aside0.mk hsz; have n0 := (box_cells (w2.alloc (Obj.cells #[.int .i64 (x : Int), .int .i64 ((y : Int) + a - x)] 58)) ((a : Int) - x) ((b : Int) - y + x)).1; have n1 := (box_cells (w2.alloc (Obj.cells #[.int .i64 (x : Int), .int .i64 ((y : Int) + a - x)] 58)) ((a : Int) - x) ((b : Int) - y + x)).2; rw [show (w2.alloc (Obj.cells #[.int .i64 (x : Int), .int .i64 ((y : Int) + a - x)] 58)).heap.size = w2.heap.size + 1 by simp] at n0 n1; have N0 := Aside0.mk n0; have N1 := Aside0.mk n1; obtain ⟨f2, hm2⟩ := hI2.m; have m2 := hm2.c2; have HM2 := Aside0.mk hm2; have HI2 := Aside0.mk hI2; clear hI2 hm2 hsz n0 n1)
                | (go_at_call_of 87 ((y : Int) + a - x); with_reducible refine (C1.out _ _ HM2.out).mono ?_; rintro e w3 ⟨rfl, hm3, hg3⟩; have i0 := cell_kept N0.out hg3 (by simp; have := HS.out; omega); have i1 := cell_kept N1.out hg3 (by simp; have := HS.out; omega); have hI3 := HI2.out.step hM hm3 hg3; obtain ⟨f3, hm3'⟩ := hI3.m; have m3 := hm3'.c2; have HM3 := Aside0.mk hm3'; have HI3 := Aside0.mk hI3; clear hm3 hg3 hI3 hm3')
                | (go_at_call_of 87 ((b : Int) - y + x); with_reducible refine (C2.out _ _ HM3.out).mono ?_; rintro e w4 ⟨rfl, hm4, hg4⟩; have hI4 := HI3.out.step hM hm4 hg4; have o0 := hI4.c0; have o1 := hI4.c1; obtain ⟨f4, hm4'⟩ := hI4.m; have m4 := hm4'.c1; obtain ⟨wm, hrun, hmm, hgm⟩ := hm4'.put q a b x y true hq hs HR2.out; have HMM := Aside0.mk hmm; have HGM := Aside0.mk (hI4.g.trans hgm); clear hm4 hg4 hI4 hm4' hmm hgm))
              go_ret3
              exact ⟨by rw [HR2.out]; rfl, HMM.out, HGM.out⟩
        · have e : y = b + 1 := by omega
          subst e
          have HI := Aside0.mk hinv
          have HY := Aside0.mk hfy
          clear hinv hfy
          have b2 := eq_false (show ¬ (((b + 1 : Nat) : Int) < (b : Int) + 1) by omega)
          go_wp2_with fail
          go_roundw
          case rel => exact ⟨x + 1, by omega, by go_num, HI.out, by
            have e2 := HY.out
            rw [show b + 1 - (b + 1) = 0 by omega] at e2
            rw [HX.out, show a + 1 - x = (a - x) + 1 by omega, show a + 1 - (x + 1) = a - x by omega]
            exact firstX_step _ _ _ _ e2⟩
          case measure => simp [intOf]; omega
    · have e : x = a + 1 := by omega
      subst e
      have hres : solveP (q + 1) a b = (0, 0, false) := by
        rw [show a + 1 - (a + 1) = 0 by omega] at hfx
        unfold solveP
        rw [if_neg (by omega), if_neg HW.out]
        rw [show firstX (fun x y => (solveP q x (y + a - x)).2.2 && (solveP q (a - x) (b - y + x)).2.2) b (a + 1) 0 = none from hfx]
      have o0 := hinv.c0
      have o1 := hinv.c1
      obtain ⟨f4, hm4⟩ := hinv.m
      have m4 := hm4.c1
      obtain ⟨wm, hrun, hmm, hgm⟩ := hm4.put q a b 0 0 false hq hs hres
      have hrun' : (Instr.mapUpdate 94 (.map (some M)) (.agg #[.int .i64 (a : Int), .int .i64 (b : Int), .int .i64 ((q : Int) + 1)]) (.agg #[.int .i64 0, .int .i64 0, .bool false])).run Try.prog _ = .ok () wm := hrun
      clear hrun
      have HMM := Aside0.mk hmm
      have HGM := Aside0.mk (hinv.g.trans hgm)
      have HR := Aside0.mk hres
      clear hm4 hmm hgm hinv hfx hres
      have b1 := eq_false (show ¬ (((a + 1 : Nat) : Int) < (a : Int) + 1) by omega)
      go_wp2_with fail
      go_ret3
      exact ⟨by rw [HR.out]; rfl, HMM.out, HGM.out⟩
theorem solve_all : ∀ q, q ≤ 60 → SolveAt q
  | 0, _ => by
    intro a b B1 B2 M f W hs hm
    by_cases h : a + b ≤ 1
    · have := solve_small 0 a b B1 B2 M f W h hm
      have e : solveP 0 a b = (0, 0, true) := by unfold solveP; rw [decide_eq_true h]
      rw [e]
      exact this
    · have := solve_none a b B1 B2 M f W (by omega) hs hm
      have e : solveP 0 a b = (0, 0, false) := by unfold solveP; rw [decide_eq_false h]
      rw [e]
      exact this
  | q + 1, hq => by
    have ih := solve_all q (by omega)
    intro a b B1 B2 M f W hs hm
    rw [show ((q + 1 : Nat) : Int) = (q : Int) + 1 by omega]
    by_cases h : a + b ≤ 1
    · have := solve_small (q + 1) a b B1 B2 M f W h hm
      have e : solveP (q + 1) a b = (0, 0, true) := by unfold solveP; rw [if_pos h]
      rw [e]
      exact this
    · by_cases hw : 2 ^ (q + 1) < a * (q + 2) + b
      · have := solve_heavy q a b B1 B2 M f W (by omega) (by omega) hs hw hm
        have e : solveP (q + 1) a b = (0, 0, false) := by unfold solveP; rw [if_neg h, if_pos hw]
        rw [e]
        exact this
      · cases hf : f (.string (keyBytes [.int .i64 a, .int .i64 b, .int .i64 ((q : Int) + 1)])) with
        | none => exact solve_new q a b B1 B2 M f W (by omega) ih (by omega) hs hw hm hf
        | some v =>
          have hk := hm.knows a b (q + 1) v (by omega) (by omega) (by omega) hf
          subst hk
          exact solve_found q a b B1 B2 M f W (by omega) (by omega) hs hw hm _ _ _ hf
end Go.Proofs.Ytfejfljgdeglgaa.K

/- What judge's solver, enough and Question answer. -/
namespace Go.Proofs.Ytfejfljgdeglgaa.K
open Go.RowKit Go.Maps Go.Proofs.YtfejfljgdeglgaaW.PrintWords Go.Proofs.YtfejfljgdeglgaaW.PrintLast Go.Proofs.YtfejfljgdeglgaaW.PrintMore
set_option linter.unusedVariables false
set_option linter.unusedSimpArgs false

set_option maxHeartbeats 4000000 in
set_option maxRecDepth 100000 in
theorem solver_calls (w : World) : Calls Try.prog 60 #[] w fun e w' => ∃ B1 B2 M f, e = .returned (.func (.func 87) #[] #[.pointer (some ⟨B1, 0, none⟩), .pointer (some ⟨B2, 0, none⟩)]) ∧ Mem w' B1 B2 M f ∧ w.heap.size ≤ M ∧ Below w.heap.size w w' := by
  have hmm := @run_makeMap Try.prog
  have hc1 : ((w.alloc (Obj.map #[] 0)).alloc (Obj.cells #[Value.map (some w.heap.size)] 94)).cell? ⟨w.heap.size + 1, 0, none⟩ = some (.map (some w.heap.size)) := World.cell?_alloc_at _ _ _ _ (by simp)
  have HC1 := Aside0.mk hc1
  go_enter Try.func60, Try.ntmps60
  go_wp2
  go_ret
  have hmap := MapV.made Try.prog 99 w
  have hB : Below (w.alloc (Obj.map #[] 0)).heap.size (w.alloc (Obj.map #[] 0)) (((w.alloc (Obj.map #[] 0)).alloc (Obj.cells #[Value.map (some w.heap.size)] 94)).alloc (Obj.cells #[.func (.func 87) #[] #[.pointer (some ⟨w.heap.size + 1, 0, none⟩), .pointer (some ⟨w.heap.size + 1 + 1, 0, none⟩)]] 73)) := below_alloc (below_alloc (Below.refl _ _) _) _
  refine ⟨w.heap.size + 1, w.heap.size + 2, w.heap.size, fun _ => none, rfl, ⟨?_, ?_, by omega, by omega, (hmap.kept (grown_of_below hB) (by simp)).mono (Nat.zero_le _), fun _ _ _ _ _ _ _ h => (by cases h), fun _ h => absurd rfl h⟩, Nat.le_refl _, ?_⟩
  · exact cell_kept HC1.out (World.grownBy_alloc _ _ none) (by simp)
  · exact World.cell?_alloc_at _ _ _ _ (by simp)
  · exact below_step (below_alloc (Below.refl _ _) _) hB
/-- judge.enough. -/
def judge_enough.f (a b q : Int) : Option Bool := if 0 ≤ a ∧ 0 ≤ b ∧ a + b ≤ 64 ∧ 0 ≤ q ∧ q ≤ 60 then some (solveP q.toNat a.toNat b.toNat).2.2 else none
theorem box_kept {W W' : World} {a b : Int} (h : Below (W.alloc (Obj.cells #[.int .i64 a, .int .i64 b] 58)).heap.size (W.alloc (Obj.cells #[.int .i64 a, .int .i64 b] 58)) W') : W'.cell? ⟨W.heap.size, 0, none⟩ = some (.int .i64 a) ∧ W'.cell? ⟨W.heap.size, 1, none⟩ = some (.int .i64 b) :=
  ⟨cell_kept (box_cells W a b).1 (grown_of_below h) (by simp), cell_kept (box_cells W a b).2 (grown_of_below h) (by simp)⟩
theorem below_mem {M : Nat} {w W W' : World} (h : Below w.heap.size w W) (hM : w.heap.size ≤ M) (hg : W.grownBy W' (some M)) : Below w.heap.size w W' :=
  ⟨hg.os.trans h.os, hg.tape.trans h.tape, hg.output.trans h.output, Nat.le_trans h.size hg.size, fun k hk => (hg.block k (Nat.lt_of_lt_of_le hk (by have := h.size; omega)) (by simp; omega)).trans (h.block k hk)⟩
set_option maxHeartbeats 4000000 in
set_option maxRecDepth 100000 in
theorem judge_enough.calls (a0 a1 a2 : Int) (r : Bool) (w : World) (h : judge_enough.f a0 a1 a2 = some r) :
    Calls Try.prog 55 #[.agg #[.int .i64 a0, .int .i64 a1], .int .i64 a2] w fun e w' => e = .returned (.bool r) ∧ Below w.heap.size w w' := by
  unfold judge_enough.f at h
  split at h
  case isFalse => cases h
  case isTrue hc =>
    obtain ⟨h0, h1, h2, h3, h4⟩ := hc
    obtain ⟨a, rfl⟩ := Int.eq_ofNat_of_zero_le h0
    obtain ⟨b, rfl⟩ := Int.eq_ofNat_of_zero_le h1
    obtain ⟨q, rfl⟩ := Int.eq_ofNat_of_zero_le h3
    simp only [Int.toNat_natCast, Option.some.injEq] at h
    have HR := Aside0.mk h
    clear h
    go_enter Try.func55, Try.ntmps55
    go_wp2_with fail
    go_region_with (first | (go_at_call 60; refine (solver_calls _).mono ?_; rintro e w1 ⟨B1, B2, M, f, rfl, hm, hM, hb⟩; have hb1 := below_step (below_drew1 (Below.refl _ (w.alloc (Obj.cells #[.int .i64 (a : Int), .int .i64 (b : Int)] 58)))) hb; have k0 := (box_kept hb1).1; have k1 := (box_kept hb1).2; have HM := Aside0.mk hm; have HB := Aside0.mk hb1; have HG := Aside0.mk hM; clear hm hM hb hb1) | (go_at_call 87; refine (solve_all q (by omega) a b _ _ _ _ _ (by omega) HM.out).mono ?_; rintro e w2 ⟨rfl, hm2, hg2⟩; have HG2 := Aside0.mk hg2; clear hm2 hg2))
    all_goals go_wp2_with fail
    all_goals go_ret
    all_goals exact ⟨by first | rfl | (rw [HR.out]; rfl), below_step (below_alloc (Below.refl _ _) _) (below_mem HB.out (Nat.le_trans (by simp) HG.out) HG2.out)⟩

/-- judge.Question. -/
def judge_Question.f (a b q : Int) : Option (Int × Int × Bool × Int) := (judge_numbers.f a b q).bind fun e => if e = 0 then (if a + b ≤ 1 then some (0, 0, false, 0) else if 0 ≤ a ∧ 0 ≤ b ∧ a + b ≤ 64 ∧ 0 ≤ q ∧ q ≤ 60 then some ((solveP q.toNat a.toNat b.toNat).1, (solveP q.toNat a.toNat b.toNat).2.1, (solveP q.toNat a.toNat b.toNat).2.2, 0) else none) else some (0, 0, false, e)
theorem within_eq (n lo hi : Int) : judge_within.f n lo hi = some (decide (lo ≤ n ∧ n ≤ hi)) := by
  unfold judge_within.f
  split
  · congr 1; simp only [decide_eq_decide]; omega
  · congr 1; symm; simp only [decide_eq_false_iff_not]; omega
theorem numbers_eq (a b q : Int) : judge_numbers.f a b q = some (if 0 ≤ a ∧ a ≤ 16 ∧ 0 ≤ b ∧ b ≤ 16 ∧ 0 ≤ q ∧ q ≤ 12 then 0 else 1) := by
  unfold judge_numbers.f
  simp only [within_eq, Option.bind_some, decide_eq_true_eq]
  by_cases h1 : 0 ≤ a ∧ a ≤ 16
  · by_cases h2 : 0 ≤ b ∧ b ≤ 16
    · by_cases h3 : 0 ≤ q ∧ q ≤ 12
      · rw [if_pos h1, if_pos h2, if_pos h3, if_pos (by omega)]
      · rw [if_pos h1, if_pos h2, if_neg h3, if_neg (by omega)]
    · rw [if_pos h1, if_neg h2, if_neg (by omega)]
  · rw [if_neg h1, if_neg (by omega)]
theorem numbers_ok {a b q : Int} (h : judge_numbers.f a b q = some 0) : 0 ≤ a ∧ a ≤ 16 ∧ 0 ≤ b ∧ b ≤ 16 ∧ 0 ≤ q ∧ q ≤ 12 := by
  rw [numbers_eq] at h
  split at h
  · assumption
  · simp at h
theorem small_sum {a b q : Int} (h : judge_numbers.f a b q = some 0) (h1 : a + b ≤ 1) : IntKind.i64.wrap (a + b) = a + b := by
  obtain ⟨h2, h3, h4, h5, _⟩ := numbers_ok h
  rw [wrapK]
  exact wrap_id (by omega) (by omega)
theorem results_tmp4 {fn : Func} {t u v x : Tmp} (h : fn.results = #[.tmp t, .tmp u, .tmp v, .tmp x]) (tmps : Array Value) (P : Program) (w : World) :
    (results fn tmps).run P w = .ok (.tuple #[tmps.getD t undef, tmps.getD u undef, tmps.getD v undef, tmps.getD x undef]) w := by
  simp [results, h]
set_option maxHeartbeats 4000000 in
set_option maxRecDepth 100000 in
theorem judge_Question.calls (a0 a1 a2 r1 r2 : Int) (r3 : Bool) (r4 : Int) (w : World) (h : judge_Question.f a0 a1 a2 = some (r1, r2, r3, r4)) :
    Calls Try.prog 28 #[.int .i64 a0, .int .i64 a1, .int .i64 a2] w fun e w' => e = .returned (.tuple #[.int .i64 r1, .int .i64 r2, .bool r3, .int .i64 r4]) ∧ Below w.heap.size w w' := by
  unfold judge_Question.f at h
  obtain ⟨e0, he, h⟩ := Option.bind_eq_some_iff.mp h
  have HE := Aside0.mk he
  clear he
  by_cases c0 : e0 = 0
  · rw [if_pos c0] at h
    subst c0
    by_cases c1 : a0 + a1 ≤ 1
    · rw [if_pos c1] at h
      simp only [Option.some.injEq, Prod.mk.injEq] at h
      obtain ⟨rfl, rfl, rfl, rfl⟩ := h
      have HC := Aside0.mk (small_sum HE.out c1)
      go_enter Try.func28, Try.ntmps28
      go_wp2_with (first
          | (go_at_call 44; (with_reducible refine (judge_numbers.calls _ _ _ _ _ HE.out).mono ?_); rintro e w' ⟨rfl, ⟨nd, rfl⟩⟩; have hc2 := HC.out)
          | fail)
      ((try simp only [Exit.inBlock, Exit.then]); refine bodyPost_ret (results_tmp4 rfl _ _ _) rfl ?_)
      exact ⟨rfl, pw_below_drewN (Below.refl _ _) _⟩
    · rw [if_neg c1] at h
      split at h
      case isFalse => cases h
      case isTrue hc =>
        obtain ⟨h0, h1, h2, h3, h4⟩ := hc
        obtain ⟨a, rfl⟩ := Int.eq_ofNat_of_zero_le h0
        obtain ⟨b, rfl⟩ := Int.eq_ofNat_of_zero_le h1
        obtain ⟨q, rfl⟩ := Int.eq_ofNat_of_zero_le h3
        simp only [Int.toNat_natCast, Option.some.injEq, Prod.mk.injEq] at h
        obtain ⟨rfl, rfl, rfl, rfl⟩ := h
        go_enter Try.func28, Try.ntmps28
        go_wp2_with (first
          | (go_at_call 44; (with_reducible refine (judge_numbers.calls _ _ _ _ _ HE.out).mono ?_); rintro e w' ⟨rfl, ⟨nd, rfl⟩⟩)
          | (go_at_call 60; refine (solver_calls _).mono ?_; rintro e w1 ⟨B1, B2, M, f, rfl, hm, hM, hb⟩; have HM := Aside0.mk hm; have HB := Aside0.mk hb; have HG := Aside0.mk hM; clear hm hM hb)
          | (go_at_call 87; refine (solve_all q (by omega) a b _ _ _ _ _ (by omega) HM.out).mono ?_; rintro e w2 ⟨rfl, hm2, hg2⟩; have HG2 := Aside0.mk hg2; clear hm2 hg2))
        ((try simp only [Exit.inBlock, Exit.then]); refine bodyPost_ret (results_tmp4 rfl _ _ _) rfl ?_)
        exact ⟨rfl, below_mem (below_step (pw_below_drewN (Below.refl _ _) _) HB.out) (by first | exact HG.out | simpa using HG.out) HG2.out⟩
  · rw [if_neg c0] at h
    simp only [Option.some.injEq, Prod.mk.injEq] at h
    obtain ⟨rfl, rfl, rfl, rfl⟩ := h
    have hb0 : (e0 == 0) = false := beq_eq_false_iff_ne.mpr c0
    have hb1 : (e0 != 0) = true := bne_iff_ne.mpr c0
    go_enter Try.func28, Try.ntmps28
    go_wp2_with (first
        | (go_at_call 44; (with_reducible refine (judge_numbers.calls _ _ _ _ _ HE.out).mono ?_); rintro e w' ⟨rfl, ⟨nd, rfl⟩⟩)
        | fail)
    ((try simp only [Exit.inBlock, Exit.then]); refine bodyPost_ret (results_tmp4 rfl _ _ _) rfl ?_)
    exact ⟨rfl, pw_below_drewN (Below.refl _ _) _⟩
end Go.Proofs.Ytfejfljgdeglgaa.K

/- DERIVED by wip/pr.py: for each Go function named below a Lean function with the same answers, and that a call of it comes to these answers, for all arguments and memories, where the Lean function has an answer. -/
namespace Go.Proofs.Ytfejfljgdeglgaa.K
open Go.RowKit Go.Proofs.YtfejfljgdeglgaaW.PrintWords Go.Proofs.YtfejfljgdeglgaaW.PrintLast Go.Proofs.YtfejfljgdeglgaaW.PrintMore
attribute [local go_sem] max2_int min2_int max_two min_two max_three min_three max_four min_four   -- for this text's walks alone
set_option linter.unusedVariables false
set_option linter.unusedSimpArgs false

/-! ### judge_need: function 45 -/
def judge_need.l0 : Nat → Int → Int → Int → Option (Int)
  | 0, _, _, _ => none
  | k + 1, x3, x105000, x105001 => (judge_enough.f x105000 x105001 x3).bind fun t105 => (if t105 = true then (some x3) else (judge_need.l0 k (wrap64 (x3 + 1)) x105000 x105001))
def judge_need.f (k : Nat) (a0_0 : Int) (a0_1 : Int) : Option (Int) := judge_need.l0 k 0 a0_0 a0_1
theorem judge_need.mono_l : ∀ k, (∀ y0 y1 y2, LeO (judge_need.l0 k y0 y1 y2) (judge_need.l0 (k + 1) y0 y1 y2))
  | 0 => fun _ _ _ r h => by simp [judge_need.l0] at h
  | k + 1 => by
    have ih0 := judge_need.mono_l k
    · intro y0 y1 y2
      unfold judge_need.l0
      repeat' first
      | (with_reducible exact ih0 _ _ _)
      | (with_reducible exact LeO.refl _)
      | (with_reducible exact LeO.none _)
      | (with_reducible refine LeO.ite ?_ ?_)
      | (with_reducible refine LeO.bind ?_ (fun _ => ?_))
      | exact ih0 _ _ _
      | exact LeO.none _
      | refine LeO.ite ?_ ?_
      | refine LeO.bind ?_ (fun _ => ?_)
theorem judge_need.mono : ∀ a0 a1 k, LeO (judge_need.f k a0 a1) (judge_need.f (k + 1) a0 a1) := by
  intro a0 a1 k
  have ih0 := judge_need.mono_l k
  unfold judge_need.f
  repeat' first
      | (with_reducible exact ih0 _ _ _)
      | (with_reducible exact LeO.refl _)
      | (with_reducible exact LeO.none _)
      | (with_reducible refine LeO.ite ?_ ?_)
      | (with_reducible refine LeO.bind ?_ (fun _ => ?_))
      | exact ih0 _ _ _
      | exact LeO.none _
      | refine LeO.ite ?_ ?_
      | refine LeO.bind ?_ (fun _ => ?_)
set_option maxHeartbeats 8000000 in
set_option maxRecDepth 100000 in
theorem judge_need.calls (k : Nat) (a0_0 : Int) (a0_1 : Int) (r : Int) (w : World) (h : judge_need.f k a0_0 a0_1 = some r) :
    Calls Try.prog 45 #[.agg #[.int .i64 a0_0, .int .i64 a0_1]] w fun e w' => e = .returned (.int .i64 r) ∧ Below w.heap.size w w' := by
  have hu58 := Try.underlying58
  have HB := Aside0.mk (Below.refl w.heap.size w)
  have H : (judge_need.l0 k 0 a0_0 a0_1) = some r := h
  clear h
  have H' := Aside0.mk H
  clear H
  go_enter Try.func45, Try.ntmps45
  go_wp2_with (first | ((with_reducible refine gate_dst (N := 1) rfl ?_); refine box_event ?hg (N := 1) ?hd (cs := #[.int .i64 a0_0, .int .i64 a0_1]) (t := 58) ?hr ?_; (case hd => rfl); (case hg => rfl); (case hr => first | (go_simp; done) | (go_simp; rfl)); intro gb104 hg w2 hbox hb; have n0_ := Aside0.mk (below_step (by repeat (first | (with_reducible first | exact HB.out | apply below_alloc | apply pw_below_drewN | apply below_drew1) | exact HB.out)) hb); have n1_ := Aside0.mk (hbox); have n2_ := Aside0.mk ((by rw [hg]; exact (below_size (by repeat (first | (with_reducible first | exact HB.out | apply below_alloc | apply pw_below_drewN | apply below_drew1) | exact HB.out))) : w.heap.size ≤ gb104)); have n3_ := Aside0.mk ((by rw [hg]; exact (below_size (by repeat (first | (with_reducible first | exact HB.out | apply below_alloc | apply pw_below_drewN | apply below_drew1) | exact HB.out))) : w.heap.size ≤ gb104)); clear HB; have HB := n0_; have BK104 := n1_; have GW104 := n2_; have GE104 := n3_; clear n0_ n1_ n2_ n3_; clear hb hbox hg))
  go_loopg [3] k (fun kq v3 w' => ∃ (x3_1 : Int), v3 = .int .i64 x3_1 ∧ Aside0 (judge_need.l0 kq x3_1 a0_0 a0_1 = some r) ∧ Aside0 (kq ≤ k) ∧ Aside0 (w'.heap[gb104]? = some (.cells #[.int .i64 a0_0, .int .i64 a0_1] 58 (0, 0))) ∧ Aside0 (Below w.heap.size w w'))
  case atStart => exact ⟨(0), (by first | rfl | (simp; done) | (simp [*]; done)), H', ⟨Nat.le_refl _⟩, ⟨by (with_reducible repeat (first | refine blk_drewN ?_ _ | refine blk_drew ?_ | refine blk_alloc ?_ _)); exact BK104.out⟩, ⟨by repeat (first | (with_reducible first | exact HB.out | apply below_alloc | apply pw_below_drewN | apply below_drew1 | refine below_set ?_ GE104.out) | exact HB.out)⟩⟩
  case round =>
    clear H'
    try clear p2
    obtain ⟨x3_1, rfl, HA, HK1, BK104, HB⟩ := hrel
    cases gk with
    | zero => exact absurd HA.out (by simp [judge_need.l0])
    | succ k1 =>
      have H := HA.out
      clear HA
      simp only [judge_need.l0] at H
      replace H := Option.bind_eq_some_iff.mp H
      obtain ⟨t105, A30, H⟩ := H
      replace H : (if t105 = true then (some x3_1) else (judge_need.l0 k1 (wrap64 (x3_1 + 1)) a0_0 a0_1)) = some r := H
      have A3 := Aside0.mk A30
      clear A30
      by_cases c4 : t105 = true
      · subst c4
        have H1 : (some x3_1) = some r := by rw [if_pos rfl] at H; exact H
        clear H
        have H := H1
        clear H1
        obtain rfl := Option.some.inj H
        have hcz5_0 : wr.cell? ⟨gb104, 0, none⟩ = some (.int .i64 a0_0) := (blk_cell BK104.out 0).trans rfl
        have hcz5_1 : wr.cell? ⟨gb104, 1, none⟩ = some (.int .i64 a0_1) := (blk_cell BK104.out 1).trans rfl
        have hfz5_0 := blk_frozen BK104.out 0
        have hfz5_1 := blk_frozen BK104.out 1
        go_wp2_with (first | ((with_reducible refine gate_callee (f := 55) rfl ?_); refine goesL_ (some 6) rfl rfl Try.func55 (by kernel_rfl) rfl #[.agg #[.int .i64 a0_0, .int .i64 a0_1], .int .i64 x3_1] rfl (by (try simp only [List.map_toArray, List.map_cons, List.map_nil]); first | done | rfl | (simp only [List.length_drop, List.length_take]; rfl)) ?_; (with_reducible refine (judge_enough.calls a0_0 a0_1 x3_1 true _ A3.out).mono ?_); rintro e w6 ⟨rfl, hb⟩; refine ⟨_, rfl, ?_⟩; have n0_ := Aside0.mk (blk_below (g := gb104) (o := .cells #[.int .i64 a0_0, .int .i64 a0_1] 58 (0, 0)) (by (with_reducible repeat (first | refine blk_drewN ?_ _ | refine blk_drew ?_ | refine blk_alloc ?_ _)); exact BK104.out) hb); have n1_ := Aside0.mk (below_step (by repeat (first | (with_reducible first | exact HB.out | apply below_alloc | apply pw_below_drewN | apply below_drew1 | refine below_set ?_ GE104.out) | exact HB.out)) hb); clear BK104; clear HB; have BK104 := n0_; have HB := n1_; clear n0_ n1_; (try clear hb); (try clear hb2); (try clear hk); (try clear hi)))
        go_ret
        exact ⟨by first | rfl | (simp [errW_none, errW_some] <;> rfl) | (simp [*, errW_none, errW_some] <;> rfl), by repeat (first | (with_reducible first | exact HB.out | apply below_alloc | apply pw_below_drewN | apply below_drew1 | refine below_set ?_ GE104.out) | exact HB.out)⟩
      · replace c4 := Bool.eq_false_iff.mpr c4
        subst c4
        have H1 : (judge_need.l0 k1 (wrap64 (x3_1 + 1)) a0_0 a0_1) = some r := by rw [if_neg (show ¬ (false = true) by decide)] at H; exact H
        clear H
        have H := H1
        clear H1
        have H' := Aside0.mk H
        clear H
        have hcz7_0 : wr.cell? ⟨gb104, 0, none⟩ = some (.int .i64 a0_0) := (blk_cell BK104.out 0).trans rfl
        have hcz7_1 : wr.cell? ⟨gb104, 1, none⟩ = some (.int .i64 a0_1) := (blk_cell BK104.out 1).trans rfl
        have hfz7_0 := blk_frozen BK104.out 0
        have hfz7_1 := blk_frozen BK104.out 1
        go_wp2_with (first | ((with_reducible refine gate_callee (f := 55) rfl ?_); refine goesL_ (some 6) rfl rfl Try.func55 (by kernel_rfl) rfl #[.agg #[.int .i64 a0_0, .int .i64 a0_1], .int .i64 x3_1] rfl (by (try simp only [List.map_toArray, List.map_cons, List.map_nil]); first | done | rfl | (simp only [List.length_drop, List.length_take]; rfl)) ?_; (with_reducible refine (judge_enough.calls a0_0 a0_1 x3_1 false _ A3.out).mono ?_); rintro e w8 ⟨rfl, hb⟩; refine ⟨_, rfl, ?_⟩; have n0_ := Aside0.mk (blk_below (g := gb104) (o := .cells #[.int .i64 a0_0, .int .i64 a0_1] 58 (0, 0)) (by (with_reducible repeat (first | refine blk_drewN ?_ _ | refine blk_drew ?_ | refine blk_alloc ?_ _)); exact BK104.out) hb); have n1_ := Aside0.mk (below_step (by repeat (first | (with_reducible first | exact HB.out | apply below_alloc | apply pw_below_drewN | apply below_drew1 | refine below_set ?_ GE104.out) | exact HB.out)) hb); clear BK104; clear HB; have BK104 := n0_; have HB := n1_; clear n0_ n1_; (try clear hb); (try clear hb2); (try clear hk); (try clear hi)))
        go_roundg k1
        case measure => have := HK1.out; omega
        case rel => exact ⟨(wrap64 (x3_1 + 1)), (by first | rfl | (simp; done) | (simp [*]; done)), H', ⟨by have := HK1.out; omega⟩, ⟨by (with_reducible repeat (first | refine blk_drewN ?_ _ | refine blk_drew ?_ | refine blk_alloc ?_ _)); exact BK104.out⟩, ⟨by repeat (first | (with_reducible first | exact HB.out | apply below_alloc | apply pw_below_drewN | apply below_drew1 | refine below_set ?_ GE104.out) | exact HB.out)⟩⟩

end Go.Proofs.Ytfejfljgdeglgaa.K

/- Plain: the document's table and the numbers of questions that are needed. -/
namespace Go.Proofs.Ytfejfljgdeglgaa.K
open Go.RowKit Go.Proofs.YtfejfljgdeglgaaW.PrintWords Go.Proofs.YtfejfljgdeglgaaW.PrintLast Go.Proofs.YtfejfljgdeglgaaW.PrintMore
set_option linter.unusedVariables false
set_option linter.unusedSimpArgs false
theorem ry_spec (f : Nat → Bool) : ∀ m y v, ry f m y v = true ↔ v = true ∨ ∃ y', y ≤ y' ∧ y' < y + m ∧ f y' = true
  | 0, y, v => by
    rw [ry]
    constructor
    · exact .inl
    · rintro (h | ⟨y', h1, h2, _⟩)
      · exact h
      · omega
  | m + 1, y, v => by
    rw [ry]
    by_cases hv : v = true
    · rw [if_pos hv]; exact ⟨fun _ => .inl hv, fun _ => rfl⟩
    · rw [if_neg hv, ry_spec f m (y + 1) (f y)]
      constructor
      · rintro (h | ⟨y', h1, h2, h3⟩)
        · exact .inr ⟨y, by omega, by omega, h⟩
        · exact .inr ⟨y', by omega, by omega, h3⟩
      · rintro (h | ⟨y', h1, h2, h3⟩)
        · exact absurd h hv
        · by_cases e : y' = y
          · rw [e] at h3; exact .inl h3
          · exact .inr ⟨y', by omega, by omega, h3⟩
theorem rx_spec (f : Nat → Nat → Bool) (b : Nat) : ∀ m x v, rx f b m x v = true ↔ v = true ∨ ∃ x' y', x ≤ x' ∧ x' < x + m ∧ y' ≤ b ∧ f x' y' = true
  | 0, x, v => by
    rw [rx]
    constructor
    · exact .inl
    · rintro (h | ⟨x', y', h1, h2, _⟩)
      · exact h
      · omega
  | m + 1, x, v => by
    rw [rx]
    by_cases hv : v = true
    · rw [if_pos hv]; exact ⟨fun _ => .inl hv, fun _ => rfl⟩
    · have hv' : v = false := by simpa using hv
      rw [if_neg hv, rx_spec f b m (x + 1), ry_spec, hv']
      constructor
      · rintro ((h | ⟨y', h1, h2, h3⟩) | ⟨x', y', h1, h2, h3, h4⟩)
        · cases h
        · exact .inr ⟨x, y', by omega, by omega, by omega, h3⟩
        · exact .inr ⟨x', y', by omega, by omega, h3, h4⟩
      · rintro (h | ⟨x', y', h1, h2, h3, h4⟩)
        · cases h
        · by_cases e : x' = x
          · rw [e] at h4; exact .inl (.inr ⟨y', by omega, by omega, h4⟩)
          · exact .inr ⟨x', y', by omega, by omega, h3, h4⟩
/-- The document's table tells for which states so many questions are enough. -/
theorem tab_En : ∀ q n a b, n ≤ 32 → a + b ≤ n → (tabQ n q (a * 33 + b) = true ↔ En q a b)
  | 0, n, a, b, hn, h => by
    show T0 (a * 33 + b) = true ↔ a + b ≤ 1
    unfold T0
    simp only [Bool.or_eq_true, beq_iff_eq]
    omega
  | q + 1, n, a, b, hn, h => by
    have ih := fun a b => tab_En q n a b hn
    have e1 : (a * 33 + b) / 33 = a := by omega
    have e2 : (a * 33 + b) % 33 = b := by omega
    show Tab (tabQ n q) n (n + 1) 0 (a * 33 + b) = true ↔ _
    unfold Tab
    rw [e1, e2, if_pos (by omega)]
    unfold stepV
    rw [rx_spec, ih a b h]
    show _ ↔ En q a b ∨ _
    constructor
    · rintro (h1 | ⟨x, y, _, hx, hy, hf⟩)
      · exact .inl h1
      · unfold fT at hf
        rw [Bool.and_eq_true] at hf
        exact .inr ⟨x, y, by omega, hy, (ih _ _ (by omega)).1 hf.1, (ih _ _ (by omega)).1 hf.2⟩
    · rintro (h1 | ⟨x, y, hx, hy, h1, h2⟩)
      · exact .inl h1
      · refine .inr ⟨x, y, by omega, by omega, hy, ?_⟩
        unfold fT
        rw [Bool.and_eq_true]
        exact ⟨(ih _ _ (by omega)).2 h1, (ih _ _ (by omega)).2 h2⟩
theorem solve_tab (q a b : Nat) (ha : a ≤ 16) (hb : b ≤ 16) : (solveP q a b).2.2 = tabQ (a + b) q (a * 33 + b) := by
  rw [Bool.eq_iff_iff, solveP_ok, tab_En q (a + b) a b (by omega) (Nat.le_refl _)]
theorem jenough (a b q : Nat) (ha : a ≤ 16) (hb : b ≤ 16) (hq : q ≤ 12) : judge_enough.f a b q = some (tabQ (a + b) q (a * 33 + b)) := by
  unfold judge_enough.f
  rw [if_pos (by omega)]
  simp only [Int.toNat_natCast]
  rw [solve_tab q a b ha hb]
theorem needF_le (a b : Nat) : ∀ m q, needF a b m q ≤ q + m
  | 0, q => Nat.le_refl _
  | m + 1, q => by
    have := needF_le a b m (q + 1)
    rw [needF]
    split <;> omega
theorem needF_En (a b : Nat) (ha : a ≤ 16) (hb : b ≤ 16) : ∀ m q, q + m = 12 → En (needF a b m q) a b
  | 0, q, h => by rw [needF, show q = 12 by omega]; exact En.twelve ha hb
  | m + 1, q, h => by
    rw [needF]
    split
    · rename_i hs
      exact (tab_En q (a + b) a b (by omega) (Nat.le_refl _)).1 hs
    · exact needF_En a b ha hb m (q + 1) (by omega)
theorem jneed (a b : Nat) (ha : a ≤ 16) (hb : b ≤ 16) : ∀ m q k : Nat, q + m = 12 → m < k → judge_need.l0 k (q : Int) a b = some ((needF a b m q : Nat) : Int)
  | m, q, 0, _, h => by omega
  | 0, q, k + 1, h, hk => by
    rw [judge_need.l0, jenough a b q ha hb (by omega), Option.bind_some]
    have e : tabQ (a + b) q (a * 33 + b) = true := (tab_En q (a + b) a b (by omega) (Nat.le_refl _)).2 (by rw [show q = 12 by omega]; exact En.twelve ha hb)
    rw [if_pos e]
    rfl
  | m + 1, q, k + 1, h, hk => by
    rw [judge_need.l0, jenough a b q ha hb (by omega), Option.bind_some, needF]
    by_cases e : tabQ (a + b) q (a * 33 + b) = true
    · rw [if_pos e, if_pos e]
    · rw [if_neg e, if_neg e, show wrap64 ((q : Int) + 1) = ((q + 1 : Nat) : Int) by unfold wrap64; omega]
      exact jneed a b ha hb m (q + 1) k (by omega) (by omega)
theorem needF_min (a b : Nat) (hab : a + b ≤ 32) : ∀ m q j : Nat, q ≤ j → j ≤ q + m → En j a b → needF a b m q ≤ j
  | 0, q, j, h1, h2, h => by rw [needF]; exact h1
  | m + 1, q, j, h1, h2, h => by
    rw [needF]
    split
    · exact h1
    · rename_i hs
      by_cases e : j = q
      · rw [e] at h
        exact absurd ((tab_En q (a + b) a b hab (Nat.le_refl _)).2 h) hs
      · exact needF_min a b hab m (q + 1) j (by omega) (by omega) h
end Go.Proofs.Ytfejfljgdeglgaa.K

/- DERIVED by wip/pr.py: for each Go function named below a Lean function with the same answers, and that a call of it comes to these answers, for all arguments and memories, where the Lean function has an answer. -/
namespace Go.Proofs.Ytfejfljgdeglgaa.K
open Go.RowKit Go.Proofs.YtfejfljgdeglgaaW.PrintWords Go.Proofs.YtfejfljgdeglgaaW.PrintLast Go.Proofs.YtfejfljgdeglgaaW.PrintMore
attribute [local go_sem] max2_int min2_int max_two min_two max_three min_three max_four min_four   -- for this text's walks alone
set_option linter.unusedVariables false
set_option linter.unusedSimpArgs false

/-! ### judge_Need: function 18 -/
def judge_Need.f (k : Nat) (a0 : Int) (a1 : Int) : Option (Int × Int) := (judge_numbers.f a0 a1 0).bind fun t106 => (if t106 = 0 then ((judge_need.f k a0 a1).bind fun t107 => (some (t107, 0))) else (some (0, t106)))
theorem judge_Need.mono : ∀ a0 a1 k, LeO (judge_Need.f k a0 a1) (judge_Need.f (k + 1) a0 a1) := by
  intro a0 a1 k
  unfold judge_Need.f
  repeat' first
      | (with_reducible exact judge_need.mono _ _ _)
      | (with_reducible exact LeO.refl _)
      | (with_reducible exact LeO.none _)
      | (with_reducible refine LeO.ite ?_ ?_)
      | (with_reducible refine LeO.bind ?_ (fun _ => ?_))
      | exact judge_need.mono _ _ _
      | exact LeO.none _
      | refine LeO.ite ?_ ?_
      | refine LeO.bind ?_ (fun _ => ?_)
set_option maxHeartbeats 8000000 in
set_option maxRecDepth 100000 in
theorem judge_Need.calls (k : Nat) (a0 : Int) (a1 : Int) (r1 : Int) (r2 : Int) (w : World) (h : judge_Need.f k a0 a1 = some (r1, r2)) :
    Calls Try.prog 18 #[.int .i64 a0, .int .i64 a1] w fun e w' => e = .returned (.tuple #[.int .i64 r1, .int .i64 r2]) ∧ Below w.heap.size w w' := by
  have hu58 := Try.underlying58
  have HB := Aside0.mk (Below.refl w.heap.size w)
  have H : ((judge_numbers.f a0 a1 0).bind fun t106 => (if t106 = 0 then ((judge_need.f k a0 a1).bind fun t107 => (some (t107, 0))) else (some (0, t106)))) = some (r1, r2) := h
  clear h
  replace H := Option.bind_eq_some_iff.mp H
  obtain ⟨t106, A30, H⟩ := H
  replace H : (if t106 = 0 then ((judge_need.f k a0 a1).bind fun t107 => (some (t107, 0))) else (some (0, t106))) = some (r1, r2) := H
  have A3 := Aside0.mk A30
  clear A30
  by_cases c4 : t106 = 0
  · rw [if_pos c4] at H
    have c4b0 : (t106 == 0) = true := beq_iff_eq.mpr c4
    have c4b1 : (t106 != 0) = false := bne_eq_false_iff_eq.mpr c4
    clear c4
    replace H := Option.bind_eq_some_iff.mp H
    obtain ⟨t107, A50, H⟩ := H
    replace H : (some (t107, 0)) = some (r1, r2) := H
    have A5 := Aside0.mk A50
    clear A50
    simp only [Option.some.injEq, Prod.mk.injEq] at H
    obtain ⟨rfl, rfl⟩ := H
    go_enter Try.func18, Try.ntmps18
    go_wp2_with (first | ((with_reducible refine gate_callee (f := 44) rfl ?_); refine goesL_ (some 9) rfl rfl Try.func44 (by kernel_rfl) rfl #[.int .i64 a0, .int .i64 a1, .int .i64 0] rfl (by (try simp only [List.map_toArray, List.map_cons, List.map_nil]); first | done | rfl | (simp only [List.length_drop, List.length_take]; rfl)) ?_; (with_reducible refine (judge_numbers.calls a0 a1 0 t106 _ A3.out).mono ?_); rintro e w' ⟨rfl, ⟨nd, rfl⟩⟩; refine ⟨_, rfl, ?_⟩) | ((with_reducible refine gate_callee (f := 45) rfl ?_); refine goesL_ (some 16) rfl rfl Try.func45 (by kernel_rfl) rfl #[.agg #[.int .i64 a0, .int .i64 a1]] rfl (by (try simp only [List.map_toArray, List.map_cons, List.map_nil]); first | done | rfl | (simp only [List.length_drop, List.length_take]; rfl)) ?_; (with_reducible refine (judge_need.calls k a0 a1 t107 _ A5.out).mono ?_); rintro e w6 ⟨rfl, hb⟩; refine ⟨_, rfl, ?_⟩; have n0_ := Aside0.mk (below_step (by repeat (first | (with_reducible first | exact HB.out | apply below_alloc | apply pw_below_drewN | apply below_drew1) | exact HB.out)) hb); clear HB; have HB := n0_; clear n0_; (try clear hb); (try clear hb2); (try clear hk); (try clear hi)))
    go_ret2
    exact ⟨by first | rfl | (simp [errW_none, errW_some] <;> rfl) | (simp [*, errW_none, errW_some] <;> rfl), by repeat (first | (with_reducible first | exact HB.out | apply below_alloc | apply pw_below_drewN | apply below_drew1) | exact HB.out)⟩
  · rw [if_neg c4] at H
    have c4b0 : (t106 == 0) = false := beq_eq_false_iff_ne.mpr c4
    have c4b1 : (t106 != 0) = true := bne_iff_ne.mpr c4
    simp only [Option.some.injEq, Prod.mk.injEq] at H
    obtain ⟨rfl, rfl⟩ := H
    go_enter Try.func18, Try.ntmps18
    go_wp2_with (first | ((with_reducible refine gate_callee (f := 44) rfl ?_); refine goesL_ (some 9) rfl rfl Try.func44 (by kernel_rfl) rfl #[.int .i64 a0, .int .i64 a1, .int .i64 0] rfl (by (try simp only [List.map_toArray, List.map_cons, List.map_nil]); first | done | rfl | (simp only [List.length_drop, List.length_take]; rfl)) ?_; (with_reducible refine (judge_numbers.calls a0 a1 0 t106 _ A3.out).mono ?_); rintro e w' ⟨rfl, ⟨nd, rfl⟩⟩; refine ⟨_, rfl, ?_⟩))
    go_ret2
    exact ⟨by first | rfl | (simp [errW_none, errW_some] <;> rfl) | (simp [*, errW_none, errW_some] <;> rfl), by repeat (first | (with_reducible first | exact HB.out | apply below_alloc | apply pw_below_drewN | apply below_drew1) | exact HB.out)⟩

end Go.Proofs.Ytfejfljgdeglgaa.K

/- What judge.Validate answers. -/
namespace Go.Proofs.Ytfejfljgdeglgaa.K
open Go.RowKit Go.Proofs.YtfejfljgdeglgaaW.PrintWords Go.Proofs.YtfejfljgdeglgaaW.PrintLast Go.Proofs.YtfejfljgdeglgaaW.PrintMore
set_option linter.unusedVariables false
set_option linter.unusedSimpArgs false

set_option maxHeartbeats 4000000 in
set_option maxRecDepth 100000 in
theorem validate1 (x : S49) (A : Option Addr) (c G : Nat) (g : Int) (hg0 : 0 ≤ g) (hg1 : g ≤ 1000) (w : World) (hr : Kd.C (Kd.int .i64) w A x.f0.length x.f0) (hc : x.f0.length ≤ c) (hb : w.cell? ⟨G, 0, none⟩ = some (.int .i64 g)) :
    Calls Try.prog 83 #[.agg #[.slice A x.f0.length c, .bool x.f1], .pointer (some ⟨G, 0, none⟩)] w fun e w' => e = .returned (.bool (!isSetP x.f0 g)) ∧ Below w.heap.size w w' := by
  have HR := Aside0.mk hr
  have hB : Below w.heap.size w (w.alloc (Obj.cells #[.slice A x.f0.length c, .bool x.f1] 49)) := below_alloc (Below.refl _ _) _
  have hG : G < w.heap.size := World.block_lt_of_cell? w _ hb
  have hb2 : (w.alloc (Obj.cells #[.slice A x.f0.length c, .bool x.f1] 49)).cell? ⟨G, 0, none⟩ = some (.int .i64 g) := (World.cell?_alloc_past _ _ _ hG).trans hb
  clear hr hb
  go_enter Try.func83, Try.ntmps83
  go_wp2_with (first | (go_at_call 84; refine (isSet84 x.f0 A c g hg0 hg1 _ (Kd.C_alloc HR.out _) hc).mono ?_; rintro e w' ⟨rfl, ⟨nd, rfl⟩⟩))
  go_ret
  exact ⟨rfl, pw_below_drewN hB _⟩

def allSetF (l : List S49) (g : Int) : Nat → Nat → Bool
  | 0, _ => true
  | m + 1, i => if isSetP (rd_T49 l i).f0 g = true then allSetF l g m (i + 1) else false
/-- Whether all answers name sets of grades. -/
def allSet (l : List S49) (g : Int) : Bool := allSetF l g l.length 0

set_option maxHeartbeats 4000000 in
set_option maxRecDepth 100000 in
theorem validateAny (l : List S49) (A : Option Addr) (c G : Nat) (g : Int) (hg0 : 0 ≤ g) (hg1 : g ≤ 1000) (w : World) (hr : Kd.C k49 w A l.length l) (hc : l.length ≤ c) (hb : w.cell? ⟨G, 0, none⟩ = some (.int .i64 g)) :
    Calls Try.prog 94 #[.slice A l.length c, .func (.func 83) #[] #[.pointer (some ⟨G, 0, none⟩)]] w fun e w' => (∃ n : Int, e = .returned (.int .i64 n) ∧ (0 ≤ n ↔ allSet l g = false)) ∧ Below w.heap.size w w' := by
  have hm := hr.2.1
  have HR0 := Aside0.mk hr
  have HG := Aside0.mk hb
  clear hr hb
  go_enter Try.func94, Try.ntmps94
  go_wp2
  go_loopw [8] (fun i wr => ∃ n : Nat, n ≤ l.length ∧ i = .int .i64 n ∧ allSet l g = allSetF l g (l.length - n) n ∧ Below w.heap.size w wr) (fun i _ => l.length - (intOf i).toNat)
  case atStart => exact ⟨0, Nat.zero_le _, rfl, rfl, Below.refl _ _⟩
  case round =>
    obtain ⟨n, hn, rfl, hs, hB⟩ := hrel
    have HS := Aside0.mk hs
    have HB := Aside0.mk hB
    clear hs
    by_cases hlt : n < l.length
    · obtain ⟨ad, A1, c1, e, hx0, hx1, hl1, hr1⟩ := at_T49 (Kd.C_below HR0.out hB) (n : Int) (by omega) (by omega)
      cases e
      rw [Int.toNat_natCast] at hx0 hx1
      have hg := cell_kept HG.out (grown_of_below hB) (by simp)
      have HG2 := Aside0.mk hg
      have HR1 := Aside0.mk hr1
      have HL1 := Aside0.mk hl1
      clear hB hr1 hl1 hg
      have b0 := eq_true (show 0 ≤ (n : Int) by omega)
      have b1 := eq_true (show (n : Int) < (l.length : Int) by omega)
      cases hset : isSetP (rd_T49 l n).f0 g
      · have HT := Aside0.mk hset
        clear hset
        go_wp2_with (first | (go_at_call 83; refine (validate1 (rd_T49 l n) A1 c1 G g hg0 hg1 _ HR1.out HL1.out HG2.out).mono ?_; rintro e w2 ⟨rfl, hb2⟩; have HB2 := Aside0.mk (below_step HB.out hb2); clear hb2; rw [HT.out]; simp only [Bool.not_false]))
        go_ret
        exact ⟨⟨n, rfl, by constructor; (intro _; rw [HS.out, show l.length - n = (l.length - n - 1) + 1 by omega, allSetF, HT.out]; rfl); (intro _; omega)⟩, HB2.out⟩
      · have HT := Aside0.mk hset
        clear hset
        go_wp2_with (first | (go_at_call 83; refine (validate1 (rd_T49 l n) A1 c1 G g hg0 hg1 _ HR1.out HL1.out HG2.out).mono ?_; rintro e w2 ⟨rfl, hb2⟩; have HB2 := Aside0.mk (below_step HB.out hb2); clear hb2; rw [HT.out]; simp only [Bool.not_true]))
        go_roundw
        case rel => exact ⟨n + 1, by omega, by go_num, by rw [HS.out, show l.length - n = (l.length - (n + 1)) + 1 by omega, allSetF, HT.out]; rfl, HB2.out⟩
        case measure => simp [intOf]; omega
    · have e : n = l.length := by omega
      subst e
      go_wp2
      go_ret
      exact ⟨⟨-1, rfl, by constructor; (intro h; omega); (intro h; rw [HS.out, Nat.sub_self] at h; cases h)⟩, HB.out⟩
set_option maxHeartbeats 4000000 in
set_option maxRecDepth 100000 in
theorem validateHas (l : List S49) (A : Option Addr) (c G : Nat) (g : Int) (hg0 : 0 ≤ g) (hg1 : g ≤ 1000) (w : World) (hr : Kd.C k49 w A l.length l) (hc : l.length ≤ c) (hb : w.cell? ⟨G, 0, none⟩ = some (.int .i64 g)) :
    Calls Try.prog 82 #[.slice A l.length c, .func (.func 83) #[] #[.pointer (some ⟨G, 0, none⟩)]] w fun e w' => e = .returned (.bool (!allSet l g)) ∧ Below w.heap.size w w' := by
  have HR0 := Aside0.mk hr
  have HG := Aside0.mk hb
  clear hr hb
  cases hs : allSet l g
  · have HS := Aside0.mk hs
    clear hs
    go_enter Try.func82, Try.ntmps82
    go_wp2_with (first | (go_at_call 94; refine (validateAny l A c G g hg0 hg1 _ HR0.out hc HG.out).mono ?_; rintro e w2 ⟨⟨n, rfl, hn⟩, hb2⟩; have HB2 := Aside0.mk hb2; have hn0 : 0 ≤ n := hn.2 HS.out; have b0 := eq_true hn0; clear hb2 hn))
    go_ret
    exact ⟨by first | rfl | simp [hn0], HB2.out⟩
  · have HS := Aside0.mk hs
    clear hs
    go_enter Try.func82, Try.ntmps82
    go_wp2_with (first | (go_at_call 94; refine (validateAny l A c G g hg0 hg1 _ HR0.out hc HG.out).mono ?_; rintro e w2 ⟨⟨n, rfl, hn⟩, hb2⟩; have HB2 := Aside0.mk hb2; have hn0 : ¬ 0 ≤ n := (by intro h; have := hn.1 h; rw [HS.out] at this; cases this); have b0 := eq_false hn0; clear hb2 hn))
    go_ret
    exact ⟨by first | rfl | (simp; omega), HB2.out⟩
/-- judge.Validate. -/
def judge_Validate.f (a0 : Int) (l1 : List S49) : Option Int := if 1 ≤ a0 ∧ a0 ≤ 16 then (if l1.length > 12 then some 3 else some (if allSet l1 a0 = true then 0 else 1)) else some 1
theorem g_cell (W : World) (g : Int) : (W.alloc (Obj.cells #[.int .i64 g] 3)).cell? ⟨W.heap.size, 0, none⟩ = some (.int .i64 g) := World.cell?_alloc_at _ _ _ _ rfl
set_option maxHeartbeats 4000000 in
set_option maxRecDepth 100000 in
theorem judge_Validate.calls (a0 : Int) (A1 : Option Addr) (c1 : Nat) (l1 : List S49) (r : Int) (w : World) (hr1 : Kd.C k49 w A1 l1.length l1) (hc1 : l1.length ≤ c1) (h : judge_Validate.f a0 l1 = some r) :
    Calls Try.prog 51 #[.int .i64 a0, .slice A1 l1.length c1] w fun e w' => e = .returned (.int .i64 r) ∧ Below w.heap.size w w' := by
  have hm := hr1.2.1
  have HR := Aside0.mk hr1
  have hBa : Below w.heap.size w (w.alloc (Obj.cells #[.int .i64 a0] 3)) := below_alloc (Below.refl _ _) _
  have HBA := Aside0.mk hBa
  have hg := g_cell w a0
  clear hr1 hBa
  unfold judge_Validate.f at h
  by_cases hg1 : 1 ≤ a0 ∧ a0 ≤ 16
  · rw [if_pos hg1] at h
    obtain ⟨hg1, hg2⟩ := hg1
    have HW := Aside0.mk ((jwithin a0 1 16).trans (by rw [decide_eq_true ⟨hg1, hg2⟩]) : judge_within.f a0 1 16 = some true)
    by_cases hl : l1.length > 12
    · rw [if_pos hl] at h
      obtain rfl := Option.some.inj h
      clear h
      go_enter Try.func51, Try.ntmps51
      go_wp2_with (first | (go_at_call 78; (with_reducible refine (judge_within.calls _ _ _ _ _ HW.out).mono ?_); rintro e w' ⟨rfl, ⟨nd, rfl⟩⟩))
      go_ret
      exact ⟨rfl, pw_below_drewN HBA.out _⟩
    · rw [if_neg hl] at h
      obtain rfl := Option.some.inj h
      clear h
      go_enter Try.func51, Try.ntmps51
      cases hs : allSet l1 a0
      · have HS := Aside0.mk hs
        clear hs
        go_wp2_with (first
          | (go_at_call 78; (with_reducible refine (judge_within.calls _ _ _ _ _ HW.out).mono ?_); rintro e w' ⟨rfl, ⟨nd, rfl⟩⟩)
          | (go_at_call 82; refine (validateHas l1 A1 c1 w.heap.size a0 (by omega) (by omega) _ (Kd.C_drewN (Kd.C_alloc HR.out _) _) hc1 hg).mono ?_; rintro e w2 ⟨rfl, hb2⟩; have HB2 := Aside0.mk hb2; clear hb2; rw [HS.out]; simp only [Bool.not_false]))
        go_ret
        exact ⟨rfl, below_step (pw_below_drewN HBA.out _) HB2.out⟩
      · have HS := Aside0.mk hs
        clear hs
        go_wp2_with (first
          | (go_at_call 78; (with_reducible refine (judge_within.calls _ _ _ _ _ HW.out).mono ?_); rintro e w' ⟨rfl, ⟨nd, rfl⟩⟩)
          | (go_at_call 82; refine (validateHas l1 A1 c1 w.heap.size a0 (by omega) (by omega) _ (Kd.C_drewN (Kd.C_alloc HR.out _) _) hc1 hg).mono ?_; rintro e w2 ⟨rfl, hb2⟩; have HB2 := Aside0.mk hb2; clear hb2; rw [HS.out]; simp only [Bool.not_true]))
        go_ret
        exact ⟨rfl, below_step (pw_below_drewN HBA.out _) HB2.out⟩
  · rw [if_neg hg1] at h
    obtain rfl := Option.some.inj h
    clear h
    have HW := Aside0.mk ((jwithin a0 1 16).trans (by rw [decide_eq_false hg1]) : judge_within.f a0 1 16 = some false)
    go_enter Try.func51, Try.ntmps51
    go_wp2_with (first | (go_at_call 78; (with_reducible refine (judge_within.calls _ _ _ _ _ HW.out).mono ?_); rintro e w' ⟨rfl, ⟨nd, rfl⟩⟩))
    go_ret
    exact ⟨rfl, pw_below_drewN HBA.out _⟩
end Go.Proofs.Ytfejfljgdeglgaa.K

/- DERIVED by wip/pr.py: for each Go function named below a Lean function with the same answers, and that a call of it comes to these answers, for all arguments and memories, where the Lean function has an answer. -/
namespace Go.Proofs.Ytfejfljgdeglgaa.K
open Go.RowKit Go.Proofs.YtfejfljgdeglgaaW.PrintWords Go.Proofs.YtfejfljgdeglgaaW.PrintLast Go.Proofs.YtfejfljgdeglgaaW.PrintMore
attribute [local go_sem] max2_int min2_int max_two min_two max_three min_three max_four min_four   -- for this text's walks alone
set_option linter.unusedVariables false
set_option linter.unusedSimpArgs false

/-! ### judge_Grade: function 47 -/
def judge_Grade.f (k : Nat) (a0 : Int) (l1 : List (S49)) : Option (Int × Bool × Int) := (judge_Validate.f a0 l1).bind fun t131 => (if t131 = 0 then ((judge_left.f k a0 l1 0 1).bind fun t132 => (if (t132.length : Int) = 1 then (if 0 < (t132.length : Int) then (some (rd t132 0, true, 0)) else (none)) else (some (0, false, 0)))) else (some (0, false, t131)))
theorem judge_Grade.mono : ∀ a0 a1 k, LeO (judge_Grade.f k a0 a1) (judge_Grade.f (k + 1) a0 a1) := by
  intro a0 a1 k
  unfold judge_Grade.f
  repeat' first
      | (with_reducible exact judge_left.mono _ _ _ _ _)
      | (with_reducible exact LeO.refl _)
      | (with_reducible exact LeO.none _)
      | (with_reducible refine LeO.ite ?_ ?_)
      | (with_reducible refine LeO.bind ?_ (fun _ => ?_))
      | exact judge_left.mono _ _ _ _ _
      | exact LeO.none _
      | refine LeO.ite ?_ ?_
      | refine LeO.bind ?_ (fun _ => ?_)
set_option maxHeartbeats 8000000 in
set_option maxRecDepth 100000 in
theorem judge_Grade.calls (k : Nat) (a0 : Int) (A1 : Option Addr) (c1 : Nat) (l1 : List (S49)) (r1 : Int) (r2 : Bool) (r3 : Int) (w : World) (hr1 : Kd.C k49 w A1 l1.length l1) (hc1 : l1.length ≤ c1) (h : judge_Grade.f k a0 l1 = some (r1, r2, r3)) :
    Calls Try.prog 47 #[.int .i64 a0, .slice A1 l1.length c1] w fun e w' => e = .returned (.tuple #[.int .i64 r1, .bool r2, .int .i64 r3]) ∧ Below w.heap.size w w' := by
  have HR1 := Aside0.mk hr1
  have HC1 := Aside0.mk hc1
  clear hr1 hc1
  have HB := Aside0.mk (Below.refl w.heap.size w)
  have H : ((judge_Validate.f a0 l1).bind fun t131 => (if t131 = 0 then ((judge_left.f k a0 l1 0 1).bind fun t132 => (if (t132.length : Int) = 1 then (if 0 < (t132.length : Int) then (some (rd t132 0, true, 0)) else (none)) else (some (0, false, 0)))) else (some (0, false, t131)))) = some (r1, r2, r3) := h
  clear h
  replace H := Option.bind_eq_some_iff.mp H
  obtain ⟨t131, A30, H⟩ := H
  replace H : (if t131 = 0 then ((judge_left.f k a0 l1 0 1).bind fun t132 => (if (t132.length : Int) = 1 then (if 0 < (t132.length : Int) then (some (rd t132 0, true, 0)) else (none)) else (some (0, false, 0)))) else (some (0, false, t131))) = some (r1, r2, r3) := H
  have A3 := Aside0.mk A30
  clear A30
  by_cases c4 : t131 = 0
  · rw [if_pos c4] at H
    have c4b0 : (t131 == 0) = true := beq_iff_eq.mpr c4
    have c4b1 : (t131 != 0) = false := bne_eq_false_iff_eq.mpr c4
    clear c4
    replace H := Option.bind_eq_some_iff.mp H
    obtain ⟨t132, A50, H⟩ := H
    replace H : (if (t132.length : Int) = 1 then (if 0 < (t132.length : Int) then (some (rd t132 0, true, 0)) else (none)) else (some (0, false, 0))) = some (r1, r2, r3) := H
    have A5 := Aside0.mk A50
    clear A50
    by_cases c6 : (t132.length : Int) = 1
    · rw [if_pos c6] at H
      have c6b0 : ((t132.length : Int) == 1) = true := beq_iff_eq.mpr c6
      have c6b1 : ((t132.length : Int) != 1) = false := bne_eq_false_iff_eq.mpr c6
      clear c6
      by_cases c7 : 0 < (t132.length : Int)
      · rw [if_pos c7] at H
        have c7b0 : decide (0 < (t132.length : Int)) = true := decide_eq_true c7
        have c7b1 : decide (0 < t132.length) = true := decide_eq_true (by omega)
        clear c7
        simp only [Option.some.injEq, Prod.mk.injEq] at H
        obtain ⟨rfl, rfl, rfl⟩ := H
        go_enter Try.func47, Try.ntmps47
        go_wp2_with (first | ((with_reducible refine gate_callee (f := 51) rfl ?_); refine goesL_ (some 11) rfl rfl Try.func51 (by kernel_rfl) rfl #[.int .i64 a0, .slice A1 l1.length c1] rfl (by (try simp only [List.map_toArray, List.map_cons, List.map_nil]); first | done | rfl | (simp only [List.length_drop, List.length_take]; rfl)) ?_; (with_reducible refine (judge_Validate.calls a0 _ _ l1 t131 _ ?side1 ?side2 A3.out).mono ?_); (case side1 => repeat (first | exact HR1.out | (with_reducible refine Kd.C_alloc ?_ _) | (with_reducible refine Kd.C_drewN ?_ _) | (with_reducible refine Kd.C_drew ?_))); (case side2 => exact HC1.out); rintro e w8 ⟨rfl, hb⟩; refine ⟨_, rfl, ?_⟩; have n0_ := Aside0.mk (below_step (by repeat (first | (with_reducible first | exact HB.out | apply below_alloc | apply pw_below_drewN | apply below_drew1) | exact HB.out)) hb); clear HB; have HB := n0_; clear n0_; (try clear hb); (try clear hb2); (try clear hk); (try clear hi)) | ((with_reducible refine gate_callee (f := 79) rfl ?_); refine goesL_ (some 17) rfl rfl Try.func79 (by kernel_rfl) rfl #[.int .i64 a0, .slice A1 l1.length c1, .int .i64 0, .int .i64 1] rfl (by (try simp only [List.map_toArray, List.map_cons, List.map_nil]); first | done | rfl | (simp only [List.length_drop, List.length_take]; rfl)) ?_; (with_reducible refine (judge_left.calls k a0 _ _ l1 0 1 t132 _ ?side1 ?side2 A5.out).mono ?_); (case side1 => repeat (first | exact (Kd.C_below HR1.out HB.out) | (with_reducible refine Kd.C_alloc ?_ _) | (with_reducible refine Kd.C_drewN ?_ _) | (with_reducible refine Kd.C_drew ?_))); (case side2 => exact HC1.out); rintro e w9 ⟨v133, rfl, ho0, hb⟩; refine ⟨_, rfl, ?_⟩; have n0_ := Aside0.mk (Kd.R_lower ho0 (below_size (by repeat (first | (with_reducible first | exact HB.out | apply below_alloc | apply pw_below_drewN | apply below_drew1) | exact HB.out)))); have n1_ := Aside0.mk (below_step (by repeat (first | (with_reducible first | exact HB.out | apply below_alloc | apply pw_below_drewN | apply below_drew1) | exact HB.out)) hb); clear HB; have HO134 := n0_; have HB := n1_; clear n0_ n1_; (try clear hb); (try clear hb2); (try clear hk); (try clear hi); (try clear ho0); obtain ⟨Ao10, co10, eo10⟩ := Kd.R_slice HO134.out; subst eo10; have p135 : 0 ≤ (0 : Int) := (by omega); have q135 : 0 < (t132.length : Int) := of_decide_eq_true (by first | (with_reducible assumption) | assumption); obtain ⟨ad135, e135, hx135_0⟩ := Kd.at_int (Kd.R_reads' HO134.out).2.2 0 p135 q135; cases e135; have qi135 : (0 < t132.length) = True := eq_true (by omega); (try rw [show ((0 : Int)).toNat = 0 from rfl] at hx135_0); (try rw [Addr.add_zero'] at hx135_0); replace p135 := eq_true p135; replace q135 := eq_true q135))
        go_ret3
        exact ⟨by first | rfl | (simp [errW_none, errW_some] <;> rfl) | (simp [*, errW_none, errW_some] <;> rfl), by repeat (first | (with_reducible first | exact HB.out | apply below_alloc | apply pw_below_drewN | apply below_drew1) | exact HB.out)⟩
      · rw [if_neg c7] at H
        exact absurd H (by simp)
    · rw [if_neg c6] at H
      have c6b0 : ((t132.length : Int) == 1) = false := beq_eq_false_iff_ne.mpr c6
      have c6b1 : ((t132.length : Int) != 1) = true := bne_iff_ne.mpr c6
      simp only [Option.some.injEq, Prod.mk.injEq] at H
      obtain ⟨rfl, rfl, rfl⟩ := H
      go_enter Try.func47, Try.ntmps47
      go_wp2_with (first | ((with_reducible refine gate_callee (f := 51) rfl ?_); refine goesL_ (some 11) rfl rfl Try.func51 (by kernel_rfl) rfl #[.int .i64 a0, .slice A1 l1.length c1] rfl (by (try simp only [List.map_toArray, List.map_cons, List.map_nil]); first | done | rfl | (simp only [List.length_drop, List.length_take]; rfl)) ?_; (with_reducible refine (judge_Validate.calls a0 _ _ l1 t131 _ ?side1 ?side2 A3.out).mono ?_); (case side1 => repeat (first | exact HR1.out | (with_reducible refine Kd.C_alloc ?_ _) | (with_reducible refine Kd.C_drewN ?_ _) | (with_reducible refine Kd.C_drew ?_))); (case side2 => exact HC1.out); rintro e w11 ⟨rfl, hb⟩; refine ⟨_, rfl, ?_⟩; have n0_ := Aside0.mk (below_step (by repeat (first | (with_reducible first | exact HB.out | apply below_alloc | apply pw_below_drewN | apply below_drew1) | exact HB.out)) hb); clear HB; have HB := n0_; clear n0_; (try clear hb); (try clear hb2); (try clear hk); (try clear hi)) | ((with_reducible refine gate_callee (f := 79) rfl ?_); refine goesL_ (some 17) rfl rfl Try.func79 (by kernel_rfl) rfl #[.int .i64 a0, .slice A1 l1.length c1, .int .i64 0, .int .i64 1] rfl (by (try simp only [List.map_toArray, List.map_cons, List.map_nil]); first | done | rfl | (simp only [List.length_drop, List.length_take]; rfl)) ?_; (with_reducible refine (judge_left.calls k a0 _ _ l1 0 1 t132 _ ?side1 ?side2 A5.out).mono ?_); (case side1 => repeat (first | exact (Kd.C_below HR1.out HB.out) | (with_reducible refine Kd.C_alloc ?_ _) | (with_reducible refine Kd.C_drewN ?_ _) | (with_reducible refine Kd.C_drew ?_))); (case side2 => exact HC1.out); rintro e w12 ⟨v133, rfl, ho0, hb⟩; refine ⟨_, rfl, ?_⟩; have n0_ := Aside0.mk (Kd.R_lower ho0 (below_size (by repeat (first | (with_reducible first | exact HB.out | apply below_alloc | apply pw_below_drewN | apply below_drew1) | exact HB.out)))); have n1_ := Aside0.mk (below_step (by repeat (first | (with_reducible first | exact HB.out | apply below_alloc | apply pw_below_drewN | apply below_drew1) | exact HB.out)) hb); clear HB; have HO134 := n0_; have HB := n1_; clear n0_ n1_; (try clear hb); (try clear hb2); (try clear hk); (try clear hi); (try clear ho0); obtain ⟨Ao13, co13, eo13⟩ := Kd.R_slice HO134.out; subst eo13))
      go_ret3
      exact ⟨by first | rfl | (simp [errW_none, errW_some] <;> rfl) | (simp [*, errW_none, errW_some] <;> rfl), by repeat (first | (with_reducible first | exact HB.out | apply below_alloc | apply pw_below_drewN | apply below_drew1) | exact HB.out)⟩
  · rw [if_neg c4] at H
    have c4b0 : (t131 == 0) = false := beq_eq_false_iff_ne.mpr c4
    have c4b1 : (t131 != 0) = true := bne_iff_ne.mpr c4
    simp only [Option.some.injEq, Prod.mk.injEq] at H
    obtain ⟨rfl, rfl, rfl⟩ := H
    go_enter Try.func47, Try.ntmps47
    go_wp2_with (first | ((with_reducible refine gate_callee (f := 51) rfl ?_); refine goesL_ (some 11) rfl rfl Try.func51 (by kernel_rfl) rfl #[.int .i64 a0, .slice A1 l1.length c1] rfl (by (try simp only [List.map_toArray, List.map_cons, List.map_nil]); first | done | rfl | (simp only [List.length_drop, List.length_take]; rfl)) ?_; (with_reducible refine (judge_Validate.calls a0 _ _ l1 t131 _ ?side1 ?side2 A3.out).mono ?_); (case side1 => repeat (first | exact HR1.out | (with_reducible refine Kd.C_alloc ?_ _) | (with_reducible refine Kd.C_drewN ?_ _) | (with_reducible refine Kd.C_drew ?_))); (case side2 => exact HC1.out); rintro e w14 ⟨rfl, hb⟩; refine ⟨_, rfl, ?_⟩; have n0_ := Aside0.mk (below_step (by repeat (first | (with_reducible first | exact HB.out | apply below_alloc | apply pw_below_drewN | apply below_drew1) | exact HB.out)) hb); clear HB; have HB := n0_; clear n0_; (try clear hb); (try clear hb2); (try clear hk); (try clear hi)))
    go_ret3
    exact ⟨by first | rfl | (simp [errW_none, errW_some] <;> rfl) | (simp [*, errW_none, errW_some] <;> rfl), by repeat (first | (with_reducible first | exact HB.out | apply below_alloc | apply pw_below_drewN | apply below_drew1) | exact HB.out)⟩

end Go.Proofs.Ytfejfljgdeglgaa.K
