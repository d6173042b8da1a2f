/- DERIVED by wip/pr.py: for each Go function named below a Lean function with the same answers, and that a call of it comes to these answers, for all arguments and memories, where the Lean function has an answer. -/
import Derived.Test.YtgnklmhjejbcoaaK0
import Derived.Test.YtgnklmhjejbcoaaK1
namespace Go.Proofs.Ytgnklmhjejbcoaa.K
open Go.RowKit Go.Proofs.YtgnklmhjejbcoaaW.PrintWords Go.Proofs.YtgnklmhjejbcoaaW.PrintLast Go.Proofs.YtgnklmhjejbcoaaW.PrintMore
attribute [local go_sem] max2_int min2_int max_two min_two max_three min_three max_four min_four   -- for this text's walks alone
set_option linter.unusedVariables false
set_option linter.unusedSimpArgs false

/-! ### verditerref07_Way: function 20 -/
mutual
def verditerref07_Way.j0 : Nat → Int → Int → Int → Bool → Option (List Int × Bool × Int)
  | 0, _, _, _, _ => none
  | k + 1, x0, x1, x2, x30 => if x30 = true then (some (([] : List Int), false, 4)) else (if 0 ≤ x0 then (if (x0 : Int).toNat ≤ 35184372088832 then (verditerref07_Way.l0 k x0 x1 x2 (List.replicate (x0 : Int).toNat 0) 0) else (none)) else (none))
def verditerref07_Way.l0 : Nat → Int → Int → Int → List Int → Int → Option (List Int × Bool × Int)
  | 0, _, _, _, _, _ => none
  | k + 1, x0, x1, x2, x9, x10 => if x10 < x0 then (if 0 ≤ x10 then (if x10 < (x9.length : Int) then (verditerref07_Way.l0 k x0 x1 x2 (x9.set (x10 : Int).toNat 1000) (wrap64 (x10 + 1))) else (none)) else (none)) else (if 0 ≤ x2 then (if x2 < (x9.length : Int) then (verditerref07_Way.l1 k x0 x1 x2 (x9.set (x2 : Int).toNat 0) 0) else (none)) else (none))
def verditerref07_Way.l1 : Nat → Int → Int → Int → List Int → Int → Option (List Int × Bool × Int)
  | 0, _, _, _, _, _ => none
  | k + 1, x0, x1, x2, x9, x11 => if x11 < x0 then (verditerref07_Way.l2 k x0 x1 x2 x9 x11 0) else (if 0 ≤ x1 then (if x1 < (x9.length : Int) then (if (rd x9 x1) > 40 then (some (([] : List Int), false, 0)) else (verditerref07_Way.l3 k x0 x2 x9 ([] : List Int) x1)) else (none)) else (none))
def verditerref07_Way.l2 : Nat → Int → Int → Int → List Int → Int → Int → Option (List Int × Bool × Int)
  | 0, _, _, _, _, _, _ => none
  | k + 1, x0, x1, x2, x9, x11, x12 => if x12 < x0 then (if 0 ≤ x12 then (if x12 < (x9.length : Int) then ((verditerref07_goes.f x0 0 x12).bind fun t314 => (if 0 ≤ t314 then (if t314 < (x9.length : Int) then ((verditerref07_goes.f x0 1 x12).bind fun t316 => (if 0 ≤ t316 then (if t316 < (x9.length : Int) then (verditerref07_Way.l2 k x0 x1 x2 (x9.set (x12 : Int).toNat (mn (mn (rd x9 x12) (wrap64 (1 + (rd x9 t314)))) (wrap64 (1 + (rd x9 t316))))) x11 (wrap64 (x12 + 1))) else (none)) else (none))) else (none)) else (none))) else (none)) else (none)) else (verditerref07_Way.l1 k x0 x1 x2 x9 (wrap64 (x11 + 1)))
def verditerref07_Way.l3 : Nat → Int → Int → List Int → List Int → Int → Option (List Int × Bool × Int)
  | 0, _, _, _, _, _ => none
  | k + 1, x0, x2, x9, x13, x14 => if x14 = x2 then (some (x13, true, 0)) else ((verditerref07_goes.f x0 0 x14).bind fun t320 => (if 0 ≤ t320 then (if t320 < (x9.length : Int) then (if 0 ≤ x14 then (if x14 < (x9.length : Int) then (if (rd x9 t320) = (wrap64 ((rd x9 x14) - 1)) then (if x13.length < 17592186044416 then ((verditerref07_goes.f x0 0 x14).bind fun t326 => (verditerref07_Way.l3 k x0 x2 x9 (x13 ++ [0]) t326)) else (none)) else (if x13.length < 17592186044416 then ((verditerref07_goes.f x0 1 x14).bind fun t330 => (verditerref07_Way.l3 k x0 x2 x9 (x13 ++ [1]) t330)) else (none))) else (none)) else (none)) else (none)) else (none)))
end
def verditerref07_Way.f (k : Nat) (a0 : Int) (a1 : Int) (a2 : Int) : Option (List Int × Bool × Int) := (verditerref07_isLumps.f a0).bind fun t305 => (if t305 = true then ((verditerref01_Within.f a1 0 (wrap64 (a0 - 1))).bind fun t306 => (if t306 = true then ((verditerref01_Within.f a2 0 (wrap64 (a0 - 1))).bind fun t307 => (verditerref07_Way.j0 k a0 a1 a2 (!t307))) else (verditerref07_Way.j0 k a0 a1 a2 true))) else (some (([] : List Int), false, 1)))
theorem verditerref07_Way.mono_l : ∀ k, (∀ y0 y1 y2 y3, LeO (verditerref07_Way.j0 k y0 y1 y2 y3) (verditerref07_Way.j0 (k + 1) y0 y1 y2 y3)) ∧ (∀ y0 y1 y2 y3 y4, LeO (verditerref07_Way.l0 k y0 y1 y2 y3 y4) (verditerref07_Way.l0 (k + 1) y0 y1 y2 y3 y4)) ∧ (∀ y0 y1 y2 y3 y4, LeO (verditerref07_Way.l1 k y0 y1 y2 y3 y4) (verditerref07_Way.l1 (k + 1) y0 y1 y2 y3 y4)) ∧ (∀ y0 y1 y2 y3 y4 y5, LeO (verditerref07_Way.l2 k y0 y1 y2 y3 y4 y5) (verditerref07_Way.l2 (k + 1) y0 y1 y2 y3 y4 y5)) ∧ (∀ y0 y1 y2 y3 y4, LeO (verditerref07_Way.l3 k y0 y1 y2 y3 y4) (verditerref07_Way.l3 (k + 1) y0 y1 y2 y3 y4))
  | 0 => ⟨fun _ _ _ _ r h => by simp [verditerref07_Way.j0] at h, fun _ _ _ _ _ r h => by simp [verditerref07_Way.l0] at h, fun _ _ _ _ _ r h => by simp [verditerref07_Way.l1] at h, fun _ _ _ _ _ _ r h => by simp [verditerref07_Way.l2] at h, fun _ _ _ _ _ r h => by simp [verditerref07_Way.l3] at h⟩
  | k + 1 => by
    obtain ⟨ih0, ih1, ih2, ih3, ih4⟩ := verditerref07_Way.mono_l k
    refine ⟨?_, ?_, ?_, ?_, ?_⟩
    · intro y0 y1 y2 y3
      unfold verditerref07_Way.j0
      repeat' first
      | (with_reducible exact ih0 _ _ _ _)
      | (with_reducible exact ih1 _ _ _ _ _)
      | (with_reducible exact ih2 _ _ _ _ _)
      | (with_reducible exact ih3 _ _ _ _ _ _)
      | (with_reducible exact ih4 _ _ _ _ _)
      | (with_reducible exact LeO.refl _)
      | (with_reducible exact LeO.none _)
      | (with_reducible refine LeO.ite ?_ ?_)
      | (with_reducible refine LeO.bind ?_ (fun _ => ?_))
      | exact ih0 _ _ _ _
      | exact ih1 _ _ _ _ _
      | exact ih2 _ _ _ _ _
      | exact ih3 _ _ _ _ _ _
      | exact ih4 _ _ _ _ _
      | exact LeO.none _
      | refine LeO.ite ?_ ?_
      | refine LeO.bind ?_ (fun _ => ?_)
    · intro y0 y1 y2 y3 y4
      unfold verditerref07_Way.l0
      repeat' first
      | (with_reducible exact ih0 _ _ _ _)
      | (with_reducible exact ih1 _ _ _ _ _)
      | (with_reducible exact ih2 _ _ _ _ _)
      | (with_reducible exact ih3 _ _ _ _ _ _)
      | (with_reducible exact ih4 _ _ _ _ _)
      | (with_reducible exact LeO.refl _)
      | (with_reducible exact LeO.none _)
      | (with_reducible refine LeO.ite ?_ ?_)
      | (with_reducible refine LeO.bind ?_ (fun _ => ?_))
      | exact ih0 _ _ _ _
      | exact ih1 _ _ _ _ _
      | exact ih2 _ _ _ _ _
      | exact ih3 _ _ _ _ _ _
      | exact ih4 _ _ _ _ _
      | exact LeO.none _
      | refine LeO.ite ?_ ?_
      | refine LeO.bind ?_ (fun _ => ?_)
    · intro y0 y1 y2 y3 y4
      unfold verditerref07_Way.l1
      repeat' first
      | (with_reducible exact ih0 _ _ _ _)
      | (with_reducible exact ih1 _ _ _ _ _)
      | (with_reducible exact ih2 _ _ _ _ _)
      | (with_reducible exact ih3 _ _ _ _ _ _)
      | (with_reducible exact ih4 _ _ _ _ _)
      | (with_reducible exact LeO.refl _)
      | (with_reducible exact LeO.none _)
      | (with_reducible refine LeO.ite ?_ ?_)
      | (with_reducible refine LeO.bind ?_ (fun _ => ?_))
      | exact ih0 _ _ _ _
      | exact ih1 _ _ _ _ _
      | exact ih2 _ _ _ _ _
      | exact ih3 _ _ _ _ _ _
      | exact ih4 _ _ _ _ _
      | exact LeO.none _
      | refine LeO.ite ?_ ?_
      | refine LeO.bind ?_ (fun _ => ?_)
    · intro y0 y1 y2 y3 y4 y5
      unfold verditerref07_Way.l2
      repeat' first
      | (with_reducible exact ih0 _ _ _ _)
      | (with_reducible exact ih1 _ _ _ _ _)
      | (with_reducible exact ih2 _ _ _ _ _)
      | (with_reducible exact ih3 _ _ _ _ _ _)
      | (with_reducible exact ih4 _ _ _ _ _)
      | (with_reducible exact LeO.refl _)
      | (with_reducible exact LeO.none _)
      | (with_reducible refine LeO.ite ?_ ?_)
      | (with_reducible refine LeO.bind ?_ (fun _ => ?_))
      | exact ih0 _ _ _ _
      | exact ih1 _ _ _ _ _
      | exact ih2 _ _ _ _ _
      | exact ih3 _ _ _ _ _ _
      | exact ih4 _ _ _ _ _
      | exact LeO.none _
      | refine LeO.ite ?_ ?_
      | refine LeO.bind ?_ (fun _ => ?_)
    · intro y0 y1 y2 y3 y4
      unfold verditerref07_Way.l3
      repeat' first
      | (with_reducible exact ih0 _ _ _ _)
      | (with_reducible exact ih1 _ _ _ _ _)
      | (with_reducible exact ih2 _ _ _ _ _)
      | (with_reducible exact ih3 _ _ _ _ _ _)
      | (with_reducible exact ih4 _ _ _ _ _)
      | (with_reducible exact LeO.refl _)
      | (with_reducible exact LeO.none _)
      | (with_reducible refine LeO.ite ?_ ?_)
      | (with_reducible refine LeO.bind ?_ (fun _ => ?_))
      | exact ih0 _ _ _ _
      | exact ih1 _ _ _ _ _
      | exact ih2 _ _ _ _ _
      | exact ih3 _ _ _ _ _ _
      | exact ih4 _ _ _ _ _
      | exact LeO.none _
      | refine LeO.ite ?_ ?_
      | refine LeO.bind ?_ (fun _ => ?_)
theorem verditerref07_Way.mono : ∀ a0 a1 a2 k, LeO (verditerref07_Way.f k a0 a1 a2) (verditerref07_Way.f (k + 1) a0 a1 a2) := by
  intro a0 a1 a2 k
  obtain ⟨ih0, ih1, ih2, ih3, ih4⟩ := verditerref07_Way.mono_l k
  unfold verditerref07_Way.f
  repeat' first
      | (with_reducible exact ih0 _ _ _ _)
      | (with_reducible exact ih1 _ _ _ _ _)
      | (with_reducible exact ih2 _ _ _ _ _)
      | (with_reducible exact ih3 _ _ _ _ _ _)
      | (with_reducible exact ih4 _ _ _ _ _)
      | (with_reducible exact LeO.refl _)
      | (with_reducible exact LeO.none _)
      | (with_reducible refine LeO.ite ?_ ?_)
      | (with_reducible refine LeO.bind ?_ (fun _ => ?_))
      | exact ih0 _ _ _ _
      | exact ih1 _ _ _ _ _
      | exact ih2 _ _ _ _ _
      | exact ih3 _ _ _ _ _ _
      | exact ih4 _ _ _ _ _
      | exact LeO.none _
      | refine LeO.ite ?_ ?_
      | refine LeO.bind ?_ (fun _ => ?_)
def verditerref07_Way.T17 : Bool × List (List Nat × List Nat) := (true, [([], []), ([], []), ([], []), ([], []), ([2, 3], [2, 3]), ([4], [4]), ([], []), ([], []), ([], []), ([7, 8], [7, 8]), ([6, 9], [6, 9]), ([10], [10]), ([11], [11]), ([], []), ([], []), ([], []), ([14, 15, 9], [14, 15]), ([13, 16], [13, 16]), ([17], [17]), ([18], [18]), ([5, 12, 19], [5, 12, 19]), ([0, 1, 0, 1, 2, 3, 4, 5, 6, 7, 8, 9, 10, 11, 12, 13, 14, 15, 16, 17, 18, 19, 20], [0, 1]), ([21, 20, 16, 0, 1, 2, 3, 4, 5, 6, 7, 8, 9, 10, 11, 12, 13, 14, 15, 16, 17, 18, 19, 20], [20, 21])])
def verditerref07_Way.B17 : List Nat := [0, 0, 0, 0, 12, 28, 0, 0, 0, 384, 960, 1984, 4032, 0, 0, 0, 50048, 123776, 254848, 516992, 1048572, 2097151, 4194303]
theorem verditerref07_Way.tab17 : rtab .any (opsOf Try.f20 17) = verditerref07_Way.T17 := by kernel_rfl
theorem verditerref07_Way.bits17 : waitsOk verditerref07_Way.T17.2 verditerref07_Way.B17 = true := by kernel_rfl
def verditerref07_Way.T24 : Bool × List (List Nat × List Nat) := (true, [([], []), ([], []), ([], []), ([1, 2], [1, 2]), ([0, 3], [0, 3]), ([4], [4]), ([], []), ([], []), ([6, 7], [6, 7]), ([8], [8]), ([9], [9]), ([5, 10], [5, 10])])
def verditerref07_Way.B24 : List Nat := [0, 0, 0, 6, 15, 31, 0, 0, 192, 448, 960, 2047]
theorem verditerref07_Way.tab24 : rtab .any (opsOf Try.f20 24) = verditerref07_Way.T24 := by kernel_rfl
theorem verditerref07_Way.bits24 : waitsOk verditerref07_Way.T24.2 verditerref07_Way.B24 = true := by kernel_rfl
set_option maxHeartbeats 8000000 in
set_option maxRecDepth 100000 in
theorem verditerref07_Way.calls (k : Nat) (a0 : Int) (a1 : Int) (a2 : Int) (r1 : List Int) (r2 : Bool) (r3 : Int) (w : World) (h : verditerref07_Way.f k a0 a1 a2 = some (r1, r2, r3)) :
    Calls Try.prog 20 #[.int .i64 a0, .int .i64 a1, .int .i64 a2] w fun e w' => ∃ v0_ : Value, e = .returned (.tuple #[v0_, .bool r2, .int .i64 r3]) ∧ Kd.R (Kd.int .i64) 3 w' w.heap.size (fun _ => True) v0_ r1 ∧ Below w.heap.size w w' := by
  have HB := Aside0.mk (Below.refl w.heap.size w)
  have H : ((verditerref07_isLumps.f a0).bind fun t305 => (if t305 = true then ((verditerref01_Within.f a1 0 (wrap64 (a0 - 1))).bind fun t306 => (if t306 = true then ((verditerref01_Within.f a2 0 (wrap64 (a0 - 1))).bind fun t307 => (verditerref07_Way.j0 k a0 a1 a2 (!t307))) else (verditerref07_Way.j0 k a0 a1 a2 true))) else (some (([] : List Int), false, 1)))) = some (r1, r2, r3) := h
  clear h
  replace H := Option.bind_eq_some_iff.mp H
  obtain ⟨t305, A40, H⟩ := H
  replace H : (if t305 = true then ((verditerref01_Within.f a1 0 (wrap64 (a0 - 1))).bind fun t306 => (if t306 = true then ((verditerref01_Within.f a2 0 (wrap64 (a0 - 1))).bind fun t307 => (verditerref07_Way.j0 k a0 a1 a2 (!t307))) else (verditerref07_Way.j0 k a0 a1 a2 true))) else (some (([] : List Int), false, 1))) = some (r1, r2, r3) := H
  have A4 := Aside0.mk A40
  clear A40
  by_cases c5 : t305 = true
  · subst c5
    have H1 : ((verditerref01_Within.f a1 0 (wrap64 (a0 - 1))).bind fun t306 => (if t306 = true then ((verditerref01_Within.f a2 0 (wrap64 (a0 - 1))).bind fun t307 => (verditerref07_Way.j0 k a0 a1 a2 (!t307))) else (verditerref07_Way.j0 k a0 a1 a2 true))) = some (r1, r2, r3) := by rw [if_pos rfl] at H; exact H
    clear H
    have H := H1
    clear H1
    have HC6 := Aside0.mk H
    clear H
    go_enter Try.func20, Try.ntmps20
    go_upto_region 3 with (first | ((with_reducible refine gate_callee (f := 50) rfl ?_); refine goesL_ (some 17) rfl rfl Try.func50 (by kernel_rfl) rfl #[.int .i64 a0] rfl (by (try simp only [List.map_toArray, List.map_cons, List.map_nil]); first | done | rfl | (simp only [List.length_drop, List.length_take]; rfl)) ?_; (with_reducible refine (verditerref07_isLumps.calls a0 true _ A4.out).mono ?_); rintro e w' ⟨rfl, ⟨nd, rfl⟩⟩; refine ⟨_, rfl, ?_⟩))
    (try simp only [Act.put, List.setIfInBounds_toArray, List.set_cons_zero, List.set_cons_succ])
    go_cut [30] (fun v30 wc => ∃ (kq : Nat) (x30_5 : Bool), v30 = .bool x30_5 ∧ Aside0 (verditerref07_Way.j0 kq a0 a1 a2 x30_5 = some (r1, r2, r3)) ∧ Aside0 (kq ≤ k) ∧ Aside0 (Below w.heap.size w wc))
    case first =>
      have H := HC6.out
      clear HC6
      replace H := Option.bind_eq_some_iff.mp H
      obtain ⟨t306, A70, H⟩ := H
      replace H : (if t306 = true then ((verditerref01_Within.f a2 0 (wrap64 (a0 - 1))).bind fun t307 => (verditerref07_Way.j0 k a0 a1 a2 (!t307))) else (verditerref07_Way.j0 k a0 a1 a2 true)) = some (r1, r2, r3) := H
      have A7 := Aside0.mk A70
      clear A70
      by_cases c8 : t306 = true
      · subst c8
        have H1 : ((verditerref01_Within.f a2 0 (wrap64 (a0 - 1))).bind fun t307 => (verditerref07_Way.j0 k a0 a1 a2 (!t307))) = some (r1, r2, r3) := by rw [if_pos rfl] at H; exact H
        clear H
        have H := H1
        clear H1
        replace H := Option.bind_eq_some_iff.mp H
        obtain ⟨t307, A90, H⟩ := H
        replace H : (verditerref07_Way.j0 k a0 a1 a2 (!t307)) = some (r1, r2, r3) := H
        have A9 := Aside0.mk A90
        clear A90
        have H' := Aside0.mk H
        clear H
        go_wp2_with (first | ((with_reducible refine gate_callee (f := 51) rfl ?_); refine goesL_ (some 22) rfl rfl Try.func51 (by kernel_rfl) rfl #[.int .i64 a1, .int .i64 0, .int .i64 (wrap64 (a0 - 1))] rfl (by (try simp only [List.map_toArray, List.map_cons, List.map_nil]); first | done | rfl | (simp only [List.length_drop, List.length_take]; rfl)) ?_; (with_reducible refine (verditerref01_Within.calls a1 0 (wrap64 (a0 - 1)) true _ A7.out).mono ?_); rintro e w' ⟨rfl, ⟨nd, rfl⟩⟩; refine ⟨_, rfl, ?_⟩) | (go_at_call 51; (with_reducible refine (verditerref01_Within.calls a2 0 (wrap64 (a0 - 1)) t307 _ A9.out).mono ?_); rintro e w' ⟨rfl, ⟨nd, rfl⟩⟩))
        go_meet
        case rel => exact ⟨_, (!t307), (by first | rfl | (simp; done) | (simp [*]; done)), H', ⟨by first | omega | exact Nat.le_refl _⟩, ⟨by repeat (first | (with_reducible first | exact HB.out | apply below_alloc | apply pw_below_drewN | apply below_drew1) | exact HB.out)⟩⟩
      · replace c8 := Bool.eq_false_iff.mpr c8
        subst c8
        have H1 : (verditerref07_Way.j0 k a0 a1 a2 true) = some (r1, r2, r3) := by rw [if_neg (show ¬ (false = true) by decide)] at H; exact H
        clear H
        have H := H1
        clear H1
        have H' := Aside0.mk H
        clear H
        go_wp2_with (first | ((with_reducible refine gate_callee (f := 51) rfl ?_); refine goesL_ (some 22) rfl rfl Try.func51 (by kernel_rfl) rfl #[.int .i64 a1, .int .i64 0, .int .i64 (wrap64 (a0 - 1))] rfl (by (try simp only [List.map_toArray, List.map_cons, List.map_nil]); first | done | rfl | (simp only [List.length_drop, List.length_take]; rfl)) ?_; (with_reducible refine (verditerref01_Within.calls a1 0 (wrap64 (a0 - 1)) false _ A7.out).mono ?_); rintro e w' ⟨rfl, ⟨nd, rfl⟩⟩; refine ⟨_, rfl, ?_⟩))
        go_meet
        case rel => exact ⟨_, (true), (by first | rfl | (simp; done) | (simp [*]; done)), H', ⟨by first | omega | exact Nat.le_refl _⟩, ⟨by repeat (first | (with_reducible first | exact HB.out | apply below_alloc | apply pw_below_drewN | apply below_drew1) | exact HB.out)⟩⟩
    case rest =>
      clear HC6
      try clear c2
      try clear p2
      try clear c5
      try clear p6
      try clear c8
      obtain ⟨kq, x30_5, rfl, HA, HJ5, HB⟩ := hcut
      cases kq with
      | zero => exact absurd HA.out (by simp [verditerref07_Way.j0])
      | succ kj5 =>
        have H := HA.out
        clear HA
        simp only [verditerref07_Way.j0] at H
        by_cases c10 : x30_5 = true
        · subst c10
          have H1 : (some (([] : List Int), false, 4)) = some (r1, r2, r3) := by rw [if_pos rfl] at H; exact H
          clear H
          have H := H1
          clear H1
          simp only [Option.some.injEq, Prod.mk.injEq] at H
          obtain ⟨rfl, rfl, rfl⟩ := H
          go_wp2
          go_ret3
          exact ⟨_, by first | rfl | (simp [errW_none, errW_some] <;> rfl) | (simp [*, errW_none, errW_some] <;> rfl), by first | exact Kd.R_nil _ _ _ _ _ | exact Kd.N_nil _ _ _ _ _ | exact Kd.V_nil _ _ _ _ _ | exact Kd.Q_nil _ _ _ _ _ | exact Kd.S_nil _ _ _ _ _, by repeat (first | (with_reducible first | exact HB.out | apply below_alloc | apply pw_below_drewN | apply below_drew1) | exact HB.out)⟩
        · replace c10 := Bool.eq_false_iff.mpr c10
          subst c10
          have H1 : (if 0 ≤ a0 then (if (a0 : Int).toNat ≤ 35184372088832 then (verditerref07_Way.l0 kj5 a0 a1 a2 (List.replicate (a0 : Int).toNat 0) 0) else (none)) else (none)) = some (r1, r2, r3) := by rw [if_neg (show ¬ (false = true) by decide)] at H; exact H
          clear H
          have H := H1
          clear H1
          by_cases c11 : 0 ≤ a0
          · rw [if_pos c11] at H
            have c11b0 := eq_true c11
            have c11b1 : decide (0 ≤ a0) = true := decide_eq_true c11
            clear c11
            by_cases c12 : (a0 : Int).toNat ≤ 35184372088832
            · rw [if_pos c12] at H
              have c12b0 := eq_true c12
              have c12b1 : decide ((a0 : Int).toNat ≤ 35184372088832) = true := decide_eq_true c12
              clear c12
              obtain ⟨y308, hy308⟩ : ∃ y_ : List Int, y_ = (List.replicate (a0 : Int).toNat 0) := ⟨_, rfl⟩
              replace H : (verditerref07_Way.l0 kj5 a0 a1 a2 y308 0) = some (r1, r2, r3) := by first | (rw [hy308]; with_reducible exact H) | (have H2_ := (Option.bind_some _ _).symm.trans H; rw [hy308]; with_reducible exact H2_) | (have H2_ := (Option.bind_some _ _).symm.trans H; with_reducible exact H2_) | with_reducible exact H | (rw [hy308]; exact H) | exact H
              have Ny308 := Aside0.mk hy308
              clear hy308
              have H' := Aside0.mk H
              clear H
              go_wp2_with (first | ((with_reducible refine gate_dst (N := 32) rfl ?_); refine Kd.R_make (Kd.int .i64) _ 3 rfl (N := 32) rfl 22 _ _ rfl a0 rfl rfl Try.underlying22 (.int .i64 0) 8 info3 rfl (by decide) (by omega) 0 (ok := fun _ => True) (okp := fun _ => True) rfl (fun _ hk => hk) trivial (of_decide_eq_true (by first | (with_reducible assumption) | assumption)) (Nat.le_trans (Nat.mul_le_mul_right _ (of_decide_eq_true (by first | (with_reducible assumption) | assumption) : a0.toNat ≤ 35184372088832)) (by omega)) (Below.refl _ _) (Nat.le_refl _) ?_; intro v309 w13 ho14 hb hg_ hnew_; clear hg_ hnew_; (first | rw [← Ny308.out] at ho14 | (simp only [Int.reduceToNat] at ho14; rw [← Ny308.out] at ho14)); have n0_ := Aside0.mk (Kd.R_lower ho14 (below_size (by repeat (first | (with_reducible first | exact HB.out | apply below_alloc | apply pw_below_drewN | apply below_drew1) | exact HB.out)))); have n1_ := Aside0.mk (below_step (by repeat (first | (with_reducible first | exact HB.out | apply below_alloc | apply pw_below_drewN | apply below_drew1) | exact HB.out)) hb); clear HB; have HO310 := n0_; have HB := n1_; clear n0_ n1_; clear hb ho14))
              go_loopg [10] kj5 (fun kq v10 w' => ∃ (x9_2 : List Int) (x10_2 : Int), v10 = .int .i64 x10_2 ∧ Aside0 (verditerref07_Way.l0 kq a0 a1 a2 x9_2 x10_2 = some (r1, r2, r3)) ∧ Aside0 (kq ≤ kj5) ∧ Aside0 (Kd.R (Kd.int .i64) 3 w' w.heap.size (fun _ => True) v309 x9_2) ∧ Aside0 (Below w.heap.size w w'))
              case atStart => exact ⟨(y308), (0), (by first | rfl | (simp; done) | (simp [*]; done)), H', ⟨Nat.le_refl _⟩, ⟨by (with_reducible repeat (first | apply Kd.R_alloc | apply Kd.R_drewN | apply Kd.R_drew)); exact HO310.out⟩, ⟨by repeat (first | (with_reducible first | exact HB.out | apply below_alloc | apply pw_below_drewN | apply below_drew1) | exact HB.out)⟩⟩
              case round =>
                clear H'
                try clear c1
                try clear c2
                try clear p2
                try clear c5
                try clear p6
                try clear c8
                try clear c10
                try clear c11
                try clear c11b0
                try clear c11b1
                try clear c12
                try clear c12b0
                try clear c12b1
                try clear p2
                try clear p6
                obtain ⟨x9_2, x10_2, rfl, HA, HK2, HO_9, HB⟩ := hrel
                cases gk with
                | zero => exact absurd HA.out (by simp [verditerref07_Way.l0])
                | succ k2 =>
                  have H := HA.out
                  clear HA
                  simp only [verditerref07_Way.l0] at H
                  by_cases c15 : x10_2 < a0
                  · rw [if_pos c15] at H
                    have c15b0 : decide (x10_2 < a0) = true := decide_eq_true c15
                    clear c15
                    by_cases c16 : 0 ≤ x10_2
                    · rw [if_pos c16] at H
                      have c16b0 : decide (0 ≤ x10_2) = true := decide_eq_true c16
                      clear c16
                      by_cases c17 : x10_2 < (x9_2.length : Int)
                      · rw [if_pos c17] at H
                        have c17b0 : decide (x10_2 < (x9_2.length : Int)) = true := decide_eq_true c17
                        clear c17
                        obtain ⟨y311, hy311⟩ : ∃ y_ : List Int, y_ = (x9_2.set (x10_2 : Int).toNat 1000) := ⟨_, rfl⟩
                        replace H : (verditerref07_Way.l0 k2 a0 a1 a2 y311 (wrap64 (x10_2 + 1))) = some (r1, r2, r3) := by first | (rw [hy311]; with_reducible exact H) | (have H2_ := (Option.bind_some _ _).symm.trans H; rw [hy311]; with_reducible exact H2_) | (have H2_ := (Option.bind_some _ _).symm.trans H; with_reducible exact H2_) | with_reducible exact H | (rw [hy311]; exact H) | exact H
                        have Ny311 := Aside0.mk hy311
                        clear hy311
                        have H' := Aside0.mk H
                        clear H
                        have p18 : 0 ≤ (x10_2 : Int) := of_decide_eq_true (by first | (with_reducible assumption) | assumption)
                        have q18 : (x10_2 : Int) < ((x9_2.length : Int) : Int) := of_decide_eq_true (by first | (with_reducible assumption) | assumption)
                        obtain ⟨go18, co18, eo18, gb18, gl18, cl18, HG18⟩ := Kd.R_form HO_9.out (by omega)
                        (first | cases eo18 | (injection eo18 with ea_ en_ ec_; (first | subst ea_ | (injection ea_ with ea_; subst ea_)); subst ec_; clear en_))
                        have GB18 := Aside0.mk gb18
                        have GG18 := Aside0.mk HG18
                        clear gb18 gl18 HG18
                        obtain ⟨hx18_0, hf18_0⟩ := Kd.R_celln 0 HO_9.out (x10_2 : Int) p18 q18
                        replace p18 := eq_true p18
                        replace q18 := eq_true q18
                        have HP19 := Kd.R_putg HO_9.out (x10_2 : Int) 1000
                        go_wp2_with (first | ((with_reducible refine gate_store (t := 3) (p := 40) rfl ?_); refine store_event (t := 3) (p := 40) (v := ?vo_w20) (w1 := (wr.setCell ⟨go18, (x10_2 : Int).toNat, none⟩ (.int .i64 1000))) ?hg ?ho ?hn ?hr ?_; (case ho => rfl); (case hg => rfl); (case hn => rfl); (case hr => first | (go_simp; done) | (go_simp; rfl)); intro w20 hw; have hg : wr.grownBy w20 (some go18) := (by rw [hw]; exact HP19.2); have hp_ : Kd.R (Kd.int .i64) 3 w20 w.heap.size (fun _ => True) (.slice (some ⟨go18, 0, none⟩) x9_2.length co18) y311 := (by rw [hw, Ny311.out]; exact HP19.1); clear HP19; have n0_ := Aside0.mk (hp_); have n1_ := Aside0.mk ((by rw [hw]; exact below_set (HB.out) GB18.out : Below w.heap.size w w20)); clear HO_9; clear HB; have HO_9 := n0_; have HB := n1_; clear n0_ n1_; clear hg hw hp_))
                        go_roundg k2
                        case measure => have := HJ5.out; have := HK2.out; omega
                        case rel => exact ⟨(y311), (wrap64 (x10_2 + 1)), (by first | rfl | (simp; done) | (simp [*]; done)), H', ⟨by have := HJ5.out; have := HK2.out; omega⟩, ⟨by (with_reducible repeat (first | apply Kd.R_alloc | apply Kd.R_drewN | apply Kd.R_drew)); exact HO_9.out⟩, ⟨by repeat (first | (with_reducible first | exact HB.out | apply below_alloc | apply pw_below_drewN | apply below_drew1) | exact HB.out)⟩⟩
                      · rw [if_neg c17] at H
                        exact absurd H (by simp)
                    · rw [if_neg c16] at H
                      exact absurd H (by simp)
                  · rw [if_neg c15] at H
                    have c15b0 : decide (x10_2 < a0) = false := decide_eq_false c15
                    clear c15
                    by_cases c21 : 0 ≤ a2
                    · rw [if_pos c21] at H
                      have c21b0 : decide (0 ≤ a2) = true := decide_eq_true c21
                      clear c21
                      by_cases c22 : a2 < (x9_2.length : Int)
                      · rw [if_pos c22] at H
                        have c22b0 : decide (a2 < (x9_2.length : Int)) = true := decide_eq_true c22
                        clear c22
                        obtain ⟨y312, hy312⟩ : ∃ y_ : List Int, y_ = (x9_2.set (a2 : Int).toNat 0) := ⟨_, rfl⟩
                        replace H : (verditerref07_Way.l1 k2 a0 a1 a2 y312 0) = some (r1, r2, r3) := by first | (rw [hy312]; with_reducible exact H) | (have H2_ := (Option.bind_some _ _).symm.trans H; rw [hy312]; with_reducible exact H2_) | (have H2_ := (Option.bind_some _ _).symm.trans H; with_reducible exact H2_) | with_reducible exact H | (rw [hy312]; exact H) | exact H
                        have Ny312 := Aside0.mk hy312
                        clear hy312
                        have H' := Aside0.mk H
                        clear H
                        have p23 : 0 ≤ (a2 : Int) := of_decide_eq_true (by first | (with_reducible assumption) | assumption)
                        have q23 : (a2 : Int) < ((x9_2.length : Int) : Int) := of_decide_eq_true (by first | (with_reducible assumption) | assumption)
                        obtain ⟨go23, co23, eo23, gb23, gl23, cl23, HG23⟩ := Kd.R_form HO_9.out (by omega)
                        (first | cases eo23 | (injection eo23 with ea_ en_ ec_; (first | subst ea_ | (injection ea_ with ea_; subst ea_)); subst ec_; clear en_))
                        have GB23 := Aside0.mk gb23
                        have GG23 := Aside0.mk HG23
                        clear gb23 gl23 HG23
                        obtain ⟨hx23_0, hf23_0⟩ := Kd.R_celln 0 HO_9.out (a2 : Int) p23 q23
                        replace p23 := eq_true p23
                        replace q23 := eq_true q23
                        have HP24 := Kd.R_putg HO_9.out (a2 : Int) 0
                        go_wp2_with (first | ((with_reducible refine gate_store (t := 3) (p := 43) rfl ?_); refine store_event (t := 3) (p := 43) (v := ?vo_w25) (w1 := (wr.setCell ⟨go23, (a2 : Int).toNat, none⟩ (.int .i64 0))) ?hg ?ho ?hn ?hr ?_; (case ho => rfl); (case hg => rfl); (case hn => rfl); (case hr => first | (go_simp; done) | (go_simp; rfl)); intro w25 hw; have hg : wr.grownBy w25 (some go23) := (by rw [hw]; exact HP24.2); have hp_ : Kd.R (Kd.int .i64) 3 w25 w.heap.size (fun _ => True) (.slice (some ⟨go23, 0, none⟩) x9_2.length co23) y312 := (by rw [hw, Ny312.out]; exact HP24.1); clear HP24; have n0_ := Aside0.mk (hp_); have n1_ := Aside0.mk ((by rw [hw]; exact below_set (HB.out) GB23.out : Below w.heap.size w w25)); clear HO_9; clear HB; have HO_9 := n0_; have HB := n1_; clear n0_ n1_; clear hg hw hp_))
                        go_loopg [11] k2 (fun kq v11 w' => ∃ (x9_3 : List Int) (x11_3 : Int), v11 = .int .i64 x11_3 ∧ Aside0 (verditerref07_Way.l1 kq a0 a1 a2 x9_3 x11_3 = some (r1, r2, r3)) ∧ Aside0 (kq ≤ k2) ∧ Aside0 (Kd.R (Kd.int .i64) 3 w' w.heap.size (fun _ => True) (.slice (some ⟨go23, 0, none⟩) x9_2.length co23) x9_3) ∧ Aside0 (Below w.heap.size w w'))
                        case atStart => exact ⟨(y312), (0), (by first | rfl | (simp; done) | (simp [*]; done)), H', ⟨Nat.le_refl _⟩, ⟨by (with_reducible repeat (first | apply Kd.R_alloc | apply Kd.R_drewN | apply Kd.R_drew)); exact HO_9.out⟩, ⟨by repeat (first | (with_reducible first | exact HB.out | apply below_alloc | apply pw_below_drewN | apply below_drew1) | exact HB.out)⟩⟩
                        case round =>
                          clear H'
                          try clear c1
                          try clear p1
                          try clear q1
                          try clear hx1
                          try clear c2
                          try clear p2
                          try clear q2
                          try clear hx2
                          try clear c5
                          try clear p6
                          try clear c8
                          try clear c10
                          try clear c11
                          try clear c11b0
                          try clear c11b1
                          try clear c12
                          try clear c12b0
                          try clear c12b1
                          try clear c15
                          try clear c15b0
                          try clear c16
                          try clear c16b0
                          try clear c17
                          try clear c17b0
                          try clear p18
                          try clear q18
                          try clear hx18
                          try clear hf18
                          try clear c20
                          try clear c21
                          try clear c21b0
                          try clear c22
                          try clear c22b0
                          try clear p23
                          try clear q23
                          try clear hx23
                          try clear hf23
                          try clear hx18_0
                          try clear hx23_0
                          try clear p18
                          try clear p2
                          try clear p23
                          try clear p6
                          try clear q18
                          try clear q23
                          obtain ⟨x9_3, x11_3, rfl, HA, HK3, HO_9, HB⟩ := hrel
                          have hl9_3 := (Kd.R_reads' HO_9.out).1
                          rw [hl9_3] at HO_9
                          (try simp only [hl9_3])
                          cases gk with
                          | zero => exact absurd HA.out (by simp [verditerref07_Way.l1])
                          | succ k3 =>
                            have H := HA.out
                            clear HA
                            simp only [verditerref07_Way.l1] at H
                            by_cases c26 : x11_3 < a0
                            · rw [if_pos c26] at H
                              have c26b0 : decide (x11_3 < a0) = true := decide_eq_true c26
                              clear c26
                              have H' := Aside0.mk H
                              clear H
                              go_wp2
                              go_loopg [12] k3 (fun kq v12 w' => ∃ (x9_4 : List Int) (x12_4 : Int), v12 = .int .i64 x12_4 ∧ Aside0 (verditerref07_Way.l2 kq a0 a1 a2 x9_4 x11_3 x12_4 = some (r1, r2, r3)) ∧ Aside0 (kq ≤ k3) ∧ Aside0 (Kd.R (Kd.int .i64) 3 w' w.heap.size (fun _ => True) (.slice (some ⟨go23, 0, none⟩) x9_3.length co23) x9_4) ∧ Aside0 (Below w.heap.size w w'))
                              case atStart => exact ⟨(x9_3), (0), (by first | rfl | (simp; done) | (simp [*]; done)), H', ⟨Nat.le_refl _⟩, ⟨by (try simp only [hl9_3]); (with_reducible repeat (first | apply Kd.R_alloc | apply Kd.R_drewN | apply Kd.R_drew)); exact HO_9.out⟩, ⟨by repeat (first | (with_reducible first | exact HB.out | apply below_alloc | apply pw_below_drewN | apply below_drew1) | exact HB.out)⟩⟩
                              case round =>
                                clear H'
                                try clear c1
                                try clear p1
                                try clear q1
                                try clear hx1
                                try clear c2
                                try clear p2
                                try clear q2
                                try clear hx2
                                try clear c5
                                try clear p6
                                try clear c8
                                try clear c10
                                try clear c11
                                try clear c11b0
                                try clear c11b1
                                try clear c12
                                try clear c12b0
                                try clear c12b1
                                try clear c15
                                try clear c15b0
                                try clear c16
                                try clear c16b0
                                try clear c17
                                try clear c17b0
                                try clear p18
                                try clear q18
                                try clear hx18
                                try clear hf18
                                try clear c20
                                try clear c21
                                try clear c21b0
                                try clear c22
                                try clear c22b0
                                try clear p23
                                try clear q23
                                try clear hx23
                                try clear hf23
                                try clear c26
                                try clear c26b0
                                try clear hx18_0
                                try clear hx23_0
                                try clear p1
                                try clear p18
                                try clear p2
                                try clear p23
                                try clear p6
                                try clear q1
                                try clear q18
                                try clear q2
                                try clear q23
                                obtain ⟨x9_4, x12_4, rfl, HA, HK4, HO_9, HB⟩ := hrel
                                have hl9_4 := (Kd.R_reads' HO_9.out).1
                                rw [hl9_4] at HO_9
                                (try simp only [hl9_4])
                                cases gk with
                                | zero => exact absurd HA.out (by simp [verditerref07_Way.l2])
                                | succ k4 =>
                                  have H := HA.out
                                  clear HA
                                  simp only [verditerref07_Way.l2] at H
                                  by_cases c27 : x12_4 < a0
                                  · rw [if_pos c27] at H
                                    have c27b0 : decide (x12_4 < a0) = true := decide_eq_true c27
                                    clear c27
                                    by_cases c28 : 0 ≤ x12_4
                                    · rw [if_pos c28] at H
                                      have c28b0 : decide (0 ≤ x12_4) = true := decide_eq_true c28
                                      clear c28
                                      by_cases c29 : x12_4 < (x9_4.length : Int)
                                      · rw [if_pos c29] at H
                                        have c29b0 : decide (x12_4 < (x9_4.length : Int)) = true := decide_eq_true c29
                                        clear c29
                                        replace H := Option.bind_eq_some_iff.mp H
                                        obtain ⟨t314, A300, H⟩ := H
                                        replace H : (if 0 ≤ t314 then (if t314 < (x9_4.length : Int) then ((verditerref07_goes.f a0 1 x12_4).bind fun t316 => (if 0 ≤ t316 then (if t316 < (x9_4.length : Int) then (verditerref07_Way.l2 k4 a0 a1 a2 (x9_4.set (x12_4 : Int).toNat (mn (mn (rd x9_4 x12_4) (wrap64 (1 + (rd x9_4 t314)))) (wrap64 (1 + (rd x9_4 t316))))) x11_3 (wrap64 (x12_4 + 1))) else (none)) else (none))) else (none)) else (none)) = some (r1, r2, r3) := H
                                        have A30 := Aside0.mk A300
                                        clear A300
                                        by_cases c31 : 0 ≤ t314
                                        · rw [if_pos c31] at H
                                          have c31b0 : decide (0 ≤ t314) = true := decide_eq_true c31
                                          clear c31
                                          by_cases c32 : t314 < (x9_4.length : Int)
                                          · rw [if_pos c32] at H
                                            have c32b0 : decide (t314 < (x9_4.length : Int)) = true := decide_eq_true c32
                                            clear c32
                                            replace H := Option.bind_eq_some_iff.mp H
                                            obtain ⟨t316, A330, H⟩ := H
                                            replace H : (if 0 ≤ t316 then (if t316 < (x9_4.length : Int) then (verditerref07_Way.l2 k4 a0 a1 a2 (x9_4.set (x12_4 : Int).toNat (mn (mn (rd x9_4 x12_4) (wrap64 (1 + (rd x9_4 t314)))) (wrap64 (1 + (rd x9_4 t316))))) x11_3 (wrap64 (x12_4 + 1))) else (none)) else (none)) = some (r1, r2, r3) := H
                                            have A33 := Aside0.mk A330
                                            clear A330
                                            by_cases c34 : 0 ≤ t316
                                            · rw [if_pos c34] at H
                                              have c34b0 : decide (0 ≤ t316) = true := decide_eq_true c34
                                              clear c34
                                              by_cases c35 : t316 < (x9_4.length : Int)
                                              · rw [if_pos c35] at H
                                                have c35b0 : decide (t316 < (x9_4.length : Int)) = true := decide_eq_true c35
                                                clear c35
                                                obtain ⟨ji36, hji36⟩ : ∃ j_ : Int, (mn (rd x9_4 x12_4) (wrap64 (1 + (rd x9_4 t314)))) = j_ := ⟨_, rfl⟩
                                                replace H : (verditerref07_Way.l2 k4 a0 a1 a2 (x9_4.set (x12_4 : Int).toNat (mn (ji36) (wrap64 (1 + (rd x9_4 t316))))) x11_3 (wrap64 (x12_4 + 1))) = some (r1, r2, r3) := by first | (rw [hji36] at H; exact H) | (simp only [hji36] at H ⊢; exact H)
                                                (try rw [hji36] at A30)
                                                (try rw [hji36] at A33)
                                                have hji36_ : (if (wrap64 (1 + (rd x9_4 t314))) < (rd x9_4 x12_4) then (wrap64 (1 + (rd x9_4 t314))) else (rd x9_4 x12_4)) = ji36 := hji36
                                                obtain ⟨ji37, hji37⟩ : ∃ j_ : Int, (mn (ji36) (wrap64 (1 + (rd x9_4 t316)))) = j_ := ⟨_, rfl⟩
                                                replace H : (verditerref07_Way.l2 k4 a0 a1 a2 (x9_4.set (x12_4 : Int).toNat (ji37)) x11_3 (wrap64 (x12_4 + 1))) = some (r1, r2, r3) := by first | (rw [hji37] at H; exact H) | (simp only [hji37] at H ⊢; exact H)
                                                (try rw [hji37] at A30)
                                                (try rw [hji37] at A33)
                                                have hji37_ : (if (wrap64 (1 + (rd x9_4 t316))) < (ji36) then (wrap64 (1 + (rd x9_4 t316))) else (ji36)) = ji37 := hji37
                                                obtain ⟨y318, hy318⟩ : ∃ y_ : List Int, y_ = (x9_4.set (x12_4 : Int).toNat (ji37)) := ⟨_, rfl⟩
                                                replace H : (verditerref07_Way.l2 k4 a0 a1 a2 y318 x11_3 (wrap64 (x12_4 + 1))) = some (r1, r2, r3) := by first | (rw [hy318]; with_reducible exact H) | (have H2_ := (Option.bind_some _ _).symm.trans H; rw [hy318]; with_reducible exact H2_) | (have H2_ := (Option.bind_some _ _).symm.trans H; with_reducible exact H2_) | with_reducible exact H | (rw [hy318]; exact H) | exact H
                                                have Ny318 := Aside0.mk hy318
                                                clear hy318
                                                have H' := Aside0.mk H
                                                clear H
                                                try go_wp2
                                                have n0_ := Aside0.mk (Kd.R_drew HO_9.out)
                                                have n1_ := Aside0.mk (below_drew1 HB.out)
                                                clear HO_9
                                                clear HB
                                                have HO_9 := n0_
                                                have HB := n1_
                                                clear n0_ n1_
                                                have p313 : 0 ≤ (x12_4 : Int) := of_decide_eq_true (by first | (with_reducible assumption) | assumption)
                                                have q313 : x12_4 < (x9_4.length : Int) := of_decide_eq_true (by first | (with_reducible assumption) | assumption)
                                                obtain ⟨ad313, e313, hx313_0⟩ := Kd.at_int (Kd.R_reads' HO_9.out).2.2 x12_4 p313 q313
                                                obtain rfl : (⟨go23, 0, none⟩ : Addr) = ad313 := (by injection e313)
                                                (first | simp only [add_plain] at hx313_0 | simp only [add_at] at hx313_0 | simp only [Addr.add, Nat.zero_add] at hx313_0 | skip)
                                                replace p313 := eq_true p313
                                                replace q313 := eq_true q313
                                                have p315 : 0 ≤ (t314 : Int) := of_decide_eq_true (by first | (with_reducible assumption) | assumption)
                                                have q315 : t314 < (x9_4.length : Int) := of_decide_eq_true (by first | (with_reducible assumption) | assumption)
                                                obtain ⟨ad315, e315, hx315_0⟩ := Kd.at_int (Kd.R_reads' HO_9.out).2.2 t314 p315 q315
                                                obtain rfl : (⟨go23, 0, none⟩ : Addr) = ad315 := (by injection e315)
                                                (first | simp only [add_plain] at hx315_0 | simp only [add_at] at hx315_0 | simp only [Addr.add, Nat.zero_add] at hx315_0 | skip)
                                                replace p315 := eq_true p315
                                                replace q315 := eq_true q315
                                                have p317 : 0 ≤ (t316 : Int) := of_decide_eq_true (by first | (with_reducible assumption) | assumption)
                                                have q317 : t316 < (x9_4.length : Int) := of_decide_eq_true (by first | (with_reducible assumption) | assumption)
                                                obtain ⟨ad317, e317, hx317_0⟩ := Kd.at_int (Kd.R_reads' HO_9.out).2.2 t316 p317 q317
                                                obtain rfl : (⟨go23, 0, none⟩ : Addr) = ad317 := (by injection e317)
                                                (first | simp only [add_plain] at hx317_0 | simp only [add_at] at hx317_0 | simp only [Addr.add, Nat.zero_add] at hx317_0 | skip)
                                                replace p317 := eq_true p317
                                                replace q317 := eq_true q317
                                                refine start_ (n := 23) (S := fun w' => w'.cell? ⟨go23, (x12_4).toNat, none⟩ = some (.int .i64 (rd x9_4 x12_4)) ∧ w'.cell? ⟨go23, (t314).toNat, none⟩ = some (.int .i64 (rd x9_4 t314)) ∧ w'.cell? ⟨go23, (t316).toNat, none⟩ = some (.int .i64 (rd x9_4 t316))) (ds := [22]) #[false, false, false, false, false, false, false, false, false, false, false, false, false, false, false, false, false, false, false, false, false, false, false] (by kernel_rfl) rfl rfl ⟨hx313_0, hx315_0, hx317_0⟩ (fun hHeld => ?_); refine with_tabW verditerref07_Way.tab17 verditerref07_Way.bits17 (fun HT_ HW_ => ?_)
                                                generalize wr.drew = w39 at HO_9 HB hx313_0 hx315_0 hx317_0 hHeld ⊢
                                                refine pure_ (i := 0) (N := some 54) (v := ?_) (a' := ?_) #[true, false, false, false, false, false, false, false, false, false, false, false, false, false, false, false, false, false, false, false, false, false, false] rfl rfl (any_of HT_.out (by kernel_rfl)) (fun _ _ _ h => h) (Or.inl ⟨by rfl, ?_⟩) ?_ ?_
                                                rotate_left
                                                · intro w'
                                                  go_simp
                                                  with_reducible rfl
                                                rotate_left
                                                · simp only [Act.put, List.setIfInBounds_toArray, List.set_cons_zero, List.set_cons_succ, i64_w, i32_w]
                                                  rfl
                                                refine pure_ (i := 1) (N := some 55) (v := ?_) (a' := ?_) #[true, true, false, false, false, false, false, false, false, false, false, false, false, false, false, false, false, false, false, false, false, false, false] rfl rfl (any_of HT_.out (by kernel_rfl)) (fun _ _ _ h => h) (Or.inl ⟨by rfl, ?_⟩) ?_ ?_
                                                rotate_left
                                                · intro w'
                                                  go_simp
                                                  with_reducible rfl
                                                rotate_left
                                                · simp only [Act.put, List.setIfInBounds_toArray, List.set_cons_zero, List.set_cons_succ, i64_w, i32_w]
                                                  rfl
                                                refine pure_ (i := 2) (N := some 56) (v := ?_) (a' := ?_) #[true, true, true, false, false, false, false, false, false, false, false, false, false, false, false, false, false, false, false, false, false, false, false] rfl rfl (any_of HT_.out (by kernel_rfl)) (fun _ _ _ h => h) (Or.inl ⟨by rfl, ?_⟩) ?_ ?_
                                                rotate_left
                                                · intro w'
                                                  go_simp
                                                  with_reducible rfl
                                                rotate_left
                                                · simp only [Act.put, List.setIfInBounds_toArray, List.set_cons_zero, List.set_cons_succ, i64_w, i32_w]
                                                  rfl
                                                refine pure_ (i := 3) (N := some 57) (v := ?_) (a' := ?_) #[true, true, true, true, false, false, false, false, false, false, false, false, false, false, false, false, false, false, false, false, false, false, false] rfl rfl (any_of HT_.out (by kernel_rfl)) (fun _ _ _ h => h) (Or.inl ⟨by rfl, ?_⟩) ?_ ?_
                                                rotate_left
                                                · intro w'
                                                  go_simp
                                                  with_reducible rfl
                                                rotate_left
                                                · simp only [Act.put, List.setIfInBounds_toArray, List.set_cons_zero, List.set_cons_succ, i64_w, i32_w]
                                                  rfl
                                                refine pure_ (i := 4) (N := some 58) (v := ?_) (a' := ?_) #[true, true, true, true, true, false, false, false, false, false, false, false, false, false, false, false, false, false, false, false, false, false, false] rfl rfl (any_of HT_.out (by kernel_rfl)) (fun _ _ _ h => h) (Or.inl ⟨by rfl, ?_⟩) ?_ ?_
                                                rotate_left
                                                · intro w'
                                                  go_simp
                                                  with_reducible rfl
                                                rotate_left
                                                · simp only [Act.put, List.setIfInBounds_toArray, List.set_cons_zero, List.set_cons_succ, i64_w, i32_w]
                                                  rfl
                                                refine pure_ (i := 6) (N := some 60) (v := ?_) (a' := ?_) #[true, true, true, true, true, false, true, false, false, false, false, false, false, false, false, false, false, false, false, false, false, false, false] rfl rfl (any_of HT_.out (by kernel_rfl)) (fun _ _ _ h => h) (Or.inl ⟨by rfl, ?_⟩) ?_ ?_
                                                rotate_left
                                                · intro w'
                                                  go_simp
                                                  with_reducible rfl
                                                rotate_left
                                                · simp only [Act.put, List.setIfInBounds_toArray, List.set_cons_zero, List.set_cons_succ, i64_w, i32_w]
                                                  rfl
                                                refine pure_ (i := 7) (N := some 61) (v := ?_) (a' := ?_) #[true, true, true, true, true, false, true, true, false, false, false, false, false, false, false, false, false, false, false, false, false, false, false] rfl rfl (any_of HT_.out (by kernel_rfl)) (fun _ _ _ h => h) (Or.inl ⟨by rfl, ?_⟩) ?_ ?_
                                                rotate_left
                                                · intro w'
                                                  go_simp
                                                  with_reducible rfl
                                                rotate_left
                                                · simp only [Act.put, List.setIfInBounds_toArray, List.set_cons_zero, List.set_cons_succ, i64_w, i32_w]
                                                  rfl
                                                refine pure_ (i := 8) (N := some 62) (v := ?_) (a' := ?_) #[true, true, true, true, true, false, true, true, true, false, false, false, false, false, false, false, false, false, false, false, false, false, false] rfl rfl (any_of HT_.out (by kernel_rfl)) (fun _ _ _ h => h) (Or.inl ⟨by rfl, ?_⟩) ?_ ?_
                                                rotate_left
                                                · intro w'
                                                  go_simp
                                                  with_reducible rfl
                                                rotate_left
                                                · simp only [Act.put, List.setIfInBounds_toArray, List.set_cons_zero, List.set_cons_succ, i64_w, i32_w]
                                                  rfl
                                                refine pure_ (i := 13) (N := some 67) (v := ?_) (a' := ?_) #[true, true, true, true, true, false, true, true, true, false, false, false, false, true, false, false, false, false, false, false, false, false, false] rfl rfl (any_of HT_.out (by kernel_rfl)) (fun _ _ _ h => h) (Or.inl ⟨by rfl, ?_⟩) ?_ ?_
                                                rotate_left
                                                · intro w'
                                                  go_simp
                                                  with_reducible rfl
                                                rotate_left
                                                · simp only [Act.put, List.setIfInBounds_toArray, List.set_cons_zero, List.set_cons_succ, i64_w, i32_w]
                                                  rfl
                                                refine pure_ (i := 14) (N := some 68) (v := ?_) (a' := ?_) #[true, true, true, true, true, false, true, true, true, false, false, false, false, true, true, false, false, false, false, false, false, false, false] rfl rfl (any_of HT_.out (by kernel_rfl)) (fun _ _ _ h => h) (Or.inl ⟨by rfl, ?_⟩) ?_ ?_
                                                rotate_left
                                                · intro w'
                                                  go_simp
                                                  with_reducible rfl
                                                rotate_left
                                                · simp only [Act.put, List.setIfInBounds_toArray, List.set_cons_zero, List.set_cons_succ, i64_w, i32_w]
                                                  rfl
                                                refine pure_ (i := 15) (N := some 69) (v := ?_) (a' := ?_) #[true, true, true, true, true, false, true, true, true, false, false, false, false, true, true, true, false, false, false, false, false, false, false] rfl rfl (any_of HT_.out (by kernel_rfl)) (fun _ _ _ h => h) (Or.inl ⟨by rfl, ?_⟩) ?_ ?_
                                                rotate_left
                                                · intro w'
                                                  go_simp
                                                  with_reducible rfl
                                                rotate_left
                                                · simp only [Act.put, List.setIfInBounds_toArray, List.set_cons_zero, List.set_cons_succ, i64_w, i32_w]
                                                  rfl
                                                refine take_ (i := 5) (N := some 59) (v := ?_) (a' := ?_) #[true, true, true, true, true, true, true, true, true, false, false, false, false, true, true, true, false, false, false, false, false, false, false] rfl rfl (take_ofW HT_.out HW_.out (by kernel_rfl)) (fun _ _ _ h => h) (Or.inl ⟨by rfl, ?_⟩) hHeld ?_ ?_
                                                rotate_left
                                                · rintro w' ⟨s0, s1, s2⟩
                                                  go_simp
                                                  with_reducible rfl
                                                rotate_left
                                                · simp only [Act.put, List.setIfInBounds_toArray, List.set_cons_zero, List.set_cons_succ, i64_w, i32_w]
                                                  rfl
                                                refine one_ (i := 9) (N := some 63) #[true, true, true, true, true, true, true, true, true, true, false, false, false, true, true, true, false, false, false, false, false, false, false] rfl rfl (one_of HT_.out (by kernel_rfl)) (by decide) (fun K hK => ?_)
                                                refine goes_ Try.func52 (by kernel_rfl) rfl #[.int .i64 a0, .int .i64 0, .int .i64 x12_4] (by rfl) rfl rfl (by (try simp only [List.map_toArray, List.map_cons, List.map_nil]); first | done | rfl | (simp only [List.length_drop, List.length_take]; rfl)) ?_
                                                with_reducible refine (verditerref07_goes.calls a0 0 x12_4 t314 _ A30.out).mono ?_
                                                rintro e w' ⟨rfl, ⟨nd, rfl⟩⟩
                                                refine ⟨_, rfl, ?_⟩
                                                refine hK.out _ _ ⟨hHeld.1, hHeld.2.1, hHeld.2.2⟩ (fun hHeld => ?_)
                                                clear hK K
                                                refine norm_ (a' := ?_) ?_ ?_
                                                rotate_left
                                                · show Act.put _ (some 63) _ = _
                                                  simp only [Act.put, List.setIfInBounds_toArray, List.set_cons_zero, List.set_cons_succ, i64_w, i32_w]
                                                  rfl
                                                refine pure_ (i := 10) (N := some 64) (v := ?_) (a' := ?_) #[true, true, true, true, true, true, true, true, true, true, true, false, false, true, true, true, false, false, false, false, false, false, false] rfl rfl (any_of HT_.out (by kernel_rfl)) (fun _ _ _ h => h) (Or.inl ⟨by rfl, ?_⟩) ?_ ?_
                                                rotate_left
                                                · intro w'
                                                  go_simp
                                                  with_reducible rfl
                                                rotate_left
                                                · simp only [Act.put, List.setIfInBounds_toArray, List.set_cons_zero, List.set_cons_succ, i64_w, i32_w]
                                                  rfl
                                                refine take_ (i := 11) (N := some 65) (v := ?_) (a' := ?_) #[true, true, true, true, true, true, true, true, true, true, true, true, false, true, true, true, false, false, false, false, false, false, false] rfl rfl (take_ofW HT_.out HW_.out (by kernel_rfl)) (fun _ _ _ h => h) (Or.inl ⟨by rfl, ?_⟩) hHeld ?_ ?_
                                                rotate_left
                                                · rintro w' ⟨s0, s1, s2⟩
                                                  go_simp
                                                  with_reducible rfl
                                                rotate_left
                                                · simp only [Act.put, List.setIfInBounds_toArray, List.set_cons_zero, List.set_cons_succ, i64_w, i32_w]
                                                  rfl
                                                refine pure_ (i := 12) (N := some 66) (v := ?_) (a' := ?_) #[true, true, true, true, true, true, true, true, true, true, true, true, true, true, true, true, false, false, false, false, false, false, false] rfl rfl (any_of HT_.out (by kernel_rfl)) (fun _ _ _ h => h) (Or.inl ⟨by rfl, ?_⟩) ?_ ?_
                                                rotate_left
                                                · intro w'
                                                  go_simp
                                                  with_reducible rfl
                                                rotate_left
                                                · simp only [Act.put, List.setIfInBounds_toArray, List.set_cons_zero, List.set_cons_succ, i64_w, i32_w]
                                                  rfl
                                                refine one_ (i := 16) (N := some 70) #[true, true, true, true, true, true, true, true, true, true, true, true, true, true, true, true, true, false, false, false, false, false, false] rfl rfl (one_of HT_.out (by kernel_rfl)) (by decide) (fun K hK => ?_)
                                                refine goes_ Try.func52 (by kernel_rfl) rfl #[.int .i64 a0, .int .i64 1, .int .i64 x12_4] (by rfl) rfl rfl (by (try simp only [List.map_toArray, List.map_cons, List.map_nil]); first | done | rfl | (simp only [List.length_drop, List.length_take]; rfl)) ?_
                                                with_reducible refine (verditerref07_goes.calls a0 1 x12_4 t316 _ A33.out).mono ?_
                                                rintro e w' ⟨rfl, ⟨nd, rfl⟩⟩
                                                refine ⟨_, rfl, ?_⟩
                                                have p38 : 0 ≤ (x12_4 : Int) := of_decide_eq_true (by first | (with_reducible assumption) | assumption)
                                                have q38 : (x12_4 : Int) < ((x9_4.length : Int) : Int) := of_decide_eq_true (by first | (with_reducible assumption) | assumption)
                                                obtain ⟨hx38_0, hf38_0⟩ := Kd.R_celln 0 HO_9.out (x12_4 : Int) p38 q38
                                                replace p38 := eq_true p38
                                                replace q38 := eq_true q38
                                                have HP40 := Kd.R_putn HO_9.out (x12_4 : Int) ji37
                                                rw [← Ny318.out] at HP40
                                                have HQ40 := Aside0.mk HP40
                                                clear HP40
                                                refine hK.out _ _ ⟨hHeld.1, hHeld.2.1, hHeld.2.2⟩ (fun hHeld => ?_)
                                                clear hK K
                                                refine norm_ (a' := ?_) ?_ ?_
                                                rotate_left
                                                · show Act.put _ (some 70) _ = _
                                                  simp only [Act.put, List.setIfInBounds_toArray, List.set_cons_zero, List.set_cons_succ, i64_w, i32_w]
                                                  rfl
                                                refine pure_ (i := 17) (N := some 71) (v := ?_) (a' := ?_) #[true, true, true, true, true, true, true, true, true, true, true, true, true, true, true, true, true, true, false, false, false, false, false] rfl rfl (any_of HT_.out (by kernel_rfl)) (fun _ _ _ h => h) (Or.inl ⟨by rfl, ?_⟩) ?_ ?_
                                                rotate_left
                                                · intro w'
                                                  go_simp
                                                  with_reducible rfl
                                                rotate_left
                                                · simp only [Act.put, List.setIfInBounds_toArray, List.set_cons_zero, List.set_cons_succ, i64_w, i32_w]
                                                  rfl
                                                refine take_ (i := 18) (N := some 72) (v := ?_) (a' := ?_) #[true, true, true, true, true, true, true, true, true, true, true, true, true, true, true, true, true, true, true, false, false, false, false] rfl rfl (take_ofW HT_.out HW_.out (by kernel_rfl)) (fun _ _ _ h => h) (Or.inl ⟨by rfl, ?_⟩) hHeld ?_ ?_
                                                rotate_left
                                                · rintro w' ⟨s0, s1, s2⟩
                                                  go_simp
                                                  with_reducible rfl
                                                rotate_left
                                                · simp only [Act.put, List.setIfInBounds_toArray, List.set_cons_zero, List.set_cons_succ, i64_w, i32_w]
                                                  rfl
                                                refine pure_ (i := 19) (N := some 73) (v := ?_) (a' := ?_) #[true, true, true, true, true, true, true, true, true, true, true, true, true, true, true, true, true, true, true, true, false, false, false] rfl rfl (any_of HT_.out (by kernel_rfl)) (fun _ _ _ h => h) (Or.inl ⟨by rfl, ?_⟩) ?_ ?_
                                                rotate_left
                                                · intro w'
                                                  go_simp
                                                  with_reducible rfl
                                                rotate_left
                                                · simp only [Act.put, List.setIfInBounds_toArray, List.set_cons_zero, List.set_cons_succ, i64_w, i32_w]
                                                  rfl
                                                refine pure_ (i := 20) (N := some 74) (v := ?_) (a' := ?_) #[true, true, true, true, true, true, true, true, true, true, true, true, true, true, true, true, true, true, true, true, true, false, false] rfl rfl (any_of HT_.out (by kernel_rfl)) (fun _ _ _ h => h) (Or.inl ⟨by rfl, ?_⟩) ?_ ?_
                                                rotate_left
                                                · intro w'
                                                  go_simp
                                                  with_reducible rfl
                                                rotate_left
                                                · simp only [Act.put, List.setIfInBounds_toArray, List.set_cons_zero, List.set_cons_succ, i64_w, i32_w]
                                                  rfl
                                                refine pure_ (i := 21) (N := some 75) (v := ?_) (a' := ?_) #[true, true, true, true, true, true, true, true, true, true, true, true, true, true, true, true, true, true, true, true, true, true, false] rfl rfl (any_of HT_.out (by kernel_rfl)) (fun _ _ _ h => h) (Or.inl ⟨by rfl, ?_⟩) ?_ ?_
                                                rotate_left
                                                · intro w'
                                                  go_simp
                                                  with_reducible rfl
                                                rotate_left
                                                · simp only [Act.put, List.setIfInBounds_toArray, List.set_cons_zero, List.set_cons_succ, i64_w, i32_w]
                                                  rfl
                                                refine last_ (i := 22) (N := none) #[true, true, true, true, true, true, true, true, true, true, true, true, true, true, true, true, true, true, true, true, true, true, true] rfl rfl (one_of HT_.out (by kernel_rfl)) (by decide) (fun K hK => ?_)
                                                refine skip_ (w1 := ?_) (by rfl) rfl ?_ ?_
                                                rotate_left
                                                · go_simp
                                                  rfl
                                                refine hK.out _ _ ?_
                                                clear hK K
                                                refine done_ (done_of HT_.out (by kernel_rfl)) ?_
                                                try go_wp2
                                                (try simp only [← hl9_4])
                                                go_roundg k4
                                                case measure => have := HJ5.out; have := HK2.out; have := HK3.out; have := HK4.out; omega
                                                case rel => exact ⟨(y318), (wrap64 (x12_4 + 1)), (by first | rfl | (simp; done) | (simp [*]; done)), H', ⟨by have := HJ5.out; have := HK2.out; have := HK3.out; have := HK4.out; omega⟩, ⟨by (try simp only [hl9_3]); (try simp only [hl9_4]); (with_reducible repeat (first | apply Kd.R_alloc | apply Kd.R_drewN | apply Kd.R_drew)); exact HQ40.out⟩, ⟨by repeat (first | (with_reducible first | exact HB.out | apply below_alloc | apply pw_below_drewN | apply below_drew1 | refine below_set ?_ GB23.out) | exact HB.out)⟩⟩
                                              · rw [if_neg c35] at H
                                                exact absurd H (by simp)
                                            · rw [if_neg c34] at H
                                              exact absurd H (by simp)
                                          · rw [if_neg c32] at H
                                            exact absurd H (by simp)
                                        · rw [if_neg c31] at H
                                          exact absurd H (by simp)
                                      · rw [if_neg c29] at H
                                        exact absurd H (by simp)
                                    · rw [if_neg c28] at H
                                      exact absurd H (by simp)
                                  · rw [if_neg c27] at H
                                    have c27b0 : decide (x12_4 < a0) = false := decide_eq_false c27
                                    clear c27
                                    have H' := Aside0.mk H
                                    clear H
                                    go_wp2
                                    (try simp only [← hl9_3, ← hl9_4])
                                    go_roundg k4
                                    case measure => have := HJ5.out; have := HK2.out; have := HK3.out; have := HK4.out; omega
                                    case rel => exact ⟨(x9_4), (wrap64 (x11_3 + 1)), (by first | rfl | (simp; done) | (simp [*]; done)), H', ⟨by have := HJ5.out; have := HK2.out; have := HK3.out; have := HK4.out; omega⟩, ⟨by (try simp only [hl9_3]); (try simp only [hl9_4]); (with_reducible repeat (first | apply Kd.R_alloc | apply Kd.R_drewN | apply Kd.R_drew)); exact HO_9.out⟩, ⟨by repeat (first | (with_reducible first | exact HB.out | apply below_alloc | apply pw_below_drewN | apply below_drew1) | exact HB.out)⟩⟩
                            · rw [if_neg c26] at H
                              have c26b0 : decide (x11_3 < a0) = false := decide_eq_false c26
                              clear c26
                              by_cases c41 : 0 ≤ a1
                              · rw [if_pos c41] at H
                                have c41b0 : decide (0 ≤ a1) = true := decide_eq_true c41
                                clear c41
                                by_cases c42 : a1 < (x9_3.length : Int)
                                · rw [if_pos c42] at H
                                  have c42b0 : decide (a1 < (x9_3.length : Int)) = true := decide_eq_true c42
                                  clear c42
                                  by_cases c43 : (rd x9_3 a1) > 40
                                  · rw [if_pos c43] at H
                                    have c43b0 : decide (40 < (rd x9_3 a1)) = true := decide_eq_true c43
                                    clear c43
                                    simp only [Option.some.injEq, Prod.mk.injEq] at H
                                    obtain ⟨rfl, rfl, rfl⟩ := H
                                    have p319 : 0 ≤ (a1 : Int) := of_decide_eq_true (by first | (with_reducible assumption) | assumption)
                                    have q319 : a1 < (x9_3.length : Int) := of_decide_eq_true (by first | (with_reducible assumption) | assumption)
                                    obtain ⟨ad319, e319, hx319_0⟩ := Kd.at_int (Kd.R_reads' HO_9.out).2.2 a1 p319 q319
                                    obtain rfl : (⟨go23, 0, none⟩ : Addr) = ad319 := (by injection e319)
                                    (first | simp only [add_plain] at hx319_0 | simp only [add_at] at hx319_0 | simp only [Addr.add, Nat.zero_add] at hx319_0 | skip)
                                    replace p319 := eq_true p319
                                    replace q319 := eq_true q319
                                    go_wp2
                                    go_ret3
                                    exact ⟨_, by first | rfl | (simp [errW_none, errW_some] <;> rfl) | (simp [*, errW_none, errW_some] <;> rfl), by first | exact Kd.R_nil _ _ _ _ _ | exact Kd.N_nil _ _ _ _ _ | exact Kd.V_nil _ _ _ _ _ | exact Kd.Q_nil _ _ _ _ _ | exact Kd.S_nil _ _ _ _ _, by repeat (first | (with_reducible first | exact HB.out | apply below_alloc | apply pw_below_drewN | apply below_drew1) | exact HB.out)⟩
                                  · rw [if_neg c43] at H
                                    have c43b0 : decide (40 < (rd x9_3 a1)) = false := decide_eq_false c43
                                    clear c43
                                    have H' := Aside0.mk H
                                    clear H
                                    have p319 : 0 ≤ (a1 : Int) := of_decide_eq_true (by first | (with_reducible assumption) | assumption)
                                    have q319 : a1 < (x9_3.length : Int) := of_decide_eq_true (by first | (with_reducible assumption) | assumption)
                                    obtain ⟨ad319, e319, hx319_0⟩ := Kd.at_int (Kd.R_reads' HO_9.out).2.2 a1 p319 q319
                                    obtain rfl : (⟨go23, 0, none⟩ : Addr) = ad319 := (by injection e319)
                                    (first | simp only [add_plain] at hx319_0 | simp only [add_at] at hx319_0 | simp only [Addr.add, Nat.zero_add] at hx319_0 | skip)
                                    replace p319 := eq_true p319
                                    replace q319 := eq_true q319
                                    go_wp2
                                    go_loopg [13, 14] k3 (fun kq v13 v14 w' => ∃ (x13_4 : List Int) (x14_4 : Int), v14 = .int .i64 x14_4 ∧ Aside0 (verditerref07_Way.l3 kq a0 a2 x9_3 x13_4 x14_4 = some (r1, r2, r3)) ∧ Aside0 (kq ≤ k3) ∧ Aside0 (Kd.R (Kd.int .i64) 3 w' w.heap.size (fun k_ => some k_ ≠ (v13 : Value).ownBlock) (.slice (some ⟨go23, 0, none⟩) x9_3.length co23) x9_3) ∧ Aside0 (Kd.R (Kd.int .i64) 3 w' w.heap.size (fun k_ => some k_ ≠ ((.slice (some ⟨go23, 0, none⟩) x9_3.length co23) : Value).ownBlock) v13 x13_4) ∧ Aside0 (Below w.heap.size w w'))
                                    case atStart => exact ⟨(([] : List Int)), (a1), (by first | rfl | (simp; done) | (simp [*]; done)), H', ⟨Nat.le_refl _⟩, ⟨by (try simp only [hl9_3]); (with_reducible repeat (first | apply Kd.R_alloc | apply Kd.R_drewN | apply Kd.R_drew)); exact Kd.R_mono HO_9.out (fun _ hk => (by simp [Value.ownBlock]))⟩, ⟨by (try simp only [hl9_3]); first | exact Kd.R_nil _ _ _ _ _ | exact Kd.N_nil _ _ _ _ _ | exact Kd.V_nil _ _ _ _ _ | exact Kd.Q_nil _ _ _ _ _ | exact Kd.S_nil _ _ _ _ _⟩, ⟨by repeat (first | (with_reducible first | exact HB.out | apply below_alloc | apply pw_below_drewN | apply below_drew1) | exact HB.out)⟩⟩
                                    case round =>
                                      clear H'
                                      try clear c1
                                      try clear p1
                                      try clear q1
                                      try clear hx1
                                      try clear c2
                                      try clear p2
                                      try clear q2
                                      try clear hx2
                                      try clear c3
                                      try clear p3
                                      try clear q3
                                      try clear hx3
                                      try clear hf3
                                      try clear c4
                                      try clear c5
                                      try clear p6
                                      try clear c8
                                      try clear c10
                                      try clear c11
                                      try clear c11b0
                                      try clear c11b1
                                      try clear c12
                                      try clear c12b0
                                      try clear c12b1
                                      try clear c15
                                      try clear c15b0
                                      try clear c16
                                      try clear c16b0
                                      try clear c17
                                      try clear c17b0
                                      try clear p18
                                      try clear q18
                                      try clear hx18
                                      try clear hf18
                                      try clear c20
                                      try clear c21
                                      try clear c21b0
                                      try clear c22
                                      try clear c22b0
                                      try clear p23
                                      try clear q23
                                      try clear hx23
                                      try clear hf23
                                      try clear c26
                                      try clear c26b0
                                      try clear c27
                                      try clear c27b0
                                      try clear c28
                                      try clear c28b0
                                      try clear c29
                                      try clear c29b0
                                      try clear c31
                                      try clear c31b0
                                      try clear p31
                                      try clear q31
                                      try clear hx31
                                      try clear c32
                                      try clear c32b0
                                      try clear c34
                                      try clear c34b0
                                      try clear c35
                                      try clear c35b0
                                      try clear p38
                                      try clear q38
                                      try clear hx38
                                      try clear hf38
                                      try clear c41
                                      try clear c41b0
                                      try clear c42
                                      try clear c42b0
                                      try clear c43
                                      try clear c43b0
                                      try clear hx18_0
                                      try clear hx23_0
                                      try clear hx313_0
                                      try clear hx315_0
                                      try clear hx317_0
                                      try clear hx319_0
                                      try clear hx38_0
                                      try clear p1
                                      try clear p18
                                      try clear p2
                                      try clear p23
                                      try clear p313
                                      try clear p315
                                      try clear p317
                                      try clear p319
                                      try clear p38
                                      try clear p6
                                      try clear q1
                                      try clear q18
                                      try clear q2
                                      try clear q23
                                      try clear q313
                                      try clear q315
                                      try clear q317
                                      try clear q319
                                      try clear q38
                                      obtain ⟨x13_4, x14_4, rfl, HA, HK4, HO_9, HO_13, HB⟩ := hrel
                                      cases gk with
                                      | zero => exact absurd HA.out (by simp [verditerref07_Way.l3])
                                      | succ k4 =>
                                        have H := HA.out
                                        clear HA
                                        simp only [verditerref07_Way.l3] at H
                                        by_cases c44 : x14_4 = a2
                                        · rw [if_pos c44] at H
                                          have c44b0 : (x14_4 == a2) = true := beq_iff_eq.mpr c44
                                          have c44b1 : (x14_4 != a2) = false := bne_eq_false_iff_eq.mpr c44
                                          clear c44
                                          simp only [Option.some.injEq, Prod.mk.injEq] at H
                                          obtain ⟨rfl, rfl, rfl⟩ := H
                                          go_wp2
                                          go_ret3
                                          exact ⟨_, by first | rfl | (simp [errW_none, errW_some] <;> rfl) | (simp [*, errW_none, errW_some] <;> rfl), by (with_reducible repeat (first | apply Kd.R_alloc | apply Kd.R_drewN | apply Kd.R_drew)); exact Kd.R_mono HO_13.out (fun _ hk => trivial), by repeat (first | (with_reducible first | exact HB.out | apply below_alloc | apply pw_below_drewN | apply below_drew1) | exact HB.out)⟩
                                        · rw [if_neg c44] at H
                                          have c44b0 : (x14_4 == a2) = false := beq_eq_false_iff_ne.mpr c44
                                          have c44b1 : (x14_4 != a2) = true := bne_iff_ne.mpr c44
                                          replace H := Option.bind_eq_some_iff.mp H
                                          obtain ⟨t320, A450, H⟩ := H
                                          replace H : (if 0 ≤ t320 then (if t320 < (x9_3.length : Int) then (if 0 ≤ x14_4 then (if x14_4 < (x9_3.length : Int) then (if (rd x9_3 t320) = (wrap64 ((rd x9_3 x14_4) - 1)) then (if x13_4.length < 17592186044416 then ((verditerref07_goes.f a0 0 x14_4).bind fun t326 => (verditerref07_Way.l3 k4 a0 a2 x9_3 (x13_4 ++ [0]) t326)) else (none)) else (if x13_4.length < 17592186044416 then ((verditerref07_goes.f a0 1 x14_4).bind fun t330 => (verditerref07_Way.l3 k4 a0 a2 x9_3 (x13_4 ++ [1]) t330)) else (none))) else (none)) else (none)) else (none)) else (none)) = some (r1, r2, r3) := H
                                          have A45 := Aside0.mk A450
                                          clear A450
                                          by_cases c46 : 0 ≤ t320
                                          · rw [if_pos c46] at H
                                            have c46b0 : decide (0 ≤ t320) = true := decide_eq_true c46
                                            clear c46
                                            by_cases c47 : t320 < (x9_3.length : Int)
                                            · rw [if_pos c47] at H
                                              have c47b0 : decide (t320 < (x9_3.length : Int)) = true := decide_eq_true c47
                                              clear c47
                                              by_cases c48 : 0 ≤ x14_4
                                              · rw [if_pos c48] at H
                                                have c48b0 : decide (0 ≤ x14_4) = true := decide_eq_true c48
                                                clear c48
                                                by_cases c49 : x14_4 < (x9_3.length : Int)
                                                · rw [if_pos c49] at H
                                                  have c49b0 : decide (x14_4 < (x9_3.length : Int)) = true := decide_eq_true c49
                                                  clear c49
                                                  by_cases c50 : (rd x9_3 t320) = (wrap64 ((rd x9_3 x14_4) - 1))
                                                  · rw [if_pos c50] at H
                                                    have c50b0 : ((rd x9_3 t320) == (wrap64 ((rd x9_3 x14_4) - 1))) = true := beq_iff_eq.mpr c50
                                                    have c50b1 : ((rd x9_3 t320) != (wrap64 ((rd x9_3 x14_4) - 1))) = false := bne_eq_false_iff_eq.mpr c50
                                                    clear c50
                                                    by_cases c51 : x13_4.length < 17592186044416
                                                    · rw [if_pos c51] at H
                                                      have LMc51 := Aside0.mk c51
                                                      clear c51
                                                      obtain ⟨y323, hy323⟩ : ∃ y_ : List Int, y_ = (x13_4 ++ [0]) := ⟨_, rfl⟩
                                                      replace H : ((verditerref07_goes.f a0 0 x14_4).bind fun t326 => (verditerref07_Way.l3 k4 a0 a2 x9_3 y323 t326)) = some (r1, r2, r3) := by first | (rw [hy323]; with_reducible exact H) | (have H2_ := (Option.bind_some _ _).symm.trans H; rw [hy323]; with_reducible exact H2_) | (have H2_ := (Option.bind_some _ _).symm.trans H; with_reducible exact H2_) | with_reducible exact H | (rw [hy323]; exact H) | exact H
                                                      have Ny323 := Aside0.mk hy323
                                                      clear hy323
                                                      replace H := Option.bind_eq_some_iff.mp H
                                                      obtain ⟨t326, A520, H⟩ := H
                                                      replace H : (verditerref07_Way.l3 k4 a0 a2 x9_3 y323 t326) = some (r1, r2, r3) := H
                                                      have A52 := Aside0.mk A520
                                                      clear A520
                                                      have H' := Aside0.mk H
                                                      clear H
                                                      try go_wp2
                                                      have n0_ := Aside0.mk (Kd.R_drew HO_9.out)
                                                      have n1_ := Aside0.mk (Kd.R_drew HO_13.out)
                                                      have n2_ := Aside0.mk (below_drew1 HB.out)
                                                      clear HO_9
                                                      clear HO_13
                                                      clear HB
                                                      have HO_9 := n0_
                                                      have HO_13 := n1_
                                                      have HB := n2_
                                                      clear n0_ n1_ n2_
                                                      have p322 : 0 ≤ (x14_4 : Int) := of_decide_eq_true (by first | (with_reducible assumption) | assumption)
                                                      have q322 : x14_4 < (x9_3.length : Int) := of_decide_eq_true (by first | (with_reducible assumption) | assumption)
                                                      obtain ⟨ad322, e322, hx322_0⟩ := Kd.at_int (Kd.R_reads' HO_9.out).2.2 x14_4 p322 q322
                                                      obtain rfl : (⟨go23, 0, none⟩ : Addr) = ad322 := (by injection e322)
                                                      (first | simp only [add_plain] at hx322_0 | simp only [add_at] at hx322_0 | simp only [Addr.add, Nat.zero_add] at hx322_0 | skip)
                                                      replace p322 := eq_true p322
                                                      replace q322 := eq_true q322
                                                      have p321 : 0 ≤ (t320 : Int) := of_decide_eq_true (by first | (with_reducible assumption) | assumption)
                                                      have q321 : t320 < (x9_3.length : Int) := of_decide_eq_true (by first | (with_reducible assumption) | assumption)
                                                      obtain ⟨ad321, e321, hx321_0⟩ := Kd.at_int (Kd.R_reads' HO_9.out).2.2 t320 p321 q321
                                                      obtain rfl : (⟨go23, 0, none⟩ : Addr) = ad321 := (by injection e321)
                                                      (first | simp only [add_plain] at hx321_0 | simp only [add_at] at hx321_0 | simp only [Addr.add, Nat.zero_add] at hx321_0 | skip)
                                                      replace p321 := eq_true p321
                                                      replace q321 := eq_true q321
                                                      refine start_ (n := 12) (S := fun w' => w'.cell? ⟨go23, (x14_4).toNat, none⟩ = some (.int .i64 (rd x9_3 x14_4)) ∧ w'.cell? ⟨go23, (t320).toNat, none⟩ = some (.int .i64 (rd x9_3 t320))) (ds := []) #[false, false, false, false, false, false, false, false, false, false, false, false] (by kernel_rfl) rfl rfl ⟨hx322_0, hx321_0⟩ (fun hHeld => ?_); refine with_tabW verditerref07_Way.tab24 verditerref07_Way.bits24 (fun HT_ HW_ => ?_)
                                                      generalize wr.drew = w53 at HO_9 HO_13 HB hx321_0 hx322_0 hHeld ⊢
                                                      refine pure_ (i := 0) (N := some 85) (v := ?_) (a' := ?_) #[true, false, false, false, false, false, false, false, false, false, false, false] rfl rfl (any_of HT_.out (by kernel_rfl)) (fun _ _ _ h => h) (Or.inl ⟨by rfl, ?_⟩) ?_ ?_
                                                      rotate_left
                                                      · intro w'
                                                        go_simp
                                                        with_reducible rfl
                                                      rotate_left
                                                      · simp only [Act.put, List.setIfInBounds_toArray, List.set_cons_zero, List.set_cons_succ, i64_w, i32_w]
                                                        rfl
                                                      refine pure_ (i := 1) (N := some 86) (v := ?_) (a' := ?_) #[true, true, false, false, false, false, false, false, false, false, false, false] rfl rfl (any_of HT_.out (by kernel_rfl)) (fun _ _ _ h => h) (Or.inl ⟨by rfl, ?_⟩) ?_ ?_
                                                      rotate_left
                                                      · intro w'
                                                        go_simp
                                                        with_reducible rfl
                                                      rotate_left
                                                      · simp only [Act.put, List.setIfInBounds_toArray, List.set_cons_zero, List.set_cons_succ, i64_w, i32_w]
                                                        rfl
                                                      refine pure_ (i := 2) (N := some 87) (v := ?_) (a' := ?_) #[true, true, true, false, false, false, false, false, false, false, false, false] rfl rfl (any_of HT_.out (by kernel_rfl)) (fun _ _ _ h => h) (Or.inl ⟨by rfl, ?_⟩) ?_ ?_
                                                      rotate_left
                                                      · intro w'
                                                        go_simp
                                                        with_reducible rfl
                                                      rotate_left
                                                      · simp only [Act.put, List.setIfInBounds_toArray, List.set_cons_zero, List.set_cons_succ, i64_w, i32_w]
                                                        rfl
                                                      refine pure_ (i := 6) (N := some 91) (v := ?_) (a' := ?_) #[true, true, true, false, false, false, true, false, false, false, false, false] rfl rfl (any_of HT_.out (by kernel_rfl)) (fun _ _ _ h => h) (Or.inl ⟨by rfl, ?_⟩) ?_ ?_
                                                      rotate_left
                                                      · intro w'
                                                        go_simp
                                                        with_reducible rfl
                                                      rotate_left
                                                      · simp only [Act.put, List.setIfInBounds_toArray, List.set_cons_zero, List.set_cons_succ, i64_w, i32_w]
                                                        rfl
                                                      refine pure_ (i := 7) (N := some 92) (v := ?_) (a' := ?_) #[true, true, true, false, false, false, true, true, false, false, false, false] rfl rfl (any_of HT_.out (by kernel_rfl)) (fun _ _ _ h => h) (Or.inl ⟨by rfl, ?_⟩) ?_ ?_
                                                      rotate_left
                                                      · intro w'
                                                        go_simp
                                                        with_reducible rfl
                                                      rotate_left
                                                      · simp only [Act.put, List.setIfInBounds_toArray, List.set_cons_zero, List.set_cons_succ, i64_w, i32_w]
                                                        rfl
                                                      refine pure_ (i := 8) (N := some 93) (v := ?_) (a' := ?_) #[true, true, true, false, false, false, true, true, true, false, false, false] rfl rfl (any_of HT_.out (by kernel_rfl)) (fun _ _ _ h => h) (Or.inl ⟨by rfl, ?_⟩) ?_ ?_
                                                      rotate_left
                                                      · intro w'
                                                        go_simp
                                                        with_reducible rfl
                                                      rotate_left
                                                      · simp only [Act.put, List.setIfInBounds_toArray, List.set_cons_zero, List.set_cons_succ, i64_w, i32_w]
                                                        rfl
                                                      refine take_ (i := 9) (N := some 94) (v := ?_) (a' := ?_) #[true, true, true, false, false, false, true, true, true, true, false, false] rfl rfl (take_ofW HT_.out HW_.out (by kernel_rfl)) (fun _ _ _ h => h) (Or.inl ⟨by rfl, ?_⟩) hHeld ?_ ?_
                                                      rotate_left
                                                      · rintro w' ⟨s0, s1⟩
                                                        go_simp
                                                        with_reducible rfl
                                                      rotate_left
                                                      · simp only [Act.put, List.setIfInBounds_toArray, List.set_cons_zero, List.set_cons_succ, i64_w, i32_w]
                                                        rfl
                                                      refine pure_ (i := 10) (N := some 95) (v := ?_) (a' := ?_) #[true, true, true, false, false, false, true, true, true, true, true, false] rfl rfl (any_of HT_.out (by kernel_rfl)) (fun _ _ _ h => h) (Or.inl ⟨by rfl, ?_⟩) ?_ ?_
                                                      rotate_left
                                                      · intro w'
                                                        go_simp
                                                        with_reducible rfl
                                                      rotate_left
                                                      · simp only [Act.put, List.setIfInBounds_toArray, List.set_cons_zero, List.set_cons_succ, i64_w, i32_w]
                                                        rfl
                                                      refine one_ (i := 3) (N := some 88) #[true, true, true, true, false, false, true, true, true, true, true, false] rfl rfl (one_of HT_.out (by kernel_rfl)) (by decide) (fun K hK => ?_)
                                                      refine goes_ Try.func52 (by kernel_rfl) rfl #[.int .i64 a0, .int .i64 0, .int .i64 x14_4] (by rfl) rfl rfl (by (try simp only [List.map_toArray, List.map_cons, List.map_nil]); first | done | rfl | (simp only [List.length_drop, List.length_take]; rfl)) ?_
                                                      with_reducible refine (verditerref07_goes.calls a0 0 x14_4 t320 _ A45.out).mono ?_
                                                      rintro e w' ⟨rfl, ⟨nd, rfl⟩⟩
                                                      refine ⟨_, rfl, ?_⟩
                                                      refine hK.out _ _ ⟨hHeld.1, hHeld.2⟩ (fun hHeld => ?_)
                                                      clear hK K
                                                      refine norm_ (a' := ?_) ?_ ?_
                                                      rotate_left
                                                      · show Act.put _ (some 88) _ = _
                                                        simp only [Act.put, List.setIfInBounds_toArray, List.set_cons_zero, List.set_cons_succ, i64_w, i32_w]
                                                        rfl
                                                      refine pure_ (i := 4) (N := some 89) (v := ?_) (a' := ?_) #[true, true, true, true, true, false, true, true, true, true, true, false] rfl rfl (any_of HT_.out (by kernel_rfl)) (fun _ _ _ h => h) (Or.inl ⟨by rfl, ?_⟩) ?_ ?_
                                                      rotate_left
                                                      · intro w'
                                                        go_simp
                                                        with_reducible rfl
                                                      rotate_left
                                                      · simp only [Act.put, List.setIfInBounds_toArray, List.set_cons_zero, List.set_cons_succ, i64_w, i32_w]
                                                        rfl
                                                      refine take_ (i := 5) (N := some 90) (v := ?_) (a' := ?_) #[true, true, true, true, true, true, true, true, true, true, true, false] rfl rfl (take_ofW HT_.out HW_.out (by kernel_rfl)) (fun _ _ _ h => h) (Or.inl ⟨by rfl, ?_⟩) hHeld ?_ ?_
                                                      rotate_left
                                                      · rintro w' ⟨s0, s1⟩
                                                        go_simp
                                                        with_reducible rfl
                                                      rotate_left
                                                      · simp only [Act.put, List.setIfInBounds_toArray, List.set_cons_zero, List.set_cons_succ, i64_w, i32_w]
                                                        rfl
                                                      refine pure_ (i := 11) (N := some 96) (v := ?_) (a' := ?_) #[true, true, true, true, true, true, true, true, true, true, true, true] rfl rfl (any_of HT_.out (by kernel_rfl)) (fun _ _ _ h => h) (Or.inl ⟨by rfl, ?_⟩) ?_ ?_
                                                      rotate_left
                                                      · intro w'
                                                        go_simp
                                                        with_reducible rfl
                                                      rotate_left
                                                      · simp only [Act.put, List.setIfInBounds_toArray, List.set_cons_zero, List.set_cons_succ, i64_w, i32_w]
                                                        rfl
                                                      refine done_ (done_of HT_.out (by kernel_rfl)) ?_
                                                      try go_wp2_with (first | ((with_reducible refine gate_builtin (b := .append) (xs := #[.tmp 97, .tmp 99]) rfl ?_); at_builtin; refine Kd.R_append (Kd.int .i64) (w0 := w) w.heap.size rfl (.tmp 97) (.tmp 99) 22 3 (.int .i64 0) 8 rfl Try.underlying22 info3 rfl (by decide) (by omega) u13 x13_4 0 [.int .i64 0] (fun k_ => some k_ ≠ (.slice (some ⟨go23, 0, none⟩) x9_3.length co23 : Value).ownBlock) (fun _ => False) rfl rfl ?aP (fun _ hk => hk.elim) ?aF ?aO ?aB ?aS ?aL ?_; (case aP => exact rfl); (case aB => exact (by repeat (first | (with_reducible first | exact HB.out | apply below_alloc | apply pw_below_drewN | apply below_drew1) | exact HB.out))); (case aF => exact (fun k_ hk => Kd.fresh' (Kd.R_lt (by (with_reducible repeat (first | apply Kd.R_alloc | apply Kd.R_drewN | apply Kd.R_drew)); exact HO_9.out)) k_ hk)); (case aO => exact (by (with_reducible repeat (first | apply Kd.R_alloc | apply Kd.R_drewN | apply Kd.R_drew)); exact HO_13.out)); (case aS => exact (below_size (by repeat (first | (with_reducible first | exact HB.out | apply below_alloc | apply pw_below_drewN | apply below_drew1) | exact HB.out)))); (case aL => have := LMc51.out; omega); intro v324 w54 ho hb hg hat; rw [← Ny323.out] at ho; have n0_ := Aside0.mk (Kd.R_after (ok := (fun _ => True)) (by (with_reducible repeat (first | apply Kd.R_alloc | apply Kd.R_drewN | apply Kd.R_drew)); exact Kd.R_mono HO_9.out (fun _ hk => ⟨trivial, hk⟩)) hg hat); have n1_ := Aside0.mk (hb); have n2_ := Aside0.mk (ho); clear HO_9; clear HB; clear HO_13; have HO_9 := n0_; have HB := n1_; have HO325 := n2_; clear n0_ n1_ n2_; clear ho hb hg hat) | ((with_reducible refine gate_callee (f := 52) rfl ?_); refine goesL_ (some 104) rfl rfl Try.func52 (by kernel_rfl) rfl #[.int .i64 a0, .int .i64 0, .int .i64 x14_4] rfl (by (try simp only [List.map_toArray, List.map_cons, List.map_nil]); first | done | rfl | (simp only [List.length_drop, List.length_take]; rfl)) ?_; (with_reducible refine (verditerref07_goes.calls a0 0 x14_4 t326 _ A52.out).mono ?_); rintro e w' ⟨rfl, ⟨nd, rfl⟩⟩; refine ⟨_, rfl, ?_⟩))
                                                      go_roundg k4
                                                      case measure => have := HJ5.out; have := HK2.out; have := HK3.out; have := HK4.out; omega
                                                      case rel => exact ⟨(y323), (t326), (by first | rfl | (simp; done) | (simp [*]; done)), H', ⟨by have := HJ5.out; have := HK2.out; have := HK3.out; have := HK4.out; omega⟩, ⟨by (try simp only [hl9_3]); (with_reducible repeat (first | apply Kd.R_alloc | apply Kd.R_drewN | apply Kd.R_drew)); exact Kd.R_mono HO_9.out (fun _ hk => hk.2)⟩, ⟨by (try simp only [hl9_3]); (with_reducible repeat (first | apply Kd.R_alloc | apply Kd.R_drewN | apply Kd.R_drew)); exact HO325.out⟩, ⟨by repeat (first | (with_reducible first | exact HB.out | apply below_alloc | apply pw_below_drewN | apply below_drew1) | exact HB.out)⟩⟩
                                                    · rw [if_neg c51] at H
                                                      exact absurd H (by simp)
                                                  · rw [if_neg c50] at H
                                                    have c50b0 : ((rd x9_3 t320) == (wrap64 ((rd x9_3 x14_4) - 1))) = false := beq_eq_false_iff_ne.mpr c50
                                                    have c50b1 : ((rd x9_3 t320) != (wrap64 ((rd x9_3 x14_4) - 1))) = true := bne_iff_ne.mpr c50
                                                    by_cases c55 : x13_4.length < 17592186044416
                                                    · rw [if_pos c55] at H
                                                      have LMc55 := Aside0.mk c55
                                                      clear c55
                                                      obtain ⟨y327, hy327⟩ : ∃ y_ : List Int, y_ = (x13_4 ++ [1]) := ⟨_, rfl⟩
                                                      replace H : ((verditerref07_goes.f a0 1 x14_4).bind fun t330 => (verditerref07_Way.l3 k4 a0 a2 x9_3 y327 t330)) = some (r1, r2, r3) := by first | (rw [hy327]; with_reducible exact H) | (have H2_ := (Option.bind_some _ _).symm.trans H; rw [hy327]; with_reducible exact H2_) | (have H2_ := (Option.bind_some _ _).symm.trans H; with_reducible exact H2_) | with_reducible exact H | (rw [hy327]; exact H) | exact H
                                                      have Ny327 := Aside0.mk hy327
                                                      clear hy327
                                                      replace H := Option.bind_eq_some_iff.mp H
                                                      obtain ⟨t330, A560, H⟩ := H
                                                      replace H : (verditerref07_Way.l3 k4 a0 a2 x9_3 y327 t330) = some (r1, r2, r3) := H
                                                      have A56 := Aside0.mk A560
                                                      clear A560
                                                      have H' := Aside0.mk H
                                                      clear H
                                                      try go_wp2
                                                      have n0_ := Aside0.mk (Kd.R_drew HO_9.out)
                                                      have n1_ := Aside0.mk (Kd.R_drew HO_13.out)
                                                      have n2_ := Aside0.mk (below_drew1 HB.out)
                                                      clear HO_9
                                                      clear HO_13
                                                      clear HB
                                                      have HO_9 := n0_
                                                      have HO_13 := n1_
                                                      have HB := n2_
                                                      clear n0_ n1_ n2_
                                                      have p322 : 0 ≤ (x14_4 : Int) := of_decide_eq_true (by first | (with_reducible assumption) | assumption)
                                                      have q322 : x14_4 < (x9_3.length : Int) := of_decide_eq_true (by first | (with_reducible assumption) | assumption)
                                                      obtain ⟨ad322, e322, hx322_0⟩ := Kd.at_int (Kd.R_reads' HO_9.out).2.2 x14_4 p322 q322
                                                      obtain rfl : (⟨go23, 0, none⟩ : Addr) = ad322 := (by injection e322)
                                                      (first | simp only [add_plain] at hx322_0 | simp only [add_at] at hx322_0 | simp only [Addr.add, Nat.zero_add] at hx322_0 | skip)
                                                      replace p322 := eq_true p322
                                                      replace q322 := eq_true q322
                                                      have p321 : 0 ≤ (t320 : Int) := of_decide_eq_true (by first | (with_reducible assumption) | assumption)
                                                      have q321 : t320 < (x9_3.length : Int) := of_decide_eq_true (by first | (with_reducible assumption) | assumption)
                                                      obtain ⟨ad321, e321, hx321_0⟩ := Kd.at_int (Kd.R_reads' HO_9.out).2.2 t320 p321 q321
                                                      obtain rfl : (⟨go23, 0, none⟩ : Addr) = ad321 := (by injection e321)
                                                      (first | simp only [add_plain] at hx321_0 | simp only [add_at] at hx321_0 | simp only [Addr.add, Nat.zero_add] at hx321_0 | skip)
                                                      replace p321 := eq_true p321
                                                      replace q321 := eq_true q321
                                                      refine start_ (n := 12) (S := fun w' => w'.cell? ⟨go23, (x14_4).toNat, none⟩ = some (.int .i64 (rd x9_3 x14_4)) ∧ w'.cell? ⟨go23, (t320).toNat, none⟩ = some (.int .i64 (rd x9_3 t320))) (ds := []) #[false, false, false, false, false, false, false, false, false, false, false, false] (by kernel_rfl) rfl rfl ⟨hx322_0, hx321_0⟩ (fun hHeld => ?_); refine with_tabW verditerref07_Way.tab24 verditerref07_Way.bits24 (fun HT_ HW_ => ?_)
                                                      generalize wr.drew = w57 at HO_9 HO_13 HB hx321_0 hx322_0 hHeld ⊢
                                                      refine pure_ (i := 0) (N := some 85) (v := ?_) (a' := ?_) #[true, false, false, false, false, false, false, false, false, false, false, false] rfl rfl (any_of HT_.out (by kernel_rfl)) (fun _ _ _ h => h) (Or.inl ⟨by rfl, ?_⟩) ?_ ?_
                                                      rotate_left
                                                      · intro w'
                                                        go_simp
                                                        with_reducible rfl
                                                      rotate_left
                                                      · simp only [Act.put, List.setIfInBounds_toArray, List.set_cons_zero, List.set_cons_succ, i64_w, i32_w]
                                                        rfl
                                                      refine pure_ (i := 1) (N := some 86) (v := ?_) (a' := ?_) #[true, true, false, false, false, false, false, false, false, false, false, false] rfl rfl (any_of HT_.out (by kernel_rfl)) (fun _ _ _ h => h) (Or.inl ⟨by rfl, ?_⟩) ?_ ?_
                                                      rotate_left
                                                      · intro w'
                                                        go_simp
                                                        with_reducible rfl
                                                      rotate_left
                                                      · simp only [Act.put, List.setIfInBounds_toArray, List.set_cons_zero, List.set_cons_succ, i64_w, i32_w]
                                                        rfl
                                                      refine pure_ (i := 2) (N := some 87) (v := ?_) (a' := ?_) #[true, true, true, false, false, false, false, false, false, false, false, false] rfl rfl (any_of HT_.out (by kernel_rfl)) (fun _ _ _ h => h) (Or.inl ⟨by rfl, ?_⟩) ?_ ?_
                                                      rotate_left
                                                      · intro w'
                                                        go_simp
                                                        with_reducible rfl
                                                      rotate_left
                                                      · simp only [Act.put, List.setIfInBounds_toArray, List.set_cons_zero, List.set_cons_succ, i64_w, i32_w]
                                                        rfl
                                                      refine pure_ (i := 6) (N := some 91) (v := ?_) (a' := ?_) #[true, true, true, false, false, false, true, false, false, false, false, false] rfl rfl (any_of HT_.out (by kernel_rfl)) (fun _ _ _ h => h) (Or.inl ⟨by rfl, ?_⟩) ?_ ?_
                                                      rotate_left
                                                      · intro w'
                                                        go_simp
                                                        with_reducible rfl
                                                      rotate_left
                                                      · simp only [Act.put, List.setIfInBounds_toArray, List.set_cons_zero, List.set_cons_succ, i64_w, i32_w]
                                                        rfl
                                                      refine pure_ (i := 7) (N := some 92) (v := ?_) (a' := ?_) #[true, true, true, false, false, false, true, true, false, false, false, false] rfl rfl (any_of HT_.out (by kernel_rfl)) (fun _ _ _ h => h) (Or.inl ⟨by rfl, ?_⟩) ?_ ?_
                                                      rotate_left
                                                      · intro w'
                                                        go_simp
                                                        with_reducible rfl
                                                      rotate_left
                                                      · simp only [Act.put, List.setIfInBounds_toArray, List.set_cons_zero, List.set_cons_succ, i64_w, i32_w]
                                                        rfl
                                                      refine pure_ (i := 8) (N := some 93) (v := ?_) (a' := ?_) #[true, true, true, false, false, false, true, true, true, false, false, false] rfl rfl (any_of HT_.out (by kernel_rfl)) (fun _ _ _ h => h) (Or.inl ⟨by rfl, ?_⟩) ?_ ?_
                                                      rotate_left
                                                      · intro w'
                                                        go_simp
                                                        with_reducible rfl
                                                      rotate_left
                                                      · simp only [Act.put, List.setIfInBounds_toArray, List.set_cons_zero, List.set_cons_succ, i64_w, i32_w]
                                                        rfl
                                                      refine take_ (i := 9) (N := some 94) (v := ?_) (a' := ?_) #[true, true, true, false, false, false, true, true, true, true, false, false] rfl rfl (take_ofW HT_.out HW_.out (by kernel_rfl)) (fun _ _ _ h => h) (Or.inl ⟨by rfl, ?_⟩) hHeld ?_ ?_
                                                      rotate_left
                                                      · rintro w' ⟨s0, s1⟩
                                                        go_simp
                                                        with_reducible rfl
                                                      rotate_left
                                                      · simp only [Act.put, List.setIfInBounds_toArray, List.set_cons_zero, List.set_cons_succ, i64_w, i32_w]
                                                        rfl
                                                      refine pure_ (i := 10) (N := some 95) (v := ?_) (a' := ?_) #[true, true, true, false, false, false, true, true, true, true, true, false] rfl rfl (any_of HT_.out (by kernel_rfl)) (fun _ _ _ h => h) (Or.inl ⟨by rfl, ?_⟩) ?_ ?_
                                                      rotate_left
                                                      · intro w'
                                                        go_simp
                                                        with_reducible rfl
                                                      rotate_left
                                                      · simp only [Act.put, List.setIfInBounds_toArray, List.set_cons_zero, List.set_cons_succ, i64_w, i32_w]
                                                        rfl
                                                      refine one_ (i := 3) (N := some 88) #[true, true, true, true, false, false, true, true, true, true, true, false] rfl rfl (one_of HT_.out (by kernel_rfl)) (by decide) (fun K hK => ?_)
                                                      refine goes_ Try.func52 (by kernel_rfl) rfl #[.int .i64 a0, .int .i64 0, .int .i64 x14_4] (by rfl) rfl rfl (by (try simp only [List.map_toArray, List.map_cons, List.map_nil]); first | done | rfl | (simp only [List.length_drop, List.length_take]; rfl)) ?_
                                                      with_reducible refine (verditerref07_goes.calls a0 0 x14_4 t320 _ A45.out).mono ?_
                                                      rintro e w' ⟨rfl, ⟨nd, rfl⟩⟩
                                                      refine ⟨_, rfl, ?_⟩
                                                      refine hK.out _ _ ⟨hHeld.1, hHeld.2⟩ (fun hHeld => ?_)
                                                      clear hK K
                                                      refine norm_ (a' := ?_) ?_ ?_
                                                      rotate_left
                                                      · show Act.put _ (some 88) _ = _
                                                        simp only [Act.put, List.setIfInBounds_toArray, List.set_cons_zero, List.set_cons_succ, i64_w, i32_w]
                                                        rfl
                                                      refine pure_ (i := 4) (N := some 89) (v := ?_) (a' := ?_) #[true, true, true, true, true, false, true, true, true, true, true, false] rfl rfl (any_of HT_.out (by kernel_rfl)) (fun _ _ _ h => h) (Or.inl ⟨by rfl, ?_⟩) ?_ ?_
                                                      rotate_left
                                                      · intro w'
                                                        go_simp
                                                        with_reducible rfl
                                                      rotate_left
                                                      · simp only [Act.put, List.setIfInBounds_toArray, List.set_cons_zero, List.set_cons_succ, i64_w, i32_w]
                                                        rfl
                                                      refine take_ (i := 5) (N := some 90) (v := ?_) (a' := ?_) #[true, true, true, true, true, true, true, true, true, true, true, false] rfl rfl (take_ofW HT_.out HW_.out (by kernel_rfl)) (fun _ _ _ h => h) (Or.inl ⟨by rfl, ?_⟩) hHeld ?_ ?_
                                                      rotate_left
                                                      · rintro w' ⟨s0, s1⟩
                                                        go_simp
                                                        with_reducible rfl
                                                      rotate_left
                                                      · simp only [Act.put, List.setIfInBounds_toArray, List.set_cons_zero, List.set_cons_succ, i64_w, i32_w]
                                                        rfl
                                                      refine pure_ (i := 11) (N := some 96) (v := ?_) (a' := ?_) #[true, true, true, true, true, true, true, true, true, true, true, true] rfl rfl (any_of HT_.out (by kernel_rfl)) (fun _ _ _ h => h) (Or.inl ⟨by rfl, ?_⟩) ?_ ?_
                                                      rotate_left
                                                      · intro w'
                                                        go_simp
                                                        with_reducible rfl
                                                      rotate_left
                                                      · simp only [Act.put, List.setIfInBounds_toArray, List.set_cons_zero, List.set_cons_succ, i64_w, i32_w]
                                                        rfl
                                                      refine done_ (done_of HT_.out (by kernel_rfl)) ?_
                                                      try go_wp2_with (first | ((with_reducible refine gate_builtin (b := .append) (xs := #[.tmp 97, .tmp 99]) rfl ?_); at_builtin; refine Kd.R_append (Kd.int .i64) (w0 := w) w.heap.size rfl (.tmp 97) (.tmp 99) 22 3 (.int .i64 0) 8 rfl Try.underlying22 info3 rfl (by decide) (by omega) u13 x13_4 1 [.int .i64 1] (fun k_ => some k_ ≠ (.slice (some ⟨go23, 0, none⟩) x9_3.length co23 : Value).ownBlock) (fun _ => False) rfl rfl ?aP (fun _ hk => hk.elim) ?aF ?aO ?aB ?aS ?aL ?_; (case aP => exact rfl); (case aB => exact (by repeat (first | (with_reducible first | exact HB.out | apply below_alloc | apply pw_below_drewN | apply below_drew1) | exact HB.out))); (case aF => exact (fun k_ hk => Kd.fresh' (Kd.R_lt (by (with_reducible repeat (first | apply Kd.R_alloc | apply Kd.R_drewN | apply Kd.R_drew)); exact HO_9.out)) k_ hk)); (case aO => exact (by (with_reducible repeat (first | apply Kd.R_alloc | apply Kd.R_drewN | apply Kd.R_drew)); exact HO_13.out)); (case aS => exact (below_size (by repeat (first | (with_reducible first | exact HB.out | apply below_alloc | apply pw_below_drewN | apply below_drew1) | exact HB.out)))); (case aL => have := LMc55.out; omega); intro v328 w58 ho hb hg hat; rw [← Ny327.out] at ho; have n0_ := Aside0.mk (Kd.R_after (ok := (fun _ => True)) (by (with_reducible repeat (first | apply Kd.R_alloc | apply Kd.R_drewN | apply Kd.R_drew)); exact Kd.R_mono HO_9.out (fun _ hk => ⟨trivial, hk⟩)) hg hat); have n1_ := Aside0.mk (hb); have n2_ := Aside0.mk (ho); clear HO_9; clear HB; clear HO_13; have HO_9 := n0_; have HB := n1_; have HO329 := n2_; clear n0_ n1_ n2_; clear ho hb hg hat) | ((with_reducible refine gate_callee (f := 52) rfl ?_); refine goesL_ (some 104) rfl rfl Try.func52 (by kernel_rfl) rfl #[.int .i64 a0, .int .i64 1, .int .i64 x14_4] rfl (by (try simp only [List.map_toArray, List.map_cons, List.map_nil]); first | done | rfl | (simp only [List.length_drop, List.length_take]; rfl)) ?_; (with_reducible refine (verditerref07_goes.calls a0 1 x14_4 t330 _ A56.out).mono ?_); rintro e w' ⟨rfl, ⟨nd, rfl⟩⟩; refine ⟨_, rfl, ?_⟩))
                                                      go_roundg k4
                                                      case measure => have := HJ5.out; have := HK2.out; have := HK3.out; have := HK4.out; omega
                                                      case rel => exact ⟨(y327), (t330), (by first | rfl | (simp; done) | (simp [*]; done)), H', ⟨by have := HJ5.out; have := HK2.out; have := HK3.out; have := HK4.out; omega⟩, ⟨by (try simp only [hl9_3]); (with_reducible repeat (first | apply Kd.R_alloc | apply Kd.R_drewN | apply Kd.R_drew)); exact Kd.R_mono HO_9.out (fun _ hk => hk.2)⟩, ⟨by (try simp only [hl9_3]); (with_reducible repeat (first | apply Kd.R_alloc | apply Kd.R_drewN | apply Kd.R_drew)); exact HO329.out⟩, ⟨by repeat (first | (with_reducible first | exact HB.out | apply below_alloc | apply pw_below_drewN | apply below_drew1) | exact HB.out)⟩⟩
                                                    · rw [if_neg c55] at H
                                                      exact absurd H (by simp)
                                                · rw [if_neg c49] at H
                                                  exact absurd H (by simp)
                                              · rw [if_neg c48] at H
                                                exact absurd H (by simp)
                                            · rw [if_neg c47] at H
                                              exact absurd H (by simp)
                                          · rw [if_neg c46] at H
                                            exact absurd H (by simp)
                                · rw [if_neg c42] at H
                                  exact absurd H (by simp)
                              · rw [if_neg c41] at H
                                exact absurd H (by simp)
                      · rw [if_neg c22] at H
                        exact absurd H (by simp)
                    · rw [if_neg c21] at H
                      exact absurd H (by simp)
            · rw [if_neg c12] at H
              exact absurd H (by simp)
          · rw [if_neg c11] at H
            exact absurd H (by simp)
  · replace c5 := Bool.eq_false_iff.mpr c5
    subst c5
    have H1 : (some (([] : List Int), false, 1)) = some (r1, r2, r3) := by rw [if_neg (show ¬ (false = true) by decide)] at H; exact H
    clear H
    have H := H1
    clear H1
    simp only [Option.some.injEq, Prod.mk.injEq] at H
    obtain ⟨rfl, rfl, rfl⟩ := H
    go_enter Try.func20, Try.ntmps20
    go_wp2_with (first | ((with_reducible refine gate_callee (f := 50) rfl ?_); refine goesL_ (some 17) rfl rfl Try.func50 (by kernel_rfl) rfl #[.int .i64 a0] rfl (by (try simp only [List.map_toArray, List.map_cons, List.map_nil]); first | done | rfl | (simp only [List.length_drop, List.length_take]; rfl)) ?_; (with_reducible refine (verditerref07_isLumps.calls a0 false _ A4.out).mono ?_); rintro e w' ⟨rfl, ⟨nd, rfl⟩⟩; refine ⟨_, rfl, ?_⟩))
    go_ret3
    exact ⟨_, by first | rfl | (simp [errW_none, errW_some] <;> rfl) | (simp [*, errW_none, errW_some] <;> rfl), by first | exact Kd.R_nil _ _ _ _ _ | exact Kd.N_nil _ _ _ _ _ | exact Kd.V_nil _ _ _ _ _ | exact Kd.Q_nil _ _ _ _ _ | exact Kd.S_nil _ _ _ _ _, by repeat (first | (with_reducible first | exact HB.out | apply below_alloc | apply pw_below_drewN | apply below_drew1) | exact HB.out)⟩

end Go.Proofs.Ytgnklmhjejbcoaa.K
