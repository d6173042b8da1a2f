/- DERIVED by wip/pr.py: for each Go function named below a Lean function with the same answers, and that a call of it comes to these answers, for all arguments and memories, where the Lean function has an answer. -/
import Derived.Test.YtgnklmhjejbcoaaK0
import Derived.Test.YtgnklmhjejbcoaaK1
import Derived.Test.YtgnklmhjejbcoaaK4
import Derived.Test.YtgnklmhjejbcoaaK11
import Derived.Test.YtgnklmhjejbcoaaK12
import Derived.Test.YtgnklmhjejbcoaaHG
namespace Go.Proofs.Ytgnklmhjejbcoaa.K
open Go.RowKit Go.Proofs.YtgnklmhjejbcoaaW.PrintWords Go.Proofs.YtgnklmhjejbcoaaW.PrintLast Go.Proofs.YtgnklmhjejbcoaaW.PrintMore
attribute [local go_sem] max2_int min2_int max_two min_two max_three min_three max_four min_four   -- for this text's walks alone
set_option linter.unusedVariables false
set_option linter.unusedSimpArgs false

/-! ### verditerlaw07_KneadWays: function 7 -/
def verditerlaw07_KneadWays.j0 : Nat → Int → Int → Int → List Int → Bool → Bool → Option (Bool)
  | 0, _, _, _, _, _, _ => none
  | k + 1, x0, x1, x2, x10, x11, x44 => if x44 = true then (some false) else (if x11 = true then ((knead_Place.f k x0 x10 x1).bind fun bt342 => (if bt342.2 = 0 then (if bt342.1 = x2 then ((verditerlaw07_known.f k).bind fun t344 => (some t344)) else (some false)) else (some false))) else ((verditerlaw07_known.f k).bind fun t345 => (some t345)))
def verditerlaw07_KneadWays.f (k : Nat) (a0 : Int) (a1 : Int) (a2 : Int) : Option (Bool) := (verditerref07_Way.f k a0 a1 a2).bind fun bt331 => ((knead_Way.f a0 a1 a2).bind fun bt336 => ((verditerref01_SameInts.f k bt336.1 bt331.1).bind fun t341 => (if t341 = true then (if (bt336.2.1 != bt331.2.1) = true then (verditerlaw07_KneadWays.j0 k a0 a1 a2 bt336.1 bt336.2.1 true) else (verditerlaw07_KneadWays.j0 k a0 a1 a2 bt336.1 bt336.2.1 (bt336.2.2 != bt331.2.2))) else (verditerlaw07_KneadWays.j0 k a0 a1 a2 bt336.1 bt336.2.1 true))))
theorem verditerlaw07_KneadWays.mono_l : ∀ k, (∀ y0 y1 y2 y3 y4 y5, LeO (verditerlaw07_KneadWays.j0 k y0 y1 y2 y3 y4 y5) (verditerlaw07_KneadWays.j0 (k + 1) y0 y1 y2 y3 y4 y5))
  | 0 => fun _ _ _ _ _ _ r h => by simp [verditerlaw07_KneadWays.j0] at h
  | k + 1 => by
    have ih0 := verditerlaw07_KneadWays.mono_l k
    · intro y0 y1 y2 y3 y4 y5
      unfold verditerlaw07_KneadWays.j0
      repeat' first
      | (with_reducible exact ih0 _ _ _ _ _ _)
      | (with_reducible exact knead_Place.mono _ _ _ _)
      | (with_reducible exact verditerlaw07_known.mono _)
      | (with_reducible exact verditerref01_SameInts.mono _ _ _)
      | (with_reducible exact verditerref07_Way.mono _ _ _ _)
      | (with_reducible exact LeO.refl _)
      | (with_reducible exact LeO.none _)
      | (with_reducible refine LeO.ite ?_ ?_)
      | (with_reducible refine LeO.bind ?_ (fun _ => ?_))
      | exact ih0 _ _ _ _ _ _
      | exact knead_Place.mono _ _ _ _
      | exact verditerlaw07_known.mono _
      | exact verditerref01_SameInts.mono _ _ _
      | exact verditerref07_Way.mono _ _ _ _
      | exact LeO.none _
      | refine LeO.ite ?_ ?_
      | refine LeO.bind ?_ (fun _ => ?_)
theorem verditerlaw07_KneadWays.mono : ∀ a0 a1 a2 k, LeO (verditerlaw07_KneadWays.f k a0 a1 a2) (verditerlaw07_KneadWays.f (k + 1) a0 a1 a2) := by
  intro a0 a1 a2 k
  have ih0 := verditerlaw07_KneadWays.mono_l k
  unfold verditerlaw07_KneadWays.f
  repeat' first
      | (with_reducible exact ih0 _ _ _ _ _ _)
      | (with_reducible exact knead_Place.mono _ _ _ _)
      | (with_reducible exact verditerlaw07_known.mono _)
      | (with_reducible exact verditerref01_SameInts.mono _ _ _)
      | (with_reducible exact verditerref07_Way.mono _ _ _ _)
      | (with_reducible exact LeO.refl _)
      | (with_reducible exact LeO.none _)
      | (with_reducible refine LeO.ite ?_ ?_)
      | (with_reducible refine LeO.bind ?_ (fun _ => ?_))
      | exact ih0 _ _ _ _ _ _
      | exact knead_Place.mono _ _ _ _
      | exact verditerlaw07_known.mono _
      | exact verditerref01_SameInts.mono _ _ _
      | exact verditerref07_Way.mono _ _ _ _
      | exact LeO.none _
      | refine LeO.ite ?_ ?_
      | refine LeO.bind ?_ (fun _ => ?_)
set_option maxHeartbeats 8000000 in
set_option maxRecDepth 100000 in
theorem verditerlaw07_KneadWays.calls (k : Nat) (a0 : Int) (a1 : Int) (a2 : Int) (r : Bool) (w : World) (h : verditerlaw07_KneadWays.f k a0 a1 a2 = some r) :
    Calls Try.prog 7 #[.int .i64 a0, .int .i64 a1, .int .i64 a2] w fun e w' => e = .returned (.bool r) ∧ Below w.heap.size w w' := by
  have HB := Aside0.mk (Below.refl w.heap.size w)
  have H : ((verditerref07_Way.f k a0 a1 a2).bind fun bt331 => ((knead_Way.f a0 a1 a2).bind fun bt336 => ((verditerref01_SameInts.f k bt336.1 bt331.1).bind fun t341 => (if t341 = true then (if (bt336.2.1 != bt331.2.1) = true then (verditerlaw07_KneadWays.j0 k a0 a1 a2 bt336.1 bt336.2.1 true) else (verditerlaw07_KneadWays.j0 k a0 a1 a2 bt336.1 bt336.2.1 (bt336.2.2 != bt331.2.2))) else (verditerlaw07_KneadWays.j0 k a0 a1 a2 bt336.1 bt336.2.1 true))))) = some r := h
  clear h
  replace H := Option.bind_eq_some_iff.mp H
  obtain ⟨⟨t331, t332, t333⟩, A40, H⟩ := H
  replace H : ((knead_Way.f a0 a1 a2).bind fun bt336 => ((verditerref01_SameInts.f k bt336.1 t331).bind fun t341 => (if t341 = true then (if (bt336.2.1 != t332) = true then (verditerlaw07_KneadWays.j0 k a0 a1 a2 bt336.1 bt336.2.1 true) else (verditerlaw07_KneadWays.j0 k a0 a1 a2 bt336.1 bt336.2.1 (bt336.2.2 != t333))) else (verditerlaw07_KneadWays.j0 k a0 a1 a2 bt336.1 bt336.2.1 true)))) = some r := H
  have A4 := Aside0.mk A40
  clear A40
  replace H := Option.bind_eq_some_iff.mp H
  obtain ⟨⟨t336, t337, t338⟩, A50, H⟩ := H
  replace H : ((verditerref01_SameInts.f k t336 t331).bind fun t341 => (if t341 = true then (if (t337 != t332) = true then (verditerlaw07_KneadWays.j0 k a0 a1 a2 t336 t337 true) else (verditerlaw07_KneadWays.j0 k a0 a1 a2 t336 t337 (t338 != t333))) else (verditerlaw07_KneadWays.j0 k a0 a1 a2 t336 t337 true))) = some r := H
  have A5 := Aside0.mk A50
  clear A50
  have HC6 := Aside0.mk H
  clear H
  go_enter Try.func7, Try.ntmps7
  go_upto_region 3 with (first | ((with_reducible refine gate_callee (f := 20) rfl ?_); refine goesL_ (some 19) rfl rfl Try.func20 (by kernel_rfl) rfl #[.int .i64 a0, .int .i64 a1, .int .i64 a2] rfl (by (try simp only [List.map_toArray, List.map_cons, List.map_nil]); first | done | rfl | (simp only [List.length_drop, List.length_take]; rfl)) ?_; (with_reducible refine (verditerref07_Way.calls k a0 a1 a2 t331 t332 t333 _ A4.out).mono ?_); rintro e w7 ⟨v334, rfl, ho0, hb⟩; refine ⟨_, rfl, ?_⟩; have n0_ := Aside0.mk (Kd.R_lower ho0 (below_size (by repeat (first | (with_reducible first | exact HB.out | apply below_alloc | apply pw_below_drewN | apply below_drew1) | exact HB.out)))); have n1_ := Aside0.mk (below_step (by repeat (first | (with_reducible first | exact HB.out | apply below_alloc | apply pw_below_drewN | apply below_drew1) | exact HB.out)) hb); clear HB; have HO335 := n0_; have HB := n1_; clear n0_ n1_; (try clear hb); (try clear hb2); (try clear hk); (try clear hi); (try clear ho0)) | ((with_reducible refine gate_callee (f := 21) rfl ?_); refine goesL_ (some 27) rfl rfl Try.func21 (by kernel_rfl) rfl #[.int .i64 a0, .int .i64 a1, .int .i64 a2] rfl (by (try simp only [List.map_toArray, List.map_cons, List.map_nil]); first | done | rfl | (simp only [List.length_drop, List.length_take]; rfl)) ?_; (with_reducible refine (knead_Way.calls a0 a1 a2 t336 t337 t338 _ A5.out).mono ?_); rintro e w8 ⟨v339, rfl, ho0, hb⟩; refine ⟨_, rfl, ?_⟩; have n0_ := Aside0.mk (Kd.R_elder' (by (with_reducible repeat (first | apply Kd.R_alloc | apply Kd.R_drewN | apply Kd.R_drew)); exact HO335.out) (Kd.R_base ho0) hb); have n1_ := Aside0.mk (Kd.R_lower (Kd.R_new' ho0 (Kd.R_lt (by (with_reducible repeat (first | apply Kd.R_alloc | apply Kd.R_drewN | apply Kd.R_drew)); exact HO335.out))) (below_size (by repeat (first | (with_reducible first | exact HB.out | apply below_alloc | apply pw_below_drewN | apply below_drew1) | exact HB.out)))); have n2_ := Aside0.mk (below_step (by repeat (first | (with_reducible first | exact HB.out | apply below_alloc | apply pw_below_drewN | apply below_drew1) | exact HB.out)) hb); clear HO335; clear HB; have HO335 := n0_; have HO340 := n1_; have HB := n2_; clear n0_ n1_ n2_; (try clear hb); (try clear hb2); (try clear hk); (try clear hi); (try clear ho0)))
  (try simp only [Act.put, List.setIfInBounds_toArray, List.set_cons_zero, List.set_cons_succ])
  go_cut [44] (fun v44 wc => ∃ (kq : Nat) (x44_5 : Bool), v44 = .bool x44_5 ∧ Aside0 (verditerlaw07_KneadWays.j0 kq a0 a1 a2 t336 t337 x44_5 = some r) ∧ Aside0 (kq ≤ k) ∧ Aside0 (Kd.R (Kd.int .i64) 3 wc w.heap.size (fun _ => True) v339 t336) ∧ Aside0 (Below w.heap.size w wc))
  case first =>
    have H := HC6.out
    clear HC6
    replace H := Option.bind_eq_some_iff.mp H
    obtain ⟨t341, A90, H⟩ := H
    replace H : (if t341 = true then (if (t337 != t332) = true then (verditerlaw07_KneadWays.j0 k a0 a1 a2 t336 t337 true) else (verditerlaw07_KneadWays.j0 k a0 a1 a2 t336 t337 (t338 != t333))) else (verditerlaw07_KneadWays.j0 k a0 a1 a2 t336 t337 true)) = some r := H
    have A9 := Aside0.mk A90
    clear A90
    by_cases c10 : t341 = true
    · subst c10
      have H1 : (if (t337 != t332) = true then (verditerlaw07_KneadWays.j0 k a0 a1 a2 t336 t337 true) else (verditerlaw07_KneadWays.j0 k a0 a1 a2 t336 t337 (t338 != t333))) = some r := by rw [if_pos rfl] at H; exact H
      clear H
      have H := H1
      clear H1
      by_cases c11 : (t337 != t332) = true
      · rw [if_pos c11] at H
        have c11b0 : (t337 != t332) = true := c11
        (try (have c11b1 : decide (t337 = t332) = false := by simpa using c11))
        (try (have c11b2 : (t337 == t332) = false := by simpa using c11))
        (try (have c11b3 : ¬ (t337 = t332) := by simpa using c11))
        clear c11
        (first | rw [c11b0] | (simp only [i64_w, i32_w]; rw [c11b0]) | skip)
        have H' := Aside0.mk H
        clear H
        obtain ⟨Ao12, co12, eo12⟩ := Kd.R_slice HO340.out
        subst eo12
        obtain ⟨Ao13, co13, eo13⟩ := Kd.R_slice HO335.out
        subst eo13
        go_wp2_with (first | ((with_reducible refine gate_callee (f := 22) rfl ?_); refine goesL_ (some 33) rfl rfl Try.func22 (by kernel_rfl) rfl #[.slice Ao12 t336.length co12, .slice Ao13 t331.length co13] rfl (by (try simp only [List.map_toArray, List.map_cons, List.map_nil]); first | done | rfl | (simp only [List.length_drop, List.length_take]; rfl)) ?_; (with_reducible refine (verditerref01_SameInts.calls k _ _ t336 _ _ t331 true _ ?side1 ?side2 ?side3 ?side4 A9.out).mono ?_); (case side1 => repeat (first | exact (Kd.R_reads' HO340.out).2.2 | (with_reducible refine Kd.C_alloc ?_ _) | (with_reducible refine Kd.C_drewN ?_ _) | (with_reducible refine Kd.C_drew ?_))); (case side2 => exact (Kd.R_reads' HO340.out).2.1); (case side3 => repeat (first | exact (Kd.R_reads' HO335.out).2.2 | (with_reducible refine Kd.C_alloc ?_ _) | (with_reducible refine Kd.C_drewN ?_ _) | (with_reducible refine Kd.C_drew ?_))); (case side4 => exact (Kd.R_reads' HO335.out).2.1); rintro e w' ⟨rfl, ⟨nd, rfl⟩⟩; refine ⟨_, rfl, ?_⟩))
        go_meet
        case rel => exact ⟨_, (true), (by first | rfl | (simp; done) | (simp [*]; done)), H', ⟨by first | omega | exact Nat.le_refl _⟩, ⟨by (with_reducible repeat (first | apply Kd.R_alloc | apply Kd.R_drewN | apply Kd.R_drew)); exact Kd.R_mono HO340.out (fun _ hk => trivial)⟩, ⟨by repeat (first | (with_reducible first | exact HB.out | apply below_alloc | apply pw_below_drewN | apply below_drew1) | exact HB.out)⟩⟩
      · rw [if_neg c11] at H
        have c11b0 : (t337 != t332) = false := by simpa using c11
        (try (have c11b1 : decide (t337 = t332) = true := by simpa using c11))
        (try (have c11b2 : (t337 == t332) = true := by simpa using c11))
        clear c11
        (first | rw [c11b0] | (simp only [i64_w, i32_w]; rw [c11b0]) | skip)
        have H' := Aside0.mk H
        clear H
        obtain ⟨Ao14, co14, eo14⟩ := Kd.R_slice HO340.out
        subst eo14
        obtain ⟨Ao15, co15, eo15⟩ := Kd.R_slice HO335.out
        subst eo15
        go_wp2_with (first | ((with_reducible refine gate_callee (f := 22) rfl ?_); refine goesL_ (some 33) rfl rfl Try.func22 (by kernel_rfl) rfl #[.slice Ao14 t336.length co14, .slice Ao15 t331.length co15] rfl (by (try simp only [List.map_toArray, List.map_cons, List.map_nil]); first | done | rfl | (simp only [List.length_drop, List.length_take]; rfl)) ?_; (with_reducible refine (verditerref01_SameInts.calls k _ _ t336 _ _ t331 true _ ?side1 ?side2 ?side3 ?side4 A9.out).mono ?_); (case side1 => repeat (first | exact (Kd.R_reads' HO340.out).2.2 | (with_reducible refine Kd.C_alloc ?_ _) | (with_reducible refine Kd.C_drewN ?_ _) | (with_reducible refine Kd.C_drew ?_))); (case side2 => exact (Kd.R_reads' HO340.out).2.1); (case side3 => repeat (first | exact (Kd.R_reads' HO335.out).2.2 | (with_reducible refine Kd.C_alloc ?_ _) | (with_reducible refine Kd.C_drewN ?_ _) | (with_reducible refine Kd.C_drew ?_))); (case side4 => exact (Kd.R_reads' HO335.out).2.1); rintro e w' ⟨rfl, ⟨nd, rfl⟩⟩; refine ⟨_, rfl, ?_⟩))
        go_meet
        case rel => exact ⟨_, ((t338 != t333)), (by first | rfl | (simp; done) | (simp [*]; done)), H', ⟨by first | omega | exact Nat.le_refl _⟩, ⟨by (with_reducible repeat (first | apply Kd.R_alloc | apply Kd.R_drewN | apply Kd.R_drew)); exact Kd.R_mono HO340.out (fun _ hk => trivial)⟩, ⟨by repeat (first | (with_reducible first | exact HB.out | apply below_alloc | apply pw_below_drewN | apply below_drew1) | exact HB.out)⟩⟩
    · replace c10 := Bool.eq_false_iff.mpr c10
      subst c10
      have H1 : (verditerlaw07_KneadWays.j0 k a0 a1 a2 t336 t337 true) = some r := by rw [if_neg (show ¬ (false = true) by decide)] at H; exact H
      clear H
      have H := H1
      clear H1
      have H' := Aside0.mk H
      clear H
      obtain ⟨Ao16, co16, eo16⟩ := Kd.R_slice HO340.out
      subst eo16
      obtain ⟨Ao17, co17, eo17⟩ := Kd.R_slice HO335.out
      subst eo17
      go_wp2_with (first | ((with_reducible refine gate_callee (f := 22) rfl ?_); refine goesL_ (some 33) rfl rfl Try.func22 (by kernel_rfl) rfl #[.slice Ao16 t336.length co16, .slice Ao17 t331.length co17] rfl (by (try simp only [List.map_toArray, List.map_cons, List.map_nil]); first | done | rfl | (simp only [List.length_drop, List.length_take]; rfl)) ?_; (with_reducible refine (verditerref01_SameInts.calls k _ _ t336 _ _ t331 false _ ?side1 ?side2 ?side3 ?side4 A9.out).mono ?_); (case side1 => repeat (first | exact (Kd.R_reads' HO340.out).2.2 | (with_reducible refine Kd.C_alloc ?_ _) | (with_reducible refine Kd.C_drewN ?_ _) | (with_reducible refine Kd.C_drew ?_))); (case side2 => exact (Kd.R_reads' HO340.out).2.1); (case side3 => repeat (first | exact (Kd.R_reads' HO335.out).2.2 | (with_reducible refine Kd.C_alloc ?_ _) | (with_reducible refine Kd.C_drewN ?_ _) | (with_reducible refine Kd.C_drew ?_))); (case side4 => exact (Kd.R_reads' HO335.out).2.1); rintro e w' ⟨rfl, ⟨nd, rfl⟩⟩; refine ⟨_, rfl, ?_⟩))
      go_meet
      case rel => exact ⟨_, (true), (by first | rfl | (simp; done) | (simp [*]; done)), H', ⟨by first | omega | exact Nat.le_refl _⟩, ⟨by (with_reducible repeat (first | apply Kd.R_alloc | apply Kd.R_drewN | apply Kd.R_drew)); exact Kd.R_mono HO340.out (fun _ hk => trivial)⟩, ⟨by repeat (first | (with_reducible first | exact HB.out | apply below_alloc | apply pw_below_drewN | apply below_drew1) | exact HB.out)⟩⟩
  case rest =>
    clear HC6
    try clear c1
    try clear c2
    try clear p2
    try clear c7
    try clear c10
    try clear c11
    try clear c11b0
    try clear c11b1
    try clear c11b2
    obtain ⟨kq, x44_5, rfl, HA, HJ5, HO_10, HB⟩ := hcut
    cases kq with
    | zero => exact absurd HA.out (by simp [verditerlaw07_KneadWays.j0])
    | succ kj5 =>
      have H := HA.out
      clear HA
      simp only [verditerlaw07_KneadWays.j0] at H
      by_cases c18 : x44_5 = true
      · subst c18
        have H1 : (some false) = some r := by rw [if_pos rfl] at H; exact H
        clear H
        have H := H1
        clear H1
        obtain rfl := Option.some.inj H
        go_wp2
        go_ret
        exact ⟨by first | rfl | (simp [errW_none, errW_some] <;> rfl) | (simp [*, errW_none, errW_some] <;> rfl), by repeat (first | (with_reducible first | exact HB.out | apply below_alloc | apply pw_below_drewN | apply below_drew1) | exact HB.out)⟩
      · replace c18 := Bool.eq_false_iff.mpr c18
        subst c18
        have H1 : (if t337 = true then ((knead_Place.f kj5 a0 t336 a1).bind fun bt342 => (if bt342.2 = 0 then (if bt342.1 = a2 then ((verditerlaw07_known.f kj5).bind fun t344 => (some t344)) else (some false)) else (some false))) else ((verditerlaw07_known.f kj5).bind fun t345 => (some t345))) = some r := by rw [if_neg (show ¬ (false = true) by decide)] at H; exact H
        clear H
        have H := H1
        clear H1
        by_cases c19 : t337 = true
        · subst c19
          have H1 : ((knead_Place.f kj5 a0 t336 a1).bind fun bt342 => (if bt342.2 = 0 then (if bt342.1 = a2 then ((verditerlaw07_known.f kj5).bind fun t344 => (some t344)) else (some false)) else (some false))) = some r := by rw [if_pos rfl] at H; exact H
          clear H
          have H := H1
          clear H1
          replace H := Option.bind_eq_some_iff.mp H
          obtain ⟨⟨t342, t343⟩, A200, H⟩ := H
          replace H : (if t343 = 0 then (if t342 = a2 then ((verditerlaw07_known.f kj5).bind fun t344 => (some t344)) else (some false)) else (some false)) = some r := H
          have A20 := Aside0.mk A200
          clear A200
          by_cases c21 : t343 = 0
          · rw [if_pos c21] at H
            have c21b0 : (t343 == 0) = true := beq_iff_eq.mpr c21
            have c21b1 : (t343 != 0) = false := bne_eq_false_iff_eq.mpr c21
            clear c21
            by_cases c22 : t342 = a2
            · rw [if_pos c22] at H
              have c22b0 : (t342 == a2) = true := beq_iff_eq.mpr c22
              have c22b1 : (t342 != a2) = false := bne_eq_false_iff_eq.mpr c22
              clear c22
              replace H := Option.bind_eq_some_iff.mp H
              obtain ⟨t344, A230, H⟩ := H
              replace H : (some t344) = some r := H
              have A23 := Aside0.mk A230
              clear A230
              obtain rfl := Option.some.inj H
              obtain ⟨Ao24, co24, eo24⟩ := Kd.R_slice HO_10.out
              subst eo24
              go_wp2_with (first | ((with_reducible refine gate_callee (f := 24) rfl ?_); refine goesL_ (some 52) rfl rfl Try.func24 (by kernel_rfl) rfl #[.int .i64 a0, .slice Ao24 t336.length co24, .int .i64 a1] rfl (by (try simp only [List.map_toArray, List.map_cons, List.map_nil]); first | done | rfl | (simp only [List.length_drop, List.length_take]; rfl)) ?_; (with_reducible refine (knead_Place.calls kj5 a0 _ _ t336 a1 t342 t343 _ ?side1 ?side2 A20.out).mono ?_); (case side1 => repeat (first | exact (Kd.R_reads' HO_10.out).2.2 | (with_reducible refine Kd.C_alloc ?_ _) | (with_reducible refine Kd.C_drewN ?_ _) | (with_reducible refine Kd.C_drew ?_))); (case side2 => exact (Kd.R_reads' HO_10.out).2.1); rintro e w' ⟨rfl, ⟨nd, rfl⟩⟩; refine ⟨_, rfl, ?_⟩) | (go_at_call 23; (with_reducible refine (verditerlaw07_known.calls kj5  t344 _ A23.out).mono ?_); rintro e w25 ⟨rfl, hb⟩; have n0_ := Aside0.mk (Kd.R_below (by (with_reducible repeat (first | apply Kd.R_alloc | apply Kd.R_drewN | apply Kd.R_drew)); exact HO_10.out) hb); have n1_ := Aside0.mk (below_step (by repeat (first | (with_reducible first | exact HB.out | apply below_alloc | apply pw_below_drewN | apply below_drew1) | exact HB.out)) hb); clear HO_10; clear HB; have HO_10 := n0_; have HB := n1_; clear n0_ n1_; (try clear hb); (try clear hb2); (try clear hk); (try clear hi)))
              go_ret
              exact ⟨by first | rfl | (simp [errW_none, errW_some] <;> rfl) | (simp [*, errW_none, errW_some] <;> rfl), by repeat (first | (with_reducible first | exact HB.out | apply below_alloc | apply pw_below_drewN | apply below_drew1) | exact HB.out)⟩
            · rw [if_neg c22] at H
              have c22b0 : (t342 == a2) = false := beq_eq_false_iff_ne.mpr c22
              have c22b1 : (t342 != a2) = true := bne_iff_ne.mpr c22
              obtain rfl := Option.some.inj H
              obtain ⟨Ao26, co26, eo26⟩ := Kd.R_slice HO_10.out
              subst eo26
              go_wp2_with (first | ((with_reducible refine gate_callee (f := 24) rfl ?_); refine goesL_ (some 52) rfl rfl Try.func24 (by kernel_rfl) rfl #[.int .i64 a0, .slice Ao26 t336.length co26, .int .i64 a1] rfl (by (try simp only [List.map_toArray, List.map_cons, List.map_nil]); first | done | rfl | (simp only [List.length_drop, List.length_take]; rfl)) ?_; (with_reducible refine (knead_Place.calls kj5 a0 _ _ t336 a1 t342 t343 _ ?side1 ?side2 A20.out).mono ?_); (case side1 => repeat (first | exact (Kd.R_reads' HO_10.out).2.2 | (with_reducible refine Kd.C_alloc ?_ _) | (with_reducible refine Kd.C_drewN ?_ _) | (with_reducible refine Kd.C_drew ?_))); (case side2 => exact (Kd.R_reads' HO_10.out).2.1); rintro e w' ⟨rfl, ⟨nd, rfl⟩⟩; refine ⟨_, rfl, ?_⟩))
              go_ret
              exact ⟨by first | rfl | (simp [errW_none, errW_some] <;> rfl) | (simp [*, errW_none, errW_some] <;> rfl), by repeat (first | (with_reducible first | exact HB.out | apply below_alloc | apply pw_below_drewN | apply below_drew1) | exact HB.out)⟩
          · rw [if_neg c21] at H
            have c21b0 : (t343 == 0) = false := beq_eq_false_iff_ne.mpr c21
            have c21b1 : (t343 != 0) = true := bne_iff_ne.mpr c21
            obtain rfl := Option.some.inj H
            obtain ⟨Ao27, co27, eo27⟩ := Kd.R_slice HO_10.out
            subst eo27
            go_wp2_with (first | ((with_reducible refine gate_callee (f := 24) rfl ?_); refine goesL_ (some 52) rfl rfl Try.func24 (by kernel_rfl) rfl #[.int .i64 a0, .slice Ao27 t336.length co27, .int .i64 a1] rfl (by (try simp only [List.map_toArray, List.map_cons, List.map_nil]); first | done | rfl | (simp only [List.length_drop, List.length_take]; rfl)) ?_; (with_reducible refine (knead_Place.calls kj5 a0 _ _ t336 a1 t342 t343 _ ?side1 ?side2 A20.out).mono ?_); (case side1 => repeat (first | exact (Kd.R_reads' HO_10.out).2.2 | (with_reducible refine Kd.C_alloc ?_ _) | (with_reducible refine Kd.C_drewN ?_ _) | (with_reducible refine Kd.C_drew ?_))); (case side2 => exact (Kd.R_reads' HO_10.out).2.1); rintro e w' ⟨rfl, ⟨nd, rfl⟩⟩; refine ⟨_, rfl, ?_⟩))
            go_ret
            exact ⟨by first | rfl | (simp [errW_none, errW_some] <;> rfl) | (simp [*, errW_none, errW_some] <;> rfl), by repeat (first | (with_reducible first | exact HB.out | apply below_alloc | apply pw_below_drewN | apply below_drew1) | exact HB.out)⟩
        · replace c19 := Bool.eq_false_iff.mpr c19
          subst c19
          have H1 : ((verditerlaw07_known.f kj5).bind fun t345 => (some t345)) = some r := by rw [if_neg (show ¬ (false = true) by decide)] at H; exact H
          clear H
          have H := H1
          clear H1
          replace H := Option.bind_eq_some_iff.mp H
          obtain ⟨t345, A280, H⟩ := H
          replace H : (some t345) = some r := H
          have A28 := Aside0.mk A280
          clear A280
          obtain rfl := Option.some.inj H
          go_wp2_with (first | ((with_reducible refine gate_callee (f := 23) rfl ?_); refine goesL_ (some 47) rfl rfl Try.func23 (by kernel_rfl) rfl #[] rfl (by (try simp only [List.map_toArray, List.map_cons, List.map_nil]); first | done | rfl | (simp only [List.length_drop, List.length_take]; rfl)) ?_; (with_reducible refine (verditerlaw07_known.calls kj5  t345 _ A28.out).mono ?_); rintro e w29 ⟨rfl, hb⟩; refine ⟨_, rfl, ?_⟩; have n0_ := Aside0.mk (Kd.R_below (by (with_reducible repeat (first | apply Kd.R_alloc | apply Kd.R_drewN | apply Kd.R_drew)); exact HO_10.out) hb); have n1_ := Aside0.mk (below_step (by repeat (first | (with_reducible first | exact HB.out | apply below_alloc | apply pw_below_drewN | apply below_drew1) | exact HB.out)) hb); clear HO_10; clear HB; have HO_10 := n0_; have HB := n1_; clear n0_ n1_; (try clear hb); (try clear hb2); (try clear hk); (try clear hi)))
          go_ret
          exact ⟨by first | rfl | (simp [errW_none, errW_some] <;> rfl) | (simp [*, errW_none, errW_some] <;> rfl), by repeat (first | (with_reducible first | exact HB.out | apply below_alloc | apply pw_below_drewN | apply below_drew1) | exact HB.out)⟩

/-- THE ONE PURE STATEMENT of verditerlaw07_KneadWays: yours. -/
def verditerlaw07_KneadWays.Pure : Prop := ∀ (a0 : Int) (a1 : Int) (a2 : Int), (Lit.int .i64 a0).wf = true → (Lit.int .i64 a1).wf = true → (Lit.int .i64 a2).wf = true → ∃ k, verditerlaw07_KneadWays.f k a0 a1 a2 = some true
theorem verditerlaw07_KneadWays.walk (P : verditerlaw07_KneadWays.Pure) (a0 : Int) (a1 : Int) (a2 : Int) (w : World) (w0 : (Lit.int .i64 a0).wf = true) (w1 : (Lit.int .i64 a1).wf = true) (w2 : (Lit.int .i64 a2).wf = true) :
    Calls Try.prog 7 #[.int .i64 a0, .int .i64 a1, .int .i64 a2] w fun e w' => e = .returned (.bool true) ∧ Below w.heap.size w w' := by
  obtain ⟨k, h⟩ := P a0 a1 a2 w0 w1 w2
  refine (verditerlaw07_KneadWays.calls k a0 a1 a2 true w h).mono ?_
  rintro e w' ⟨rfl, hd⟩
  exact ⟨rfl, hd⟩

end Go.Proofs.Ytgnklmhjejbcoaa.K
