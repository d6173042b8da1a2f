/- What both isSet answer: whether a list is a set of numbers below a count. -/
import Derived.Test.YtfejfljgdeglgaaK1
import Derived.Test.YtfejfljgdeglgaaK2
import Derived.BigQuiet
namespace Go.Proofs.Ytfejfljgdeglgaa.K
open Go.RowKit Go.Proofs.YtfejfljgdeglgaaW.PrintWords Go.Proofs.YtfejfljgdeglgaaW.PrintLast Go.Proofs.YtfejfljgdeglgaaW.PrintMore
set_option linter.unusedVariables false
set_option linter.unusedSimpArgs false

/-- Whether the element i of a list is a number below g, and greater than the one before it. -/
def setAt (l : List Int) (g : Int) (i : Nat) : Bool := decide (0 ≤ l.getD i 0 ∧ l.getD i 0 ≤ g - 1) && (decide (i = 0) || decide (l.getD (i - 1) 0 < l.getD i 0))
def isSetF (l : List Int) (g : Int) : Nat → Nat → Bool
  | 0, _ => true
  | m + 1, i => if setAt l g i = true then isSetF l g m (i + 1) else false
/-- A set of numbers below g. -/
def isSetP (l : List Int) (g : Int) : Bool := isSetF l g l.length 0
theorem isSetF_yes {l : List Int} {g : Int} {m i : Nat} (h : setAt l g i = true) : isSetF l g (m + 1) i = isSetF l g m (i + 1) := by rw [isSetF, if_pos h]
theorem isSetF_no {l : List Int} {g : Int} {m i : Nat} (h : setAt l g i = false) : isSetF l g (m + 1) i = false := by rw [isSetF, if_neg (by rw [h]; decide)]
theorem jwithin (n lo hi : Int) : judge_within.f n lo hi = some (decide (lo ≤ n ∧ n ≤ hi)) := by
  unfold judge_within.f
  split
  · congr 1; simp only [decide_eq_decide]; omega
  · congr 1; symm; simp only [decide_eq_false_iff_not]; omega
theorem rwithin (n lo hi : Int) : verditerref02_within.f n lo hi = some (decide (lo ≤ n ∧ n ≤ hi)) := by
  unfold verditerref02_within.f
  split
  · congr 1; simp only [decide_eq_decide]; omega
  · congr 1; symm; simp only [decide_eq_false_iff_not]; omega

theorem setAt_zero (l : List Int) (g : Int) : setAt l g 0 = decide (0 ≤ rd l ((0 : Nat) : Int) ∧ rd l ((0 : Nat) : Int) ≤ g - 1) := by unfold setAt rd; simp
theorem setAt_pos (l : List Int) (g : Int) (n : Nat) (h : 0 < n) : setAt l g n = decide (0 ≤ rd l (n : Int) ∧ rd l (n : Int) ≤ g - 1 ∧ rd l ((n : Int) - 1) < rd l (n : Int)) := by
  have e : ((n : Int) - 1).toNat = n - 1 := by omega
  unfold setAt rd
  rw [e, Int.toNat_natCast]
  generalize l.getD n 0 = x
  generalize l.getD (n - 1) 0 = y
  rw [decide_eq_false (show ¬ n = 0 by omega), Bool.false_or, ← Bool.decide_and, decide_eq_decide]
  omega
theorem no_set {l : List Int} {g : Int} {n : Nat} {b : Bool} (h : b = isSetF l g (l.length - n) n) (hn : n < l.length) (hs : setAt l g n = false) : b = false := by
  rw [h, show l.length - n = (l.length - n - 1) + 1 by omega, isSetF_no hs]
theorem yes_set {l : List Int} {g : Int} {n : Nat} {b : Bool} (h : b = isSetF l g (l.length - n) n) (hn : n < l.length) (hs : setAt l g n = true) : b = isSetF l g (l.length - (n + 1)) (n + 1) := by
  rw [h, show l.length - n = (l.length - (n + 1)) + 1 by omega, isSetF_yes hs]

set_option maxHeartbeats 4000000 in
set_option maxRecDepth 100000 in
theorem isSet84 (l : List Int) (A : Option Addr) (c : Nat) (g : Int) (hg0 : 0 ≤ g) (hg1 : g ≤ 1000) (w : World) (hr : Kd.C (Kd.int .i64) w A l.length l) (hc : l.length ≤ c) :
    Calls Try.prog 84 #[.slice A l.length c, .int .i64 g] w fun e w' => e = .returned (.bool (isSetP l g)) ∧ Drawn0 w w' := by
  have hm := hr.2.1
  have HR0 := Aside0.mk hr
  clear hr
  go_enter Try.func84, Try.ntmps84
  go_wp2
  go_loopw [9] (fun i wr => ∃ n : Nat, n ≤ l.length ∧ i = .int .i64 n ∧ isSetP l g = isSetF l g (l.length - n) n ∧ Drawn0 w wr) (fun i _ => l.length - (intOf i).toNat)
  case atStart => exact ⟨0, Nat.zero_le _, rfl, rfl, Drawn0.refl _⟩
  case round =>
    obtain ⟨n, hn, rfl, hs, ⟨m, rfl⟩⟩ := hrel
    have HS := Aside0.mk hs
    clear hs
    by_cases hlt : n < l.length
    · obtain ⟨ad, e, hx⟩ := Kd.at_int HR0.out (n : Int) (by omega) (by omega)
      cases e
      rw [Int.toNat_natCast] at hx
      have b0 := eq_true (show 0 ≤ (n : Int) by omega)
      have b1 := eq_true (show (n : Int) < (l.length : Int) by omega)
      by_cases hz : n = 0
      · have hd := setAt_zero l g
        rw [← hz] at hd
        have b2 := eq_false (show ¬ 0 < n by omega)
        have b3 : decide (0 < n) = false := decide_eq_false (by omega)
        have HZ := Aside0.mk hz
        clear hz
        have HD := Aside0.mk hd
        clear hd
        go_wp2
        all_goals first
          | (go_ret; exact ⟨by rw [no_set HS.out hlt (by rw [HD.out]; simp only [decide_eq_false_iff_not]; omega)]; first | rfl | simp, by repeat (first | exact Drawn0.refl _ | apply Drawn0.step)⟩)
          | (go_roundw; (case rel => exact ⟨n + 1, by omega, by go_num, yes_set HS.out hlt (by rw [HD.out]; simp only [decide_eq_true_eq]; omega), by repeat (first | exact Drawn0.refl _ | apply Drawn0.step)⟩); (case measure => simp [intOf]; omega))
          | skip
        all_goals trace_state
      · obtain ⟨ad1, e1, hx1⟩ := Kd.at_int HR0.out ((n : Int) - 1) (by omega) (by omega)
        cases e1
        rw [show ((n : Int) - 1).toNat = n - 1 by omega] at hx1
        have hd := setAt_pos l g n (by omega)
        have HD := Aside0.mk hd
        clear hd
        go_wp2
        all_goals first
          | (go_ret; exact ⟨by rw [no_set HS.out hlt (by rw [HD.out]; simp only [decide_eq_false_iff_not]; omega)]; first | rfl | simp, by repeat (first | exact Drawn0.refl _ | apply Drawn0.step)⟩)
          | (go_roundw; (case rel => exact ⟨n + 1, by omega, by go_num, yes_set HS.out hlt (by rw [HD.out]; simp only [decide_eq_true_eq]; omega), by repeat (first | exact Drawn0.refl _ | apply Drawn0.step)⟩); (case measure => simp [intOf]; omega))
          | skip
        all_goals trace_state
    · have e : n = l.length := by omega
      subst e
      go_wp2
      go_ret
      exact ⟨by rw [HS.out, Nat.sub_self]; rfl, by repeat (first | exact Drawn0.refl _ | apply Drawn0.step)⟩

/-- verditerref02.isSet. -/
def verditerref02_isSet.f (l : List Int) (g : Int) : Option Bool := if 0 ≤ g ∧ g ≤ 1000 then some (isSetP l g) else none
set_option maxHeartbeats 4000000 in
set_option maxRecDepth 100000 in
theorem verditerref02_isSet.calls (A : Option Addr) (c : Nat) (l : List Int) (g : Int) (r : Bool) (w : World) (hr : Kd.C (Kd.int .i64) w A l.length l) (hc : l.length ≤ c) (h : verditerref02_isSet.f l g = some r) :
    Calls Try.prog 85 #[.slice A l.length c, .int .i64 g] w fun e w' => e = .returned (.bool r) ∧ Drawn0 w w' := by
  unfold verditerref02_isSet.f at h
  split at h
  case isFalse => cases h
  case isTrue hg =>
    obtain ⟨hg0, hg1⟩ := hg
    obtain rfl := Option.some.inj h
    clear h
    have hm := hr.2.1
    have HR0 := Aside0.mk hr
    clear hr
    go_enter Try.func85, Try.ntmps85
    go_wp2
    go_loopw [5] (fun i wr => ∃ n : Nat, n ≤ l.length ∧ i = .int .i64 n ∧ isSetP l g = isSetF l g (l.length - n) n ∧ Drawn0 w wr) (fun i _ => l.length - (intOf i).toNat)
    case atStart => exact ⟨0, Nat.zero_le _, rfl, rfl, Drawn0.refl _⟩
    case round =>
      obtain ⟨n, hn, rfl, hs, ⟨m, rfl⟩⟩ := hrel
      have HS := Aside0.mk hs
      clear hs
      by_cases hlt : n < l.length
      · obtain ⟨ad, e, hx⟩ := Kd.at_int HR0.out (n : Int) (by omega) (by omega)
        cases e
        rw [Int.toNat_natCast] at hx
        have b0 := eq_true (show 0 ≤ (n : Int) by omega)
        have b1 := eq_true (show (n : Int) < (l.length : Int) by omega)
        by_cases hw : 0 ≤ rd l n ∧ rd l n ≤ g - 1
        · have HW := Aside0.mk ((rwithin (rd l n) 0 (g - 1)).trans (by rw [decide_eq_true hw]) : verditerref02_within.f (rd l n) 0 (g - 1) = some true)
          have HW2 := Aside0.mk hw
          clear hw
          by_cases hz : n = 0
          · have hd := setAt_zero l g
            rw [← hz] at hd
            have b2 := eq_false (show ¬ 0 < n by omega)
            have b3 : decide (0 < n) = false := decide_eq_false (by omega)
            have b4 : decide (0 < (n : Int)) = false := decide_eq_false (by omega)
            have HD := Aside0.mk hd
            clear hd hz
            go_wp2_with fail
            go_quiet (first | (go_at_call 61; (with_reducible refine (verditerref02_within.calls _ _ _ _ _ HW.out).mono ?_); rintro e w' ⟨rfl, ⟨nd, rfl⟩⟩; (try first | exact ⟨rfl, _, World.drewN_drewN _ _ _⟩ | exact ⟨rfl, _, Eq.trans (World.drewN_drewN _ _ _) (congrArg (World.drewN _) (Nat.add_assoc _ _ _))⟩)))
            go_wp2
            go_roundw
            case rel => exact ⟨n + 1, by omega, by go_num, yes_set HS.out hlt (by rw [HD.out]; exact decide_eq_true HW2.out), by repeat (first | exact Drawn0.refl _ | apply Drawn0.step)⟩
            case measure => simp [intOf]; omega
          · obtain ⟨ad1, e1, hx1⟩ := Kd.at_int HR0.out ((n : Int) - 1) (by omega) (by omega)
            cases e1
            rw [show ((n : Int) - 1).toNat = n - 1 by omega] at hx1
            have hd := setAt_pos l g n (by omega)
            have HD := Aside0.mk hd
            clear hd
            have b2 := eq_true (show 0 < n by omega)
            by_cases hle : rd l n ≤ rd l ((n : Int) - 1)
            · go_wp2_with fail
              go_quiet (first | (go_at_call 61; (with_reducible refine (verditerref02_within.calls _ _ _ _ _ HW.out).mono ?_); rintro e w' ⟨rfl, ⟨nd, rfl⟩⟩; (try first | exact ⟨rfl, _, World.drewN_drewN _ _ _⟩ | exact ⟨rfl, _, Eq.trans (World.drewN_drewN _ _ _) (congrArg (World.drewN _) (Nat.add_assoc _ _ _))⟩)))
              go_wp2
              go_ret
              exact ⟨by rw [no_set HS.out hlt (by rw [HD.out]; simp only [decide_eq_false_iff_not]; omega)]; first | rfl | simp, by repeat (first | exact Drawn0.refl _ | apply Drawn0.step)⟩
            · go_wp2_with fail
              go_quiet (first | (go_at_call 61; (with_reducible refine (verditerref02_within.calls _ _ _ _ _ HW.out).mono ?_); rintro e w' ⟨rfl, ⟨nd, rfl⟩⟩; (try first | exact ⟨rfl, _, World.drewN_drewN _ _ _⟩ | exact ⟨rfl, _, Eq.trans (World.drewN_drewN _ _ _) (congrArg (World.drewN _) (Nat.add_assoc _ _ _))⟩)))
              go_wp2
              go_roundw
              case rel => exact ⟨n + 1, by omega, by go_num, yes_set HS.out hlt (by rw [HD.out]; exact decide_eq_true ⟨HW2.out.1, HW2.out.2, by omega⟩), by repeat (first | exact Drawn0.refl _ | apply Drawn0.step)⟩
              case measure => simp [intOf]; omega
        · have HW := Aside0.mk ((rwithin (rd l n) 0 (g - 1)).trans (by rw [decide_eq_false hw]) : verditerref02_within.f (rd l n) 0 (g - 1) = some false)
          have hd : setAt l g n = false := by
            by_cases hz : n = 0
            · rw [hz, setAt_zero]; rw [hz] at hw; exact decide_eq_false hw
            · rw [setAt_pos l g n (by omega)]; simp only [decide_eq_false_iff_not]; omega
          have HD := Aside0.mk hd
          clear hd hw
          go_wp2_with fail
          go_quiet (first | (go_at_call 61; (with_reducible refine (verditerref02_within.calls _ _ _ _ _ HW.out).mono ?_); rintro e w' ⟨rfl, ⟨nd, rfl⟩⟩; (try first | exact ⟨rfl, _, World.drewN_drewN _ _ _⟩ | exact ⟨rfl, _, Eq.trans (World.drewN_drewN _ _ _) (congrArg (World.drewN _) (Nat.add_assoc _ _ _))⟩)))
          go_wp2
          go_ret
          exact ⟨by rw [no_set HS.out hlt HD.out]; first | rfl | simp, by repeat (first | exact Drawn0.refl _ | apply Drawn0.step)⟩
      · have e : n = l.length := by omega
        subst e
        go_wp2
        go_ret
        exact ⟨by rw [HS.out, Nat.sub_self]; rfl, by repeat (first | exact Drawn0.refl _ | apply Drawn0.step)⟩
end Go.Proofs.Ytfejfljgdeglgaa.K
