/- What the two functions Pairs return, for all slices: whether the sums of all opposite numbers are alike by the function sameSum that each of them calls; memory stays as it was. -/
import Derived.Test.YtgnklmhjejbcoaaK1
import Derived.Test.YtgnklmhjejbcoaaK10
import Derived.Test.YtgnklmhjejbcoaaK2
import Derived.Test.YtgnklmhjejbcoaaK9
import Derived.Test.YtgnklmhjejbcoaaQB
namespace Go.Proofs.Ytgnklmhjejbcoaa.K
open Go.RowKit Go.Proofs.YtgnklmhjejbcoaaW.PrintWords Go.Proofs.YtgnklmhjejbcoaaW.PrintLast Go.Proofs.YtgnklmhjejbcoaaW.PrintMore
set_option linter.unusedVariables false
set_option linter.unusedSimpArgs false

def refSum (a b c d : Int) : Bool := (verditerref07_sameSum.f a b c d).getD false
def ownSum (a b c d : Int) : Bool := (knead_sameSum.f a b c d).getD false
theorem refSum_some (a b c d : Int) : verditerref07_sameSum.f a b c d = some (refSum a b c d) := by
  unfold refSum verditerref07_sameSum.f
  repeat (split; skip)
  all_goals rfl
theorem ownSum_some (a b c d : Int) : knead_sameSum.f a b c d = some (ownSum a b c d) := by
  unfold ownSum knead_sameSum.f
  repeat (split; skip)
  all_goals rfl
/-- All opposite numbers have the sum of the first and the last one. -/
def pairsTo (s : Int → Int → Int → Int → Bool) (l : List Int) (n : Nat) : Bool := (List.range n).all fun i => s (rd l (i : Int)) (rd l ((l.length : Int) - 1 - i)) (rd l 0) (rd l ((l.length : Int) - 1))
theorem pairsTo_succ (s : Int → Int → Int → Int → Bool) (l : List Int) (n : Nat) : pairsTo s l (n + 1) = (pairsTo s l n && s (rd l (n : Int)) (rd l ((l.length : Int) - 1 - n)) (rd l 0) (rd l ((l.length : Int) - 1))) := by
  unfold pairsTo
  rw [List.range_succ, List.all_append]
  simp
theorem pairsTo_false (s : Int → Int → Int → Int → Bool) (l : List Int) (n m : Nat) (h : n < m) (hs : s (rd l (n : Int)) (rd l ((l.length : Int) - 1 - n)) (rd l 0) (rd l ((l.length : Int) - 1)) = false) : pairsTo s l m = false := by
  unfold pairsTo
  rw [List.all_eq_false]
  exact ⟨n, List.mem_range.2 h, by rw [hs]; simp⟩

def verditerref07_Pairs.f (l0 : List Int) : Option (Bool × Int) := (verditerref07_Validate.f l0).bind fun t => if t = 0 then some (pairsTo refSum l0 l0.length, 0) else some (false, t)

set_option maxHeartbeats 4000000 in
set_option maxRecDepth 100000 in
theorem verditerref07_Pairs.calls (A0 : Option Addr) (c0 : Nat) (l0 : List Int) (r1 : Bool) (r2 : Int) (w : World) (hr0 : Kd.C (Kd.int .i64) w A0 l0.length l0) (hc0 : l0.length ≤ c0) (h : verditerref07_Pairs.f l0 = some (r1, r2)) :
    Calls Try.prog 47 #[.slice A0 l0.length c0] w fun e w' => e = .returned (.tuple #[.bool r1, .int .i64 r2]) ∧ Drawn0 w w' := by
  have HR0 := Aside0.mk hr0
  have HC0 := Aside0.mk hc0
  clear hr0 hc0
  unfold verditerref07_Pairs.f at h
  obtain ⟨t, ht, h⟩ := Option.bind_eq_some_iff.mp h
  have HT := Aside0.mk ht
  by_cases hz : t = 0
  · rw [if_pos hz] at h
    have hb : (t != 0) = false := bne_eq_false_iff_eq.mpr hz
    simp only [Option.some.injEq, Prod.mk.injEq] at h
    obtain ⟨rfl, rfl⟩ := h
    have hlm : 2 ≤ l0.length ∧ l0.length ≤ 32 := by
      rw [refValidate_eq] at ht
      cases c : lumps (l0.length : Int) with
      | true => exact ⟨(lumps_nat c).1, (lumps_nat c).2.1⟩
      | false => rw [c] at ht; simp at ht; omega
    obtain ⟨hlo, hhi⟩ := hlm
    obtain ⟨r, hr⟩ : ∃ r, r = pairsTo refSum l0 l0.length := ⟨_, rfl⟩
    rw [← hr]
    have HRR := Aside0.mk hr
    clear hz ht hr
    have e1 : IntKind.i64.wrap ((l0.length : Int) - 1) = (l0.length : Int) - 1 := IntWalk.i64_in _ (by omega)
    go_enter Try.func47, Try.ntmps47
    go_wp2_with (first | (go_at_call 46; refine (verditerref07_Validate.calls _ _ l0 t _ HR0.out HC0.out HT.out).mono ?_; rintro e w' ⟨rfl, ⟨nd, rfl⟩⟩))
    go_loopw [6] (fun i wr => ∃ n : Nat, n ≤ l0.length ∧ i = .int .i64 n ∧ Aside0 (pairsTo refSum l0 n = true) ∧ Drawn0 w wr) (fun i _ => l0.length - (intOf i).toNat)
    case atStart => exact ⟨0, Nat.zero_le _, rfl, ⟨rfl⟩, by repeat (first | exact Drawn0.refl _ | apply Drawn0.step)⟩
    case round =>
      obtain ⟨n, hn, rfl, HA, ⟨m, rfl⟩⟩ := hrel
      by_cases hlt : n < l0.length
      · obtain ⟨ad, ea, hx⟩ := Kd.at_int HR0.out (n : Int) (by omega) (by omega)
        obtain ⟨ad1, ea1, hx1⟩ := Kd.at_int HR0.out ((l0.length : Int) - 1 - n) (by omega) (by omega)
        obtain ⟨ad2, ea2, hx2⟩ := Kd.at_int HR0.out 0 (by omega) (by omega)
        obtain ⟨ad3, ea3, hx3⟩ := Kd.at_int HR0.out ((l0.length : Int) - 1) (by omega) (by omega)
        cases ea
        cases ea1
        cases ea2
        cases ea3
        rw [Int.toNat_natCast] at hx
        rw [show ((l0.length : Int) - 1 - n).toNat = l0.length - 1 - n by omega] at hx1
        rw [show ((l0.length : Int) - 1).toNat = l0.length - 1 by omega] at hx3
        have e2 : IntKind.i64.wrap ((l0.length : Int) - 1 - n) = (l0.length : Int) - 1 - n := IntWalk.i64_in _ (by omega)
        have b0 := eq_true (show 0 ≤ (n : Int) by omega)
        have b1 := eq_true (show (n : Int) < (l0.length : Int) by omega)
        have b2 := eq_true (show 0 ≤ (l0.length : Int) - 1 - n by omega)
        have b3 := eq_true (show (l0.length : Int) - 1 - n < (l0.length : Int) by omega)
        have b4 := eq_true (show 0 ≤ (l0.length : Int) - 1 by omega)
        have b5 := eq_true (show (l0.length : Int) - 1 < (l0.length : Int) by omega)
        have b6 := eq_true (show 0 < (l0.length : Int) by omega)
        have b7 := eq_true (show 0 < l0.length by omega)
        rw [show ((0 : Int)).toNat = 0 from rfl, Addr.add_zero'] at hx2
        obtain ⟨s, hs⟩ : ∃ s, refSum (rd l0 (n : Int)) (rd l0 ((l0.length : Int) - 1 - n)) (rd l0 0) (rd l0 ((l0.length : Int) - 1)) = s := ⟨_, rfl⟩
        have HS := Aside0.mk hs
        have HF := Aside0.mk ((refSum_some (rd l0 (n : Int)) (rd l0 ((l0.length : Int) - 1 - n)) (rd l0 0) (rd l0 ((l0.length : Int) - 1))).trans (congrArg some hs))
        clear hs
        cases s with
        | true =>
          go_wp2_with fail
          repeat (go_quiet (first | (go_at_call 81; (with_reducible refine (verditerref07_sameSum.calls _ _ _ _ true _ HF.out).mono ?_); rintro e w' ⟨rfl, ⟨nd, rfl⟩⟩; (try first | exact ⟨rfl, _, World.drewN_drewN _ _ _⟩ | exact ⟨rfl, _, Eq.trans (World.drewN_drewN _ _ _) (congrArg (World.drewN _) (Nat.add_assoc _ _ _))⟩))); try go_wp2)
          go_roundw
          case rel => exact ⟨n + 1, by omega, by go_num, ⟨by rw [pairsTo_succ, HA.out, HS.out]; rfl⟩, by repeat (first | exact Drawn0.refl _ | apply Drawn0.step)⟩
          case measure => simp [intOf]; omega
        | false =>
          have hf : r = false := by rw [HRR.out]; exact pairsTo_false refSum l0 n _ hlt HS.out
          subst hf
          go_wp2_with fail
          repeat (go_quiet (first | (go_at_call 81; (with_reducible refine (verditerref07_sameSum.calls _ _ _ _ false _ HF.out).mono ?_); rintro e w' ⟨rfl, ⟨nd, rfl⟩⟩; (try first | exact ⟨rfl, _, World.drewN_drewN _ _ _⟩ | exact ⟨rfl, _, Eq.trans (World.drewN_drewN _ _ _) (congrArg (World.drewN _) (Nat.add_assoc _ _ _))⟩))); try go_wp2)
          go_ret2
          exact ⟨rfl, by repeat (first | exact Drawn0.refl _ | apply Drawn0.step)⟩
      · obtain rfl : n = l0.length := by omega
        have hf : r = true := by rw [HRR.out]; exact HA.out
        subst hf
        go_wp2
        go_ret2
        exact ⟨rfl, by repeat (first | exact Drawn0.refl _ | apply Drawn0.step)⟩
  · rw [if_neg hz] at h
    have hb : (t != 0) = true := bne_iff_ne.mpr hz
    simp only [Option.some.injEq, Prod.mk.injEq] at h
    obtain ⟨rfl, rfl⟩ := h
    clear ht
    go_enter Try.func47, Try.ntmps47
    go_wp2_with (first | (go_at_call 46; refine (verditerref07_Validate.calls _ _ l0 t _ HR0.out HC0.out HT.out).mono ?_; rintro e w' ⟨rfl, ⟨nd, rfl⟩⟩))
    go_ret2
    exact ⟨rfl, by repeat (first | exact Drawn0.refl _ | apply Drawn0.step)⟩

def knead_Pairs.f (l0 : List Int) : Option (Bool × Int) := (knead_Validate.f l0).bind fun t => if t = 0 then some (pairsTo ownSum l0 l0.length, 0) else some (false, t)

set_option maxHeartbeats 4000000 in
set_option maxRecDepth 100000 in
theorem knead_Pairs.calls (A0 : Option Addr) (c0 : Nat) (l0 : List Int) (r1 : Bool) (r2 : Int) (w : World) (hr0 : Kd.C (Kd.int .i64) w A0 l0.length l0) (hc0 : l0.length ≤ c0) (h : knead_Pairs.f l0 = some (r1, r2)) :
    Calls Try.prog 48 #[.slice A0 l0.length c0] w fun e w' => e = .returned (.tuple #[.bool r1, .int .i64 r2]) ∧ Drawn0 w w' := by
  have HR0 := Aside0.mk hr0
  have HC0 := Aside0.mk hc0
  clear hr0 hc0
  unfold knead_Pairs.f at h
  obtain ⟨t, ht, h⟩ := Option.bind_eq_some_iff.mp h
  have HT := Aside0.mk ht
  by_cases hz : t = 0
  · rw [if_pos hz] at h
    have hb : (t != 0) = false := bne_eq_false_iff_eq.mpr hz
    simp only [Option.some.injEq, Prod.mk.injEq] at h
    obtain ⟨rfl, rfl⟩ := h
    have hlm : 2 ≤ l0.length ∧ l0.length ≤ 32 := by
      rw [validate_eq] at ht
      cases c : lumps (l0.length : Int) with
      | true => exact ⟨(lumps_nat c).1, (lumps_nat c).2.1⟩
      | false => rw [c] at ht; simp at ht; omega
    obtain ⟨hlo, hhi⟩ := hlm
    obtain ⟨r, hr⟩ : ∃ r, r = pairsTo ownSum l0 l0.length := ⟨_, rfl⟩
    rw [← hr]
    have HRR := Aside0.mk hr
    clear hz ht hr
    have e1 : IntKind.i64.wrap ((l0.length : Int) - 1) = (l0.length : Int) - 1 := IntWalk.i64_in _ (by omega)
    go_enter Try.func48, Try.ntmps48
    go_wp2_with (first | (go_at_call 45; refine (knead_Validate.calls _ _ l0 t _ HR0.out HC0.out HT.out).mono ?_; rintro e w' ⟨rfl, ⟨nd, rfl⟩⟩))
    go_loopw [14] (fun i wr => ∃ n : Nat, n ≤ l0.length ∧ i = .int .i64 n ∧ Aside0 (pairsTo ownSum l0 n = true) ∧ Drawn0 w wr) (fun i _ => l0.length - (intOf i).toNat)
    case atStart => exact ⟨0, Nat.zero_le _, rfl, ⟨rfl⟩, by repeat (first | exact Drawn0.refl _ | apply Drawn0.step)⟩
    case round =>
      obtain ⟨n, hn, rfl, HA, ⟨m, rfl⟩⟩ := hrel
      by_cases hlt : n < l0.length
      · obtain ⟨ad, ea, hx⟩ := Kd.at_int HR0.out (n : Int) (by omega) (by omega)
        obtain ⟨ad1, ea1, hx1⟩ := Kd.at_int HR0.out ((l0.length : Int) - 1 - n) (by omega) (by omega)
        obtain ⟨ad2, ea2, hx2⟩ := Kd.at_int HR0.out 0 (by omega) (by omega)
        obtain ⟨ad3, ea3, hx3⟩ := Kd.at_int HR0.out ((l0.length : Int) - 1) (by omega) (by omega)
        cases ea
        cases ea1
        cases ea2
        cases ea3
        rw [Int.toNat_natCast] at hx
        rw [show ((l0.length : Int) - 1 - n).toNat = l0.length - 1 - n by omega] at hx1
        rw [show ((l0.length : Int) - 1).toNat = l0.length - 1 by omega] at hx3
        have e2 : IntKind.i64.wrap ((l0.length : Int) - 1 - n) = (l0.length : Int) - 1 - n := IntWalk.i64_in _ (by omega)
        have b0 := eq_true (show 0 ≤ (n : Int) by omega)
        have b1 := eq_true (show (n : Int) < (l0.length : Int) by omega)
        have b2 := eq_true (show 0 ≤ (l0.length : Int) - 1 - n by omega)
        have b3 := eq_true (show (l0.length : Int) - 1 - n < (l0.length : Int) by omega)
        have b4 := eq_true (show 0 ≤ (l0.length : Int) - 1 by omega)
        have b5 := eq_true (show (l0.length : Int) - 1 < (l0.length : Int) by omega)
        have b6 := eq_true (show 0 < (l0.length : Int) by omega)
        have b7 := eq_true (show 0 < l0.length by omega)
        rw [show ((0 : Int)).toNat = 0 from rfl, Addr.add_zero'] at hx2
        obtain ⟨s, hs⟩ : ∃ s, ownSum (rd l0 (n : Int)) (rd l0 ((l0.length : Int) - 1 - n)) (rd l0 0) (rd l0 ((l0.length : Int) - 1)) = s := ⟨_, rfl⟩
        have HS := Aside0.mk hs
        have HF := Aside0.mk ((ownSum_some (rd l0 (n : Int)) (rd l0 ((l0.length : Int) - 1 - n)) (rd l0 0) (rd l0 ((l0.length : Int) - 1))).trans (congrArg some hs))
        clear hs
        cases s with
        | true =>
          go_wp2_with fail
          repeat (go_quiet (first | (go_at_call 82; (with_reducible refine (knead_sameSum.calls _ _ _ _ true _ HF.out).mono ?_); rintro e w' ⟨rfl, ⟨nd, rfl⟩⟩; (try first | exact ⟨rfl, _, World.drewN_drewN _ _ _⟩ | exact ⟨rfl, _, Eq.trans (World.drewN_drewN _ _ _) (congrArg (World.drewN _) (Nat.add_assoc _ _ _))⟩))); try go_wp2)
          go_roundw
          case rel => exact ⟨n + 1, by omega, by go_num, ⟨by rw [pairsTo_succ, HA.out, HS.out]; rfl⟩, by repeat (first | exact Drawn0.refl _ | apply Drawn0.step)⟩
          case measure => simp [intOf]; omega
        | false =>
          have hf : r = false := by rw [HRR.out]; exact pairsTo_false ownSum l0 n _ hlt HS.out
          subst hf
          go_wp2_with fail
          repeat (go_quiet (first | (go_at_call 82; (with_reducible refine (knead_sameSum.calls _ _ _ _ false _ HF.out).mono ?_); rintro e w' ⟨rfl, ⟨nd, rfl⟩⟩; (try first | exact ⟨rfl, _, World.drewN_drewN _ _ _⟩ | exact ⟨rfl, _, Eq.trans (World.drewN_drewN _ _ _) (congrArg (World.drewN _) (Nat.add_assoc _ _ _))⟩))); try go_wp2)
          go_ret2
          exact ⟨rfl, by repeat (first | exact Drawn0.refl _ | apply Drawn0.step)⟩
      · obtain rfl : n = l0.length := by omega
        have hf : r = true := by rw [HRR.out]; exact HA.out
        subst hf
        go_wp2
        go_ret2
        exact ⟨rfl, by repeat (first | exact Drawn0.refl _ | apply Drawn0.step)⟩
  · rw [if_neg hz] at h
    have hb : (t != 0) = true := bne_iff_ne.mpr hz
    simp only [Option.some.injEq, Prod.mk.injEq] at h
    obtain ⟨rfl, rfl⟩ := h
    clear ht
    go_enter Try.func48, Try.ntmps48
    go_wp2_with (first | (go_at_call 45; refine (knead_Validate.calls _ _ l0 t _ HR0.out HC0.out HT.out).mono ?_; rintro e w' ⟨rfl, ⟨nd, rfl⟩⟩))
    go_ret2
    exact ⟨rfl, by repeat (first | exact Drawn0.refl _ | apply Drawn0.step)⟩
end Go.Proofs.Ytgnklmhjejbcoaa.K
