/- What knead.Out, In, UnOut and UnIn return, for all slices of fewer than 2^43 elements: the folded or unfolded slice in memory of the call's own, or nil and the error; older memory stays as it was. -/
import Derived.Test.YtgnklmhjejbcoaaHU
import Derived.Test.YtgnklmhjejbcoaaK2
namespace Go.Proofs.Ytgnklmhjejbcoaa.K
open Go.RowKit Go.Proofs.YtgnklmhjejbcoaaW.PrintWords Go.Proofs.YtgnklmhjejbcoaaW.PrintLast Go.Proofs.YtgnklmhjejbcoaaW.PrintMore
set_option linter.unusedVariables false
set_option linter.unusedSimpArgs false

def knead_Out.f (l0 : List Int) : Option (List Int × Int) := (knead_Validate.f l0).bind fun t => if t = 0 then (knead_fold.f l0 0).bind fun r => some (r, 0) else some ([], t)

set_option maxHeartbeats 1000000 in
set_option maxRecDepth 100000 in
theorem knead_Out.calls (A0 : Option Addr) (c0 : Nat) (l0 : List Int) (r1 : List Int) (r2 : Int) (w : World) (hr0 : Kd.C (Kd.int .i64) w A0 l0.length l0) (hc0 : l0.length ≤ c0) (h : knead_Out.f l0 = some (r1, r2)) :
    Calls Try.prog 41 #[.slice A0 l0.length c0] w fun e w' => ∃ v0_ : Value, e = .returned (.tuple #[v0_, .int .i64 r2]) ∧ Kd.R (Kd.int .i64) 3 w' w.heap.size (fun _ => True) v0_ r1 ∧ Below w.heap.size w w' := by
  have HR0 := Aside0.mk hr0
  have HC0 := Aside0.mk hc0
  clear hr0 hc0
  unfold knead_Out.f at h
  obtain ⟨t, ht, h⟩ := Option.bind_eq_some_iff.mp h
  have HT := Aside0.mk ht
  clear ht
  by_cases hz : t = 0
  · rw [if_pos hz] at h
    have hb : (t != 0) = false := bne_eq_false_iff_eq.mpr hz
    clear hz
    obtain ⟨r, hf, h⟩ := Option.bind_eq_some_iff.mp h
    simp only [Option.some.injEq, Prod.mk.injEq] at h
    obtain ⟨rfl, rfl⟩ := h
    have HF := Aside0.mk hf
    clear hf
    go_enter Try.func41, Try.ntmps41
    go_wp2_with (first | (go_at_call 45; refine (knead_Validate.calls _ _ l0 t _ HR0.out HC0.out HT.out).mono ?_; rintro e w' ⟨rfl, ⟨nd, rfl⟩⟩) | (go_at_call 79; refine (knead_fold.calls _ _ l0 0 r _ (Kd.C_drewN HR0.out _) HC0.out HF.out).mono ?_; rintro e w' ⟨v, rfl, hR, hB⟩; have HO := Aside0.mk hR; have HB := Aside0.mk hB; clear hR hB) | go_in)
    go_ret2
    exact ⟨_, rfl, Kd.R_lower HO.out (Nat.le_refl _), below_step (pw_below_drewN (Below.refl _ _) _) HB.out⟩
  · rw [if_neg hz] at h
    have hb : (t != 0) = true := bne_iff_ne.mpr hz
    simp only [Option.some.injEq, Prod.mk.injEq] at h
    obtain ⟨rfl, rfl⟩ := h
    go_enter Try.func41, Try.ntmps41
    go_wp2_with (first | (go_at_call 45; refine (knead_Validate.calls _ _ l0 t _ HR0.out HC0.out HT.out).mono ?_; rintro e w' ⟨rfl, ⟨nd, rfl⟩⟩) | go_in)
    go_ret2
    exact ⟨_, rfl, Kd.R_nil _ _ _ _ _, by exact pw_below_drewN (Below.refl _ _) _⟩

def knead_In.f (l0 : List Int) : Option (List Int × Int) := (knead_Validate.f l0).bind fun t => if t = 0 then (knead_fold.f l0 1).bind fun r => some (r, 0) else some ([], t)

set_option maxHeartbeats 1000000 in
set_option maxRecDepth 100000 in
theorem knead_In.calls (A0 : Option Addr) (c0 : Nat) (l0 : List Int) (r1 : List Int) (r2 : Int) (w : World) (hr0 : Kd.C (Kd.int .i64) w A0 l0.length l0) (hc0 : l0.length ≤ c0) (h : knead_In.f l0 = some (r1, r2)) :
    Calls Try.prog 42 #[.slice A0 l0.length c0] w fun e w' => ∃ v0_ : Value, e = .returned (.tuple #[v0_, .int .i64 r2]) ∧ Kd.R (Kd.int .i64) 3 w' w.heap.size (fun _ => True) v0_ r1 ∧ Below w.heap.size w w' := by
  have HR0 := Aside0.mk hr0
  have HC0 := Aside0.mk hc0
  clear hr0 hc0
  unfold knead_In.f at h
  obtain ⟨t, ht, h⟩ := Option.bind_eq_some_iff.mp h
  have HT := Aside0.mk ht
  clear ht
  by_cases hz : t = 0
  · rw [if_pos hz] at h
    have hb : (t != 0) = false := bne_eq_false_iff_eq.mpr hz
    clear hz
    obtain ⟨r, hf, h⟩ := Option.bind_eq_some_iff.mp h
    simp only [Option.some.injEq, Prod.mk.injEq] at h
    obtain ⟨rfl, rfl⟩ := h
    have HF := Aside0.mk hf
    clear hf
    go_enter Try.func42, Try.ntmps42
    go_wp2_with (first | (go_at_call 45; refine (knead_Validate.calls _ _ l0 t _ HR0.out HC0.out HT.out).mono ?_; rintro e w' ⟨rfl, ⟨nd, rfl⟩⟩) | (go_at_call 79; refine (knead_fold.calls _ _ l0 1 r _ (Kd.C_drewN HR0.out _) HC0.out HF.out).mono ?_; rintro e w' ⟨v, rfl, hR, hB⟩; have HO := Aside0.mk hR; have HB := Aside0.mk hB; clear hR hB) | go_in)
    go_ret2
    exact ⟨_, rfl, Kd.R_lower HO.out (Nat.le_refl _), below_step (pw_below_drewN (Below.refl _ _) _) HB.out⟩
  · rw [if_neg hz] at h
    have hb : (t != 0) = true := bne_iff_ne.mpr hz
    simp only [Option.some.injEq, Prod.mk.injEq] at h
    obtain ⟨rfl, rfl⟩ := h
    go_enter Try.func42, Try.ntmps42
    go_wp2_with (first | (go_at_call 45; refine (knead_Validate.calls _ _ l0 t _ HR0.out HC0.out HT.out).mono ?_; rintro e w' ⟨rfl, ⟨nd, rfl⟩⟩) | go_in)
    go_ret2
    exact ⟨_, rfl, Kd.R_nil _ _ _ _ _, by exact pw_below_drewN (Below.refl _ _) _⟩

def knead_UnOut.f (l0 : List Int) : Option (List Int × Int) := (knead_Validate.f l0).bind fun t => if t = 0 then (knead_unfold.f l0 0).bind fun r => some (r, 0) else some ([], t)

set_option maxHeartbeats 1000000 in
set_option maxRecDepth 100000 in
theorem knead_UnOut.calls (A0 : Option Addr) (c0 : Nat) (l0 : List Int) (r1 : List Int) (r2 : Int) (w : World) (hr0 : Kd.C (Kd.int .i64) w A0 l0.length l0) (hc0 : l0.length ≤ c0) (h : knead_UnOut.f l0 = some (r1, r2)) :
    Calls Try.prog 43 #[.slice A0 l0.length c0] w fun e w' => ∃ v0_ : Value, e = .returned (.tuple #[v0_, .int .i64 r2]) ∧ Kd.R (Kd.int .i64) 3 w' w.heap.size (fun _ => True) v0_ r1 ∧ Below w.heap.size w w' := by
  have HR0 := Aside0.mk hr0
  have HC0 := Aside0.mk hc0
  clear hr0 hc0
  unfold knead_UnOut.f at h
  obtain ⟨t, ht, h⟩ := Option.bind_eq_some_iff.mp h
  have HT := Aside0.mk ht
  clear ht
  by_cases hz : t = 0
  · rw [if_pos hz] at h
    have hb : (t != 0) = false := bne_eq_false_iff_eq.mpr hz
    clear hz
    obtain ⟨r, hf, h⟩ := Option.bind_eq_some_iff.mp h
    simp only [Option.some.injEq, Prod.mk.injEq] at h
    obtain ⟨rfl, rfl⟩ := h
    have HF := Aside0.mk hf
    clear hf
    go_enter Try.func43, Try.ntmps43
    go_wp2_with (first | (go_at_call 45; refine (knead_Validate.calls _ _ l0 t _ HR0.out HC0.out HT.out).mono ?_; rintro e w' ⟨rfl, ⟨nd, rfl⟩⟩) | (go_at_call 80; refine (knead_unfold.calls _ _ l0 0 r _ (Kd.C_drewN HR0.out _) HC0.out HF.out).mono ?_; rintro e w' ⟨v, rfl, hR, hB⟩; have HO := Aside0.mk hR; have HB := Aside0.mk hB; clear hR hB) | go_in)
    go_ret2
    exact ⟨_, rfl, Kd.R_lower HO.out (Nat.le_refl _), below_step (pw_below_drewN (Below.refl _ _) _) HB.out⟩
  · rw [if_neg hz] at h
    have hb : (t != 0) = true := bne_iff_ne.mpr hz
    simp only [Option.some.injEq, Prod.mk.injEq] at h
    obtain ⟨rfl, rfl⟩ := h
    go_enter Try.func43, Try.ntmps43
    go_wp2_with (first | (go_at_call 45; refine (knead_Validate.calls _ _ l0 t _ HR0.out HC0.out HT.out).mono ?_; rintro e w' ⟨rfl, ⟨nd, rfl⟩⟩) | go_in)
    go_ret2
    exact ⟨_, rfl, Kd.R_nil _ _ _ _ _, by exact pw_below_drewN (Below.refl _ _) _⟩

def knead_UnIn.f (l0 : List Int) : Option (List Int × Int) := (knead_Validate.f l0).bind fun t => if t = 0 then (knead_unfold.f l0 1).bind fun r => some (r, 0) else some ([], t)

set_option maxHeartbeats 1000000 in
set_option maxRecDepth 100000 in
theorem knead_UnIn.calls (A0 : Option Addr) (c0 : Nat) (l0 : List Int) (r1 : List Int) (r2 : Int) (w : World) (hr0 : Kd.C (Kd.int .i64) w A0 l0.length l0) (hc0 : l0.length ≤ c0) (h : knead_UnIn.f l0 = some (r1, r2)) :
    Calls Try.prog 44 #[.slice A0 l0.length c0] w fun e w' => ∃ v0_ : Value, e = .returned (.tuple #[v0_, .int .i64 r2]) ∧ Kd.R (Kd.int .i64) 3 w' w.heap.size (fun _ => True) v0_ r1 ∧ Below w.heap.size w w' := by
  have HR0 := Aside0.mk hr0
  have HC0 := Aside0.mk hc0
  clear hr0 hc0
  unfold knead_UnIn.f at h
  obtain ⟨t, ht, h⟩ := Option.bind_eq_some_iff.mp h
  have HT := Aside0.mk ht
  clear ht
  by_cases hz : t = 0
  · rw [if_pos hz] at h
    have hb : (t != 0) = false := bne_eq_false_iff_eq.mpr hz
    clear hz
    obtain ⟨r, hf, h⟩ := Option.bind_eq_some_iff.mp h
    simp only [Option.some.injEq, Prod.mk.injEq] at h
    obtain ⟨rfl, rfl⟩ := h
    have HF := Aside0.mk hf
    clear hf
    go_enter Try.func44, Try.ntmps44
    go_wp2_with (first | (go_at_call 45; refine (knead_Validate.calls _ _ l0 t _ HR0.out HC0.out HT.out).mono ?_; rintro e w' ⟨rfl, ⟨nd, rfl⟩⟩) | (go_at_call 80; refine (knead_unfold.calls _ _ l0 1 r _ (Kd.C_drewN HR0.out _) HC0.out HF.out).mono ?_; rintro e w' ⟨v, rfl, hR, hB⟩; have HO := Aside0.mk hR; have HB := Aside0.mk hB; clear hR hB) | go_in)
    go_ret2
    exact ⟨_, rfl, Kd.R_lower HO.out (Nat.le_refl _), below_step (pw_below_drewN (Below.refl _ _) _) HB.out⟩
  · rw [if_neg hz] at h
    have hb : (t != 0) = true := bne_iff_ne.mpr hz
    simp only [Option.some.injEq, Prod.mk.injEq] at h
    obtain ⟨rfl, rfl⟩ := h
    go_enter Try.func44, Try.ntmps44
    go_wp2_with (first | (go_at_call 45; refine (knead_Validate.calls _ _ l0 t _ HR0.out HC0.out HT.out).mono ?_; rintro e w' ⟨rfl, ⟨nd, rfl⟩⟩) | go_in)
    go_ret2
    exact ⟨_, rfl, Kd.R_nil _ _ _ _ _, by exact pw_below_drewN (Below.refl _ _) _⟩
end Go.Proofs.Ytgnklmhjejbcoaa.K
