/- What knead.worded returns, for all slices: 3 for more than 40 numbers, else 1 if one is neither 0 nor 1, else 0; memory stays as it was. -/
import Derived.Test.YtgnklmhjejbcoaaHA
namespace Go.Proofs.Ytgnklmhjejbcoaa.K
open Go.RowKit Go.Proofs.YtgnklmhjejbcoaaW.PrintWords Go.Proofs.YtgnklmhjejbcoaaW.PrintLast Go.Proofs.YtgnklmhjejbcoaaW.PrintMore
set_option linter.unusedVariables false
set_option linter.unusedSimpArgs false

/-- Not a kind of fold. -/
def badK (x : Int) : Bool := !(x == 0) && !(x == 1)

theorem badK_calls (x : Int) (w : World) : Calls Try.prog 86 #[.int .i64 x] w fun e w' => e = .returned (.bool (badK x)) ∧ w = w' := by
  by_cases h0 : x = 0
  · subst h0
    go_enter Try.func86, Try.ntmps86
    go_wp2
    go_ret
    exact ⟨rfl, rfl⟩
  · have b0 : badK x = !(x == 1) := by simp [badK, h0]
    have c0 : (x != 0) = true := bne_iff_ne.mpr h0
    have B0 := Aside0.mk b0
    clear b0 h0
    go_enter Try.func86, Try.ntmps86
    go_wp2
    go_ret
    exact ⟨by rw [B0.out]; rfl, rfl⟩

def Found (l : List Int) (w : World) (e : Ending) (w' : World) : Prop := ∃ j : Int, e = .returned (.int .i64 j) ∧ decide (0 ≤ j) = l.any badK ∧ w = w'

set_option maxHeartbeats 1000000 in
set_option maxRecDepth 100000 in
theorem indexFunc_calls (A0 : Option Addr) (c0 : Nat) (l0 : List Int) (w : World) (hr0 : Kd.C (Kd.int .i64) w A0 l0.length l0) :
    Calls Try.prog 98 #[.slice A0 l0.length c0, .func (.func 86) #[] #[]] w (Found l0 w) := by
  have hm := hr0.2.1
  have HR0 := Aside0.mk hr0
  clear hr0
  go_enter Try.func98, Try.ntmps98
  go_wp2
  go_loop [8] (fun i => ∃ n : Nat, n ≤ l0.length ∧ i = .int .i64 n ∧ Aside0 ((l0.take n).any badK = false)) (fun i => l0.length - (intOf i).toNat)
  case atStart => exact ⟨0, Nat.zero_le _, rfl, ⟨by simp⟩⟩
  case round =>
    obtain ⟨n, hn, rfl, HA⟩ := hrel
    by_cases hlt : n < l0.length
    · obtain ⟨ad, e, hx⟩ := Kd.at_int HR0.out (n : Int) (by omega) (by omega)
      cases e
      rw [Int.toNat_natCast] at hx
      have HX := Aside0.mk (rd_nat l0 n hlt)
      by_cases hb : badK (rd l0 n) = true
      · have hc : ∀ w, Calls Try.prog 86 #[.int .i64 (rd l0 n)] w fun e w' => e = .returned (.bool true) ∧ w = w' := fun w => by rw [← hb]; exact badK_calls _ w
        have HC := Aside0.mk hc
        have HB := Aside0.mk hb
        clear hc hb
        go_wp2_with (go_at_call 86; refine (HC.out _).mono ?_; rintro e w' ⟨rfl, rfl⟩)
        go_ret
        refine ⟨_, rfl, ?_, rfl⟩
        have h1 : l0.any badK = true := List.any_eq_true.2 ⟨l0[n], List.getElem_mem hlt, by rw [← HX.out]; exact HB.out⟩
        rw [h1]
        simp
      · have hb' : badK (rd l0 n) = false := by simpa using hb
        have hc : ∀ w, Calls Try.prog 86 #[.int .i64 (rd l0 n)] w fun e w' => e = .returned (.bool false) ∧ w = w' := fun w => by rw [← hb']; exact badK_calls _ w
        have HC := Aside0.mk hc
        have HB := Aside0.mk hb'
        clear hc hb hb'
        go_wp2_with (go_at_call 86; refine (HC.out _).mono ?_; rintro e w' ⟨rfl, rfl⟩)
        go_round
        case rel => exact ⟨n + 1, by omega, by go_num, ⟨by rw [List.take_succ_eq_append_getElem hlt, List.any_append, HA.out, ← HX.out]; simp [HB.out]⟩⟩
        case measure => simp [intOf]; omega
    · go_wp2
      go_ret
      refine ⟨_, rfl, ?_, rfl⟩
      have h1 := HA.out
      rw [List.take_of_length_le (by omega)] at h1
      rw [h1]
      rfl

theorem containsFunc_calls (A0 : Option Addr) (c0 : Nat) (l0 : List Int) (w : World) (hr0 : Kd.C (Kd.int .i64) w A0 l0.length l0) :
    Calls Try.prog 85 #[.slice A0 l0.length c0, .func (.func 86) #[] #[]] w fun e w' => e = .returned (.bool (l0.any badK)) ∧ w = w' := by
  have H := Aside0.mk (indexFunc_calls A0 c0 l0 w hr0)
  clear hr0
  go_enter Try.func85, Try.ntmps85
  go_wp2_with fail
  refine H.out.mono ?_
  rintro e w' ⟨j, rfl, hj, rfl⟩
  have HJ := Aside0.mk hj
  clear hj
  go_wp2
  go_ret
  exact ⟨by rw [← HJ.out]; rfl, rfl⟩

def knead_worded.f (l0 : List Int) : Option Int := some (if 40 < l0.length then 3 else if l0.any badK then 1 else 0)

theorem knead_worded.calls (A0 : Option Addr) (c0 : Nat) (l0 : List Int) (r : Int) (w : World) (hr0 : Kd.C (Kd.int .i64) w A0 l0.length l0) (hc0 : l0.length ≤ c0) (h : knead_worded.f l0 = some r) :
    Calls Try.prog 56 #[.slice A0 l0.length c0] w fun e w' => e = .returned (.int .i64 r) ∧ Drawn0 w w' := by
  obtain rfl := Option.some.inj h
  have hm := hr0.2.1
  by_cases h1 : 40 < l0.length
  · rw [if_pos h1]
    clear hr0
    go_enter Try.func56, Try.ntmps56
    go_wp2
    go_ret
    exact ⟨rfl, Drawn0.refl _⟩
  · rw [if_neg h1]
    by_cases h2 : l0.any badK = true
    · rw [if_pos h2]
      have H := containsFunc_calls A0 c0 l0 w hr0
      rw [h2] at H
      have H' := Aside0.mk H
      clear H hr0 h2
      go_enter Try.func56, Try.ntmps56
      go_wp2_with fail
      refine H'.out.mono ?_
      rintro e w' ⟨rfl, rfl⟩
      go_wp2
      go_ret
      exact ⟨rfl, Drawn0.refl _⟩
    · rw [if_neg h2]
      have H := containsFunc_calls A0 c0 l0 w hr0
      rw [Bool.eq_false_iff.2 h2] at H
      have H' := Aside0.mk H
      clear H hr0 h2
      go_enter Try.func56, Try.ntmps56
      go_wp2_with fail
      refine H'.out.mono ?_
      rintro e w' ⟨rfl, rfl⟩
      go_wp2
      go_ret
      exact ⟨rfl, Drawn0.refl _⟩
end Go.Proofs.Ytgnklmhjejbcoaa.K
