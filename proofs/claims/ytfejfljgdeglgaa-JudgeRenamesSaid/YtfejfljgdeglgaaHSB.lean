/- The solver of judge: its answer where the weight is too great, and where its memory holds the state. -/
import Derived.Test.YtfejfljgdeglgaaHS
import Derived.Deep.RegionWith
import Derived.BigQuiet
namespace Go.Proofs.Ytfejfljgdeglgaa.K
open Go.RowKit Go.Maps Go.Proofs.YtfejfljgdeglgaaW.PrintWords Go.Proofs.YtfejfljgdeglgaaW.PrintLast Go.Proofs.YtfejfljgdeglgaaW.PrintMore
set_option linter.unusedVariables false
set_option linter.unusedSimpArgs false
theorem wrap_id {x : Int} (h1 : -9223372036854775808 ≤ x) (h2 : x ≤ 9223372036854775807) : wrap64 x = x := by unfold wrap64; omega
theorem wrapK (x : Int) : IntKind.i64.wrap x = wrap64 x := by rw [IntKind.wrap_i64]; unfold wrap64; omega
theorem pow_le (q : Nat) (hq : q ≤ 60) : (2 : Int) ^ (q + 1) ≤ 2305843009213693952 := by
  have : (2 : Nat) ^ (q + 1) ≤ 2 ^ 61 := Nat.pow_le_pow_right (by omega) (by omega)
  have h2 : ((2 ^ (q + 1) : Nat) : Int) ≤ ((2 ^ 61 : Nat) : Int) := Int.ofNat_le.2 this
  simpa using h2
theorem pow_wrap (q : Nat) (hq : q ≤ 60) : IntKind.i64.wrap ((2 : Int) ^ (q + 1)) = 2 ^ (q + 1) := by
  rw [wrapK]
  have := pow_le q hq
  have h0 : (0 : Int) ≤ 2 ^ (q + 1) := by
    have : ((0 : Nat) : Int) ≤ ((2 ^ (q + 1) : Nat) : Int) := Int.ofNat_le.2 (Nat.zero_le _)
    simpa using this
  exact wrap_id (by omega) (by omega)
theorem mul_small {a q : Nat} (ha : a ≤ 64) (hq : q ≤ 60) : (a : Int) * ((q : Int) + 2) ≤ 4096 ∧ 0 ≤ (a : Int) * ((q : Int) + 2) := by
  have h : a * (q + 2) ≤ 64 * 62 := Nat.mul_le_mul ha (by omega)
  have h2 : ((a * (q + 2) : Nat) : Int) ≤ ((64 * 62 : Nat) : Int) := Int.ofNat_le.2 h
  have h3 : ((0 : Nat) : Int) ≤ ((a * (q + 2) : Nat) : Int) := Int.ofNat_le.2 (Nat.zero_le _)
  simp at h2 h3
  omega
theorem cell_kept {W W' : World} {row : Option Nat} {B o : Nat} {v : Value} (h : W.cell? ⟨B, o, none⟩ = some v) (hg : W.grownBy W' row) (hne : some B ≠ row) : W'.cell? ⟨B, o, none⟩ = some v :=
  (World.cell?_of_block (hg.block B (World.block_lt_of_cell? W _ h) hne)).trans h
theorem box_cells (W : World) (a b : Int) : (W.alloc (Obj.cells #[.int .i64 a, .int .i64 b] 58)).cell? ⟨W.heap.size, 0, none⟩ = some (.int .i64 a) ∧ (W.alloc (Obj.cells #[.int .i64 a, .int .i64 b] 58)).cell? ⟨W.heap.size, 1, none⟩ = some (.int .i64 b) := by
  exact ⟨World.cell?_alloc_at _ _ _ _ rfl, World.cell?_alloc_at _ _ _ _ rfl⟩
theorem best0 (w : World) : (zeroValue 96).run Try.prog w = .ok (.agg #[.int .i64 0, .int .i64 0, .bool false]) w := by kernel_rfl
theorem weight_calls (q a b : Nat) (W : World) (hq : q ≤ 60) (hs : a + b ≤ 64) : Calls Try.prog 46 #[.agg #[.int .i64 (a : Int), .int .i64 (b : Int)], .int .i64 ((q : Int) + 1)] W fun e w' =>
    e = .returned (.int .i64 ((a : Int) * ((q : Int) + 2) + b)) ∧ Below W.heap.size W w' := by
  refine judge_state_weight.calls a b ((q : Int) + 1) _ W ?_
  unfold judge_state_weight.f
  obtain ⟨m1, m2⟩ := mul_small (a := a) (q := q) (by omega) hq
  rw [wrap_id (x := (q : Int) + 1 + 1) (by omega) (by omega)]
  rw [show (q : Int) + 1 + 1 = (q : Int) + 2 by omega]
  rw [wrap_id (x := (a : Int) * ((q : Int) + 2)) (by omega) (by omega), wrap_id (by omega) (by omega)]

set_option maxHeartbeats 4000000 in
set_option maxRecDepth 100000 in
theorem solve_heavy (q a b B1 B2 M : Nat) (f : Lit → Option Value) (W : World) (hq : q ≤ 60) (hab : 1 < a + b) (hs : a + b ≤ 64) (hw : 2 ^ (q + 1) < a * (q + 2) + b) (hm : Mem W B1 B2 M f) :
  Calls Try.prog 87 #[.agg #[.int .i64 (a : Int), .int .i64 (b : Int)], .int .i64 ((q : Int) + 1), .pointer (some ⟨B1, 0, none⟩), .pointer (some ⟨B2, 0, none⟩)] W fun e W' =>
    e = .returned (.tuple #[.int .i64 0, .int .i64 0, .bool false]) ∧ (∃ f', Mem W' B1 B2 M f') ∧ W.grownBy W' (some M) := by
  have HM := Aside0.mk hm
  have h1 : ¬ ((a : Int) + (b : Int) ≤ 1) := by omega
  have hqz : ¬ ((q : Int) + 1 = 0) := by omega
  clear hm
  go_enter Try.func87, Try.ntmps87
  go_wp2_with fail
  have hd : decide ((q : Int) + 1 = 0) = false := by simpa using hqz
  have hd' : (((q : Int) + 1) == 0) = false := by simpa using hqz
  have hp := pow_wrap q hq
  have hw2 : (2 : Int) ^ (q + 1) < (a : Int) * ((q : Int) + 2) + b := by
    have : ((2 ^ (q + 1) : Nat) : Int) < ((a * (q + 2) + b : Nat) : Int) := Int.ofNat_lt.2 hw
    simpa using this
  clear hw
  go_region_with (first | (go_at_call 46; refine (weight_calls q a b _ hq hs).mono ?_; rintro e w1 ⟨rfl, hb⟩; have HB := Aside0.mk hb; clear hb))
  all_goals go_wp2

  all_goals go_ret3

  all_goals
    refine ⟨rfl, ⟨f, HM.out.grown (grown_of_below ?_)⟩, grown_none (grown_of_below ?_)⟩ <;>
    repeat (first | exact Below.refl _ _ | (with_reducible refine below_step ?_ HB.out) | (with_reducible first | apply below_alloc | apply pw_below_drewN | apply below_drew1 | apply below_drew))

set_option maxHeartbeats 4000000 in
set_option maxRecDepth 100000 in
theorem solve_found (q a b B1 B2 M : Nat) (f : Lit → Option Value) (W : World) (hq : q ≤ 60) (hab : 1 < a + b) (hs : a + b ≤ 64) (hw : ¬ 2 ^ (q + 1) < a * (q + 2) + b) (hm : Mem W B1 B2 M f) (x y : Nat) (z : Bool)
  (hf : f (.string (keyBytes [.int .i64 a, .int .i64 b, .int .i64 ((q : Int) + 1)])) = some (.agg #[.int .i64 (x : Int), .int .i64 (y : Int), .bool z])) :
  Calls Try.prog 87 #[.agg #[.int .i64 (a : Int), .int .i64 (b : Int)], .int .i64 ((q : Int) + 1), .pointer (some ⟨B1, 0, none⟩), .pointer (some ⟨B2, 0, none⟩)] W fun e W' =>
    e = .returned (.tuple #[.int .i64 (x : Int), .int .i64 (y : Int), .bool z]) ∧ (∃ f', Mem W' B1 B2 M f') ∧ W.grownBy W' (some M) := by
  have HM := Aside0.mk hm
  have HF := Aside0.mk hf
  clear hf
  have h1 : ¬ ((a : Int) + (b : Int) ≤ 1) := by omega
  have hqz : ¬ ((q : Int) + 1 = 0) := by omega
  clear hm
  go_enter Try.func87, Try.ntmps87
  go_wp2_with fail
  have hd : decide ((q : Int) + 1 = 0) = false := by simpa using hqz
  have hd' : (((q : Int) + 1) == 0) = false := by simpa using hqz
  have hp := pow_wrap q hq
  have hw2 : ¬ (2 : Int) ^ (q + 1) < (a : Int) * ((q : Int) + 2) + b := by
    intro h
    have : ((2 ^ (q + 1) : Nat) : Int) < ((a * (q + 2) + b : Nat) : Int) := by simpa using h
    exact hw (Int.ofNat_lt.1 this)
  clear hw
  go_region_with (first | (go_at_call 46; refine (weight_calls q a b _ hq hs).mono ?_; rintro e w1 ⟨rfl, hb⟩; have HB := Aside0.mk hb; have HM1 := Aside0.mk (HM.out.grown (grown_of_below (below_step (by repeat (first | exact Below.refl _ _ | apply below_drew1 | apply below_alloc)) hb))); have ⟨k0, k1⟩ := box_cells W a b; have g0 := cell_kept k0 (grown_of_below (below_step (by repeat (first | exact Below.refl _ _ | apply below_drew1 | apply below_alloc)) hb)) (by simp); have g1 := cell_kept k1 (grown_of_below (below_step (by repeat (first | exact Below.refl _ _ | apply below_drew1 | apply below_alloc)) hb)) (by simp); have g2 := HM1.out.c1; have hlk := HM1.out.m.look_ok (e := 96) keyed99 Try.underlying94 (best0 w1) (key99 a b ((q : Int) + 1) (by go_wf) (by go_wf) (by go_wf)); rw [HF.out] at hlk; simp only [Option.getD_some, Option.isSome_some] at hlk; clear k0 k1 hb))
  all_goals go_wp2_with fail
  all_goals go_quiet (fail)
  all_goals go_wp2_with fail
  all_goals go_ret3
  all_goals trace_state
  all_goals
    refine ⟨rfl, ⟨f, HM1.out.grown (grown_of_below ?_)⟩, grown_none (grown_of_below ?_)⟩ <;>
    repeat (first | exact Below.refl _ _ | (with_reducible refine below_step ?_ HB.out) | (with_reducible first | apply below_alloc | apply pw_below_drewN | apply below_drew1 | apply below_drew))
end Go.Proofs.Ytfejfljgdeglgaa.K
