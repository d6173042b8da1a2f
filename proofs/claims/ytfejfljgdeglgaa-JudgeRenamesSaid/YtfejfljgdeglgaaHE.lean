/- What judge's solver, enough and Question answer. -/
import Derived.Test.YtfejfljgdeglgaaHSC
import Derived.Test.YtfejfljgdeglgaaK1
import Derived.Laws.EntriesVeiled
namespace Go.Proofs.Ytfejfljgdeglgaa.K
open Go.RowKit Go.Maps Go.Proofs.YtfejfljgdeglgaaW.PrintWords Go.Proofs.YtfejfljgdeglgaaW.PrintLast Go.Proofs.YtfejfljgdeglgaaW.PrintMore
set_option linter.unusedVariables false
set_option linter.unusedSimpArgs false

set_option maxHeartbeats 4000000 in
set_option maxRecDepth 100000 in
theorem solver_calls (w : World) : Calls Try.prog 60 #[] w fun e w' => ∃ B1 B2 M f, e = .returned (.func (.func 87) #[] #[.pointer (some ⟨B1, 0, none⟩), .pointer (some ⟨B2, 0, none⟩)]) ∧ Mem w' B1 B2 M f ∧ w.heap.size ≤ M ∧ Below w.heap.size w w' := by
  have hmm := @run_makeMap Try.prog
  have hc1 : ((w.alloc (Obj.map #[] 0)).alloc (Obj.cells #[Value.map (some w.heap.size)] 94)).cell? ⟨w.heap.size + 1, 0, none⟩ = some (.map (some w.heap.size)) := World.cell?_alloc_at _ _ _ _ (by simp)
  have HC1 := Aside0.mk hc1
  go_enter Try.func60, Try.ntmps60
  go_wp2
  go_ret
  have hmap := MapV.made Try.prog 99 w
  have hB : Below (w.alloc (Obj.map #[] 0)).heap.size (w.alloc (Obj.map #[] 0)) (((w.alloc (Obj.map #[] 0)).alloc (Obj.cells #[Value.map (some w.heap.size)] 94)).alloc (Obj.cells #[.func (.func 87) #[] #[.pointer (some ⟨w.heap.size + 1, 0, none⟩), .pointer (some ⟨w.heap.size + 1 + 1, 0, none⟩)]] 73)) := below_alloc (below_alloc (Below.refl _ _) _) _
  refine ⟨w.heap.size + 1, w.heap.size + 2, w.heap.size, fun _ => none, rfl, ⟨?_, ?_, by omega, by omega, (hmap.kept (grown_of_below hB) (by simp)).mono (Nat.zero_le _), fun _ _ _ _ _ _ _ h => (by cases h), fun _ h => absurd rfl h⟩, Nat.le_refl _, ?_⟩
  · exact cell_kept HC1.out (World.grownBy_alloc _ _ none) (by simp)
  · exact World.cell?_alloc_at _ _ _ _ (by simp)
  · exact below_step (below_alloc (Below.refl _ _) _) hB
/-- judge.enough. -/
def judge_enough.f (a b q : Int) : Option Bool := if 0 ≤ a ∧ 0 ≤ b ∧ a + b ≤ 64 ∧ 0 ≤ q ∧ q ≤ 60 then some (solveP q.toNat a.toNat b.toNat).2.2 else none
theorem box_kept {W W' : World} {a b : Int} (h : Below (W.alloc (Obj.cells #[.int .i64 a, .int .i64 b] 58)).heap.size (W.alloc (Obj.cells #[.int .i64 a, .int .i64 b] 58)) W') : W'.cell? ⟨W.heap.size, 0, none⟩ = some (.int .i64 a) ∧ W'.cell? ⟨W.heap.size, 1, none⟩ = some (.int .i64 b) :=
  ⟨cell_kept (box_cells W a b).1 (grown_of_below h) (by simp), cell_kept (box_cells W a b).2 (grown_of_below h) (by simp)⟩
theorem below_mem {M : Nat} {w W W' : World} (h : Below w.heap.size w W) (hM : w.heap.size ≤ M) (hg : W.grownBy W' (some M)) : Below w.heap.size w W' :=
  ⟨hg.os.trans h.os, hg.tape.trans h.tape, hg.output.trans h.output, Nat.le_trans h.size hg.size, fun k hk => (hg.block k (Nat.lt_of_lt_of_le hk (by have := h.size; omega)) (by simp; omega)).trans (h.block k hk)⟩
set_option maxHeartbeats 4000000 in
set_option maxRecDepth 100000 in
theorem judge_enough.calls (a0 a1 a2 : Int) (r : Bool) (w : World) (h : judge_enough.f a0 a1 a2 = some r) :
    Calls Try.prog 55 #[.agg #[.int .i64 a0, .int .i64 a1], .int .i64 a2] w fun e w' => e = .returned (.bool r) ∧ Below w.heap.size w w' := by
  unfold judge_enough.f at h
  split at h
  case isFalse => cases h
  case isTrue hc =>
    obtain ⟨h0, h1, h2, h3, h4⟩ := hc
    obtain ⟨a, rfl⟩ := Int.eq_ofNat_of_zero_le h0
    obtain ⟨b, rfl⟩ := Int.eq_ofNat_of_zero_le h1
    obtain ⟨q, rfl⟩ := Int.eq_ofNat_of_zero_le h3
    simp only [Int.toNat_natCast, Option.some.injEq] at h
    have HR := Aside0.mk h
    clear h
    go_enter Try.func55, Try.ntmps55
    go_wp2_with fail
    go_region_with (first | (go_at_call 60; refine (solver_calls _).mono ?_; rintro e w1 ⟨B1, B2, M, f, rfl, hm, hM, hb⟩; have hb1 := below_step (below_drew1 (Below.refl _ (w.alloc (Obj.cells #[.int .i64 (a : Int), .int .i64 (b : Int)] 58)))) hb; have k0 := (box_kept hb1).1; have k1 := (box_kept hb1).2; have HM := Aside0.mk hm; have HB := Aside0.mk hb1; have HG := Aside0.mk hM; clear hm hM hb hb1) | (go_at_call 87; refine (solve_all q (by omega) a b _ _ _ _ _ (by omega) HM.out).mono ?_; rintro e w2 ⟨rfl, hm2, hg2⟩; have HG2 := Aside0.mk hg2; clear hm2 hg2))
    all_goals go_wp2_with fail
    all_goals go_ret
    all_goals exact ⟨by first | rfl | (rw [HR.out]; rfl), below_step (below_alloc (Below.refl _ _) _) (below_mem HB.out (Nat.le_trans (by simp) HG.out) HG2.out)⟩

/-- judge.Question. -/
def judge_Question.f (a b q : Int) : Option (Int × Int × Bool × Int) := (judge_numbers.f a b q).bind fun e => if e = 0 then (if a + b ≤ 1 then some (0, 0, false, 0) else if 0 ≤ a ∧ 0 ≤ b ∧ a + b ≤ 64 ∧ 0 ≤ q ∧ q ≤ 60 then some ((solveP q.toNat a.toNat b.toNat).1, (solveP q.toNat a.toNat b.toNat).2.1, (solveP q.toNat a.toNat b.toNat).2.2, 0) else none) else some (0, 0, false, e)
theorem within_eq (n lo hi : Int) : judge_within.f n lo hi = some (decide (lo ≤ n ∧ n ≤ hi)) := by
  unfold judge_within.f
  split
  · congr 1; simp only [decide_eq_decide]; omega
  · congr 1; symm; simp only [decide_eq_false_iff_not]; omega
theorem numbers_eq (a b q : Int) : judge_numbers.f a b q = some (if 0 ≤ a ∧ a ≤ 16 ∧ 0 ≤ b ∧ b ≤ 16 ∧ 0 ≤ q ∧ q ≤ 12 then 0 else 1) := by
  unfold judge_numbers.f
  simp only [within_eq, Option.bind_some, decide_eq_true_eq]
  by_cases h1 : 0 ≤ a ∧ a ≤ 16
  · by_cases h2 : 0 ≤ b ∧ b ≤ 16
    · by_cases h3 : 0 ≤ q ∧ q ≤ 12
      · rw [if_pos h1, if_pos h2, if_pos h3, if_pos (by omega)]
      · rw [if_pos h1, if_pos h2, if_neg h3, if_neg (by omega)]
    · rw [if_pos h1, if_neg h2, if_neg (by omega)]
  · rw [if_neg h1, if_neg (by omega)]
theorem numbers_ok {a b q : Int} (h : judge_numbers.f a b q = some 0) : 0 ≤ a ∧ a ≤ 16 ∧ 0 ≤ b ∧ b ≤ 16 ∧ 0 ≤ q ∧ q ≤ 12 := by
  rw [numbers_eq] at h
  split at h
  · assumption
  · simp at h
theorem small_sum {a b q : Int} (h : judge_numbers.f a b q = some 0) (h1 : a + b ≤ 1) : IntKind.i64.wrap (a + b) = a + b := by
  obtain ⟨h2, h3, h4, h5, _⟩ := numbers_ok h
  rw [wrapK]
  exact wrap_id (by omega) (by omega)
theorem results_tmp4 {fn : Func} {t u v x : Tmp} (h : fn.results = #[.tmp t, .tmp u, .tmp v, .tmp x]) (tmps : Array Value) (P : Program) (w : World) :
    (results fn tmps).run P w = .ok (.tuple #[tmps.getD t undef, tmps.getD u undef, tmps.getD v undef, tmps.getD x undef]) w := by
  simp [results, h]
set_option maxHeartbeats 4000000 in
set_option maxRecDepth 100000 in
theorem judge_Question.calls (a0 a1 a2 r1 r2 : Int) (r3 : Bool) (r4 : Int) (w : World) (h : judge_Question.f a0 a1 a2 = some (r1, r2, r3, r4)) :
    Calls Try.prog 28 #[.int .i64 a0, .int .i64 a1, .int .i64 a2] w fun e w' => e = .returned (.tuple #[.int .i64 r1, .int .i64 r2, .bool r3, .int .i64 r4]) ∧ Below w.heap.size w w' := by
  unfold judge_Question.f at h
  obtain ⟨e0, he, h⟩ := Option.bind_eq_some_iff.mp h
  have HE := Aside0.mk he
  clear he
  by_cases c0 : e0 = 0
  · rw [if_pos c0] at h
    subst c0
    by_cases c1 : a0 + a1 ≤ 1
    · rw [if_pos c1] at h
      simp only [Option.some.injEq, Prod.mk.injEq] at h
      obtain ⟨rfl, rfl, rfl, rfl⟩ := h
      have HC := Aside0.mk (small_sum HE.out c1)
      go_enter Try.func28, Try.ntmps28
      go_wp2_with (first
          | (go_at_call 44; (with_reducible refine (judge_numbers.calls _ _ _ _ _ HE.out).mono ?_); rintro e w' ⟨rfl, ⟨nd, rfl⟩⟩; have hc2 := HC.out)
          | fail)
      ((try simp only [Exit.inBlock, Exit.then]); refine bodyPost_ret (results_tmp4 rfl _ _ _) rfl ?_)
      exact ⟨rfl, pw_below_drewN (Below.refl _ _) _⟩
    · rw [if_neg c1] at h
      split at h
      case isFalse => cases h
      case isTrue hc =>
        obtain ⟨h0, h1, h2, h3, h4⟩ := hc
        obtain ⟨a, rfl⟩ := Int.eq_ofNat_of_zero_le h0
        obtain ⟨b, rfl⟩ := Int.eq_ofNat_of_zero_le h1
        obtain ⟨q, rfl⟩ := Int.eq_ofNat_of_zero_le h3
        simp only [Int.toNat_natCast, Option.some.injEq, Prod.mk.injEq] at h
        obtain ⟨rfl, rfl, rfl, rfl⟩ := h
        go_enter Try.func28, Try.ntmps28
        go_wp2_with (first
          | (go_at_call 44; (with_reducible refine (judge_numbers.calls _ _ _ _ _ HE.out).mono ?_); rintro e w' ⟨rfl, ⟨nd, rfl⟩⟩)
          | (go_at_call 60; refine (solver_calls _).mono ?_; rintro e w1 ⟨B1, B2, M, f, rfl, hm, hM, hb⟩; have HM := Aside0.mk hm; have HB := Aside0.mk hb; have HG := Aside0.mk hM; clear hm hM hb)
          | (go_at_call 87; refine (solve_all q (by omega) a b _ _ _ _ _ (by omega) HM.out).mono ?_; rintro e w2 ⟨rfl, hm2, hg2⟩; have HG2 := Aside0.mk hg2; clear hm2 hg2))
        ((try simp only [Exit.inBlock, Exit.then]); refine bodyPost_ret (results_tmp4 rfl _ _ _) rfl ?_)
        exact ⟨rfl, below_mem (below_step (pw_below_drewN (Below.refl _ _) _) HB.out) (by first | exact HG.out | simpa using HG.out) HG2.out⟩
  · rw [if_neg c0] at h
    simp only [Option.some.injEq, Prod.mk.injEq] at h
    obtain ⟨rfl, rfl, rfl, rfl⟩ := h
    have hb0 : (e0 == 0) = false := beq_eq_false_iff_ne.mpr c0
    have hb1 : (e0 != 0) = true := bne_iff_ne.mpr c0
    go_enter Try.func28, Try.ntmps28
    go_wp2_with (first
        | (go_at_call 44; (with_reducible refine (judge_numbers.calls _ _ _ _ _ HE.out).mono ?_); rintro e w' ⟨rfl, ⟨nd, rfl⟩⟩)
        | fail)
    ((try simp only [Exit.inBlock, Exit.then]); refine bodyPost_ret (results_tmp4 rfl _ _ _) rfl ?_)
    exact ⟨rfl, pw_below_drewN (Below.refl _ _) _⟩
end Go.Proofs.Ytfejfljgdeglgaa.K
