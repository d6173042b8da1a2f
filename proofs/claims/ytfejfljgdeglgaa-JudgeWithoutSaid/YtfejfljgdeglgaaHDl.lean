/- What slices.Delete and judge.Without answer. -/
import Derived.Test.YtfejfljgdeglgaaHCl
import Derived.Test.YtfejfljgdeglgaaK14
import Derived.Lib.SliceRun
import Derived.Lib.Hide
import Derived.StillTailTactics
import Derived.Deep.RegionLaw
import Derived.Laws.IdiomCopy
namespace Go.Proofs.Ytfejfljgdeglgaa.K
open Go.RowKit Go.Proofs.YtfejfljgdeglgaaW.PrintWords Go.Proofs.YtfejfljgdeglgaaW.PrintLast Go.Proofs.YtfejfljgdeglgaaW.PrintMore
set_option linter.unusedVariables false
set_option linter.unusedSimpArgs false

theorem info49z : (Try.prog.info? 49).map (fun i => (i.zero, i.size)) = some (some (.agg #[.slice none 0 0, .bool false]), 2) := by kernel_rfl
theorem zero49 (w : World) : (zeroValue 49).run Try.prog w = .ok (.agg #[.slice none 0 0, .bool false]) w := by kernel_rfl
theorem run_clear49 (w : World) (ty : TypeId) (g o c : Nat) (h0 : (w.cell? ⟨g, o, none⟩).isSome = true) (h1 : (w.cell? ⟨g, o + 1, none⟩).isSome = true) (f0 : w.frozen? ⟨g, o, none⟩ = false) (f1 : w.frozen? ⟨g, o + 1, none⟩ = false) :
    (Builtin.clear_ #[29] ty #[.slice (some ⟨g, o, none⟩) 1 c]).run Try.prog w = .ok (.tuple #[]) (w.setCells g o [.slice none 0 0, .bool false]) := by
  have hst := run_storeCells_cells (P := Try.prog) g o [.slice none 0 0, .bool false] 0 w (fun j hj => by
    have : j = 0 ∨ j = 1 := by simp at hj; omega
    rcases this with rfl | rfl <;> simpa) (fun j hj => by
    have : j = 0 ∨ j = 1 := by simp at hj; omega
    rcases this with rfl | rfl <;> simpa) (by intro v hv; simp at hv; rcases hv with rfl | rfl <;> rfl)
  have hz : (Builtin.zeroCells (Value.agg #[.slice none 0 0, .bool false]).cells 1).toList = [.slice none 0 0, .bool false] := by kernel_rfl
  simp [Builtin.clear_, run_underlying Try.underlying29, zero49, hz, hst]
theorem R_beyond {α : Type} {d : Kd α} {e base : Nat} {ok : Nat → Prop} {w : World} {g n c : Nat} {xs : List α} (h : d.R e w base ok (.slice (some ⟨g, 0, none⟩) n c) xs) (o : Nat) (ho : n * d.sz ≤ o) (u : Value) :
    d.R e (w.setCell ⟨g, o, none⟩ u) base ok (.slice (some ⟨g, 0, none⟩) n c) xs := by
  obtain ⟨hn, hnc, _⟩ := Kd.R_reads' h
  obtain ⟨hok, inner, hown, hr⟩ := h
  refine ⟨hok, inner, ⟨hown.1, ?_⟩, ?_⟩
  · rcases hown.2 with ⟨hv, _⟩ | ⟨g', cap', cur, hv, hb, hh, h1, hcm, hcs, htake⟩
    · cases hv
    · injection hv with ha _ hc
      injection ha with ha
      injection ha with hg
      subst hg; subst hc
      refine .inr ⟨g, c, cur.setIfInBounds o u, by rw [← hn], hb, blk_set hh o u, h1, hcm, by rw [Array.size_setIfInBounds]; exact hcs, ?_⟩
      rw [← htake, Array.toList_setIfInBounds, List.take_set_of_le (by rw [← hn]; exact ho)]
  · refine hr.imp_ ?_
    intro p cs hM
    exact d.M_move (fun k hk => Below.heap_setCell w _ u k (by intro e; exact hk.2 (by rw [e]; rfl))) hM
theorem S_beyond {w : World} {base : Nat} {ok : Nat → Prop} {g n c : Nat} {l : List S49} (h : Kd.S k49 49 w base ok (.slice (some ⟨g, 0, none⟩) n c) l) (o : Nat) (ho : n * 2 ≤ o) (u : Value) : Kd.S k49 49 (w.setCell ⟨g, o, none⟩ u) base ok (.slice (some ⟨g, 0, none⟩) n c) l := by
  obtain ⟨f, hf⟩ := h
  exact ⟨f, R_beyond hf o ho u⟩
theorem step_append_run {P : Program} {ops : Array Oper} {o : Oper} {a : Act} {w w1 : World} {K : Act → World → Prop} {Q : Exit → Act → World → Prop} {E : Prop}
    (hg : o.guard = none) (s x : Operand) (t : TypeId) (hop : o.op = Op.call { callee := Callee.builtin Builtin.append, args := #[s, x], argTypes := #[t, t] })
    (v1 v2 r : Value) (hs : a.eval s = v1) (hx : a.eval x = v2) (hrun : (Builtin.append_ #[t, t] o.type #[v1, v2]).run P w = .ok r w1) (hK : K (a.put o.dst r) w1) :
    if Region.wanted o (yielded ops a.tmps) = true then Oper.wp P o a w K Q else E := by
  have hw : Region.wanted o (yielded ops a.tmps) = true := by simp [Region.wanted, hg]
  rw [if_pos hw]
  unfold Oper.wp
  simp [execOp, hop, resolve, invoke, builtin, hs, hx, hrun, Result.andThen]
  exact hK
theorem info49i : ∃ i, Try.prog.info? 49 = some i ∧ i.size = 2 := by
  cases hq : Try.prog.info? 49 with
  | none => have := info49z; rw [hq] at this; cases this
  | some i => exact ⟨i, rfl, by have := info49z; rw [hq] at this; simpa using congrArg (fun o => o.map Prod.snd) this⟩
theorem R_blk {α : Type} {d : Kd α} {e base : Nat} {ok : Nat → Prop} {w : World} {g n c : Nat} {xs : List α} (h : d.R e w base ok (.slice (some ⟨g, 0, none⟩) n c) xs) : ∃ cur, w.heap[g]? = some (.cells cur e (0, 0)) ∧ cur.size = c * d.sz := by
  obtain ⟨hok, inner, hown, hr⟩ := h
  rcases hown.2 with ⟨hv, _⟩ | ⟨g', cap', cur, hv, hb, hh, h1, hcm, hcs, htake⟩
  · cases hv
  · injection hv with ha _ hc
    injection ha with ha
    injection ha with hg
    subst hg; subst hc
    exact ⟨cur, hh, hcs⟩
set_option maxHeartbeats 4000000 in
set_option maxRecDepth 100000 in
/-- One answer taken out of a list of the call's own, in place. -/
theorem delete_calls (g c i : Nat) (l : List S49) (w : World) (base : Nat) (ok : Nat → Prop) (HO : Kd.S k49 49 w base ok (.slice (some ⟨g, 0, none⟩) l.length c) l) (hi : i < l.length) (hn : l.length ≤ 1000) :
    Calls Try.prog 89 #[.slice (some ⟨g, 0, none⟩) l.length c, .int .i64 (i : Int), .int .i64 ((i : Int) + 1)] w fun e w' => e = .returned (.slice (some ⟨g, 0, none⟩) (l.length - 1) c) ∧ Kd.S k49 49 w' base ok (.slice (some ⟨g, 0, none⟩) (l.length - 1) c) (l.eraseIdx i) ∧ ∀ w0 : World, w0.heap.size ≤ g → Below w0.heap.size w0 w → Below w0.heap.size w0 w' := by
  obtain ⟨hln, hnc, hC⟩ := Kd.S_reads' HO
  obtain ⟨i49, hi49, hs49⟩ := info49i
  obtain ⟨f, HR⟩ := HO
  have hA : (if c = i + 1 then some (⟨g, 0, none⟩ : Addr) else some (⟨g, (i + 1) * 2, none⟩ : Addr)) = if c = i + 1 then some (⟨g, 0, none⟩ : Addr) else (some (⟨g, 0, none⟩ : Addr)).map (·.add ((i + 1) * 2)) := by
    simp [Addr.add_lit]
  obtain ⟨w1, hrun, HR1, hg1⟩ := Kd.R_delete_run (P := Try.prog) (Kd.tag f k49) (W := w.drew) base 29 29 49 i49 Try.underlying29 hi49 hs49 (Kd.R_drew HR) hi hA (c - (i + 1))
  obtain ⟨cur, hcur, hcs⟩ := R_blk HR1
  have hcs2 : cur.size = c * 2 := hcs
  have hcell : ∀ j, j < c * 2 → (w1.cell? ⟨g, j, none⟩).isSome = true := by
    intro j hj
    rw [blk_cell hcur j, Array.getElem?_eq_getElem (by omega)]
    rfl
  have hclr : ∀ ty, (Builtin.clear_ #[29] ty #[.slice (some ⟨g, (l.length - 1) * 2, none⟩) (l.length - (l.length - 1)) (c - (l.length - 1))]).run Try.prog w1 = .ok (.tuple #[]) (w1.setCells g ((l.length - 1) * 2) [.slice none 0 0, .bool false]) := fun ty => by
    rw [show l.length - (l.length - 1) = 1 by omega]
    exact run_clear49 w1 ty g ((l.length - 1) * 2) (c - (l.length - 1)) (hcell _ (by omega)) (hcell _ (by omega)) (blk_frozen hcur _) (blk_frozen hcur _)
  have HRUN := Aside0.mk hrun
  have HR1' := Aside0.mk HR1
  have HG1 := Aside0.mk hg1
  clear hrun HR1 hg1 HR hcell hcur hcs hcs2 hln
  have e1 : i ≤ c := by omega
  have e2 : i + 1 ≤ l.length := by omega
  have e3 : i + 1 ≤ c := by omega
  have e4 : (0 : Int) ≤ (i : Int) + 1 := by omega
  have e5 : (i : Int) + 1 ≤ (l.length : Int) := by omega
  have e6 : ¬ c = l.length - 1 := by omega
  clear hA
  go_enter Try.func89, Try.ntmps89
  go_wp2_with fail
  go_region_law (refine step_append_run rfl (.tmp 22) (.tmp 25) 29 rfl (.slice (some ⟨g, 0, none⟩) i c) (.slice (if c = i + 1 then some (⟨g, 0, none⟩ : Addr) else some (⟨g, (i + 1) * 2, none⟩ : Addr)) (l.length - (i + 1)) (c - (i + 1))) _ (by simp [Act.eval, Act.put]) (by simp [Act.eval, Act.put]) HRUN.out ?_)
  simp [Act.put]
  go_wp2_with fail
  all_goals go_ret
  all_goals try subst_vars
  all_goals
    have S1 := S_beyond (S_beyond (Kd.S_erase HR1'.out) ((l.length - 1) * 2) (by omega) (.slice none 0 0)) ((l.length - 1) * 2 + 1) (by omega) (.bool false)
    refine ⟨rfl, S1, fun w0 hm hB => ?_⟩
    exact below_set (below_set (Below.grown (below_drew1 hB) HG1.out (by have := hB.size; exact this) (fun k hk => by injection hk with hk; omega)) hm) hm

theorem copied_l0 (l : List S49) (hl : l.length ≤ 100) (hs : ∀ s ∈ l, s.f0.length ≤ 100) : ∀ m n : Nat, n + m = l.length → ∀ k, judge_copied.l0 (k + m + 1) (l.take n) l (l.length : Int) (n : Int) = some l
  | 0, n, h, k => by rw [judge_copied.l0, if_neg (by omega), List.take_of_length_le (by omega)]
  | m + 1, n, h, k => by
    have hn : n < l.length := by omega
    have hr : rd_T49 l (n : Int) = l[n] := by
      unfold rd_T49
      rw [Int.toNat_natCast, List.getD_eq_getElem?_getD, List.getElem?_eq_getElem hn]
      rfl
    have hc : slices_Clone_int_int.f l[n].f0 = some l[n].f0 := by
      unfold slices_Clone_int_int.f
      rw [if_pos (by have := hs _ (List.getElem_mem hn); omega)]
    rw [judge_copied.l0, if_pos (by omega), if_pos (by omega), if_pos (by omega), hr, hc, Option.bind_some, if_pos (by rw [List.length_take]; omega), show wrap64 ((n : Int) + 1) = ((n + 1 : Nat) : Int) by unfold wrap64; omega]
    have e : l.take n ++ [(⟨l[n].f0, l[n].f1⟩ : S49)] = l.take (n + 1) := by
      rw [List.take_add_one, List.getElem?_eq_getElem hn]
      rfl
    rw [e]
    exact copied_l0 l hl hs m (n + 1) (by omega) k
/-- judge.Without, for records that are not long. -/
def judge_Without.f (a0 : Int) (l1 : List S49) (a2 : Int) : Option (List S49 × Int) := (judge_Validate.f a0 l1).bind fun e => if e = 0 then (if 0 ≤ a2 ∧ a2 ≤ (l1.length : Int) - 1 then (if l1.length ≤ 100 ∧ ∀ s ∈ l1, s.f0.length ≤ 100 then some (l1.eraseIdx a2.toNat, 0) else none) else some ([], 4)) else some ([], e)
set_option maxHeartbeats 4000000 in
set_option maxRecDepth 100000 in
theorem judge_Without.calls (a0 : Int) (A1 : Option Addr) (c1 : Nat) (l1 : List S49) (a2 : Int) (r1 : List S49) (r2 : Int) (w : World) (hr1 : Kd.C k49 w A1 l1.length l1) (hc1 : l1.length ≤ c1) (h : judge_Without.f a0 l1 a2 = some (r1, r2)) :
    Calls Try.prog 72 #[.int .i64 a0, .slice A1 l1.length c1, .int .i64 a2] w fun e w' => ∃ v0_ : Value, e = .returned (.tuple #[v0_, .int .i64 r2]) ∧ Kd.S k49 49 w' w.heap.size (fun _ => True) v0_ r1 ∧ Below w.heap.size w w' := by
  have hm := hr1.2.1
  have HR := Aside0.mk hr1
  clear hr1
  unfold judge_Without.f at h
  obtain ⟨e0, he, h⟩ := Option.bind_eq_some_iff.mp h
  have HE := Aside0.mk he
  clear he
  by_cases c0 : e0 = 0
  · rw [if_pos c0] at h
    subst c0
    by_cases hk : 0 ≤ a2 ∧ a2 ≤ (l1.length : Int) - 1
    · rw [if_pos hk] at h
      split at h
      case isFalse => cases h
      case isTrue hs =>
        obtain ⟨hs1, hs2⟩ := hs
        simp only [Option.some.injEq, Prod.mk.injEq] at h
        obtain ⟨rfl, rfl⟩ := h
        obtain ⟨i, rfl⟩ := Int.eq_ofNat_of_zero_le hk.1
        have hi : i < l1.length := by omega
        have HW := Aside0.mk ((jwithin (i : Int) 0 ((l1.length : Int) - 1)).trans (by rw [decide_eq_true hk]) : judge_within.f (i : Int) 0 ((l1.length : Int) - 1) = some true)
        have hcp := copied_l0 l1 hs1 hs2 l1.length 0 (by omega) 0
        have HCP := Aside0.mk (show judge_copied.f (0 + l1.length + 1) l1 = some l1 from hcp)
        clear hcp hk hs2
        simp only [Int.toNat_natCast]
        go_enter Try.func72, Try.ntmps72
        go_wp2_with (first
          | (go_at_call 51; (with_reducible refine (judge_Validate.calls _ _ _ _ _ _ HR.out hc1 HE.out).mono ?_); rintro e w1 ⟨rfl, hb⟩; have HB1 := Aside0.mk hb; clear hb)
          | (go_at_call 78; (with_reducible refine (judge_within.calls _ _ _ _ _ HW.out).mono ?_); rintro e w' ⟨rfl, ⟨nd, rfl⟩⟩)
          | (go_at_call 90; (with_reducible refine (judge_copied.calls _ _ _ l1 l1 _ (Kd.C_drewN (Kd.C_below HR.out HB1.out) _) hc1 HCP.out).mono ?_); rintro e w2 ⟨v2, rfl, ho, hb⟩; obtain ⟨g, cap, hv, hbg, _⟩ := Kd.S_form ho (by omega); subst hv; have HB2 := Aside0.mk (below_step (pw_below_drewN HB1.out _) hb); have HO := Aside0.mk ho; have HG := Aside0.mk hbg; clear ho hb hbg)
          | (go_at_call 89; (with_reducible refine (delete_calls g cap i l1 _ _ _ HO.out hi (by omega)).mono ?_); rintro e w3 ⟨rfl, hs3, hf3⟩; have HS3 := Aside0.mk hs3; have HF3 := Aside0.mk hf3; clear hs3 hf3))
        go_ret2
        have hsz : w.heap.size ≤ w1.heap.size := HB1.out.size
        have hg2 : w.heap.size ≤ g := Nat.le_trans hsz HG.out
        exact ⟨_, rfl, Kd.S_lower HS3.out hsz, HF3.out w hg2 HB2.out⟩
    · rw [if_neg hk] at h
      simp only [Option.some.injEq, Prod.mk.injEq] at h
      obtain ⟨rfl, rfl⟩ := h
      have HW := Aside0.mk ((jwithin a2 0 ((l1.length : Int) - 1)).trans (by rw [decide_eq_false hk]) : judge_within.f a2 0 ((l1.length : Int) - 1) = some false)
      clear hk
      go_enter Try.func72, Try.ntmps72
      go_wp2_with (first
        | (go_at_call 51; (with_reducible refine (judge_Validate.calls _ _ _ _ _ _ HR.out hc1 HE.out).mono ?_); rintro e w1 ⟨rfl, hb⟩; have HB1 := Aside0.mk hb; clear hb)
        | (go_at_call 78; (with_reducible refine (judge_within.calls _ _ _ _ _ HW.out).mono ?_); rintro e w' ⟨rfl, ⟨nd, rfl⟩⟩))
      go_ret2
      exact ⟨_, rfl, Kd.S_nil _ _ _ _ _, pw_below_drewN HB1.out _⟩
  · rw [if_neg c0] at h
    simp only [Option.some.injEq, Prod.mk.injEq] at h
    obtain ⟨rfl, rfl⟩ := h
    have hb0 : (e0 == 0) = false := beq_eq_false_iff_ne.mpr c0
    have hb1 : (e0 != 0) = true := bne_iff_ne.mpr c0
    go_enter Try.func72, Try.ntmps72
    go_wp2_with (first
      | (go_at_call 51; (with_reducible refine (judge_Validate.calls _ _ _ _ _ _ HR.out hc1 HE.out).mono ?_); rintro e w1 ⟨rfl, hb⟩; have HB1 := Aside0.mk hb; clear hb)
      | fail)
    go_ret2
    exact ⟨_, rfl, Kd.S_nil _ _ _ _ _, HB1.out⟩
end Go.Proofs.Ytfejfljgdeglgaa.K
