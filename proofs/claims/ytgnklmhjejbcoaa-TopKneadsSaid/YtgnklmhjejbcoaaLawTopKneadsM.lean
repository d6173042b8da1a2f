/- The law TopKneads: for every input the call returns true, and what it was handed reads behind the call as it read before. No condition. -/
import Derived.Test.YtgnklmhjejbcoaaRows
import Derived.Test.YtgnklmhjejbcoaaMTopKneads5
import Derived.Test.YtgnklmhjejbcoaaMTopKneadsAHW
import Derived.WalkKit
import Derived.ProofKit
import Derived.OpenShut
import Derived.ShutString
import Derived.ChangeOld
import Derived.Below
import Derived.SizedLaws
import Derived.Lib.SmallJoins
import Derived.Test.YtgnklmhjejbcoaaWSized
namespace Go.Proofs.Ytgnklmhjejbcoaa.K
open Go.RowKit Go.Proofs.YtgnklmhjejbcoaaW.PrintWords Go.Proofs.YtgnklmhjejbcoaaW.PrintLast Go.Proofs.YtgnklmhjejbcoaaW.PrintMore
set_option linter.unusedVariables false
set_option maxHeartbeats 2000000 in
set_option maxRecDepth 100000 in
theorem topKneads_walk (a0_0 : Int) (a0_1 : Int) (a1 : Option Addr) (len1 cap1 : Nat) (z1 : List Int) (a2 : Option Addr) (len2 cap2 : Nat) (z2 : List Int) (w : World) (w0_0 : (Lit.int .i64 a0_0).wf = true) (w0_1 : (Lit.int .i64 a0_1).wf = true) (w1 : (a1 = none ∧ len1 = 0 ∧ cap1 = 0 ∧ z1 = []) ∨ ∃ x, a1 = some x ∧ len1 ≤ cap1 ∧ cap1 ≤ maxLen ∧ z1.length = cap1 ∧ (∀ i, i < z1.length → w.cell? (x.add i) = some (.int .i64 (z1.getD i 0))) ∧ ∀ n ∈ z1, (Lit.int .i64 n).wf = true) (y1 : cap1 * 8 ≤ 140737488351232) (w2 : (a2 = none ∧ len2 = 0 ∧ cap2 = 0 ∧ z2 = []) ∨ ∃ x, a2 = some x ∧ len2 ≤ cap2 ∧ cap2 ≤ maxLen ∧ z2.length = cap2 ∧ (∀ i, i < z2.length → w.cell? (x.add i) = some (.int .i64 (z2.getD i 0))) ∧ ∀ n ∈ z2, (Lit.int .i64 n).wf = true) (y2 : cap2 * 8 ≤ 140737488351232) :
    Calls Try.prog 8 #[.agg #[.int .i64 a0_0, .int .i64 a0_1], .slice a1 len1 cap1, .slice a2 len2 cap2] w fun e w' => e = .returned (.bool true) ∧ Below w.heap.size w w' := by
  obtain ⟨n1, m1, wf1, hr1⟩ := row_reads w1
  subst n1
  have HR1 := Aside0.mk hr1
  have hl1 : (z1.take len1).length = len1 := by rw [List.length_take]; omega
  have ht1 := Kd.C_take hr1 m1
  rw [hl1] at ht1
  have HT1 := Aside0.mk ht1
  have HL1 := Aside0.mk hl1
  clear hr1 ht1 w1
  obtain ⟨n2, m2, wf2, hr2⟩ := row_reads w2
  subst n2
  have HR2 := Aside0.mk hr2
  have hl2 : (z2.take len2).length = len2 := by rw [List.length_take]; omega
  have ht2 := Kd.C_take hr2 m2
  rw [hl2] at ht2
  have HT2 := Aside0.mk ht2
  have HL2 := Aside0.mk hl2
  clear hr2 ht2 w2
  obtain ⟨k, h⟩ := Pure.TopKneads a0_0 a0_1 (z1.take len1) (z2.take len2) w0_0 w0_1 (by rw [hl1]; unfold maxLen; omega) (by omega) (fun x hx => wf1 x (List.mem_of_mem_take hx)) (by rw [hl2]; unfold maxLen; omega) (by omega) (fun x hx => wf2 x (List.mem_of_mem_take hx))
  have H := Aside0.mk h
  clear h
  clear hl1 wf1 hl2 wf2
  go_enter Try.func8, Try.ntmps8
  go_wp2_with ((with_reducible refine gate_dst (N := 3) rfl ?_); refine box_event ?hg (N := 3) ?hd (cs := #[.int .i64 a0_0, .int .i64 a0_1]) (t := 35) ?hr ?_; (case hd => rfl); (case hg => rfl); (case hr => first | (go_simp; done) | (go_simp; rfl)); intro GB hG wB hbox hb; have kb0 := (blk_cell hbox 0).trans rfl; have kb1 := (blk_cell hbox 1).trans rfl; have HBX := Aside0.mk hb; clear hbox hb hG)
  go_wp2_with fail
  refine (keepInts_calls a1 len1 z1 _ (Kd.C_below HR1.out HBX.out) (by omega)).mono ?_
  rintro e x0 ⟨v0, rfl, o0, b0⟩
  obtain ⟨A0, c0, e0⟩ := Kd.R_slice o0
  subst e0
  have OC0 := Aside0.mk (Kd.R_reads' o0).2.2
  have OL0 := Aside0.mk (below_step HBX.out b0)
  have OB0 := Aside0.mk b0
  replace kb0 := pw_cell_below b0 kb0
  replace kb1 := pw_cell_below b0 kb1
  clear o0 b0
  go_wp2_with fail
  refine (keepInts_calls a2 len2 z2 _ (Kd.C_below HR2.out OL0.out) (by omega)).mono ?_
  rintro e x1 ⟨v1, rfl, o1, b1⟩
  obtain ⟨A1, c1, e1⟩ := Kd.R_slice o1
  subst e1
  have OC1 := Aside0.mk (Kd.R_reads' o1).2.2
  have OL1 := Aside0.mk (below_step OL0.out b1)
  have OB1 := Aside0.mk b1
  replace kb0 := pw_cell_below b1 kb0
  replace kb1 := pw_cell_below b1 kb1
  clear o1 b1
  go_wp2_with fail
  have HI := verditertop_topKneads.calls k a0_0 a0_1 _ _ (z1.take len1) _ _ (z2.take len2) true _ (by rw [HL1.out]; exact Kd.C_below HT1.out OL1.out) (by rw [HL1.out]; exact m1) (by rw [HL2.out]; exact Kd.C_below HT2.out OL1.out) (by rw [HL2.out]; exact m2) H.out
  rw [HL1.out] at HI
  rw [HL2.out] at HI
  refine HI.mono ?_
  clear HI
  rintro e y ⟨rfl, hb⟩
  have IL := Aside0.mk (below_step OL1.out hb)
  have IB := Aside0.mk hb
  clear hb
  go_wp2_with fail
  refine (keptInts_calls _ _ a1 len1 z1 _ (Kd.C_below (Kd.C_below OC0.out OB1.out) IB.out) (Kd.C_below HR1.out IL.out)).mono ?_
  rintro e u0 ⟨rfl, ⟨d0, rfl⟩⟩
  go_wp2_with fail
  refine (keptInts_calls _ _ a2 len2 z2 _ (Kd.C_drewN (Kd.C_below OC1.out IB.out) _) (Kd.C_drewN (Kd.C_below HR2.out IL.out) _)).mono ?_
  rintro e u1 ⟨rfl, ⟨d1, rfl⟩⟩
  go_wp2
  go_ret
  exact ⟨rfl, by repeat (first | (with_reducible exact IL.out) | apply pw_below_drewN | apply below_drew1 | exact IL.out)⟩
end Go.Proofs.Ytgnklmhjejbcoaa.K
namespace Go.Proofs.Ytgnklmhjejbcoaa.topKneads
open Go.ChangeShapes Go.WideShapes Go.ChangeAt Go.RowKit
open Go.ChangeMaps (open_string shut_string)
set_option linter.unusedVariables false
theorem own : ownKnob Try.prog.godebug = none := by kernel_rfl
theorem laidOut : laidOutB Try.prog = true := by kernel_rfl
def IsRow (k : IntKind) (w : World) (a : Option Addr) (len cap : Nat) (zs : List Int) : Prop :=
  (a = none ∧ len = 0 ∧ cap = 0 ∧ zs = []) ∨
  ∃ x, a = some x ∧ len ≤ cap ∧ cap ≤ maxLen ∧ zs.length = cap ∧ (∀ i, i < zs.length → w.cell? (x.add i) = some (.int k (zs.getD i 0))) ∧ ∀ n ∈ zs, (Lit.int k n).wf = true
theorem reads0 {H : Type} {enc : TypeId × Value → H} (W_ : World) (b_ : Nat) (sp : Nat → Bool) (hd : Bool) (a0_0 : Int) (a0_1 : Int) (w0_0 : (Lit.int .i64 a0_0).wf = true) (w0_1 : (Lit.int .i64 a0_1).wf = true) :
    DataW.Trod enc Try.prog W_ b_ sp hd 35 (.agg #[.int .i64 a0_0, .int .i64 a0_1]) (.agg [.lit (.int .i64 a0_0), .lit (.int .i64 a0_1)]) [] := by
  simpa using Go.Joins.shut_agg2 (enc := enc) (w := W_) (base := b_) (spare := sp) (held := hd) (y0 := (.lit (.int .i64 a0_0), [])) (y1 := (.lit (.int .i64 a0_1), [])) Try.underlying35 (by kernel_rfl) (by kernel_rfl) ⟨1, by simp [DataW.trod, Try.underlying3, w0_0]⟩ ⟨1, by simp [DataW.trod, Try.underlying3, w0_1]⟩
set_option maxRecDepth 100000 in
theorem lifted (os : Os) (started : os.Started) (H : Type) (enc : TypeId × Value → H) :
    ReturnsInHanded {} Try.checked os 8 .any (Rows.topKneadsSpec.pre6 enc Try.prog Try.f8 Rows.topKneadsRow.domain false) (Rows.topKneadsSpec.post enc Try.prog Try.f8 false true false false) := by
  refine returnsInHanded_of_change_sized (C := Try.checked) own started (by kernel_rfl) Try.func8
    (ChangeSpec.witness6 (enc := enc) (C := Try.checked) false ⟨#[], #[.agg #[.int .i64 0, .int .i64 0], .slice none 0 0, .slice none 0 0], []⟩ 8 (by kernel_rfl) (by kernel_rfl) (by kernel_rfl) (by kernel_rfl)) ?_
  intro W base args ds gs before hval0 hW hcnd hsz0 _
  have hsz : (DataW.weightsEach Try.prog (Try.f8.params.toList ++ Rows.topKneadsSpec.plain.varTypes Try.prog) (ds ++ gs)).all (· ≤ reachBytes) = true := hsz0
  have hval : ∀ (j : Nat) t v, Try.f8.params[j]? = some t → args[j]? = some v → Value.okWide Try.prog W .any base t v := hval0
  have hW' := hW
  obtain ⟨p, q, hA0, hV, rfl, hfz, hnd⟩ := hW
  have hA : DataW.TrodAll enc Try.prog W 0 (fun _ => true) true Try.f8.params.toList args.toList ds p := hA0
  rw [Try.params8] at hA hval hsz
  obtain ⟨v0, vs0, d0, ds0, p0, q0, hargs, rfl, rfl, h0, r0⟩ := trodAll_cons hA
  obtain ⟨v1, vs1, d1, ds1, p1, q1, rfl, rfl, rfl, h1, r1⟩ := trodAll_cons r0
  obtain ⟨v2, vs2, d2, ds2, p2, q2, rfl, rfl, rfl, h2, r2⟩ := trodAll_cons r1
  obtain ⟨rfl, rfl, rfl⟩ := trodAll_nil r2
  obtain rfl : args = #[v0, v1, v2] := by cases args; simp_all
  obtain ⟨rfl, rfl⟩ := trodVars_none hV
  obtain ⟨c0_0, c0_1, y0_0, y0_1, m0, rfl, rfl, rfl, hy0_0, hy0_1⟩ := Go.Joins.open_agg2 Try.underlying35 (by kernel_rfl) (by kernel_rfl) (hval 0 35 v0 rfl rfl) h0
  obtain ⟨a0_0, e0_0, rfl, w0_0⟩ := DataW.trod_int Try.underlying3 hy0_0
  obtain ⟨a0_1, e0_1, rfl, w0_1⟩ := DataW.trod_int Try.underlying3 hy0_1
  simp at e0_0 e0_1
  subst e0_0 e0_1
  obtain ⟨a1, len1, cap1, rfl⟩ := okWide_slice Try.underlying22 (hval 1 22 v1 rfl rfl)
  have k1 := h1
  have lt1 : ∀ x ∈ p1, x.block < W.heap.size := by obtain ⟨m, hm⟩ := k1; exact DataW.trod_lt m _ _ _ hm
  obtain ⟨z1, w1⟩ : ∃ zs, IsRow .i64 W a1 len1 cap1 zs := by
    obtain ⟨fuel, hf⟩ := h1
    rcases open_ints Try.underlying22 Try.underlying3 (by kernel_rfl) hf with ⟨hcs, _⟩ | ⟨x, l, c, zs, hcs, _, hl, hm, hz, _, hcell, hwz⟩
    · simp [Value.cells] at hcs
      obtain ⟨rfl, rfl, rfl⟩ := hcs
      exact ⟨[], .inl ⟨rfl, rfl, rfl, rfl⟩⟩
    · simp [Value.cells] at hcs
      obtain ⟨rfl, rfl, rfl⟩ := hcs
      exact ⟨zs, .inr ⟨_, rfl, hl, hm, by simpa using hz, hcell, hwz⟩⟩
  have y1 : cap1 * 8 ≤ 140737488351232 := K.sized_cap hsz (j := 1) (t := 22) rfl rfl Try.underlying22 Try.underlying3 (by kernel_rfl) (by kernel_rfl) h1
  obtain ⟨a2, len2, cap2, rfl⟩ := okWide_slice Try.underlying22 (hval 2 22 v2 rfl rfl)
  have k2 := h2
  have lt2 : ∀ x ∈ p2, x.block < W.heap.size := by obtain ⟨m, hm⟩ := k2; exact DataW.trod_lt m _ _ _ hm
  obtain ⟨z2, w2⟩ : ∃ zs, IsRow .i64 W a2 len2 cap2 zs := by
    obtain ⟨fuel, hf⟩ := h2
    rcases open_ints Try.underlying22 Try.underlying3 (by kernel_rfl) hf with ⟨hcs, _⟩ | ⟨x, l, c, zs, hcs, _, hl, hm, hz, _, hcell, hwz⟩
    · simp [Value.cells] at hcs
      obtain ⟨rfl, rfl, rfl⟩ := hcs
      exact ⟨[], .inl ⟨rfl, rfl, rfl, rfl⟩⟩
    · simp [Value.cells] at hcs
      obtain ⟨rfl, rfl, rfl⟩ := hcs
      exact ⟨zs, .inr ⟨_, rfl, hl, hm, by simpa using hz, hcell, hwz⟩⟩
  have y2 : cap2 * 8 ≤ 140737488351232 := K.sized_cap hsz (j := 2) (t := 22) rfl rfl Try.underlying22 Try.underlying3 (by kernel_rfl) (by kernel_rfl) h2
  clear hA0 hval0 hsz0 hsz
  refine (K.topKneads_walk a0_0 a0_1 a1 len1 cap1 z1 a2 len2 cap2 z2 W w0_0 w0_1 w1 y1 w2 y2).mono fun e W' ⟨he, bel⟩ => ?_
  subst he
  exact ⟨_, rfl, _, _, _, [], _, [], hW', trodAll_mk1 (shut_bool Try.underlying4 _), (trodAll_cons_mk (reads0 _ _ _ _ a0_0 a0_1 w0_0 w0_1) (trodAll_cons_mk (Below.trod laidOut (by kernel_rfl) (of_decide_eq_true (by kernel_rfl)) k1 bel lt1) (trodAll_cons_mk (Below.trod laidOut (by kernel_rfl) (of_decide_eq_true (by kernel_rfl)) k2 bel lt2) trodAll_mk0))), rfl, bel.frame _, fun h => by cases h⟩
theorem over : Rows.topKneadsRow.holds Try.pinned (OpenSpec.ofChange Rows.topKneadsSpec) :=
  OpenClaim.holds_of_wide 8 Try.f8 rfl rfl rfl rfl rfl rfl rfl ⟨rfl, rfl, rfl, rfl, rfl⟩ rfl rfl rfl rfl rfl (by kernel_rfl) Try.func8 (by kernel_rfl)
    (of_decide_eq_true (by kernel_rfl)) (by unfold Func.isWrapper; first | (rw [if_pos (by decide +kernel)]; kernel_rfl) | (rw [if_neg (by decide +kernel)]; exact ⟨rfl, rfl⟩))
    (fun os started H enc _ => lifted os started H enc)
theorem proved : Rows.TopKneadsSaid := over
#print axioms proved
end Go.Proofs.Ytgnklmhjejbcoaa.topKneads
namespace Go.Proofs.Ytgnklmhjejbcoaa
/-- The row, under a short name, for the claim. -/
theorem topKneads_holds : Rows.TopKneadsSaid := topKneads.proved
end Go.Proofs.Ytgnklmhjejbcoaa

