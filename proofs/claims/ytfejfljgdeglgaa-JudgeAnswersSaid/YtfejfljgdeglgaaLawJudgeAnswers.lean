/- The law JudgeAnswers: for every input the call returns true, and what it was handed reads behind the call as it read before. No condition. -/
import Derived.Test.YtfejfljgdeglgaaRows
import Derived.Test.YtfejfljgdeglgaaQAns
import Derived.Test.YtfejfljgdeglgaaHX
import Derived.Test.YtfejfljgdeglgaaHO
import Derived.Test.YtfejfljgdeglgaaHSB
import Derived.Test.YtfejfljgdeglgaaK11
import Derived.WalkKit
import Derived.ProofKit
import Derived.OpenShut
import Derived.ShutString
import Derived.ChangeOld
import Derived.Below
import Derived.SizedLaws
import Derived.Test.YtfejfljgdeglgaaWSized
namespace Go.Proofs.Ytfejfljgdeglgaa.K
open Go.RowKit Go.Proofs.YtfejfljgdeglgaaW.PrintWords Go.Proofs.YtfejfljgdeglgaaW.PrintLast Go.Proofs.YtfejfljgdeglgaaW.PrintMore
set_option linter.unusedVariables false
set_option maxRecDepth 100000 in
open Go.ChangeShapes Go.WideShapes Go.ChangeAt in
/-- An answer that came in by value, opened. -/
theorem row_answer {H : Type} {enc : TypeId × Value → H} {W : World} {held : Bool} {r : Reach} {b0 : Nat} {v : Value} {d : DataW H} {ps : List MemPlace} {ts : List TypeId} {ds : List (DataW H)} {j : Nat}
    (hsz : (DataW.weightsEach Try.prog ts ds).all (· ≤ reachBytes) = true) (ht : ts[j]? = some 49) (hd : ds[j]? = some d) (hv : Value.okWide Try.prog W r b0 49 v) (h : DataW.Trod enc Try.prog W 0 (fun _ => true) held 49 v d ps) :
    ∃ (A : Option Addr) (s : SW), v = .agg #[.slice A s.len s.zs.length, .bool s.yes] ∧ s.len ≤ s.zs.length ∧ Kd.C (Kd.int .i64) W A s.zs.length s.zs ∧ (∀ z ∈ s.zs, (Lit.int .i64 z).wf = true) ∧ s.zs.length < 17592186044416 := by
  obtain ⟨cs, rfl, hcs⟩ := okWide_struct Try.underlying49 hv
  obtain ⟨fuel, hf⟩ := h
  obtain ⟨s, A, hc, h1, h2, h3, h4⟩ := open_answer hf
  have hB := h4 reachBytes (by
    rw [List.all_eq_true] at hsz ⊢
    intro n hn
    exact hsz n (DataW.weights_mem_each ht hd n hn))
  have hr : reachBytes = 140737488351232 := by rfl
  rw [hr] at hB
  refine ⟨A, s, ?_, h1, h2, h3, by omega⟩
  have : cs = #[.slice A s.len s.zs.length, .bool s.yes] := by
    apply Array.toList_inj.1
    simpa [Value.cells] using hc
  rw [this]
theorem box49_kept {W W' : World} {u v : Value} (h : Below (W.alloc (Obj.cells #[u, v] 49)).heap.size (W.alloc (Obj.cells #[u, v] 49)) W') : W'.cell? ⟨W.heap.size, 0, none⟩ = some u ∧ W'.cell? ⟨W.heap.size, 1, none⟩ = some v :=
  ⟨cell_kept (World.cell?_alloc_at _ _ _ _ rfl) (grown_of_below h) (by simp), cell_kept (World.cell?_alloc_at _ _ _ _ rfl) (grown_of_below h) (by simp)⟩
set_option maxHeartbeats 2000000 in
set_option maxRecDepth 100000 in
theorem judgeAnswers_walk (a0 : Int) (a1 : Option Addr) (len1 cap1 : Nat) (z1 : List SW) (a2 : Option Addr) (z2 : SW) (w : World) (w0 : (Lit.int .i64 a0).wf = true) (w1 : cap1 = z1.length ∧ len1 ≤ z1.length ∧ Kd.C kW w a1 z1.length z1 ∧ (∀ s ∈ z1, s.len ≤ s.zs.length ∧ ∀ n ∈ s.zs, (Lit.int .i64 n).wf = true) ∧ z1.length ≤ 4398046511000 ∧ ∀ s ∈ z1, s.zs.length < 17592186044416)
    (w2 : z2.len ≤ z2.zs.length ∧ Kd.C (Kd.int .i64) w a2 z2.zs.length z2.zs ∧ (∀ n ∈ z2.zs, (Lit.int .i64 n).wf = true) ∧ z2.zs.length < 17592186044416) :
    Calls Try.prog 12 #[.int .i64 a0, .slice a1 len1 cap1, .agg #[.slice a2 z2.len z2.zs.length, .bool z2.yes]] w fun e w' => e = .returned (.bool true) ∧ Below w.heap.size w w' := by
  obtain ⟨len2, zs2, yes2⟩ := z2
  obtain ⟨m2, hr2, wf2, y2⟩ := w2
  simp only at m2 hr2 wf2 y2 ⊢
  obtain ⟨n1, m1, hr1, wf1, yl1, yz1⟩ := w1
  subst n1
  have HR1 := Aside0.mk hr1
  have hl1 := now_len z1 len1 m1
  have HT1 := Aside0.mk (now_C hr1 m1)
  have HL1 := Aside0.mk hl1
  have YZ1 := Aside0.mk yz1
  clear hr1 yz1
  have HR2 := Aside0.mk hr2
  have hl2 : (zs2.take len2).length = len2 := by rw [List.length_take]; omega
  have ht2 := Kd.C_take hr2 m2
  rw [hl2] at ht2
  have HT2 := Aside0.mk ht2
  have HL2 := Aside0.mk hl2
  clear hr2 ht2
  obtain ⟨k, h⟩ := Pure.JudgeAnswers a0 ((z1.take len1).map SW.now) (zs2.take len2) yes2 w0 (now_wf len1 wf1) (fun x hx => wf2 x (List.mem_of_mem_take hx))
  have H := Aside0.mk h
  clear h
  clear hl1 wf1 hl2 wf2
  have hbx : Below w.heap.size w (w.alloc (Obj.cells #[.slice a2 len2 zs2.length, .bool yes2] 49)) := below_alloc (Below.refl _ _) _
  have HBX := Aside0.mk hbx
  clear hbx
  go_enter Try.func12, Try.ntmps12
  go_wp2_with fail
  refine (keepAnswers_calls a1 len1 z1 _ (Kd.C_below HR1.out HBX.out) (by omega) yl1 YZ1.out).mono ?_
  rintro e x0 ⟨v0, rfl, o0, b0⟩
  obtain ⟨A0, c0, e0⟩ := Kd.S_slice o0
  rw [List.length_map] at e0
  subst e0
  have oc0 := (Kd.S_reads' o0).2.2
  rw [List.length_map] at oc0
  have OC0 := Aside0.mk oc0
  have OL0 := Aside0.mk (below_step HBX.out b0)
  have OB0 := Aside0.mk b0
  have f0 := (box49_kept b0).1
  clear o0 b0 oc0
  go_wp2_with fail
  refine (keepInts_calls a2 len2 zs2 _ (Kd.C_below HR2.out OL0.out) (by omega)).mono ?_
  rintro e x1 ⟨v1, rfl, o1, b1⟩
  obtain ⟨A1, c1, e1⟩ := Kd.R_slice o1
  subst e1
  have OC1 := Aside0.mk (Kd.R_reads' o1).2.2
  have OL1 := Aside0.mk (below_step OL0.out b1)
  have OB1 := Aside0.mk b1
  have hk1 := box49_kept (below_step OB0.out b1)
  have f1 := hk1.1
  have f2 := hk1.2
  clear o1 b1 f0 hk1
  go_wp2_with fail
  have HI := verditerlaw02_judgeAnswers.calls k a0 a1 z1.length ((z1.take len1).map SW.now) (fun k => k < x1.heap.size) a2 zs2.length (zs2.take len2) yes2 true x1 (by rw [HL1.out]; exact Kd.C_below HT1.out OL1.out) (by rw [HL1.out]; exact m1) (Kd.V_mk (by rw [HL2.out]; exact m2) (by rw [HL2.out]; exact Kd.C_F (Kd.heap_int .i64) (Kd.C_below HT2.out OL1.out))) H.out
  rw [HL1.out] at HI
  rw [HL2.out] at HI
  refine HI.mono ?_
  clear HI
  rintro e y ⟨rfl, hb⟩
  have IL := Aside0.mk (below_step OL1.out hb)
  have IB := Aside0.mk hb
  have hk2 := box49_kept (below_step (below_step OB0.out OB1.out) hb)
  have g1 := hk2.1
  have g2 := hk2.2
  clear hb hk2 f1 f2
  go_wp2_with fail
  refine (keptAnswers_calls _ _ a1 len1 z1 _ (Kd.C_below (Kd.C_below OC0.out OB1.out) IB.out) (Kd.C_below HR1.out IL.out)).mono ?_
  rintro e u0 ⟨rfl, ⟨d0, rfl⟩⟩
  go_wp2_with fail
  refine (keptInts_calls _ _ a2 len2 zs2 _ (Kd.C_drewN (Kd.C_below OC1.out IB.out) _) (Kd.C_drewN (Kd.C_below HR2.out IL.out) _)).mono ?_
  rintro e u1 ⟨rfl, ⟨d1, rfl⟩⟩
  go_wp2
  go_ret
  exact ⟨rfl, by repeat (first | (with_reducible exact IL.out) | apply pw_below_drewN | apply below_drew1 | exact IL.out)⟩
end Go.Proofs.Ytfejfljgdeglgaa.K
namespace Go.Proofs.Ytfejfljgdeglgaa.judgeAnswers
open Go.ChangeShapes Go.WideShapes Go.ChangeAt Go.RowKit
open Go.ChangeMaps (open_string shut_string)
set_option linter.unusedVariables false
theorem own : ownKnob Try.prog.godebug = none := by kernel_rfl
theorem laidOut : laidOutB Try.prog = true := by kernel_rfl
def IsRow (k : IntKind) (w : World) (a : Option Addr) (len cap : Nat) (zs : List Int) : Prop :=
  (a = none ∧ len = 0 ∧ cap = 0 ∧ zs = []) ∨
  ∃ x, a = some x ∧ len ≤ cap ∧ cap ≤ maxLen ∧ zs.length = cap ∧ (∀ i, i < zs.length → w.cell? (x.add i) = some (.int k (zs.getD i 0))) ∧ ∀ n ∈ zs, (Lit.int k n).wf = true
set_option maxRecDepth 100000 in
theorem lifted (os : Os) (started : os.Started) (H : Type) (enc : TypeId × Value → H) :
    ReturnsInHanded {} Try.checked os 12 .any (Rows.judgeAnswersSpec.pre6 enc Try.prog Try.f12 Rows.judgeAnswersRow.domain false) (Rows.judgeAnswersSpec.post enc Try.prog Try.f12 false true false false) := by
  refine returnsInHanded_of_change_sized (C := Try.checked) own started (by kernel_rfl) Try.func12
    (ChangeSpec.witness6 (enc := enc) (C := Try.checked) false ⟨#[], #[.int .i64 0, .slice none 0 0, .agg #[.slice none 0 0, .bool false]], []⟩ 8 (by kernel_rfl) (by kernel_rfl) (by kernel_rfl) (by kernel_rfl)) ?_
  intro W base args ds gs before hval0 hW hcnd hsz0 _
  have hsz : (DataW.weightsEach Try.prog (Try.f12.params.toList ++ Rows.judgeAnswersSpec.plain.varTypes Try.prog) (ds ++ gs)).all (· ≤ reachBytes) = true := hsz0
  have hval : ∀ (j : Nat) t v, Try.f12.params[j]? = some t → args[j]? = some v → Value.okWide Try.prog W .any base t v := hval0
  have hW' := hW
  obtain ⟨p, q, hA0, hV, rfl, hfz, hnd⟩ := hW
  have hA : DataW.TrodAll enc Try.prog W 0 (fun _ => true) true Try.f12.params.toList args.toList ds p := hA0
  rw [Try.params12] at hA hval hsz
  obtain ⟨v0, vs0, d0, ds0, p0, q0, hargs, rfl, rfl, h0, r0⟩ := trodAll_cons hA
  obtain ⟨v1, vs1, d1, ds1, p1, q1, rfl, rfl, rfl, h1, r1⟩ := trodAll_cons r0
  obtain ⟨v2, vs2, d2, ds2, p2, q2, rfl, rfl, rfl, h2, r2⟩ := trodAll_cons r1
  obtain ⟨rfl, rfl, rfl⟩ := trodAll_nil r2
  obtain rfl : args = #[v0, v1, v2] := by cases args; simp_all
  obtain ⟨rfl, rfl⟩ := trodVars_none hV
  obtain ⟨a0, rfl, rfl, rfl, w0⟩ := open_int Try.underlying3 (hval 0 3 v0 rfl rfl) h0
  obtain ⟨a1, len1, cap1, rfl⟩ := okWide_slice Try.underlying29 (hval 1 29 v1 rfl rfl)
  have k1 := h1
  have lt1 : ∀ x ∈ p1, x.block < W.heap.size := by obtain ⟨m, hm⟩ := k1; exact DataW.trod_lt m _ _ _ hm
  obtain ⟨z1, w1⟩ := K.row_answers hsz (j := 1) (t := 29) rfl rfl h1
  have k2 := h2
  have lt2 : ∀ x ∈ p2, x.block < W.heap.size := by obtain ⟨m, hm⟩ := k2; exact DataW.trod_lt m _ _ _ hm
  obtain ⟨a2, z2, rfl, w2⟩ := K.row_answer hsz (j := 2) rfl rfl (hval 2 49 v2 rfl rfl) h2
  clear hA0 hval0 hsz0 hsz
  refine (K.judgeAnswers_walk a0 a1 len1 cap1 z1 a2 z2 W w0 w1 w2).mono fun e W' ⟨he, bel⟩ => ?_
  subst he
  exact ⟨_, rfl, _, _, _, [], _, [], hW', trodAll_mk1 (shut_bool Try.underlying4 _), (trodAll_cons_mk (shut_int Try.underlying3 w0) (trodAll_cons_mk (Below.trod laidOut (by kernel_rfl) (of_decide_eq_true (by kernel_rfl)) k1 bel lt1) (trodAll_cons_mk (Below.trod laidOut (by kernel_rfl) (of_decide_eq_true (by kernel_rfl)) k2 bel lt2) trodAll_mk0))), rfl, bel.frame _, fun h => by cases h⟩
theorem over : Rows.judgeAnswersRow.holds Try.pinned (OpenSpec.ofChange Rows.judgeAnswersSpec) :=
  OpenClaim.holds_of_wide 12 Try.f12 rfl rfl rfl rfl rfl rfl rfl ⟨rfl, rfl, rfl, rfl, rfl⟩ rfl rfl rfl rfl rfl (by kernel_rfl) Try.func12 (by kernel_rfl)
    (of_decide_eq_true (by kernel_rfl)) (by unfold Func.isWrapper; first | (rw [if_pos (by decide +kernel)]; kernel_rfl) | (rw [if_neg (by decide +kernel)]; exact ⟨rfl, rfl⟩))
    (fun os started H enc _ => lifted os started H enc)
theorem proved : Rows.JudgeAnswersSaid := over
#print axioms proved
end Go.Proofs.Ytfejfljgdeglgaa.judgeAnswers
namespace Go.Proofs.Ytfejfljgdeglgaa
/-- The row, under a short name, for the claim. -/
theorem judgeAnswers_holds : Rows.JudgeAnswersSaid := judgeAnswers.proved
end Go.Proofs.Ytfejfljgdeglgaa

