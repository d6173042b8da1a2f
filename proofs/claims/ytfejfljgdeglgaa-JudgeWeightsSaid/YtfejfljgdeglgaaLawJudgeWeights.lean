/- The law JudgeWeights: for every input the call returns true, and what it was handed reads behind the call as it read before. No condition. -/
import Derived.Test.YtfejfljgdeglgaaRows
import Derived.Test.YtfejfljgdeglgaaQAW
import Derived.Test.YtfejfljgdeglgaaK12
import Derived.WalkKit
import Derived.ProofKit
import Derived.OpenShut
import Derived.ShutString
import Derived.ChangeOld
import Derived.Below
import Derived.SizedLaws
import Derived.Lib.SmallJoins
import Derived.Test.YtfejfljgdeglgaaWSized
namespace Go.Proofs.Ytfejfljgdeglgaa.K
open Go.RowKit Go.Proofs.YtfejfljgdeglgaaW.PrintWords Go.Proofs.YtfejfljgdeglgaaW.PrintLast Go.Proofs.YtfejfljgdeglgaaW.PrintMore
set_option linter.unusedVariables false
set_option maxHeartbeats 2000000 in
set_option maxRecDepth 100000 in
theorem judgeWeights_walk (a0_0 : Int) (a0_1 : Int) (a1_0 : Int) (a1_1 : Int) (a1_2 : Bool) (a2 : Int) (w : World) (w0_0 : (Lit.int .i64 a0_0).wf = true) (w0_1 : (Lit.int .i64 a0_1).wf = true) (w1_0 : (Lit.int .i64 a1_0).wf = true) (w1_1 : (Lit.int .i64 a1_1).wf = true) (w2 : (Lit.int .i64 a2).wf = true) :
    Calls Try.prog 10 #[.agg #[.int .i64 a0_0, .int .i64 a0_1], .agg #[.int .i64 a1_0, .int .i64 a1_1, .bool a1_2], .int .i64 a2] w fun e w' => e = .returned (.bool true) ∧ Below w.heap.size w w' := by
  obtain ⟨k, h⟩ := Pure.JudgeWeights a0_0 a0_1 a1_0 a1_1 a1_2 a2 w0_0 w0_1 w1_0 w1_1 w2
  refine (verditerlaw02_JudgeWeights.calls k a0_0 a0_1 a1_0 a1_1 a1_2 a2 true w h).mono ?_
  rintro e w' ⟨rfl, hd⟩
  exact ⟨rfl, hd⟩
end Go.Proofs.Ytfejfljgdeglgaa.K
namespace Go.Proofs.Ytfejfljgdeglgaa.judgeWeights
open Go.ChangeShapes Go.WideShapes Go.ChangeAt Go.RowKit
open Go.ChangeMaps (open_string shut_string)
set_option linter.unusedVariables false
theorem own : ownKnob Try.prog.godebug = none := by kernel_rfl
theorem reads0 {H : Type} {enc : TypeId × Value → H} (W_ : World) (b_ : Nat) (sp : Nat → Bool) (hd : Bool) (a0_0 : Int) (a0_1 : Int) (w0_0 : (Lit.int .i64 a0_0).wf = true) (w0_1 : (Lit.int .i64 a0_1).wf = true) :
    DataW.Trod enc Try.prog W_ b_ sp hd 23 (.agg #[.int .i64 a0_0, .int .i64 a0_1]) (.agg [.lit (.int .i64 a0_0), .lit (.int .i64 a0_1)]) [] := by
  simpa using Go.Joins.shut_agg2 (enc := enc) (w := W_) (base := b_) (spare := sp) (held := hd) (y0 := (.lit (.int .i64 a0_0), [])) (y1 := (.lit (.int .i64 a0_1), [])) Try.underlying23 (by kernel_rfl) (by kernel_rfl) ⟨1, by simp [DataW.trod, Try.underlying3, w0_0]⟩ ⟨1, by simp [DataW.trod, Try.underlying3, w0_1]⟩
theorem reads1 {H : Type} {enc : TypeId × Value → H} (W_ : World) (b_ : Nat) (sp : Nat → Bool) (hd : Bool) (a1_0 : Int) (a1_1 : Int) (a1_2 : Bool) (w1_0 : (Lit.int .i64 a1_0).wf = true) (w1_1 : (Lit.int .i64 a1_1).wf = true) :
    DataW.Trod enc Try.prog W_ b_ sp hd 41 (.agg #[.int .i64 a1_0, .int .i64 a1_1, .bool a1_2]) (.agg [.lit (.int .i64 a1_0), .lit (.int .i64 a1_1), .lit (.bool a1_2)]) [] := by
  simpa using Go.Joins.shut_agg3 (enc := enc) (w := W_) (base := b_) (spare := sp) (held := hd) (y0 := (.lit (.int .i64 a1_0), [])) (y1 := (.lit (.int .i64 a1_1), [])) (y2 := (.lit (.bool a1_2), [])) Try.underlying41 (by kernel_rfl) (by kernel_rfl) ⟨1, by simp [DataW.trod, Try.underlying3, w1_0]⟩ ⟨1, by simp [DataW.trod, Try.underlying3, w1_1]⟩ ⟨1, by simp [DataW.trod, Try.underlying4]⟩
set_option maxRecDepth 100000 in
theorem lifted (os : Os) (started : os.Started) (H : Type) (enc : TypeId × Value → H) :
    ReturnsInHanded {} Try.checked os 10 .any (Rows.judgeWeightsSpec.pre6 enc Try.prog Try.f10 Rows.judgeWeightsRow.domain false) (Rows.judgeWeightsSpec.post enc Try.prog Try.f10 false true false false) := by
  refine returnsInHanded_of_change_sized (C := Try.checked) own started (by kernel_rfl) Try.func10
    (ChangeSpec.witness6 (enc := enc) (C := Try.checked) false ⟨#[], #[.agg #[.int .i64 0, .int .i64 0], .agg #[.int .i64 0, .int .i64 0, .bool false], .int .i64 0], []⟩ 8 (by kernel_rfl) (by kernel_rfl) (by kernel_rfl) (by kernel_rfl)) ?_
  intro W base args ds gs before hval0 hW hcnd hsz0 _
  have hsz : (DataW.weightsEach Try.prog (Try.f10.params.toList ++ Rows.judgeWeightsSpec.plain.varTypes Try.prog) (ds ++ gs)).all (· ≤ reachBytes) = true := hsz0
  have hval : ∀ (j : Nat) t v, Try.f10.params[j]? = some t → args[j]? = some v → Value.okWide Try.prog W .any base t v := hval0
  have hW' := hW
  obtain ⟨p, q, hA0, hV, rfl, hfz, hnd⟩ := hW
  have hA : DataW.TrodAll enc Try.prog W 0 (fun _ => true) true Try.f10.params.toList args.toList ds p := hA0
  rw [Try.params10] at hA hval hsz
  obtain ⟨v0, vs0, d0, ds0, p0, q0, hargs, rfl, rfl, h0, r0⟩ := trodAll_cons hA
  obtain ⟨v1, vs1, d1, ds1, p1, q1, rfl, rfl, rfl, h1, r1⟩ := trodAll_cons r0
  obtain ⟨v2, vs2, d2, ds2, p2, q2, rfl, rfl, rfl, h2, r2⟩ := trodAll_cons r1
  obtain ⟨rfl, rfl, rfl⟩ := trodAll_nil r2
  obtain rfl : args = #[v0, v1, v2] := by cases args; simp_all
  obtain ⟨rfl, rfl⟩ := trodVars_none hV
  obtain ⟨c0_0, c0_1, y0_0, y0_1, m0, rfl, rfl, rfl, hy0_0, hy0_1⟩ := Go.Joins.open_agg2 Try.underlying23 (by kernel_rfl) (by kernel_rfl) (hval 0 23 v0 rfl rfl) h0
  obtain ⟨a0_0, e0_0, rfl, w0_0⟩ := DataW.trod_int Try.underlying3 hy0_0
  obtain ⟨a0_1, e0_1, rfl, w0_1⟩ := DataW.trod_int Try.underlying3 hy0_1
  simp at e0_0 e0_1
  subst e0_0 e0_1
  obtain ⟨c1_0, c1_1, c1_2, y1_0, y1_1, y1_2, m1, rfl, rfl, rfl, hy1_0, hy1_1, hy1_2⟩ := Go.Joins.open_agg3 Try.underlying41 (by kernel_rfl) (by kernel_rfl) (hval 1 41 v1 rfl rfl) h1
  obtain ⟨a1_0, e1_0, rfl, w1_0⟩ := DataW.trod_int Try.underlying3 hy1_0
  obtain ⟨a1_1, e1_1, rfl, w1_1⟩ := DataW.trod_int Try.underlying3 hy1_1
  obtain ⟨a1_2, e1_2, rfl⟩ := DataW.trod_bool Try.underlying4 hy1_2
  simp at e1_0 e1_1 e1_2
  subst e1_0 e1_1 e1_2
  obtain ⟨a2, rfl, rfl, rfl, w2⟩ := open_int Try.underlying3 (hval 2 3 v2 rfl rfl) h2
  clear hA0 hval0 hsz0 hsz
  refine (K.judgeWeights_walk a0_0 a0_1 a1_0 a1_1 a1_2 a2 W w0_0 w0_1 w1_0 w1_1 w2).mono fun e W' ⟨he, bel⟩ => ?_
  subst he
  exact ⟨_, rfl, _, _, _, [], _, [], hW', trodAll_mk1 (shut_bool Try.underlying4 _), (trodAll_cons_mk (reads0 _ _ _ _ a0_0 a0_1 w0_0 w0_1) (trodAll_cons_mk (reads1 _ _ _ _ a1_0 a1_1 a1_2 w1_0 w1_1) (trodAll_cons_mk (shut_int Try.underlying3 w2) trodAll_mk0))), rfl, bel.frame _, fun h => by cases h⟩
theorem over : Rows.judgeWeightsRow.holds Try.pinned (OpenSpec.ofChange Rows.judgeWeightsSpec) :=
  OpenClaim.holds_of_wide 10 Try.f10 rfl rfl rfl rfl rfl rfl rfl ⟨rfl, rfl, rfl, rfl, rfl⟩ rfl rfl rfl rfl rfl (by kernel_rfl) Try.func10 (by kernel_rfl)
    (of_decide_eq_true (by kernel_rfl)) (by unfold Func.isWrapper; first | (rw [if_pos (by decide +kernel)]; kernel_rfl) | (rw [if_neg (by decide +kernel)]; exact ⟨rfl, rfl⟩))
    (fun os started H enc _ => lifted os started H enc)
theorem proved : Rows.JudgeWeightsSaid := over
#print axioms proved
end Go.Proofs.Ytfejfljgdeglgaa.judgeWeights
namespace Go.Proofs.Ytfejfljgdeglgaa
/-- The row, under a short name, for the claim. -/
theorem judgeWeights_holds : Rows.JudgeWeightsSaid := judgeWeights.proved
end Go.Proofs.Ytfejfljgdeglgaa

