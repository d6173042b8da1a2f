/- The law JudgeNexts: for every input the call returns true, and what it was handed reads behind the call as it read before. No condition. -/
import Derived.Test.YtfejfljgdeglgaaRows
import Derived.Test.YtfejfljgdeglgaaMJudgeNexts5
import Derived.Test.YtfejfljgdeglgaaMJudgeNexts6
import Derived.WalkKit
import Derived.ProofKit
import Derived.OpenShut
import Derived.ShutString
import Derived.ChangeOld
import Derived.Below
import Derived.SizedLaws
import Derived.Test.YtfejfljgdeglgaaWSized
namespace Go.Proofs.Ytfejfljgdeglgaa.K
open Go.RowKit Go.Proofs.YtfejfljgdeglgaaW.PrintWords Go.Proofs.YtfejfljgdeglgaaW.PrintLast Go.Proofs.YtfejfljgdeglgaaW.PrintMore
set_option linter.unusedVariables false
set_option maxHeartbeats 2000000 in
set_option maxRecDepth 100000 in
theorem judgeNexts_walk (a0 : Int) (a1 : Option Addr) (len1 cap1 : Nat) (z1 : List SW) (w : World) (w0 : (Lit.int .i64 a0).wf = true) (w1 : cap1 = z1.length ∧ len1 ≤ z1.length ∧ Kd.C kW w a1 z1.length z1 ∧ (∀ s ∈ z1, s.len ≤ s.zs.length ∧ ∀ n ∈ s.zs, (Lit.int .i64 n).wf = true) ∧ z1.length ≤ 4398046511000 ∧ ∀ s ∈ z1, s.zs.length < 17592186044416) :
    Calls Try.prog 15 #[.int .i64 a0, .slice a1 len1 cap1] w fun e w' => e = .returned (.bool true) ∧ Below w.heap.size w w' := by
  obtain ⟨n1, m1, hr1, wf1, yl1, yz1⟩ := w1
  subst n1
  have HR1 := Aside0.mk hr1
  have hl1 := now_len z1 len1 m1
  have HT1 := Aside0.mk (now_C hr1 m1)
  have HL1 := Aside0.mk hl1
  have YZ1 := Aside0.mk yz1
  clear hr1 yz1
  obtain ⟨k, h⟩ := Pure.JudgeNexts a0 ((z1.take len1).map SW.now) w0 (now_wf len1 wf1)
  have H := Aside0.mk h
  clear h
  clear hl1 wf1
  go_enter Try.func15, Try.ntmps15
  go_wp2_with fail
  refine (keepAnswers_calls a1 len1 z1 _ (Kd.C_below HR1.out (Below.refl w.heap.size w)) (by omega) yl1 YZ1.out).mono ?_
  rintro e x0 ⟨v0, rfl, o0, b0⟩
  obtain ⟨A0, c0, e0⟩ := Kd.S_slice o0
  rw [List.length_map] at e0
  subst e0
  have oc0 := (Kd.S_reads' o0).2.2
  rw [List.length_map] at oc0
  have OC0 := Aside0.mk oc0
  have OL0 := Aside0.mk (below_step (Below.refl w.heap.size w) b0)
  have OB0 := Aside0.mk b0
  clear o0 b0 oc0
  go_wp2_with fail
  have HI := verditerlaw02_judgeNexts.calls k a0 _ _ ((z1.take len1).map SW.now) true _ (by rw [HL1.out]; exact Kd.C_below HT1.out OL0.out) (by rw [HL1.out]; exact m1) H.out
  rw [HL1.out] at HI
  refine HI.mono ?_
  clear HI
  rintro e y ⟨rfl, hb⟩
  have IL := Aside0.mk (below_step OL0.out hb)
  have IB := Aside0.mk hb
  clear hb
  go_wp2_with fail
  refine (keptAnswers_calls _ _ a1 len1 z1 _ (Kd.C_below OC0.out IB.out) (Kd.C_below HR1.out IL.out)).mono ?_
  rintro e u0 ⟨rfl, ⟨d0, rfl⟩⟩
  go_wp2
  go_ret
  exact ⟨rfl, by repeat (first | (with_reducible exact IL.out) | apply pw_below_drewN | apply below_drew1 | exact IL.out)⟩
end Go.Proofs.Ytfejfljgdeglgaa.K
namespace Go.Proofs.Ytfejfljgdeglgaa.judgeNexts
open Go.ChangeShapes Go.WideShapes Go.ChangeAt Go.RowKit
open Go.ChangeMaps (open_string shut_string)
set_option linter.unusedVariables false
theorem own : ownKnob Try.prog.godebug = none := by kernel_rfl
theorem laidOut : laidOutB Try.prog = true := by kernel_rfl
def IsRow (k : IntKind) (w : World) (a : Option Addr) (len cap : Nat) (zs : List Int) : Prop :=
  (a = none ∧ len = 0 ∧ cap = 0 ∧ zs = []) ∨
  ∃ x, a = some x ∧ len ≤ cap ∧ cap ≤ maxLen ∧ zs.length = cap ∧ (∀ i, i < zs.length → w.cell? (x.add i) = some (.int k (zs.getD i 0))) ∧ ∀ n ∈ zs, (Lit.int k n).wf = true
set_option maxRecDepth 100000 in
theorem lifted (os : Os) (started : os.Started) (H : Type) (enc : TypeId × Value → H) :
    ReturnsInHanded {} Try.checked os 15 .any (Rows.judgeNextsSpec.pre6 enc Try.prog Try.f15 Rows.judgeNextsRow.domain false) (Rows.judgeNextsSpec.post enc Try.prog Try.f15 false true false false) := by
  refine returnsInHanded_of_change_sized (C := Try.checked) own started (by kernel_rfl) Try.func15
    (ChangeSpec.witness6 (enc := enc) (C := Try.checked) false ⟨#[], #[.int .i64 0, .slice none 0 0], []⟩ 8 (by kernel_rfl) (by kernel_rfl) (by kernel_rfl) (by kernel_rfl)) ?_
  intro W base args ds gs before hval0 hW hcnd hsz0 _
  have hsz : (DataW.weightsEach Try.prog (Try.f15.params.toList ++ Rows.judgeNextsSpec.plain.varTypes Try.prog) (ds ++ gs)).all (· ≤ reachBytes) = true := hsz0
  have hval : ∀ (j : Nat) t v, Try.f15.params[j]? = some t → args[j]? = some v → Value.okWide Try.prog W .any base t v := hval0
  have hW' := hW
  obtain ⟨p, q, hA0, hV, rfl, hfz, hnd⟩ := hW
  have hA : DataW.TrodAll enc Try.prog W 0 (fun _ => true) true Try.f15.params.toList args.toList ds p := hA0
  rw [Try.params15] at hA hval hsz
  obtain ⟨v0, vs0, d0, ds0, p0, q0, hargs, rfl, rfl, h0, r0⟩ := trodAll_cons hA
  obtain ⟨v1, vs1, d1, ds1, p1, q1, rfl, rfl, rfl, h1, r1⟩ := trodAll_cons r0
  obtain ⟨rfl, rfl, rfl⟩ := trodAll_nil r1
  obtain rfl : args = #[v0, v1] := by cases args; simp_all
  obtain ⟨rfl, rfl⟩ := trodVars_none hV
  obtain ⟨a0, rfl, rfl, rfl, w0⟩ := open_int Try.underlying3 (hval 0 3 v0 rfl rfl) h0
  obtain ⟨a1, len1, cap1, rfl⟩ := okWide_slice Try.underlying29 (hval 1 29 v1 rfl rfl)
  have k1 := h1
  have lt1 : ∀ x ∈ p1, x.block < W.heap.size := by obtain ⟨m, hm⟩ := k1; exact DataW.trod_lt m _ _ _ hm
  obtain ⟨z1, w1⟩ := K.row_answers hsz (j := 1) (t := 29) rfl rfl h1
  clear hA0 hval0 hsz0 hsz
  refine (K.judgeNexts_walk a0 a1 len1 cap1 z1 W w0 w1).mono fun e W' ⟨he, bel⟩ => ?_
  subst he
  exact ⟨_, rfl, _, _, _, [], _, [], hW', trodAll_mk1 (shut_bool Try.underlying4 _), (trodAll_cons_mk (shut_int Try.underlying3 w0) (trodAll_cons_mk (Below.trod laidOut (by kernel_rfl) (of_decide_eq_true (by kernel_rfl)) k1 bel lt1) trodAll_mk0)), rfl, bel.frame _, fun h => by cases h⟩
theorem over : Rows.judgeNextsRow.holds Try.pinned (OpenSpec.ofChange Rows.judgeNextsSpec) :=
  OpenClaim.holds_of_wide 15 Try.f15 rfl rfl rfl rfl rfl rfl rfl ⟨rfl, rfl, rfl, rfl, rfl⟩ rfl rfl rfl rfl rfl (by kernel_rfl) Try.func15 (by kernel_rfl)
    (of_decide_eq_true (by kernel_rfl)) (by unfold Func.isWrapper; first | (rw [if_pos (by decide +kernel)]; kernel_rfl) | (rw [if_neg (by decide +kernel)]; exact ⟨rfl, rfl⟩))
    (fun os started H enc _ => lifted os started H enc)
theorem proved : Rows.JudgeNextsSaid := over
#print axioms proved
end Go.Proofs.Ytfejfljgdeglgaa.judgeNexts
namespace Go.Proofs.Ytfejfljgdeglgaa
/-- The row, under a short name, for the claim. -/
theorem judgeNexts_holds : Rows.JudgeNextsSaid := judgeNexts.proved
end Go.Proofs.Ytfejfljgdeglgaa

