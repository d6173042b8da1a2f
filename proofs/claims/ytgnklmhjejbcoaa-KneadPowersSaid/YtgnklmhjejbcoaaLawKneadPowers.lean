/- The law KneadPowers: for every input the call returns true, and what it was handed reads behind the call as it read before. No condition. -/
import Derived.Test.YtgnklmhjejbcoaaRows
import Derived.Test.YtgnklmhjejbcoaaQPowers
import Derived.Test.YtgnklmhjejbcoaaHW
import Derived.Test.YtgnklmhjejbcoaaK20
import Derived.WalkKit
import Derived.ProofKit
import Derived.OpenShut
import Derived.ShutString
import Derived.ChangeOld
import Derived.Below
import Derived.SizedLaws
import Derived.Test.YtgnklmhjejbcoaaWSized
namespace Go.Proofs.Ytgnklmhjejbcoaa.K
open Go.RowKit Go.Proofs.YtgnklmhjejbcoaaW.PrintWords Go.Proofs.YtgnklmhjejbcoaaW.PrintLast Go.Proofs.YtgnklmhjejbcoaaW.PrintMore
set_option linter.unusedVariables false
set_option maxHeartbeats 2000000 in
set_option maxRecDepth 100000 in
theorem kneadPowers_walk (a0 : Option Addr) (len0 cap0 : Nat) (z0 : List Int) (a1 : Int) (a2 : Int) (w : World) (w0 : (a0 = none ∧ len0 = 0 ∧ cap0 = 0 ∧ z0 = []) ∨ ∃ x, a0 = some x ∧ len0 ≤ cap0 ∧ cap0 ≤ maxLen ∧ z0.length = cap0 ∧ (∀ i, i < z0.length → w.cell? (x.add i) = some (.int .i64 (z0.getD i 0))) ∧ ∀ n ∈ z0, (Lit.int .i64 n).wf = true) (y0 : cap0 * 8 ≤ 140737488351232) (w1 : (Lit.int .i64 a1).wf = true) (w2 : (Lit.int .i64 a2).wf = true) :
    Calls Try.prog 11 #[.slice a0 len0 cap0, .int .i64 a1, .int .i64 a2] w fun e w' => e = .returned (.bool true) ∧ Below w.heap.size w w' := by
  obtain ⟨n0, m0, wf0, hr0⟩ := row_reads w0
  subst n0
  have HR0 := Aside0.mk hr0
  have hl0 : (z0.take len0).length = len0 := by rw [List.length_take]; omega
  have ht0 := Kd.C_take hr0 m0
  rw [hl0] at ht0
  have HT0 := Aside0.mk ht0
  have HL0 := Aside0.mk hl0
  clear hr0 ht0 w0
  obtain ⟨k, h⟩ := Pure.KneadPowers (z0.take len0) a1 a2 (by rw [hl0]; unfold maxLen; omega) (by omega) (fun x hx => wf0 x (List.mem_of_mem_take hx)) w1 w2
  have H := Aside0.mk h
  clear h
  clear hl0 wf0
  go_enter Try.func11, Try.ntmps11
  go_wp2_with fail
  refine (keepInts_calls a0 len0 z0 _ (Kd.C_below HR0.out (Below.refl w.heap.size w)) (by omega)).mono ?_
  rintro e x0 ⟨v0, rfl, o0, b0⟩
  obtain ⟨A0, c0, e0⟩ := Kd.R_slice o0
  subst e0
  have OC0 := Aside0.mk (Kd.R_reads' o0).2.2
  have OL0 := Aside0.mk (below_step (Below.refl w.heap.size w) b0)
  have OB0 := Aside0.mk b0
  clear o0 b0
  go_wp2_with fail
  have HI := verditerlaw07_kneadPowers.calls k _ _ (z0.take len0) a1 a2 true _ (by rw [HL0.out]; exact Kd.C_below HT0.out OL0.out) (by rw [HL0.out]; exact m0) H.out
  rw [HL0.out] at HI
  refine HI.mono ?_
  clear HI
  rintro e y ⟨rfl, hb⟩
  have IL := Aside0.mk (below_step OL0.out (toBelow hb))
  have IB := Aside0.mk (toBelow hb)
  clear hb
  go_wp2_with fail
  refine (keptInts_calls _ _ a0 len0 z0 _ (Kd.C_below OC0.out IB.out) (Kd.C_below HR0.out IL.out)).mono ?_
  rintro e u0 ⟨rfl, ⟨d0, rfl⟩⟩
  go_wp2
  go_ret
  exact ⟨rfl, by repeat (first | (with_reducible exact IL.out) | apply pw_below_drewN | apply below_drew1 | exact IL.out)⟩
end Go.Proofs.Ytgnklmhjejbcoaa.K
namespace Go.Proofs.Ytgnklmhjejbcoaa.kneadPowers
open Go.ChangeShapes Go.WideShapes Go.ChangeAt Go.RowKit
open Go.ChangeMaps (open_string shut_string)
set_option linter.unusedVariables false
theorem own : ownKnob Try.prog.godebug = none := by kernel_rfl
theorem laidOut : laidOutB Try.prog = true := by kernel_rfl
def IsRow (k : IntKind) (w : World) (a : Option Addr) (len cap : Nat) (zs : List Int) : Prop :=
  (a = none ∧ len = 0 ∧ cap = 0 ∧ zs = []) ∨
  ∃ x, a = some x ∧ len ≤ cap ∧ cap ≤ maxLen ∧ zs.length = cap ∧ (∀ i, i < zs.length → w.cell? (x.add i) = some (.int k (zs.getD i 0))) ∧ ∀ n ∈ zs, (Lit.int k n).wf = true
set_option maxRecDepth 100000 in
theorem lifted (os : Os) (started : os.Started) (H : Type) (enc : TypeId × Value → H) :
    ReturnsInHanded {} Try.checked os 11 .any (Rows.kneadPowersSpec.pre6 enc Try.prog Try.f11 Rows.kneadPowersRow.domain false) (Rows.kneadPowersSpec.post enc Try.prog Try.f11 false true false false) := by
  refine returnsInHanded_of_change_sized (C := Try.checked) own started (by kernel_rfl) Try.func11
    (ChangeSpec.witness6 (enc := enc) (C := Try.checked) false ⟨#[], #[.slice none 0 0, .int .i64 0, .int .i64 0], []⟩ 8 (by kernel_rfl) (by kernel_rfl) (by kernel_rfl) (by kernel_rfl)) ?_
  intro W base args ds gs before hval0 hW hcnd hsz0 _
  have hsz : (DataW.weightsEach Try.prog (Try.f11.params.toList ++ Rows.kneadPowersSpec.plain.varTypes Try.prog) (ds ++ gs)).all (· ≤ reachBytes) = true := hsz0
  have hval : ∀ (j : Nat) t v, Try.f11.params[j]? = some t → args[j]? = some v → Value.okWide Try.prog W .any base t v := hval0
  have hW' := hW
  obtain ⟨p, q, hA0, hV, rfl, hfz, hnd⟩ := hW
  have hA : DataW.TrodAll enc Try.prog W 0 (fun _ => true) true Try.f11.params.toList args.toList ds p := hA0
  rw [Try.params11] at hA hval hsz
  obtain ⟨v0, vs0, d0, ds0, p0, q0, hargs, rfl, rfl, h0, r0⟩ := trodAll_cons hA
  obtain ⟨v1, vs1, d1, ds1, p1, q1, rfl, rfl, rfl, h1, r1⟩ := trodAll_cons r0
  obtain ⟨v2, vs2, d2, ds2, p2, q2, rfl, rfl, rfl, h2, r2⟩ := trodAll_cons r1
  obtain ⟨rfl, rfl, rfl⟩ := trodAll_nil r2
  obtain rfl : args = #[v0, v1, v2] := by cases args; simp_all
  obtain ⟨rfl, rfl⟩ := trodVars_none hV
  obtain ⟨a0, len0, cap0, rfl⟩ := okWide_slice Try.underlying22 (hval 0 22 v0 rfl rfl)
  have k0 := h0
  have lt0 : ∀ x ∈ p0, x.block < W.heap.size := by obtain ⟨m, hm⟩ := k0; exact DataW.trod_lt m _ _ _ hm
  obtain ⟨z0, w0⟩ : ∃ zs, IsRow .i64 W a0 len0 cap0 zs := by
    obtain ⟨fuel, hf⟩ := h0
    rcases open_ints Try.underlying22 Try.underlying3 (by kernel_rfl) hf with ⟨hcs, _⟩ | ⟨x, l, c, zs, hcs, _, hl, hm, hz, _, hcell, hwz⟩
    · simp [Value.cells] at hcs
      obtain ⟨rfl, rfl, rfl⟩ := hcs
      exact ⟨[], .inl ⟨rfl, rfl, rfl, rfl⟩⟩
    · simp [Value.cells] at hcs
      obtain ⟨rfl, rfl, rfl⟩ := hcs
      exact ⟨zs, .inr ⟨_, rfl, hl, hm, by simpa using hz, hcell, hwz⟩⟩
  have y0 : cap0 * 8 ≤ 140737488351232 := K.sized_cap hsz (j := 0) (t := 22) rfl rfl Try.underlying22 Try.underlying3 (by kernel_rfl) (by kernel_rfl) h0
  obtain ⟨a1, rfl, rfl, rfl, w1⟩ := open_int Try.underlying3 (hval 1 3 v1 rfl rfl) h1
  obtain ⟨a2, rfl, rfl, rfl, w2⟩ := open_int Try.underlying3 (hval 2 3 v2 rfl rfl) h2
  clear hA0 hval0 hsz0 hsz
  refine (K.kneadPowers_walk a0 len0 cap0 z0 a1 a2 W w0 y0 w1 w2).mono fun e W' ⟨he, bel⟩ => ?_
  subst he
  exact ⟨_, rfl, _, _, _, [], _, [], hW', trodAll_mk1 (shut_bool Try.underlying4 _), (trodAll_cons_mk (Below.trod laidOut (by kernel_rfl) (of_decide_eq_true (by kernel_rfl)) k0 bel lt0) (trodAll_cons_mk (shut_int Try.underlying3 w1) (trodAll_cons_mk (shut_int Try.underlying3 w2) trodAll_mk0))), rfl, bel.frame _, fun h => by cases h⟩
theorem over : Rows.kneadPowersRow.holds Try.pinned (OpenSpec.ofChange Rows.kneadPowersSpec) :=
  OpenClaim.holds_of_wide 11 Try.f11 rfl rfl rfl rfl rfl rfl rfl ⟨rfl, rfl, rfl, rfl, rfl⟩ rfl rfl rfl rfl rfl (by kernel_rfl) Try.func11 (by kernel_rfl)
    (of_decide_eq_true (by kernel_rfl)) (by unfold Func.isWrapper; first | (rw [if_pos (by decide +kernel)]; kernel_rfl) | (rw [if_neg (by decide +kernel)]; exact ⟨rfl, rfl⟩))
    (fun os started H enc _ => lifted os started H enc)
theorem proved : Rows.KneadPowersSaid := over
#print axioms proved
end Go.Proofs.Ytgnklmhjejbcoaa.kneadPowers
namespace Go.Proofs.Ytgnklmhjejbcoaa
/-- The row, under a short name, for the claim. -/
theorem kneadPowers_holds : Rows.KneadPowersSaid := kneadPowers.proved
end Go.Proofs.Ytgnklmhjejbcoaa

