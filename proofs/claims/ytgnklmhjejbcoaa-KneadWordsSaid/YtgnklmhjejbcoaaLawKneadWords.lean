/- The law KneadWords: for every input the call returns true, and what it was handed reads behind the call as it read before. No condition. -/
import Derived.Test.YtgnklmhjejbcoaaRows
import Derived.Test.YtgnklmhjejbcoaaQWords
import Derived.Test.YtgnklmhjejbcoaaHW
import Derived.Test.YtgnklmhjejbcoaaK18
import Derived.WalkKit
import Derived.ProofKit
import Derived.OpenShut
import Derived.ShutString
import Derived.ChangeOld
import Derived.Below
import Derived.SizedLaws
import Derived.Test.YtgnklmhjejbcoaaWSized
namespace Go.Proofs.Ytgnklmhjejbcoaa.K
open Go.RowKit Go.Proofs.YtgnklmhjejbcoaaW.PrintWords Go.Proofs.YtgnklmhjejbcoaaW.PrintLast Go.Proofs.YtgnklmhjejbcoaaW.PrintMore
set_option linter.unusedVariables false
set_option maxHeartbeats 2000000 in
set_option maxRecDepth 100000 in
theorem kneadWords_walk (a0 : Option Addr) (len0 cap0 : Nat) (z0 : List Int) (a1 : Option Addr) (len1 cap1 : Nat) (z1 : List Int) (w : World) (w0 : (a0 = none ∧ len0 = 0 ∧ cap0 = 0 ∧ z0 = []) ∨ ∃ x, a0 = some x ∧ len0 ≤ cap0 ∧ cap0 ≤ maxLen ∧ z0.length = cap0 ∧ (∀ i, i < z0.length → w.cell? (x.add i) = some (.int .i64 (z0.getD i 0))) ∧ ∀ n ∈ z0, (Lit.int .i64 n).wf = true) (y0 : cap0 * 8 ≤ 140737488351232) (w1 : (a1 = none ∧ len1 = 0 ∧ cap1 = 0 ∧ z1 = []) ∨ ∃ x, a1 = some x ∧ len1 ≤ cap1 ∧ cap1 ≤ maxLen ∧ z1.length = cap1 ∧ (∀ i, i < z1.length → w.cell? (x.add i) = some (.int .i64 (z1.getD i 0))) ∧ ∀ n ∈ z1, (Lit.int .i64 n).wf = true) (y1 : cap1 * 8 ≤ 140737488351232) :
    Calls Try.prog 9 #[.slice a0 len0 cap0, .slice a1 len1 cap1] w fun e w' => e = .returned (.bool true) ∧ Below w.heap.size w w' := by
  obtain ⟨n0, m0, wf0, hr0⟩ := row_reads w0
  subst n0
  have HR0 := Aside0.mk hr0
  have hl0 : (z0.take len0).length = len0 := by rw [List.length_take]; omega
  have ht0 := Kd.C_take hr0 m0
  rw [hl0] at ht0
  have HT0 := Aside0.mk ht0
  have HL0 := Aside0.mk hl0
  clear hr0 ht0 w0
  obtain ⟨n1, m1, wf1, hr1⟩ := row_reads w1
  subst n1
  have HR1 := Aside0.mk hr1
  have hl1 : (z1.take len1).length = len1 := by rw [List.length_take]; omega
  have ht1 := Kd.C_take hr1 m1
  rw [hl1] at ht1
  have HT1 := Aside0.mk ht1
  have HL1 := Aside0.mk hl1
  clear hr1 ht1 w1
  obtain ⟨k, h⟩ := Pure.KneadWords (z0.take len0) (z1.take len1) (by rw [hl0]; unfold maxLen; omega) (by omega) (fun x hx => wf0 x (List.mem_of_mem_take hx)) (by rw [hl1]; unfold maxLen; omega) (by omega) (fun x hx => wf1 x (List.mem_of_mem_take hx))
  have H := Aside0.mk h
  clear h
  clear hl0 wf0 hl1 wf1
  go_enter Try.func9, Try.ntmps9
  go_wp2_with fail
  refine (keepInts_calls a0 len0 z0 _ (Kd.C_below HR0.out (Below.refl w.heap.size w)) (by omega)).mono ?_
  rintro e x0 ⟨v0, rfl, o0, b0⟩
  obtain ⟨A0, c0, e0⟩ := Kd.R_slice o0
  subst e0
  have OC0 := Aside0.mk (Kd.R_reads' o0).2.2
  have OL0 := Aside0.mk (below_step (Below.refl w.heap.size w) b0)
  have OB0 := Aside0.mk b0
  clear o0 b0
  go_wp2_with fail
  refine (keepInts_calls a1 len1 z1 _ (Kd.C_below HR1.out OL0.out) (by omega)).mono ?_
  rintro e x1 ⟨v1, rfl, o1, b1⟩
  obtain ⟨A1, c1, e1⟩ := Kd.R_slice o1
  subst e1
  have OC1 := Aside0.mk (Kd.R_reads' o1).2.2
  have OL1 := Aside0.mk (below_step OL0.out b1)
  have OB1 := Aside0.mk b1
  clear o1 b1
  go_wp2_with fail
  have HI := verditerlaw07_kneadWords.calls k _ _ (z0.take len0) _ _ (z1.take len1) true _ (by rw [HL0.out]; exact Kd.C_below HT0.out OL1.out) (by rw [HL0.out]; exact m0) (by rw [HL1.out]; exact Kd.C_below HT1.out OL1.out) (by rw [HL1.out]; exact m1) H.out
  rw [HL0.out] at HI
  rw [HL1.out] at HI
  refine HI.mono ?_
  clear HI
  rintro e y ⟨rfl, hb⟩
  have IL := Aside0.mk (below_step OL1.out (toBelow hb))
  have IB := Aside0.mk (toBelow hb)
  clear hb
  go_wp2_with fail
  refine (keptInts_calls _ _ a0 len0 z0 _ (Kd.C_below (Kd.C_below OC0.out OB1.out) IB.out) (Kd.C_below HR0.out IL.out)).mono ?_
  rintro e u0 ⟨rfl, ⟨d0, rfl⟩⟩
  go_wp2_with fail
  refine (keptInts_calls _ _ a1 len1 z1 _ (Kd.C_drewN (Kd.C_below OC1.out IB.out) _) (Kd.C_drewN (Kd.C_below HR1.out IL.out) _)).mono ?_
  rintro e u1 ⟨rfl, ⟨d1, rfl⟩⟩
  go_wp2
  go_ret
  exact ⟨rfl, by repeat (first | (with_reducible exact IL.out) | apply pw_below_drewN | apply below_drew1 | exact IL.out)⟩
end Go.Proofs.Ytgnklmhjejbcoaa.K
namespace Go.Proofs.Ytgnklmhjejbcoaa.kneadWords
open Go.ChangeShapes Go.WideShapes Go.ChangeAt Go.RowKit
open Go.ChangeMaps (open_string shut_string)
set_option linter.unusedVariables false
theorem own : ownKnob Try.prog.godebug = none := by kernel_rfl
theorem laidOut : laidOutB Try.prog = true := by kernel_rfl
def IsRow (k : IntKind) (w : World) (a : Option Addr) (len cap : Nat) (zs : List Int) : Prop :=
  (a = none ∧ len = 0 ∧ cap = 0 ∧ zs = []) ∨
  ∃ x, a = some x ∧ len ≤ cap ∧ cap ≤ maxLen ∧ zs.length = cap ∧ (∀ i, i < zs.length → w.cell? (x.add i) = some (.int k (zs.getD i 0))) ∧ ∀ n ∈ zs, (Lit.int k n).wf = true
set_option maxRecDepth 100000 in
theorem lifted (os : Os) (started : os.Started) (H : Type) (enc : TypeId × Value → H) :
    ReturnsInHanded {} Try.checked os 9 .any (Rows.kneadWordsSpec.pre6 enc Try.prog Try.f9 Rows.kneadWordsRow.domain false) (Rows.kneadWordsSpec.post enc Try.prog Try.f9 false true false false) := by
  refine returnsInHanded_of_change_sized (C := Try.checked) own started (by kernel_rfl) Try.func9
    (ChangeSpec.witness6 (enc := enc) (C := Try.checked) false ⟨#[], #[.slice none 0 0, .slice none 0 0], []⟩ 8 (by kernel_rfl) (by kernel_rfl) (by kernel_rfl) (by kernel_rfl)) ?_
  intro W base args ds gs before hval0 hW hcnd hsz0 _
  have hsz : (DataW.weightsEach Try.prog (Try.f9.params.toList ++ Rows.kneadWordsSpec.plain.varTypes Try.prog) (ds ++ gs)).all (· ≤ reachBytes) = true := hsz0
  have hval : ∀ (j : Nat) t v, Try.f9.params[j]? = some t → args[j]? = some v → Value.okWide Try.prog W .any base t v := hval0
  have hW' := hW
  obtain ⟨p, q, hA0, hV, rfl, hfz, hnd⟩ := hW
  have hA : DataW.TrodAll enc Try.prog W 0 (fun _ => true) true Try.f9.params.toList args.toList ds p := hA0
  rw [Try.params9] at hA hval hsz
  obtain ⟨v0, vs0, d0, ds0, p0, q0, hargs, rfl, rfl, h0, r0⟩ := trodAll_cons hA
  obtain ⟨v1, vs1, d1, ds1, p1, q1, rfl, rfl, rfl, h1, r1⟩ := trodAll_cons r0
  obtain ⟨rfl, rfl, rfl⟩ := trodAll_nil r1
  obtain rfl : args = #[v0, v1] := by cases args; simp_all
  obtain ⟨rfl, rfl⟩ := trodVars_none hV
  obtain ⟨a0, len0, cap0, rfl⟩ := okWide_slice Try.underlying22 (hval 0 22 v0 rfl rfl)
  have k0 := h0
  have lt0 : ∀ x ∈ p0, x.block < W.heap.size := by obtain ⟨m, hm⟩ := k0; exact DataW.trod_lt m _ _ _ hm
  obtain ⟨z0, w0⟩ : ∃ zs, IsRow .i64 W a0 len0 cap0 zs := by
    obtain ⟨fuel, hf⟩ := h0
    rcases open_ints Try.underlying22 Try.underlying3 (by kernel_rfl) hf with ⟨hcs, _⟩ | ⟨x, l, c, zs, hcs, _, hl, hm, hz, _, hcell, hwz⟩
    · simp [Value.cells] at hcs
      obtain ⟨rfl, rfl, rfl⟩ := hcs
      exact ⟨[], .inl ⟨rfl, rfl, rfl, rfl⟩⟩
    · simp [Value.cells] at hcs
      obtain ⟨rfl, rfl, rfl⟩ := hcs
      exact ⟨zs, .inr ⟨_, rfl, hl, hm, by simpa using hz, hcell, hwz⟩⟩
  have y0 : cap0 * 8 ≤ 140737488351232 := K.sized_cap hsz (j := 0) (t := 22) rfl rfl Try.underlying22 Try.underlying3 (by kernel_rfl) (by kernel_rfl) h0
  obtain ⟨a1, len1, cap1, rfl⟩ := okWide_slice Try.underlying22 (hval 1 22 v1 rfl rfl)
  have k1 := h1
  have lt1 : ∀ x ∈ p1, x.block < W.heap.size := by obtain ⟨m, hm⟩ := k1; exact DataW.trod_lt m _ _ _ hm
  obtain ⟨z1, w1⟩ : ∃ zs, IsRow .i64 W a1 len1 cap1 zs := by
    obtain ⟨fuel, hf⟩ := h1
    rcases open_ints Try.underlying22 Try.underlying3 (by kernel_rfl) hf with ⟨hcs, _⟩ | ⟨x, l, c, zs, hcs, _, hl, hm, hz, _, hcell, hwz⟩
    · simp [Value.cells] at hcs
      obtain ⟨rfl, rfl, rfl⟩ := hcs
      exact ⟨[], .inl ⟨rfl, rfl, rfl, rfl⟩⟩
    · simp [Value.cells] at hcs
      obtain ⟨rfl, rfl, rfl⟩ := hcs
      exact ⟨zs, .inr ⟨_, rfl, hl, hm, by simpa using hz, hcell, hwz⟩⟩
  have y1 : cap1 * 8 ≤ 140737488351232 := K.sized_cap hsz (j := 1) (t := 22) rfl rfl Try.underlying22 Try.underlying3 (by kernel_rfl) (by kernel_rfl) h1
  clear hA0 hval0 hsz0 hsz
  refine (K.kneadWords_walk a0 len0 cap0 z0 a1 len1 cap1 z1 W w0 y0 w1 y1).mono fun e W' ⟨he, bel⟩ => ?_
  subst he
  exact ⟨_, rfl, _, _, _, [], _, [], hW', trodAll_mk1 (shut_bool Try.underlying4 _), (trodAll_cons_mk (Below.trod laidOut (by kernel_rfl) (of_decide_eq_true (by kernel_rfl)) k0 bel lt0) (trodAll_cons_mk (Below.trod laidOut (by kernel_rfl) (of_decide_eq_true (by kernel_rfl)) k1 bel lt1) trodAll_mk0)), rfl, bel.frame _, fun h => by cases h⟩
theorem over : Rows.kneadWordsRow.holds Try.pinned (OpenSpec.ofChange Rows.kneadWordsSpec) :=
  OpenClaim.holds_of_wide 9 Try.f9 rfl rfl rfl rfl rfl rfl rfl ⟨rfl, rfl, rfl, rfl, rfl⟩ rfl rfl rfl rfl rfl (by kernel_rfl) Try.func9 (by kernel_rfl)
    (of_decide_eq_true (by kernel_rfl)) (by unfold Func.isWrapper; first | (rw [if_pos (by decide +kernel)]; kernel_rfl) | (rw [if_neg (by decide +kernel)]; exact ⟨rfl, rfl⟩))
    (fun os started H enc _ => lifted os started H enc)
theorem proved : Rows.KneadWordsSaid := over
#print axioms proved
end Go.Proofs.Ytgnklmhjejbcoaa.kneadWords
namespace Go.Proofs.Ytgnklmhjejbcoaa
/-- The row, under a short name, for the claim. -/
theorem kneadWords_holds : Rows.KneadWordsSaid := kneadWords.proved
end Go.Proofs.Ytgnklmhjejbcoaa

