/- A list of answers that came in, opened: what its cells hold, all of them; and how heavy it is. -/
import Derived.Test.YtfejfljgdeglgaaHW
import Derived.SizedLaws
import Derived.ChangeSlices
import Derived.ChangeSame
import Derived.OpenShut
namespace Go.Proofs.Ytfejfljgdeglgaa.K
open Go.RowKit Go.ChangeShapes Go.WideShapes Go.Proofs.YtfejfljgdeglgaaW.PrintWords Go.Proofs.YtfejfljgdeglgaaW.PrintLast Go.Proofs.YtfejfljgdeglgaaW.PrintMore
set_option linter.unusedVariables false
set_option linter.unusedSimpArgs false
variable {H : Type} {enc : TypeId × Value → H}
theorem all_append {B : Nat} {a b : List Nat} (h : (a ++ b).all (· ≤ B) = true) : a.all (· ≤ B) = true ∧ b.all (· ≤ B) = true := by
  rw [List.all_append, Bool.and_eq_true] at h
  exact h
theorem all_weights {B : Nat} {P : Program} {e : TypeId} : ∀ {l : List (DataW H)}, (DataW.weightsAll P e l).all (· ≤ B) = true → ∀ d ∈ l, (d.weights P e).all (· ≤ B) = true
  | [], _, d, hd => by cases hd
  | x :: l, h, d, hd => by
    simp only [DataW.weightsAll] at h
    obtain ⟨h1, h2⟩ := all_append h
    rcases List.mem_cons.1 hd with rfl | hd
    · exact h1
    · exact all_weights h2 d hd
set_option maxRecDepth 100000 in
/-- One answer's reading. -/
theorem open_answer {W : World} {held : Bool} {n : Nat} {cs : List Value} {y : DataW H × List MemPlace} (h : DataW.trod enc Try.prog W 0 (fun _ => true) held n 49 cs = some y) :
    ∃ (s : SW) (A0 : Option Addr), cs = [.slice A0 s.len s.zs.length, .bool s.yes] ∧ s.len ≤ s.zs.length ∧ (Kd.int .i64).C W A0 s.zs.length s.zs ∧ (∀ z ∈ s.zs, (Lit.int .i64 z).wf = true) ∧
      ∀ B, (y.1.weights Try.prog 49).all (· ≤ B) = true → s.zs.length * 8 ≤ B := by
  obtain ⟨y0, y1, m, rfl, hl, h0, h1⟩ := trod_struct2 Try.underlying49 h
  have hc : Try.prog.cellsOf 49 = 2 := by kernel_rfl
  have hc47 : Try.prog.cellsOf 47 = 1 := by kernel_rfl
  have hc4 : Try.prog.cellsOf 4 = 1 := by kernel_rfl
  rw [hc] at hl
  obtain ⟨c0, c1, rfl⟩ : ∃ c0 c1, cs = [c0, c1] := by
    rcases cs with _ | ⟨c0, _ | ⟨c1, _ | ⟨c2, r⟩⟩⟩
    · simp at hl
    · simp at hl
    · exact ⟨c0, c1, rfl⟩
    · simp at hl
  · simp only [hc47, hc4, List.drop_zero, List.take_succ_cons, List.take_zero, List.drop_succ_cons] at h0 h1
    obtain ⟨b, e1, rfl⟩ := DataW.trod_bool Try.underlying4 h1
    simp only [List.cons.injEq, and_true] at e1
    subst e1
    rcases open_ints Try.underlying47 Try.underlying3 (by kernel_rfl) h0 with ⟨hcs, rfl⟩ | ⟨a, len, cap, zs, hcs, _, hle, hm, hz, rfl, hcell, hwf⟩
    · simp only [List.cons.injEq, and_true] at hcs
      subst hcs
      exact ⟨⟨0, [], b⟩, none, rfl, Nat.le_refl _, Kd.C_nil _ _, fun z hz => (by cases hz), fun B _ => by simp⟩
    · simp only [List.cons.injEq, and_true] at hcs
      subst hcs
      have hz2 : zs.length = cap := by simpa using hz
      subst hz2
      refine ⟨⟨len, zs, b⟩, some a, rfl, hle, Kd.C_of_reads (d := (0 : Int)) (h1 := fun _ => rfl) ⟨rfl, by unfold maxLen at hm; omega, fun hp => ⟨a, rfl, fun j hj => hcell j hj⟩⟩, hwf, fun B hB => ?_⟩
      simp only [DataW.weights, Try.underlying49, List.map_cons, List.map_nil, DataW.weightsEach, Try.underlying47] at hB
      have hb8 : Try.prog.bytesOf 3 = 8 := by kernel_rfl
      rw [hb8] at hB
      have := (all_append hB).1
      simp only [List.cons_append, List.all_cons, Bool.and_eq_true, decide_eq_true_eq] at this
      have h3 := this.1
      simp [lits] at h3
      show zs.length * 8 ≤ B
      have e : min len zs.length + (zs.length - len) = zs.length := by omega
      rw [e] at h3
      exact h3

set_option maxRecDepth 100000 in
/-- A list of answers, its reading. -/
theorem open_answers {W : World} {held : Bool} {n : Nat} {cs : List Value} {y : DataW H × List MemPlace} (h : DataW.trod enc Try.prog W 0 (fun _ => true) held n 29 cs = some y) :
    ∃ (A0 : Option Addr) (len : Nat) (l : List SW), cs = [.slice A0 len l.length] ∧ len ≤ l.length ∧ Kd.C kW W A0 l.length l ∧ (∀ s ∈ l, s.len ≤ s.zs.length ∧ ∀ z ∈ s.zs, (Lit.int .i64 z).wf = true) ∧
      ∀ B, (y.1.weights Try.prog 29).all (· ≤ B) = true → l.length * 32 ≤ B ∧ ∀ s ∈ l, s.zs.length * 8 ≤ B := by
  have hc : Try.prog.cellsOf 49 = 2 := by kernel_rfl
  have hb32 : Try.prog.bytesOf 49 = 32 := by kernel_rfl
  rcases DataW.trod_slice Try.underlying29 h with ⟨rfl, rfl⟩ | ⟨a, len, cap, elems, rest, m, _, rfl, rfl, hb, hl, hm, hlen, hel, hsp, hns⟩
  · exact ⟨none, 0, [], rfl, Nat.le_refl _, ⟨rfl, by simp, fun h => absurd h (by simp)⟩, fun s hs => (by cases hs), fun B _ => ⟨by simp, fun s hs => (by cases hs)⟩⟩
  · obtain ⟨hrl, hr⟩ := hsp rfl
    have each : ∀ i, ∃ s : SW, i < cap → ∃ A0, (∀ q u, [Value.slice A0 s.len s.zs.length, Value.bool s.yes][q]? = some u → W.cell? (a.add (i * 2 + q)) = some u) ∧ s.len ≤ s.zs.length ∧ (Kd.int .i64).C W A0 s.zs.length s.zs ∧ (∀ z ∈ s.zs, (Lit.int .i64 z).wf = true) ∧
        ∃ d, (d ∈ elems.map (·.1) ∨ d ∈ rest.map (·.1)) ∧ ∀ B, (d.weights Try.prog 49).all (· ≤ B) = true → s.zs.length * 8 ≤ B := by
      intro i
      by_cases hi : i < cap
      · have hy : ∃ y, (y ∈ elems ∨ y ∈ rest) ∧ (W.cells? 0 (a.add (i * 2)) 2).bind (DataW.trod enc Try.prog W 0 (fun _ => true) held m 49) = some y := by
          by_cases hi2 : i < len
          · refine ⟨elems[i], .inl (List.getElem_mem _), ?_⟩
            have := hel i hi2
            rw [hc] at this
            rw [this, List.getElem?_eq_getElem]
          · refine ⟨rest[i - len], .inr (List.getElem_mem _), ?_⟩
            have := hr (i - len) (by omega)
            rw [hc, show len + (i - len) = i by omega] at this
            rw [this, List.getElem?_eq_getElem]
        obtain ⟨y, hmem, hy⟩ := hy
        rw [Option.bind_eq_some_iff] at hy
        obtain ⟨c2, hcs, hy⟩ := hy
        obtain ⟨s, A0, rfl, h1, h2, h3, h4⟩ := open_answer hy
        obtain ⟨_, _, hcell⟩ := World.cells?_some hcs
        refine ⟨s, fun _ => ⟨A0, fun q u hu => ?_, h1, h2, h3, y.1, ?_, h4⟩⟩
        · have hq : q < 2 := by
            have := (List.getElem?_eq_some_iff.1 hu).1
            simpa using this
          have := hcell q hq
          rw [hu] at this
          rw [← this]
          rw [Addr.add_add]
        · rcases hmem with hm2 | hm2
          · exact .inl (List.mem_map_of_mem hm2)
          · exact .inr (List.mem_map_of_mem hm2)
      · exact ⟨zW, fun h => absurd h hi⟩
    obtain ⟨f, hf⟩ := Classical.axiomOfChoice each
    have hlen2 : ((List.range cap).map f).length = cap := by simp
    have hmem : ∀ s ∈ (List.range cap).map f, ∃ i, i < cap ∧ s = f i := by
      intro s hs
      obtain ⟨i, hi, rfl⟩ := List.mem_map.1 hs
      exact ⟨i, List.mem_range.1 hi, rfl⟩
    refine ⟨some a, len, (List.range cap).map f, by rw [hlen2], by rw [hlen2]; exact hl, ⟨rfl, by unfold maxLen at hm; rw [hlen2]; omega, fun _ => ⟨a, rfl, fun j p hp => ?_⟩⟩, fun s hs => ?_, fun B hB => ?_⟩
    · have hj : j < cap := by
        have := (List.getElem?_eq_some_iff.1 hp).1
        simpa using this
      rw [List.getElem?_map, List.getElem?_range hj] at hp
      simp only [Option.map_some, Option.some.injEq] at hp
      subst hp
      obtain ⟨A0, k1, k2, k3, _⟩ := hf j hj
      exact ⟨_, rfl, kW_mk W (f j) k2 k3, k1⟩
    · obtain ⟨i, hi, rfl⟩ := hmem s hs
      obtain ⟨A0, k1, k2, k3, k4, _⟩ := hf i hi
      exact ⟨k2, k4⟩
    · simp only [DataW.weights, Try.underlying29, hb32, List.all_cons, Bool.and_eq_true, decide_eq_true_eq, List.length_map] at hB
      obtain ⟨hB1, hB2⟩ := hB
      obtain ⟨hB3, hB4⟩ := all_append hB2
      refine ⟨by rw [hlen2]; have : elems.length + rest.length = cap := (by omega); rw [this] at hB1; exact hB1, fun s hs => ?_⟩
      obtain ⟨i, hi, rfl⟩ := hmem s hs
      obtain ⟨A0, k1, k2, k3, k4, d, hd, kB⟩ := hf i hi
      refine kB B ?_
      rcases hd with hd | hd
      · exact all_weights hB3 d hd
      · exact all_weights hB4 d hd
/-- A row's list of answers, opened. -/
theorem row_answers {W : World} {held : Bool} {t : TypeId} {A : Option Addr} {len cap : Nat} {d : DataW H} {ps : List MemPlace} {ts : List TypeId} {ds : List (DataW H)} {j : Nat}
    (hsz : (DataW.weightsEach Try.prog ts ds).all (· ≤ reachBytes) = true) (ht : ts[j]? = some 29) (hd : ds[j]? = some d)
    (h : DataW.Trod enc Try.prog W 0 (fun _ => true) held 29 (.slice A len cap) d ps) :
    ∃ l : List SW, cap = l.length ∧ len ≤ l.length ∧ Kd.C kW W A l.length l ∧ (∀ s ∈ l, s.len ≤ s.zs.length ∧ ∀ z ∈ s.zs, (Lit.int .i64 z).wf = true) ∧ l.length ≤ 4398046511000 ∧ ∀ s ∈ l, s.zs.length < 17592186044416 := by
  obtain ⟨fuel, hf⟩ := h
  obtain ⟨A0, len0, l, hcs, h1, h2, h3, h4⟩ := open_answers hf
  simp [Value.cells] at hcs
  obtain ⟨rfl, rfl, rfl⟩ := hcs
  have hB := h4 reachBytes (by
    rw [List.all_eq_true] at hsz ⊢
    intro n hn
    exact hsz n (DataW.weights_mem_each ht hd n hn))
  have hr : reachBytes = 140737488351232 := by rfl
  rw [hr] at hB
  exact ⟨l, rfl, h1, h2, h3, by omega, fun s hs => by have := hB.2 s hs; omega⟩
end Go.Proofs.Ytfejfljgdeglgaa.K
