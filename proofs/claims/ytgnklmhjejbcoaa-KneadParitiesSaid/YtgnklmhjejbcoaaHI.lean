/- What knead.IsOdd returns; older memory stays as it was. -/
import Derived.Test.YtgnklmhjejbcoaaHF
import Derived.Test.YtgnklmhjejbcoaaK1
import Derived.Test.YtgnklmhjejbcoaaK11
namespace Go.Proofs.Ytgnklmhjejbcoaa.K
open Go.RowKit Go.Proofs.YtgnklmhjejbcoaaW.PrintWords Go.Proofs.YtgnklmhjejbcoaaW.PrintLast Go.Proofs.YtgnklmhjejbcoaaW.PrintMore
set_option linter.unusedVariables false
set_option linter.unusedSimpArgs false

set_option maxRecDepth 100000 in
theorem close89 (l : List Int) (A : Option Addr) (c : Nat) (p B1 : Nat) (hp : p < l.length) (hl : l.length ≤ 1000) (W : World) (h1 : W.cell? ⟨B1, 0, none⟩ = some (.slice A l.length c)) (hC : Kd.C (Kd.int .i64) W A l.length l) (hx : 0 ≤ l.getD p 0) :
    Calls Try.prog 89 #[.int .i64 (p : Int), .pointer (some ⟨B1, 0, none⟩)] W fun e W' => e = .returned (.int .i64 (((l.getD p 0).toNat : Nat) : Int)) ∧ Drawn0 W W' := by
  obtain ⟨ad, e, hx1⟩ := Kd.at_int hC (p : Int) (by omega) (by omega)
  cases e
  rw [Int.toNat_natCast] at hx1
  have hv : rd l (p : Int) = (((l.getD p 0).toNat : Nat) : Int) := by
    unfold rd
    rw [Int.toNat_natCast]
    omega
  rw [hv] at hx1
  obtain ⟨v, hv2⟩ : ∃ v, v = (((l.getD p 0).toNat : Nat) : Int) := ⟨_, rfl⟩
  rw [← hv2] at hx1 ⊢
  clear hv hv2 hx hC
  go_enter Try.func89, Try.ntmps89
  go_wp2
  go_ret
  exact ⟨rfl, Drawn0.refl _⟩

def knead_IsOdd.f (a0 : Int) (l1 : List Int) : Option (Bool × Int) := (knead_asked.f a0 l1).bind fun t => if t = 0 then (if 0 ≤ a0 ∧ a0 ≤ 1000 then ((knead_fresh.f 2000 a0).bind fun s => (knead_folded.f 2000 s l1).bind fun l => if l.length = a0.toNat ∧ (∀ x ∈ l, 0 ≤ x ∧ x < a0) then ((rnds (fun p => (l.getD p 0).toNat) a0.toNat (List.replicate a0.toNat false) 0 []).bind fun out => if 0 < out.length ∧ out.length ≤ a0.toNat then some (decide ((a0.toNat - out.length) % 2 = 1), 0) else none) else none) else none) else some (false, t)

set_option maxHeartbeats 2000000 in
set_option maxRecDepth 100000 in
theorem knead_IsOdd.calls (a0 : Int) (A1 : Option Addr) (c1 : Nat) (l1 : List Int) (r1 : Bool) (r2 : Int) (w : World) (hr1 : Kd.C (Kd.int .i64) w A1 l1.length l1) (hc1 : l1.length ≤ c1) (h : knead_IsOdd.f a0 l1 = some (r1, r2)) :
    Calls Try.prog 60 #[.int .i64 a0, .slice A1 l1.length c1] w fun e w' => e = .returned (.tuple #[.bool r1, .int .i64 r2]) ∧ Below w.heap.size w w' := by
  have HR1 := Aside0.mk hr1
  have HC1 := Aside0.mk hc1
  clear hr1 hc1
  unfold knead_IsOdd.f at h
  obtain ⟨t, ht, h⟩ := Option.bind_eq_some_iff.mp h
  have HT := Aside0.mk ht
  clear ht
  by_cases hz : t = 0
  · rw [if_pos hz] at h
    subst hz
    by_cases hg : 0 ≤ a0 ∧ a0 ≤ 1000
    · rw [if_pos hg] at h
      obtain ⟨s, hs, h⟩ := Option.bind_eq_some_iff.mp h
      obtain ⟨l, hl, h⟩ := Option.bind_eq_some_iff.mp h
      by_cases hq : l.length = a0.toNat ∧ (∀ x ∈ l, 0 ≤ x ∧ x < a0)
      · rw [if_pos hq] at h
        obtain ⟨out, ho, h⟩ := Option.bind_eq_some_iff.mp h
        by_cases hlen : 0 < out.length ∧ out.length ≤ a0.toNat
        · rw [if_pos hlen] at h
          simp only [Option.some.injEq, Prod.mk.injEq] at h
          obtain ⟨rfl, rfl⟩ := h
          obtain ⟨n, rfl⟩ : ∃ n : Nat, a0 = n := ⟨a0.toNat, by omega⟩
          simp only [Int.toNat_natCast] at ho hq hlen ⊢
          have HO := Aside0.mk ho
          have HG := Aside0.mk hg
          have HS := Aside0.mk hs
          have HL := Aside0.mk hl
          have HQ := Aside0.mk hq
          have HN := Aside0.mk hlen
          clear ho hg hs hl hq hlen
          go_enter Try.func60, Try.ntmps60
          go_wp2_with (first
            | (go_at_call 87; refine (knead_asked.calls (n : Int) _ _ l1 0 _ HR1.out HC1.out HT.out).mono ?_; rintro e w' ⟨rfl, ⟨nd, rfl⟩⟩)
            | (go_at_call 69; refine (knead_fresh.calls 2000 (n : Int) s _ HS.out).mono ?_; rintro e w2 ⟨v2, rfl, hR, hB⟩; have HR2 := Aside0.mk hR; have HB2 := Aside0.mk hB; clear hR hB; obtain ⟨A2, c2, e2⟩ := Kd.R_slice HR2.out; subst e2)
            | (go_at_call 71; refine (knead_folded.calls 2000 A2 c2 s _ _ l1 l _ (Kd.R_reads' HR2.out).2.2 (Kd.R_reads' HR2.out).2.1 (Kd.C_below (Kd.C_drewN HR1.out _) HB2.out) HC1.out HL.out).mono ?_; rintro e w3 ⟨v3, rfl, hR, hB⟩; have HR3 := Aside0.mk hR; have HB3 := Aside0.mk hB; clear hR hB; obtain ⟨A3, c3, e3⟩ := Kd.R_slice HR3.out; subst e3)
            | fail)
          obtain ⟨W1, hW1⟩ : ∃ W1, w3.alloc (Obj.cells #[Value.slice A3 l.length c3] 22) = W1 := ⟨_, rfl⟩
          have hb1 : W1.heap[w3.heap.size]? = some (.cells #[.slice A3 l.length c3] 22 (0, 0)) := by
            rw [← hW1]
            simpa using heap_alloc_new w3 (Obj.cells #[Value.slice A3 l.length c3] 22)
          have hB3 : Below w.heap.size w w3 := below_step (below_step (by exact pw_below_drewN (Below.refl _ _) _) HB2.out) HB3.out
          have hB1 : Below w.heap.size w W1 := by
            rw [← hW1]
            exact below_alloc hB3 _
          have hBs : W1.heap.size = w3.heap.size + 1 := by rw [← hW1]; simp
          have hC1 : Kd.C (Kd.int .i64) W1 A3 l.length l := by
            rw [← hW1]
            exact Kd.C_alloc (Kd.R_reads' HR3.out).2.2 _
          have hw3 : w.heap.size ≤ w3.heap.size := below_size hB3
          rw [hW1]
          have k1 : W1.cell? ⟨w3.heap.size, 0, none⟩ = some (.slice A3 l.length c3) := blk_cell hb1 0
          have hg := HG.out
          have hq := HQ.out
          have hget : ∀ p, p < n → 0 ≤ l.getD p 0 ∧ l.getD p 0 < n := fun p hp => by
            have hp' : p < l.length := by omega
            have := hq.2 l[p] (List.getElem_mem hp')
            simpa [hp'] using this
          refine (rounds89 n (by omega) (fun p => (l.getD p 0).toNat) (fun p hp => by have := hget p hp; show (l.getD p 0).toNat < n; omega) out HN.out.1 w3.heap.size W1 (fun W p hb hp => close89 l A3 c3 p w3.heap.size (by omega) (by omega) W ((hb.cell (p := ⟨w3.heap.size, 0, none⟩) (show w3.heap.size < W1.heap.size by omega)).trans k1) (Kd.C_below hC1 hb) (hget p hp).1) HO.out).mono ?_
          rintro e w5 ⟨v5, rfl, hR, hB⟩
          have hB5 := Aside0.mk (below_step hB1 hB)
          obtain ⟨A5, c5, e5⟩ := Kd.R_slice hR
          rw [sortL_length] at e5
          subst e5
          have hn1 := HN.out
          have hsub : ((n : Int) - (out.length : Int)) = ((n - out.length : Nat) : Int) := by omega
          have hw1 : IntKind.i64.wrap ((n : Int) - (out.length : Int)) = ((n - out.length : Nat) : Int) := by rw [IntKind.wrap_i64]; omega
          have hdec : ∀ d : Nat, decide ((d : Int) % 2 = 1) = decide (d % 2 = 1) := fun d => decide_eq_decide.2 (by omega)
          have hdec2 : ∀ d : Nat, (((d : Int) % 2 == 1) : Bool) = decide (d % 2 = 1) := fun d => by
            by_cases h1 : d % 2 = 1
            · have : (d : Int) % 2 = 1 := by omega
              simp [h1, this]
            · have : ¬ (d : Int) % 2 = 1 := by omega
              simp [h1, this]
          have hle : (out.length : Int) ≤ n := by omega
          have HD := Aside0.mk hdec
          have HD2 := Aside0.mk hdec2
          clear hR hB hC1 hb1 k1 hsub hget hdec hdec2 hq
          go_wp2
          go_ret2
          refine ⟨?_, hB5.out⟩
          rw [← HD2.out (n - out.length)]
          rfl
        · rw [if_neg hlen] at h
          cases h
      · rw [if_neg hq] at h
        cases h
    · rw [if_neg hg] at h
      cases h
  · rw [if_neg hz] at h
    have hb : (t != 0) = true := bne_iff_ne.mpr hz
    simp only [Option.some.injEq, Prod.mk.injEq] at h
    obtain ⟨rfl, rfl⟩ := h
    go_enter Try.func60, Try.ntmps60
    go_wp2_with (first | (go_at_call 87; refine (knead_asked.calls a0 _ _ l1 t _ HR1.out HC1.out HT.out).mono ?_; rintro e w' ⟨rfl, ⟨nd, rfl⟩⟩) | go_in)
    go_ret2
    exact ⟨rfl, by repeat (first | exact Below.refl _ _ | (with_reducible first | apply below_alloc | apply pw_below_drewN))⟩
end Go.Proofs.Ytgnklmhjejbcoaa.K
