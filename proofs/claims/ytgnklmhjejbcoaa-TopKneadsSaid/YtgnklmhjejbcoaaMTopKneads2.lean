/- Texts of this claim in one file: HI, K3, HP, HE, K13, K14, K15, K16. -/
import Derived.Test.YtgnklmhjejbcoaaMTopKneads1
import Derived.Test.YtgnklmhjejbcoaaMTopKneads0
import Derived.RangeFuncNested
import Derived.RangeFuncBound
import Derived.RangeFuncCalls
import Derived.RangeFuncLeaves
import Derived.RangeFuncBox
import Derived.Shelf.Abstract
import Derived.Shelf.RegionOpen
import Derived.WalkKit
import Derived.OwnWalkIn
import Derived.TacticsInMore
import Derived.LoopNIn
import Derived.LoopIn

/- What knead.IsOdd returns; older memory stays as it was. -/
namespace Go.Proofs.Ytgnklmhjejbcoaa.K
open Go.RowKit Go.Proofs.YtgnklmhjejbcoaaW.PrintWords Go.Proofs.YtgnklmhjejbcoaaW.PrintLast Go.Proofs.YtgnklmhjejbcoaaW.PrintMore
set_option linter.unusedVariables false
set_option linter.unusedSimpArgs false

set_option maxRecDepth 100000 in
theorem close89 (l : List Int) (A : Option Addr) (c : Nat) (p B1 : Nat) (hp : p < l.length) (hl : l.length ≤ 1000) (W : World) (h1 : W.cell? ⟨B1, 0, none⟩ = some (.slice A l.length c)) (hC : Kd.C (Kd.int .i64) W A l.length l) (hx : 0 ≤ l.getD p 0) :
    Calls Try.prog 89 #[.int .i64 (p : Int), .pointer (some ⟨B1, 0, none⟩)] W fun e W' => e = .returned (.int .i64 (((l.getD p 0).toNat : Nat) : Int)) ∧ Drawn0 W W' := by
  obtain ⟨ad, e, hx1⟩ := Kd.at_int hC (p : Int) (by omega) (by omega)
  cases e
  rw [Int.toNat_natCast] at hx1
  have hv : rd l (p : Int) = (((l.getD p 0).toNat : Nat) : Int) := by
    unfold rd
    rw [Int.toNat_natCast]
    omega
  rw [hv] at hx1
  obtain ⟨v, hv2⟩ : ∃ v, v = (((l.getD p 0).toNat : Nat) : Int) := ⟨_, rfl⟩
  rw [← hv2] at hx1 ⊢
  clear hv hv2 hx hC
  go_enter Try.func89, Try.ntmps89
  go_wp2
  go_ret
  exact ⟨rfl, Drawn0.refl _⟩

def knead_IsOdd.f (a0 : Int) (l1 : List Int) : Option (Bool × Int) := (knead_asked.f a0 l1).bind fun t => if t = 0 then (if 0 ≤ a0 ∧ a0 ≤ 1000 then ((knead_fresh.f 2000 a0).bind fun s => (knead_folded.f 2000 s l1).bind fun l => if l.length = a0.toNat ∧ (∀ x ∈ l, 0 ≤ x ∧ x < a0) then ((rnds (fun p => (l.getD p 0).toNat) a0.toNat (List.replicate a0.toNat false) 0 []).bind fun out => if 0 < out.length ∧ out.length ≤ a0.toNat then some (decide ((a0.toNat - out.length) % 2 = 1), 0) else none) else none) else none) else some (false, t)

set_option maxHeartbeats 2000000 in
set_option maxRecDepth 100000 in
theorem knead_IsOdd.calls (a0 : Int) (A1 : Option Addr) (c1 : Nat) (l1 : List Int) (r1 : Bool) (r2 : Int) (w : World) (hr1 : Kd.C (Kd.int .i64) w A1 l1.length l1) (hc1 : l1.length ≤ c1) (h : knead_IsOdd.f a0 l1 = some (r1, r2)) :
    Calls Try.prog 60 #[.int .i64 a0, .slice A1 l1.length c1] w fun e w' => e = .returned (.tuple #[.bool r1, .int .i64 r2]) ∧ Below w.heap.size w w' := by
  have HR1 := Aside0.mk hr1
  have HC1 := Aside0.mk hc1
  clear hr1 hc1
  unfold knead_IsOdd.f at h
  obtain ⟨t, ht, h⟩ := Option.bind_eq_some_iff.mp h
  have HT := Aside0.mk ht
  clear ht
  by_cases hz : t = 0
  · rw [if_pos hz] at h
    subst hz
    by_cases hg : 0 ≤ a0 ∧ a0 ≤ 1000
    · rw [if_pos hg] at h
      obtain ⟨s, hs, h⟩ := Option.bind_eq_some_iff.mp h
      obtain ⟨l, hl, h⟩ := Option.bind_eq_some_iff.mp h
      by_cases hq : l.length = a0.toNat ∧ (∀ x ∈ l, 0 ≤ x ∧ x < a0)
      · rw [if_pos hq] at h
        obtain ⟨out, ho, h⟩ := Option.bind_eq_some_iff.mp h
        by_cases hlen : 0 < out.length ∧ out.length ≤ a0.toNat
        · rw [if_pos hlen] at h
          simp only [Option.some.injEq, Prod.mk.injEq] at h
          obtain ⟨rfl, rfl⟩ := h
          obtain ⟨n, rfl⟩ : ∃ n : Nat, a0 = n := ⟨a0.toNat, by omega⟩
          simp only [Int.toNat_natCast] at ho hq hlen ⊢
          have HO := Aside0.mk ho
          have HG := Aside0.mk hg
          have HS := Aside0.mk hs
          have HL := Aside0.mk hl
          have HQ := Aside0.mk hq
          have HN := Aside0.mk hlen
          clear ho hg hs hl hq hlen
          go_enter Try.func60, Try.ntmps60
          go_wp2_with (first
            | (go_at_call 87; refine (knead_asked.calls (n : Int) _ _ l1 0 _ HR1.out HC1.out HT.out).mono ?_; rintro e w' ⟨rfl, ⟨nd, rfl⟩⟩)
            | (go_at_call 69; refine (knead_fresh.calls 2000 (n : Int) s _ HS.out).mono ?_; rintro e w2 ⟨v2, rfl, hR, hB⟩; have HR2 := Aside0.mk hR; have HB2 := Aside0.mk hB; clear hR hB; obtain ⟨A2, c2, e2⟩ := Kd.R_slice HR2.out; subst e2)
            | (go_at_call 71; refine (knead_folded.calls 2000 A2 c2 s _ _ l1 l _ (Kd.R_reads' HR2.out).2.2 (Kd.R_reads' HR2.out).2.1 (Kd.C_below (Kd.C_drewN HR1.out _) HB2.out) HC1.out HL.out).mono ?_; rintro e w3 ⟨v3, rfl, hR, hB⟩; have HR3 := Aside0.mk hR; have HB3 := Aside0.mk hB; clear hR hB; obtain ⟨A3, c3, e3⟩ := Kd.R_slice HR3.out; subst e3)
            | fail)
          obtain ⟨W1, hW1⟩ : ∃ W1, w3.alloc (Obj.cells #[Value.slice A3 l.length c3] 22) = W1 := ⟨_, rfl⟩
          have hb1 : W1.heap[w3.heap.size]? = some (.cells #[.slice A3 l.length c3] 22 (0, 0)) := by
            rw [← hW1]
            simpa using heap_alloc_new w3 (Obj.cells #[Value.slice A3 l.length c3] 22)
          have hB3 : Below w.heap.size w w3 := below_step (below_step (by exact pw_below_drewN (Below.refl _ _) _) HB2.out) HB3.out
          have hB1 : Below w.heap.size w W1 := by
            rw [← hW1]
            exact below_alloc hB3 _
          have hBs : W1.heap.size = w3.heap.size + 1 := by rw [← hW1]; simp
          have hC1 : Kd.C (Kd.int .i64) W1 A3 l.length l := by
            rw [← hW1]
            exact Kd.C_alloc (Kd.R_reads' HR3.out).2.2 _
          have hw3 : w.heap.size ≤ w3.heap.size := below_size hB3
          rw [hW1]
          have k1 : W1.cell? ⟨w3.heap.size, 0, none⟩ = some (.slice A3 l.length c3) := blk_cell hb1 0
          have hg := HG.out
          have hq := HQ.out
          have hget : ∀ p, p < n → 0 ≤ l.getD p 0 ∧ l.getD p 0 < n := fun p hp => by
            have hp' : p < l.length := by omega
            have := hq.2 l[p] (List.getElem_mem hp')
            simpa [hp'] using this
          refine (rounds89 n (by omega) (fun p => (l.getD p 0).toNat) (fun p hp => by have := hget p hp; show (l.getD p 0).toNat < n; omega) out HN.out.1 w3.heap.size W1 (fun W p hb hp => close89 l A3 c3 p w3.heap.size (by omega) (by omega) W ((hb.cell (p := ⟨w3.heap.size, 0, none⟩) (show w3.heap.size < W1.heap.size by omega)).trans k1) (Kd.C_below hC1 hb) (hget p hp).1) HO.out).mono ?_
          rintro e w5 ⟨v5, rfl, hR, hB⟩
          have hB5 := Aside0.mk (below_step hB1 hB)
          obtain ⟨A5, c5, e5⟩ := Kd.R_slice hR
          rw [sortL_length] at e5
          subst e5
          have hn1 := HN.out
          have hsub : ((n : Int) - (out.length : Int)) = ((n - out.length : Nat) : Int) := by omega
          have hw1 : IntKind.i64.wrap ((n : Int) - (out.length : Int)) = ((n - out.length : Nat) : Int) := by rw [IntKind.wrap_i64]; omega
          have hdec : ∀ d : Nat, decide ((d : Int) % 2 = 1) = decide (d % 2 = 1) := fun d => decide_eq_decide.2 (by omega)
          have hdec2 : ∀ d : Nat, (((d : Int) % 2 == 1) : Bool) = decide (d % 2 = 1) := fun d => by
            by_cases h1 : d % 2 = 1
            · have : (d : Int) % 2 = 1 := by omega
              simp [h1, this]
            · have : ¬ (d : Int) % 2 = 1 := by omega
              simp [h1, this]
          have hle : (out.length : Int) ≤ n := by omega
          have HD := Aside0.mk hdec
          have HD2 := Aside0.mk hdec2
          clear hR hB hC1 hb1 k1 hsub hget hdec hdec2 hq
          go_wp2
          go_ret2
          refine ⟨?_, hB5.out⟩
          rw [← HD2.out (n - out.length)]
          rfl
        · rw [if_neg hlen] at h
          cases h
      · rw [if_neg hq] at h
        cases h
    · rw [if_neg hg] at h
      cases h
  · rw [if_neg hz] at h
    have hb : (t != 0) = true := bne_iff_ne.mpr hz
    simp only [Option.some.injEq, Prod.mk.injEq] at h
    obtain ⟨rfl, rfl⟩ := h
    go_enter Try.func60, Try.ntmps60
    go_wp2_with (first | (go_at_call 87; refine (knead_asked.calls a0 _ _ l1 t _ HR1.out HC1.out HT.out).mono ?_; rintro e w' ⟨rfl, ⟨nd, rfl⟩⟩) | go_in)
    go_ret2
    exact ⟨rfl, by repeat (first | exact Below.refl _ _ | (with_reducible first | apply below_alloc | apply pw_below_drewN))⟩
end Go.Proofs.Ytgnklmhjejbcoaa.K

/- DERIVED by wip/pr.py: for each Go function named below a Lean function with the same answers, and that a call of it comes to these answers, for all arguments and memories, where the Lean function has an answer. -/
namespace Go.Proofs.Ytgnklmhjejbcoaa.K
open Go.RowKit Go.Proofs.YtgnklmhjejbcoaaW.PrintWords Go.Proofs.YtgnklmhjejbcoaaW.PrintLast Go.Proofs.YtgnklmhjejbcoaaW.PrintMore
attribute [local go_sem] max2_int min2_int max_two min_two max_three min_three max_four min_four   -- for this text's walks alone
set_option linter.unusedVariables false
set_option linter.unusedSimpArgs false

/-! ### knead_sameSum: function 82 -/
def knead_sameSum.f (a0 : Int) (a1 : Int) (a2 : Int) (a3 : Int) : Option (Bool) := if (wrap64 ((wrap64 ((a0 / 2) + (a1 / 2))) + ((wrap64 ((Go.bits .and .i64 a0 1) + (Go.bits .and .i64 a1 1))) / 2))) = (wrap64 ((wrap64 ((a2 / 2) + (a3 / 2))) + ((wrap64 ((Go.bits .and .i64 a2 1) + (Go.bits .and .i64 a3 1))) / 2))) then (some ((Go.bits .and .i64 (wrap64 ((Go.bits .and .i64 a0 1) + (Go.bits .and .i64 a1 1))) 1) == (Go.bits .and .i64 (wrap64 ((Go.bits .and .i64 a2 1) + (Go.bits .and .i64 a3 1))) 1))) else (some false)
set_option maxHeartbeats 8000000 in
set_option maxRecDepth 100000 in
theorem knead_sameSum.calls (a0 : Int) (a1 : Int) (a2 : Int) (a3 : Int) (r : Bool) (w : World) (h : knead_sameSum.f a0 a1 a2 a3 = some r) :
    Calls Try.prog 82 #[.int .i64 a0, .int .i64 a1, .int .i64 a2, .int .i64 a3] w fun e w' => e = .returned (.bool r) ∧ Drawn0 w w' := by
  have H : (if (wrap64 ((wrap64 ((a0 / 2) + (a1 / 2))) + ((wrap64 ((Go.bits .and .i64 a0 1) + (Go.bits .and .i64 a1 1))) / 2))) = (wrap64 ((wrap64 ((a2 / 2) + (a3 / 2))) + ((wrap64 ((Go.bits .and .i64 a2 1) + (Go.bits .and .i64 a3 1))) / 2))) then (some ((Go.bits .and .i64 (wrap64 ((Go.bits .and .i64 a0 1) + (Go.bits .and .i64 a1 1))) 1) == (Go.bits .and .i64 (wrap64 ((Go.bits .and .i64 a2 1) + (Go.bits .and .i64 a3 1))) 1))) else (some false)) = some r := h
  clear h
  by_cases c5 : (wrap64 ((wrap64 ((a0 / 2) + (a1 / 2))) + ((wrap64 ((Go.bits .and .i64 a0 1) + (Go.bits .and .i64 a1 1))) / 2))) = (wrap64 ((wrap64 ((a2 / 2) + (a3 / 2))) + ((wrap64 ((Go.bits .and .i64 a2 1) + (Go.bits .and .i64 a3 1))) / 2)))
  · rw [if_pos c5] at H
    have c5b0 : ((wrap64 ((wrap64 ((a0 / 2) + (a1 / 2))) + ((wrap64 ((Go.bits .and .i64 a0 1) + (Go.bits .and .i64 a1 1))) / 2))) == (wrap64 ((wrap64 ((a2 / 2) + (a3 / 2))) + ((wrap64 ((Go.bits .and .i64 a2 1) + (Go.bits .and .i64 a3 1))) / 2)))) = true := beq_iff_eq.mpr c5
    have c5b1 : ((wrap64 ((wrap64 ((a0 / 2) + (a1 / 2))) + ((wrap64 ((Go.bits .and .i64 a0 1) + (Go.bits .and .i64 a1 1))) / 2))) != (wrap64 ((wrap64 ((a2 / 2) + (a3 / 2))) + ((wrap64 ((Go.bits .and .i64 a2 1) + (Go.bits .and .i64 a3 1))) / 2)))) = false := bne_eq_false_iff_eq.mpr c5
    clear c5
    obtain rfl := Option.some.inj H
    go_enter Try.func82, Try.ntmps82
    go_wp2
    go_ret
    exact ⟨by first | rfl | (simp; done) | (simp [*]; done), by repeat (first | exact Drawn0.refl _ | apply Drawn0.step)⟩
  · rw [if_neg c5] at H
    have c5b0 : ((wrap64 ((wrap64 ((a0 / 2) + (a1 / 2))) + ((wrap64 ((Go.bits .and .i64 a0 1) + (Go.bits .and .i64 a1 1))) / 2))) == (wrap64 ((wrap64 ((a2 / 2) + (a3 / 2))) + ((wrap64 ((Go.bits .and .i64 a2 1) + (Go.bits .and .i64 a3 1))) / 2)))) = false := beq_eq_false_iff_ne.mpr c5
    have c5b1 : ((wrap64 ((wrap64 ((a0 / 2) + (a1 / 2))) + ((wrap64 ((Go.bits .and .i64 a0 1) + (Go.bits .and .i64 a1 1))) / 2))) != (wrap64 ((wrap64 ((a2 / 2) + (a3 / 2))) + ((wrap64 ((Go.bits .and .i64 a2 1) + (Go.bits .and .i64 a3 1))) / 2)))) = true := bne_iff_ne.mpr c5
    obtain rfl := Option.some.inj H
    go_enter Try.func82, Try.ntmps82
    go_wp2
    go_ret
    exact ⟨by first | rfl | (simp; done) | (simp [*]; done), by repeat (first | exact Drawn0.refl _ | apply Drawn0.step)⟩

end Go.Proofs.Ytgnklmhjejbcoaa.K

/- What the two functions Pairs return, for all slices: whether the sums of all opposite numbers are alike by the function sameSum that each of them calls; memory stays as it was. -/
namespace Go.Proofs.Ytgnklmhjejbcoaa.K
open Go.RowKit Go.Proofs.YtgnklmhjejbcoaaW.PrintWords Go.Proofs.YtgnklmhjejbcoaaW.PrintLast Go.Proofs.YtgnklmhjejbcoaaW.PrintMore
set_option linter.unusedVariables false
set_option linter.unusedSimpArgs false

def ownSum (a b c d : Int) : Bool := (knead_sameSum.f a b c d).getD false
theorem ownSum_some (a b c d : Int) : knead_sameSum.f a b c d = some (ownSum a b c d) := by
  unfold ownSum knead_sameSum.f
  repeat (split; skip)
  all_goals rfl
/-- All opposite numbers have the sum of the first and the last one. -/
def pairsTo (s : Int → Int → Int → Int → Bool) (l : List Int) (n : Nat) : Bool := (List.range n).all fun i => s (rd l (i : Int)) (rd l ((l.length : Int) - 1 - i)) (rd l 0) (rd l ((l.length : Int) - 1))
theorem pairsTo_succ (s : Int → Int → Int → Int → Bool) (l : List Int) (n : Nat) : pairsTo s l (n + 1) = (pairsTo s l n && s (rd l (n : Int)) (rd l ((l.length : Int) - 1 - n)) (rd l 0) (rd l ((l.length : Int) - 1))) := by
  unfold pairsTo
  rw [List.range_succ, List.all_append]
  simp
theorem pairsTo_false (s : Int → Int → Int → Int → Bool) (l : List Int) (n m : Nat) (h : n < m) (hs : s (rd l (n : Int)) (rd l ((l.length : Int) - 1 - n)) (rd l 0) (rd l ((l.length : Int) - 1)) = false) : pairsTo s l m = false := by
  unfold pairsTo
  rw [List.all_eq_false]
  exact ⟨n, List.mem_range.2 h, by rw [hs]; simp⟩

def knead_Pairs.f (l0 : List Int) : Option (Bool × Int) := (knead_Validate.f l0).bind fun t => if t = 0 then some (pairsTo ownSum l0 l0.length, 0) else some (false, t)

set_option maxHeartbeats 4000000 in
set_option maxRecDepth 100000 in
theorem knead_Pairs.calls (A0 : Option Addr) (c0 : Nat) (l0 : List Int) (r1 : Bool) (r2 : Int) (w : World) (hr0 : Kd.C (Kd.int .i64) w A0 l0.length l0) (hc0 : l0.length ≤ c0) (h : knead_Pairs.f l0 = some (r1, r2)) :
    Calls Try.prog 48 #[.slice A0 l0.length c0] w fun e w' => e = .returned (.tuple #[.bool r1, .int .i64 r2]) ∧ Drawn0 w w' := by
  have HR0 := Aside0.mk hr0
  have HC0 := Aside0.mk hc0
  clear hr0 hc0
  unfold knead_Pairs.f at h
  obtain ⟨t, ht, h⟩ := Option.bind_eq_some_iff.mp h
  have HT := Aside0.mk ht
  by_cases hz : t = 0
  · rw [if_pos hz] at h
    have hb : (t != 0) = false := bne_eq_false_iff_eq.mpr hz
    simp only [Option.some.injEq, Prod.mk.injEq] at h
    obtain ⟨rfl, rfl⟩ := h
    have hlm : 2 ≤ l0.length ∧ l0.length ≤ 32 := by
      rw [validate_eq] at ht
      cases c : lumps (l0.length : Int) with
      | true => exact ⟨(lumps_nat c).1, (lumps_nat c).2.1⟩
      | false => rw [c] at ht; simp at ht; omega
    obtain ⟨hlo, hhi⟩ := hlm
    obtain ⟨r, hr⟩ : ∃ r, r = pairsTo ownSum l0 l0.length := ⟨_, rfl⟩
    rw [← hr]
    have HRR := Aside0.mk hr
    clear hz ht hr
    have e1 : IntKind.i64.wrap ((l0.length : Int) - 1) = (l0.length : Int) - 1 := IntWalk.i64_in _ (by omega)
    go_enter Try.func48, Try.ntmps48
    go_wp2_with (first | (go_at_call 45; refine (knead_Validate.calls _ _ l0 t _ HR0.out HC0.out HT.out).mono ?_; rintro e w' ⟨rfl, ⟨nd, rfl⟩⟩))
    go_loopw [14] (fun i wr => ∃ n : Nat, n ≤ l0.length ∧ i = .int .i64 n ∧ Aside0 (pairsTo ownSum l0 n = true) ∧ Drawn0 w wr) (fun i _ => l0.length - (intOf i).toNat)
    case atStart => exact ⟨0, Nat.zero_le _, rfl, ⟨rfl⟩, by repeat (first | exact Drawn0.refl _ | apply Drawn0.step)⟩
    case round =>
      obtain ⟨n, hn, rfl, HA, ⟨m, rfl⟩⟩ := hrel
      by_cases hlt : n < l0.length
      · obtain ⟨ad, ea, hx⟩ := Kd.at_int HR0.out (n : Int) (by omega) (by omega)
        obtain ⟨ad1, ea1, hx1⟩ := Kd.at_int HR0.out ((l0.length : Int) - 1 - n) (by omega) (by omega)
        obtain ⟨ad2, ea2, hx2⟩ := Kd.at_int HR0.out 0 (by omega) (by omega)
        obtain ⟨ad3, ea3, hx3⟩ := Kd.at_int HR0.out ((l0.length : Int) - 1) (by omega) (by omega)
        cases ea
        cases ea1
        cases ea2
        cases ea3
        rw [Int.toNat_natCast] at hx
        rw [show ((l0.length : Int) - 1 - n).toNat = l0.length - 1 - n by omega] at hx1
        rw [show ((l0.length : Int) - 1).toNat = l0.length - 1 by omega] at hx3
        have e2 : IntKind.i64.wrap ((l0.length : Int) - 1 - n) = (l0.length : Int) - 1 - n := IntWalk.i64_in _ (by omega)
        have b0 := eq_true (show 0 ≤ (n : Int) by omega)
        have b1 := eq_true (show (n : Int) < (l0.length : Int) by omega)
        have b2 := eq_true (show 0 ≤ (l0.length : Int) - 1 - n by omega)
        have b3 := eq_true (show (l0.length : Int) - 1 - n < (l0.length : Int) by omega)
        have b4 := eq_true (show 0 ≤ (l0.length : Int) - 1 by omega)
        have b5 := eq_true (show (l0.length : Int) - 1 < (l0.length : Int) by omega)
        have b6 := eq_true (show 0 < (l0.length : Int) by omega)
        have b7 := eq_true (show 0 < l0.length by omega)
        rw [show ((0 : Int)).toNat = 0 from rfl, Addr.add_zero'] at hx2
        obtain ⟨s, hs⟩ : ∃ s, ownSum (rd l0 (n : Int)) (rd l0 ((l0.length : Int) - 1 - n)) (rd l0 0) (rd l0 ((l0.length : Int) - 1)) = s := ⟨_, rfl⟩
        have HS := Aside0.mk hs
        have HF := Aside0.mk ((ownSum_some (rd l0 (n : Int)) (rd l0 ((l0.length : Int) - 1 - n)) (rd l0 0) (rd l0 ((l0.length : Int) - 1))).trans (congrArg some hs))
        clear hs
        cases s with
        | true =>
          go_wp2_with fail
          repeat (go_quiet (first | (go_at_call 82; (with_reducible refine (knead_sameSum.calls _ _ _ _ true _ HF.out).mono ?_); rintro e w' ⟨rfl, ⟨nd, rfl⟩⟩; (try first | exact ⟨rfl, _, World.drewN_drewN _ _ _⟩ | exact ⟨rfl, _, Eq.trans (World.drewN_drewN _ _ _) (congrArg (World.drewN _) (Nat.add_assoc _ _ _))⟩))); try go_wp2)
          go_roundw
          case rel => exact ⟨n + 1, by omega, by go_num, ⟨by rw [pairsTo_succ, HA.out, HS.out]; rfl⟩, by repeat (first | exact Drawn0.refl _ | apply Drawn0.step)⟩
          case measure => simp [intOf]; omega
        | false =>
          have hf : r = false := by rw [HRR.out]; exact pairsTo_false ownSum l0 n _ hlt HS.out
          subst hf
          go_wp2_with fail
          repeat (go_quiet (first | (go_at_call 82; (with_reducible refine (knead_sameSum.calls _ _ _ _ false _ HF.out).mono ?_); rintro e w' ⟨rfl, ⟨nd, rfl⟩⟩; (try first | exact ⟨rfl, _, World.drewN_drewN _ _ _⟩ | exact ⟨rfl, _, Eq.trans (World.drewN_drewN _ _ _) (congrArg (World.drewN _) (Nat.add_assoc _ _ _))⟩))); try go_wp2)
          go_ret2
          exact ⟨rfl, by repeat (first | exact Drawn0.refl _ | apply Drawn0.step)⟩
      · obtain rfl : n = l0.length := by omega
        have hf : r = true := by rw [HRR.out]; exact HA.out
        subst hf
        go_wp2
        go_ret2
        exact ⟨rfl, by repeat (first | exact Drawn0.refl _ | apply Drawn0.step)⟩
  · rw [if_neg hz] at h
    have hb : (t != 0) = true := bne_iff_ne.mpr hz
    simp only [Option.some.injEq, Prod.mk.injEq] at h
    obtain ⟨rfl, rfl⟩ := h
    clear ht
    go_enter Try.func48, Try.ntmps48
    go_wp2_with (first | (go_at_call 45; refine (knead_Validate.calls _ _ l0 t _ HR0.out HC0.out HT.out).mono ?_; rintro e w' ⟨rfl, ⟨nd, rfl⟩⟩))
    go_ret2
    exact ⟨rfl, by repeat (first | exact Drawn0.refl _ | apply Drawn0.step)⟩
end Go.Proofs.Ytgnklmhjejbcoaa.K

/- What knead.Unfold returns ('for _, k := range slices.Backward(word)'): the dough with the word undone, in memory of the call's own, or nil and the error; older memory stays as it was. -/
namespace Go.Proofs.Ytgnklmhjejbcoaa.K
open Go.RowKit Go.Shelf Go.Proofs.YtgnklmhjejbcoaaW.PrintWords Go.Proofs.YtgnklmhjejbcoaaW.PrintLast Go.Proofs.YtgnklmhjejbcoaaW.PrintMore
set_option linter.unusedVariables false
set_option linter.unusedSimpArgs false
attribute [local go_sem] Oper.semAt_some

def bit (b : Bool) : Int := if b then 1 else 0
def bits (bs : List Bool) : List Int := bs.map bit
/-- What has come when k places are left. -/
def came (bs : List Bool) (k : Nat) : List (Nat × Bool) := (List.range (bs.length - k)).map (fun j => (bs.length - 1 - j, bs.getD (bs.length - 1 - j) false))
theorem came_succ (bs : List Bool) (m : Nat) (h : m < bs.length) : came bs m = came bs (m + 1) ++ [(m, bs.getD m false)] := by
  unfold came
  rw [show bs.length - m = (bs.length - (m + 1)) + 1 by omega, List.range_succ, List.map_append]
  simp only [List.map_cons, List.map_nil]
  rw [show bs.length - 1 - (bs.length - (m + 1)) = m by omega]
theorem came_length (bs : List Bool) (k : Nat) : (came bs k).length = bs.length - k := by simp [came]

/-- What a round keeps: what lay below n, and the cell of the box B. -/
def KpB (n B : Nat) (W W' : World) : Prop := Below n W W' ∧ ∀ v, W.cell? ⟨B, 0, none⟩ = some v → W'.cell? ⟨B, 0, none⟩ = some v
theorem KpB.trans {n B : Nat} {W1 W2 W3 : World} (h : KpB n B W1 W2) (k : KpB n B W2 W3) : KpB n B W1 W3 := ⟨h.1.trans k.1, fun v hv => k.2 v (h.2 v hv)⟩

set_option maxRecDepth 100000 in
set_option maxHeartbeats 4000000 in
/-- slices.Backward's closure: the places from the last one to the first one, for every body that keeps what lay below n and the closure's box. -/
theorem backward1_in (F : Fence) (n : Nat) (h99 : F.fn 99) (hro : F.round = none) (hn : 1 ≤ n) (l Bs : Nat) (A : Option Addr) (cap : Nat) (bs : List Bool) (hlen : bs.length ≤ 1000) (w0 : World) (hC : Kd.C (Kd.int .i64) w0 A bs.length (bits bs)) (J Jx : List (Nat × Bool) → World → Prop)
    (hY : ∀ pre x W, J pre W → pre.length < bs.length → YieldAt F (n - 1) Try.prog l #[.int .i64 (x.1 : Int), .int .i64 (bit x.2)] W fun e W' =>
      (e = .returned (.bool true) ∧ J (pre ++ [x]) W' ∧ KpB w0.heap.size Bs W W') ∨ (e = .returned (.bool false) ∧ Jx (pre ++ [x]) W'))
    (W : World) (hb0 : Below w0.heap.size w0 W) (hBs : W.cell? ⟨Bs, 0, none⟩ = some (.slice A bs.length cap)) (h0 : J [] W) :
    CallsIn F n Try.prog 99 #[.func (.yield l) #[] #[], .pointer (some ⟨Bs, 0, none⟩)] W fun e W' => (∃ v, e = .returned v) ∧
      ((∃ ys, ys = came bs 0 ∧ J ys W') ∨ (∃ pre, (∃ k, pre = came bs k) ∧ Jx pre W')) := by
  have HC := Aside0.mk hC
  clear hC
  refine callsIn_of_wp Try.func99 rfl h99 ?_ hro
  simp only [Try.ntmps99, List.size_toArray, List.length_cons, List.length_nil, Nat.reduceAdd, Nat.reduceSub, Array.replicate_succ, Array.replicate_zero, List.push_toArray, List.append_toArray, List.nil_append, List.cons_append]
  gi_wp2
  gi_loopw [3] (fun i wr => ∃ k : Nat, k ≤ bs.length ∧ i = .int .i64 ((k : Int) - 1) ∧ Aside0 (J (came bs k) wr) ∧ Aside0 (KpB w0.heap.size Bs W wr))
    (fun i _ => (intOf i + 1).toNat)
  case atStart => exact ⟨bs.length, Nat.le_refl _, rfl, Aside0.mk (by simpa [came] using h0), Aside0.mk ⟨Below.refl _ _, fun _ h => h⟩⟩
  case round =>
    obtain ⟨k, hk, rfl, HJ, HK⟩ := hrel
    have hbx := HK.out.2 _ hBs
    clear hBs
    cases k with
    | zero =>
      gi_wp2
      go_end0
      exact ⟨⟨_, rfl⟩, .inl ⟨_, rfl, HJ.out⟩⟩
    | succ m =>
      have hm : ((m + 1 : Nat) : Int) - 1 = (m : Int) := by omega
      rw [hm]
      obtain ⟨ad, e, hx⟩ := Kd.at_int (Kd.C_below HC.out (hb0.trans HK.out.1)) (m : Int) (by omega) (by omega)
      have hv : rd (bits bs) (m : Int) = bit (bs.getD m false) := by
        rw [rd_nat _ _ (by simp [bits]; omega)]
        simp [bits, show m < bs.length by omega]
      rw [hv] at hx
      cases e
      rw [Int.toNat_natCast] at hx
      have HS := Aside0.mk (came_succ bs m (by omega))
      obtain ⟨b, hb⟩ : ∃ b, b = bs.getD m false := ⟨_, rfl⟩
      rw [← hb] at hx HS
      clear hv hb
      obtain ⟨fn, tmps, assign, body, hy, hR⟩ := hY _ (m, b) wr HJ.out (by rw [came_length]; omega)
      dsimp only at hy
      gi_wp2
      refine hR.mono ?_
      rintro e W3 (⟨rfl, hJ3, hk3⟩ | ⟨rfl, hJx3⟩)
      · -- the round goes on
        have HJ3 := Aside0.mk hJ3
        have HK3 := Aside0.mk hk3
        clear hJ3 hk3
        gi_wp2
        go_roundw
        case rel => exact ⟨m, by omega, rfl, Aside0.mk (by rw [HS.out]; exact HJ3.out), Aside0.mk (HK.out.trans HK3.out)⟩
        case measure => simp [intOf]
      · gi_wp2
        refine bodyPost_ret (results_none rfl _ _ _) rfl ?_
        exact ⟨⟨_, rfl⟩, .inr ⟨_, ⟨m, HS.out.symm⟩, hJx3⟩⟩

set_option maxRecDepth 100000 in
set_option maxHeartbeats 1000000 in
/-- slices.Backward(s): the slice value is boxed; the function value captures the box. -/
theorem backward_in (F : Fence) (n : Nat) (h88 : F.fn 88) (hro : F.round = none) (a : Option Addr) (len cap : Nat) (w : World) :
    CallsIn F n Try.prog 88 #[.slice a len cap] w fun e w' => e = .returned (.func (.func 99) #[] #[.pointer (some ⟨w.heap.size, 0, none⟩)]) ∧ w' = w.alloc (.cells #[.slice a len cap] 22) := by
  refine callsIn_of_wp Try.func88 rfl h88 ?_ hro
  simp only [Try.ntmps88, List.size_toArray, List.length_cons, List.length_nil, Nat.reduceAdd, Nat.reduceSub, Array.replicate_succ, Array.replicate_zero, List.push_toArray, List.append_toArray, List.nil_append, List.cons_append]
  gi_wp2
  go_ret
  exact ⟨rfl, rfl⟩

/-- slices.Backward(s), as the law of the range over a function asks it. -/
theorem backward_stops (F : Fence) (n : Nat) (h99 : F.fn 99) (hro : F.round = none) (hn : 1 ≤ n) (Bs : Nat) (A : Option Addr) (cap : Nat) (bs : List Bool) (hlen : bs.length ≤ 1000) (w0 : World) (hC : Kd.C (Kd.int .i64) w0 A bs.length (bits bs)) (w : World) (hBs : Bs < w.heap.size) (hb0 : Below w0.heap.size w0 w)
    (hc : w.cell? ⟨Bs, 0, none⟩ = some (.slice A bs.length cap)) :
    SeqStopsK F n Try.prog 99 #[.pointer (some ⟨Bs, 0, none⟩)] (fun x : Nat × Bool => #[Value.int .i64 (x.1 : Int), Value.int .i64 (bit x.2)]) (KpB w0.heap.size Bs) (fun ys => ys = came bs 0) (fun pre => ∃ k, pre = came bs k) bs.length w := fun l J Jx W hW _ _ hY h0 => by
  have hc' := (hW.cell (p := ⟨Bs, 0, none⟩) hBs).trans hc
  exact backward1_in F n h99 hro hn l Bs A cap bs hlen w0 hC J Jx hY W (hb0.trans (hW.mono hb0.size)) hc' h0

/-- A dough after the rounds that have come. -/
def und (pre : List (Nat × Bool)) (l : List Int) : List Int := pre.foldl (fun l x => unfoldL (bit x.2) l) l
theorem und_snoc (pre : List (Nat × Bool)) (x : Nat × Bool) (l : List Int) : und (pre ++ [x]) l = unfoldL (bit x.2) (und pre l) := by simp [und]
theorem unfoldL_len (k : Int) (l : List Int) : (unfoldL k l).length = l.length := unfoldL_length k l
theorem und_length : ∀ (pre : List (Nat × Bool)) (l : List Int), (und pre l).length = l.length
  | [], l => rfl
  | x :: pre, l => by
    show (und pre (unfoldL (bit x.2) l)).length = _
    rw [und_length pre, unfoldL_len]
theorem bit_01 (b : Bool) : bit b = 0 ∨ bit b = 1 := by cases b <;> simp [bit]

/-- What holds between two rounds: the cell B of the variable 'out' holds a row of the call's own. -/
def Inv (w : World) (B : Nat) (l : List Int) (pre : List (Nat × Bool)) (W : World) : Prop :=
  (∃ v, Boxed W B 22 v ∧ Kd.R (Kd.int .i64) 3 W w.heap.size (fun k => k ≠ B) v (und pre l)) ∧ Below w.heap.size w W

theorem R_turn {W W' : World} {base : Nat} {ok : Nat → Prop} {v : Value} {xs : List Int} {row : Option Nat} (h : Kd.R (Kd.int .i64) 3 W base ok v xs) (hg : W.grownBy W' row) (hr : ∀ r, row = some r → ∃ o : Obj, W.heap[r]? = some o ∧ o.isCells = false) : Kd.R (Kd.int .i64) 3 W' base ok v xs :=
  Kd.R_mono (Kd.R_move (Kd.R_bound h) (fun k hk => hg.block k hk.2.2.1 (fun e => by
    obtain ⟨_, _, _, q, _, cells, hc⟩ := hk
    obtain ⟨o, ho, hn⟩ := hr k e.symm
    rw [hc] at ho
    injection ho with ho
    subst ho
    simp [Obj.isCells] at hn))) (fun _ hk => hk.1)
theorem inv_own (w : World) (B : Nat) (l : List Int) (S : Nat) (hS : w.heap.size ≤ S) : OwnFrom S (Inv w B l) := by
  rintro pre W W' row ⟨⟨v, hb, hR⟩, hB⟩ hg hr
  refine ⟨⟨v, hb.kept hg (fun e => ?_), R_turn hR hg (fun r e => (hr r e).2)⟩, hB.grown hg hB.size (fun k e => by have := (hr k e).1; omega)⟩
  obtain ⟨_, o, ho, hn⟩ := hr B e.symm
  have hb' : W.heap[B]? = some (.cells #[v] 22 (0, 0)) := hb
  rw [hb'] at ho
  injection ho with ho
  subst ho
  simp [Obj.isCells] at hn

set_option maxRecDepth 100000 in
set_option maxHeartbeats 4000000 in
theorem unfold_main (A0 : Option Addr) (c0 : Nat) (l0 : List Int) (A1 : Option Addr) (c1 : Nat) (bs : List Bool) (w : World) (hr0 : Kd.C (Kd.int .i64) w A0 l0.length l0) (hc0 : l0.length ≤ c0) (hr1 : Kd.C (Kd.int .i64) w A1 bs.length (bits bs)) (hc1 : bs.length ≤ c1)
    (hl : l0.length ≤ 1000) (hbl : bs.length ≤ 1000) (hv : knead_Validate.f l0 = some 0) (hw : knead_worded.f (bits bs) = some 0) :
    CallsIn Fence.wide 4 Try.prog 58 #[.slice A0 l0.length c0, .slice A1 bs.length c1] w fun e w' => ∃ v0_ : Value, e = .returned (.tuple #[v0_, .int .i64 0]) ∧ Kd.R (Kd.int .i64) 3 w' w.heap.size (fun _ => True) v0_ (und (came bs 0) l0) ∧ Below w.heap.size w w' := by
  have hbb : (bits bs).length = bs.length := by simp [bits]
  have hcl : slices_Clone_int_int.f l0 = some l0 := by unfold slices_Clone_int_int.f; rw [if_pos (by omega)]
  have CV := Aside0.mk (fun w' h => knead_Validate.calls A0 c0 l0 0 w' h hc0 hv)
  have CW := Aside0.mk (fun w' (h : Kd.C (Kd.int .i64) w' A1 bs.length (bits bs)) => knead_worded.calls A1 c1 (bits bs) 0 w' (by rw [hbb]; exact h) (by rw [hbb]; exact hc1) hw)
  rw [hbb] at CW
  have CC := Aside0.mk (fun w' h => slices_Clone_int_int.calls A0 c0 l0 l0 w' h hc0 hcl)
  have HR0 := Aside0.mk hr0
  have HR1 := Aside0.mk hr1
  have h1 : (1 : Nat) ≤ 4 := by omega
  clear hr0 hr1 hv hw hcl hbb
  refine callsIn_of_wp_marks Try.func58 rfl trivial ?_ rfl
  simp only [Try.ntmps58, List.size_toArray, List.length_cons, List.length_nil, Nat.reduceAdd, Nat.reduceSub, Array.replicate_succ, Array.replicate_zero, List.push_toArray, List.append_toArray, List.nil_append, List.cons_append]
  gi_wp2_with (first
    | (refine ⟨trivial, ?_⟩; gi_at_call 45; refine (callsIn_wide.2 (CV.out _ HR0.out)).mono ?_; rintro e w' ⟨rfl, ⟨nd, rfl⟩⟩)
    | (refine ⟨trivial, ?_⟩; gi_at_call 56; refine (callsIn_wide.2 (CW.out _ (Kd.C_drewN HR1.out _))).mono ?_; rintro e w' ⟨rfl, ⟨nd2, rfl⟩⟩)
    | (refine ⟨trivial, ?_⟩; gi_at_call 55; refine (callsIn_wide.2 (CC.out _ (Kd.C_drewN HR0.out _))).mono ?_; rintro e w1 ⟨v1, rfl, hR, hB⟩; have HO := Aside0.mk hR; have HB := Aside0.mk hB; clear hR hB; obtain ⟨Ax, cx, ex⟩ := Kd.R_slice HO.out; subst ex)
    | (refine ⟨trivial, ?_⟩; gi_at_call 88; refine (backward_in Fence.wide 3 trivial rfl _ _ _ _).mono ?_; rintro e w2 ⟨rfl, rfl⟩))
  have hw1 : Below w.heap.size w w1 := below_step (pw_below_drewN (Below.refl _ _) _) HB.out
  have hRl := Kd.R_lower HO.out (Nat.le_refl w.heap.size)
  have hsz : w.heap.size ≤ w1.heap.size := below_size hw1
  have hB2 : Below w.heap.size w ((w1.alloc (.cells #[.slice Ax l0.length cx] 22)).alloc (.cells #[.slice A1 bs.length c1] 22)) := below_alloc (below_alloc hw1 _) _
  have bO := (Boxed.new w1 22 (.slice Ax l0.length cx)).alloc (.cells #[.slice A1 bs.length c1] 22)
  have bN := Boxed.new (w1.alloc (.cells #[.slice Ax l0.length cx] 22)) 22 (.slice A1 bs.length c1)
  rw [World.size_alloc] at bN
  have hI0 : Inv w w1.heap.size l0 [] ((w1.alloc (.cells #[.slice Ax l0.length cx] 22)).alloc (.cells #[.slice A1 bs.length c1] 22)) :=
    ⟨⟨_, bO, Kd.R_alloc (Kd.R_alloc (Kd.R_mono (Kd.R_bound hRl) (fun k hk => by have := hk.2.2.1; omega)) _) _⟩, hB2⟩
  obtain ⟨W2, hW2⟩ : ∃ W2, (w1.alloc (.cells #[.slice Ax l0.length cx] 22)).alloc (.cells #[.slice A1 bs.length c1] 22) = W2 := ⟨_, rfl⟩
  have hs2 : W2.heap.size = w1.heap.size + 2 := by rw [← hW2]; simp
  rw [hW2] at bO bN hI0 hB2 ⊢
  clear hRl
  refine wpIn_rangeFunc_ownG rfl h1 (gf := 99) (lb := #[.pointer (some ⟨w1.heap.size + 1, 0, none⟩)]) rfl trivial (enters_of Try.func99 (by kernel_rfl) rfl)
    (backward_stops Fence.wide 3 trivial rfl (by omega) (w1.heap.size + 1) A1 c1 bs hbl w HR1.out W2 (by omega) hB2 bN.cell)
    (fun h k => KpB.trans h k) (fun W l o o' hl h hc hw => ⟨belowK_b (w := W2) (by omega) W l o o' hl h hc hw, fun v hv => cell_kept hv (grownBy_putObj' W l o') (fun r e => by cases e; exact ⟨o, h, hc⟩)⟩) (Below.refl _ _) (fun _ => rfl)
    (Inv w w1.heap.size l0) (fun _ _ _ => False) (inv_own w w1.heap.size l0 W2.heap.size (by omega)) (fun _ _ _ _ _ hs _ _ => hs) hI0
    (fun x => { tmps := #[.slice A0 l0.length c0, .slice A1 bs.length c1, undef, undef, .slice none 0 0, .int .i64 0, .int .i64 0, .int .i64 0, .pointer (some ⟨w1.heap.size, 0, none⟩), undef, .int .i64 (bit x.2), .slice A0 l0.length c0,
      .int .i64 0, .int .i64 0, .bool false, undef, .slice A1 bs.length c1, .int .i64 0, .int .i64 0, .bool false, undef, .slice A0 l0.length c0, .slice Ax l0.length cx, .slice A1 bs.length c1,
      .func (.func 99) #[] #[.pointer (some ⟨w1.heap.size + 1, 0, none⟩)], .int .i64 (x.1 : Int), .int .i64 (bit x.2), undef, undef, undef, undef], defers := [] }) ?assign ?body ?done ?stop
  case assign =>
    intro l x W K hK
    gi_wp2
    exact hK
  case body =>
    rintro l pre x W ⟨⟨v, hb, hR⟩, hB⟩ _
    obtain ⟨Av, cv, rfl⟩ := Kd.R_slice hR
    have hc := hb.cell
    have hul := und_length pre l0
    have CU := Aside0.mk (knead_unfold.calls Av cv (und pre l0) (bit x.2) (unfoldL (bit x.2) (und pre l0)) W (Kd.R_reads' hR).2.2 (Kd.R_reads' hR).2.1 (by unfold knead_unfold.f; rw [if_pos ⟨by omega, bit_01 _⟩]))
    rw [hul] at CU hc
    have HRv := Aside0.mk hR
    have HBv := Aside0.mk hB
    clear hR hB
    gi_wp2_with (refine ⟨trivial, ?_⟩; gi_at_call 80; refine (CallsIn.inRound l (callsIn_wide.2 CU.out)).mono ?_; rintro e w3 ⟨v3, rfl, hR3, hB3⟩; have hb3 : Boxed w3 w1.heap.size 22 _ := (hB3.block _ hb.lt).trans hb; have hc3 := hb3.cell; have hf3 := hb3.frozen; have HR3 := Aside0.mk hR3; have HB3 := Aside0.mk hB3; clear hR3 hB3 hc; obtain ⟨A3, c3, e3⟩ := Kd.R_slice HR3.out; subst e3)
    have hWs := below_size HB3.out
    refine ⟨((KeepsOthers.of_grownBy (row := none) ⟨HB3.out.os, HB3.out.tape, HB3.out.output, HB3.out.size, fun k hk _ => HB3.out.block k hk⟩ (fun _ _ e _ => by cases e)).trans (KeepsOthers.setCell _ _ _)).from _, ⟨?_, ?_⟩, ⟨⟨_, hb3.set _, ?_⟩, ?_⟩⟩
    · exact (HB3.out.mono HBv.out.size).setCell (p := ⟨w1.heap.size, 0, none⟩) hsz _
    · intro v' hv'
      have hlt : w1.heap.size + 1 < W.heap.size := World.block_lt_of_cell? W _ hv'
      exact (World.cell?_setCell_other w3 ⟨w1.heap.size, 0, none⟩ ⟨w1.heap.size + 1, 0, none⟩ _ (by simp)).trans ((HB3.out.cell (p := ⟨w1.heap.size + 1, 0, none⟩) hlt).trans hv')
    · rw [und_snoc]
      exact Kd.R_far (p := ⟨w1.heap.size, 0, none⟩) (Kd.R_lower (Kd.R_mono (ok' := fun k => k ≠ w1.heap.size) (Kd.R_bound HR3.out) (fun k hk => by have := hk.2.1; have := hb.lt; omega)) HBv.out.size) (fun _ hk => hk) _
    · exact (below_step HBv.out HB3.out).setCell (p := ⟨w1.heap.size, 0, none⟩) hsz _
  case done =>
    rintro D ys W hD rfl ⟨⟨v, hb, hR⟩, hB⟩ hK
    have hc := hb.cell
    obtain ⟨Ay, cy, ey⟩ := Kd.R_slice hR
    subst ey
    have HRy := Aside0.mk hR
    have HBy := Aside0.mk hB
    clear hR hB
    gi_wp2
    refine ⟨by simp, .inl ⟨_, _, rfl, run_takeDeferred hK, ?_⟩⟩
    refine ⟨_, results_tmp2 rfl _ _ _, ⟨_, rfl, ?_, ?_⟩⟩
    · exact R_turn (Kd.R_mono HRy.out (fun _ _ => trivial)) (grownBy_putObj' W D (.deferred none)) (fun r e => by cases e; exact ⟨_, hK, rfl⟩)
    · exact HBy.out.trans (belowK_b (w := w) (Nat.le_refl _) W D _ _ (by omega) hK rfl rfl)
  case stop =>
    rintro D c pre W _ _ h _
    exact h.elim

theorem came_all (bs : List Bool) : (came bs 0).map Prod.snd = bs.reverse := by
  apply List.ext_getElem
  · simp [came]
  · intro i h1 h2
    have hi : i < bs.length := by simpa [came] using h1
    simp [came, show bs.length - 1 - i < bs.length by omega]
theorem und_snd : ∀ (pre : List (Nat × Bool)) (l : List Int), und pre l = ((pre.map Prod.snd).map bit).foldl (fun l k => unfoldL k l) l
  | [], _ => rfl
  | x :: pre, l => by
    show und pre (unfoldL (bit x.2) l) = _
    rw [und_snd pre]
    rfl
theorem und_all (bs : List Bool) (l : List Int) : und (came bs 0) l = unfoldsL (bits bs) l := by
  rw [und_snd, came_all, List.map_reverse, List.foldl_reverse]
  rfl
theorem kinds_bits {w : List Int} (h : ∀ x ∈ w, x = 0 ∨ x = 1) : ∃ bs : List Bool, w = bits bs := by
  refine ⟨w.map (fun x => decide (x = 1)), ?_⟩
  unfold bits
  rw [List.map_map]
  symm
  rw [List.map_congr_left (g := id) (fun x hx => ?_)]
  · exact List.map_id w
  · rcases h x hx with rfl | rfl <;> simp [bit]

def knead_Unfold.f (l0 l1 : List Int) : Option (List Int × Int) := (knead_Validate.f l0).bind fun t => if t = 0 then ((knead_worded.f l1).bind fun u => if u = 0 then (if l0.length ≤ 1000 then some (unfoldsL l1 l0, 0) else none) else some ([], u)) else some ([], t)

theorem worded_bits {l : List Int} (h : knead_worded.f l = some 0) : l.length ≤ 40 ∧ ∃ bs : List Bool, l = bits bs := by
  unfold knead_worded.f at h
  injection h with h
  split at h
  · cases h
  · split at h
    · cases h
    · rename_i h1 h2
      refine ⟨by omega, kinds_bits fun x hx => ?_⟩
      have h3 : l.any badK = false := by simpa using h2
      rw [List.any_eq_false] at h3
      have h4 := h3 x hx
      unfold badK at h4
      by_cases h0 : x = 0
      · exact .inl h0
      · by_cases h1 : x = 1
        · exact .inr h1
        · simp [h0, h1] at h4

set_option maxHeartbeats 2000000 in
set_option maxRecDepth 100000 in
theorem knead_Unfold.calls (A0 : Option Addr) (c0 : Nat) (l0 : List Int) (A1 : Option Addr) (c1 : Nat) (l1 : List Int) (r1 : List Int) (r2 : Int) (w : World) (hr0 : Kd.C (Kd.int .i64) w A0 l0.length l0) (hc0 : l0.length ≤ c0) (hr1 : Kd.C (Kd.int .i64) w A1 l1.length l1) (hc1 : l1.length ≤ c1) (h : knead_Unfold.f l0 l1 = some (r1, r2)) :
    Calls Try.prog 58 #[.slice A0 l0.length c0, .slice A1 l1.length c1] w fun e w' => ∃ v0_ : Value, e = .returned (.tuple #[v0_, .int .i64 r2]) ∧ Kd.R (Kd.int .i64) 3 w' w.heap.size (fun _ => True) v0_ r1 ∧ Below w.heap.size w w' := by
  unfold knead_Unfold.f at h
  obtain ⟨t, ht, h⟩ := Option.bind_eq_some_iff.mp h
  by_cases hz : t = 0
  · rw [if_pos hz] at h
    subst hz
    obtain ⟨u, hu, h⟩ := Option.bind_eq_some_iff.mp h
    by_cases hz2 : u = 0
    · rw [if_pos hz2] at h
      subst hz2
      by_cases hl : l0.length ≤ 1000
      · rw [if_pos hl] at h
        simp only [Option.some.injEq, Prod.mk.injEq] at h
        obtain ⟨rfl, rfl⟩ := h
        obtain ⟨hl1, bs, rfl⟩ := worded_bits hu
        have hbb : (bits bs).length = bs.length := by simp [bits]
        rw [hbb] at hr1 hc1 hl1 ⊢
        rw [← und_all]
        exact (callsIn_wide (n := 4)).1 (unfold_main A0 c0 l0 A1 c1 bs w hr0 hc0 hr1 hc1 hl (by omega) ht hu)
      · rw [if_neg hl] at h
        cases h
    · rw [if_neg hz2] at h
      simp only [Option.some.injEq, Prod.mk.injEq] at h
      obtain ⟨rfl, rfl⟩ := h
      have hb : (u != 0) = true := bne_iff_ne.mpr hz2
      have HR0 := Aside0.mk hr0
      have HR1 := Aside0.mk hr1
      have HT := Aside0.mk ht
      have HU := Aside0.mk hu
      clear hr0 hr1 ht hu
      go_enter Try.func58, Try.ntmps58
      go_wp2_with (first | (go_at_call 45; refine (knead_Validate.calls _ _ l0 0 _ HR0.out hc0 HT.out).mono ?_; rintro e w' ⟨rfl, ⟨nd, rfl⟩⟩) | (go_at_call 56; refine (knead_worded.calls _ _ l1 u _ (Kd.C_drewN HR1.out _) hc1 HU.out).mono ?_; rintro e w' ⟨rfl, ⟨nd, rfl⟩⟩) | go_in)
      go_ret2
      exact ⟨_, rfl, Kd.R_nil _ _ _ _ _, by repeat (first | exact Below.refl _ _ | apply pw_below_drewN)⟩
  · rw [if_neg hz] at h
    simp only [Option.some.injEq, Prod.mk.injEq] at h
    obtain ⟨rfl, rfl⟩ := h
    have hb : (t != 0) = true := bne_iff_ne.mpr hz
    have HR0 := Aside0.mk hr0
    have HT := Aside0.mk ht
    clear hr0 ht
    go_enter Try.func58, Try.ntmps58
    go_wp2_with (first | (go_at_call 45; refine (knead_Validate.calls _ _ l0 t _ HR0.out hc0 HT.out).mono ?_; rintro e w' ⟨rfl, ⟨nd, rfl⟩⟩) | go_in)
    go_ret2
    exact ⟨_, rfl, Kd.R_nil _ _ _ _ _, by exact pw_below_drewN (Below.refl _ _) _⟩
end Go.Proofs.Ytgnklmhjejbcoaa.K

/- DERIVED by wip/pr.py: for each Go function named below a Lean function with the same answers, and that a call of it comes to these answers, for all arguments and memories, where the Lean function has an answer. -/
namespace Go.Proofs.Ytgnklmhjejbcoaa.K
open Go.RowKit Go.Proofs.YtgnklmhjejbcoaaW.PrintWords Go.Proofs.YtgnklmhjejbcoaaW.PrintLast Go.Proofs.YtgnklmhjejbcoaaW.PrintMore
attribute [local go_sem] max2_int min2_int max_two min_two max_three min_three max_four min_four   -- for this text's walks alone
set_option linter.unusedVariables false
set_option linter.unusedSimpArgs false

/-! ### knead_Still: function 57 -/
def knead_Still.l0 : Nat → Int → List Int → Int → Int → Option (Int × Int)
  | 0, _, _, _, _ => none
  | k + 1, x7, x19, x20, x21 => if x21 < x20 then (if 0 ≤ x21 then (if x21 < (x19.length : Int) then (if x21 = (rd x19 x21) then (knead_Still.l0 k (wrap64 (x7 + 1)) x19 x20 (wrap64 (x21 + 1))) else (knead_Still.l0 k x7 x19 x20 (wrap64 (x21 + 1)))) else (none)) else (none)) else (some (x7, 0))
def knead_Still.f (k : Nat) (a0 : Int) (l1 : List Int) : Option (Int × Int) := (knead_asked.f a0 l1).bind fun t126 => (if t126 = 0 then ((knead_fresh.f k a0).bind fun t127 => ((knead_folded.f k t127 l1).bind fun t130 => (knead_Still.l0 k 0 t130 (t130.length : Int) 0))) else (some (0, t126)))
theorem knead_Still.mono_l : ∀ k, (∀ y0 y1 y2 y3, LeO (knead_Still.l0 k y0 y1 y2 y3) (knead_Still.l0 (k + 1) y0 y1 y2 y3))
  | 0 => fun _ _ _ _ r h => by simp [knead_Still.l0] at h
  | k + 1 => by
    have ih0 := knead_Still.mono_l k
    · intro y0 y1 y2 y3
      unfold knead_Still.l0
      repeat' first
      | (with_reducible exact ih0 _ _ _ _)
      | (with_reducible exact knead_folded.mono _ _ _)
      | (with_reducible exact knead_fresh.mono _ _)
      | (with_reducible exact LeO.refl _)
      | (with_reducible exact LeO.none _)
      | (with_reducible refine LeO.ite ?_ ?_)
      | (with_reducible refine LeO.bind ?_ (fun _ => ?_))
      | exact ih0 _ _ _ _
      | exact knead_folded.mono _ _ _
      | exact knead_fresh.mono _ _
      | exact LeO.none _
      | refine LeO.ite ?_ ?_
      | refine LeO.bind ?_ (fun _ => ?_)
theorem knead_Still.mono : ∀ a0 a1 k, LeO (knead_Still.f k a0 a1) (knead_Still.f (k + 1) a0 a1) := by
  intro a0 a1 k
  have ih0 := knead_Still.mono_l k
  unfold knead_Still.f
  repeat' first
      | (with_reducible exact ih0 _ _ _ _)
      | (with_reducible exact knead_folded.mono _ _ _)
      | (with_reducible exact knead_fresh.mono _ _)
      | (with_reducible exact LeO.refl _)
      | (with_reducible exact LeO.none _)
      | (with_reducible refine LeO.ite ?_ ?_)
      | (with_reducible refine LeO.bind ?_ (fun _ => ?_))
      | exact ih0 _ _ _ _
      | exact knead_folded.mono _ _ _
      | exact knead_fresh.mono _ _
      | exact LeO.none _
      | refine LeO.ite ?_ ?_
      | refine LeO.bind ?_ (fun _ => ?_)
set_option maxHeartbeats 8000000 in
set_option maxRecDepth 100000 in
theorem knead_Still.calls (k : Nat) (a0 : Int) (A1 : Option Addr) (c1 : Nat) (l1 : List Int) (r1 : Int) (r2 : Int) (w : World) (hr1 : Kd.C (Kd.int .i64) w A1 l1.length l1) (hc1 : l1.length ≤ c1) (h : knead_Still.f k a0 l1 = some (r1, r2)) :
    Calls Try.prog 57 #[.int .i64 a0, .slice A1 l1.length c1] w fun e w' => e = .returned (.tuple #[.int .i64 r1, .int .i64 r2]) ∧ Below w.heap.size w w' := by
  have HR1 := Aside0.mk hr1
  have HC1 := Aside0.mk hc1
  clear hr1 hc1
  have HB := Aside0.mk (Below.refl w.heap.size w)
  have H : ((knead_asked.f a0 l1).bind fun t126 => (if t126 = 0 then ((knead_fresh.f k a0).bind fun t127 => ((knead_folded.f k t127 l1).bind fun t130 => (knead_Still.l0 k 0 t130 (t130.length : Int) 0))) else (some (0, t126)))) = some (r1, r2) := h
  clear h
  replace H := Option.bind_eq_some_iff.mp H
  obtain ⟨t126, A30, H⟩ := H
  replace H : (if t126 = 0 then ((knead_fresh.f k a0).bind fun t127 => ((knead_folded.f k t127 l1).bind fun t130 => (knead_Still.l0 k 0 t130 (t130.length : Int) 0))) else (some (0, t126))) = some (r1, r2) := H
  have A3 := Aside0.mk A30
  clear A30
  by_cases c4 : t126 = 0
  · rw [if_pos c4] at H
    have c4b0 : (t126 == 0) = true := beq_iff_eq.mpr c4
    have c4b1 : (t126 != 0) = false := bne_eq_false_iff_eq.mpr c4
    clear c4
    replace H := Option.bind_eq_some_iff.mp H
    obtain ⟨t127, A50, H⟩ := H
    replace H : ((knead_folded.f k t127 l1).bind fun t130 => (knead_Still.l0 k 0 t130 (t130.length : Int) 0)) = some (r1, r2) := H
    have A5 := Aside0.mk A50
    clear A50
    replace H := Option.bind_eq_some_iff.mp H
    obtain ⟨t130, A60, H⟩ := H
    replace H : (knead_Still.l0 k 0 t130 (t130.length : Int) 0) = some (r1, r2) := H
    have A6 := Aside0.mk A60
    clear A60
    have H' := Aside0.mk H
    clear H
    go_enter Try.func57, Try.ntmps57
    go_wp2_with (first | ((with_reducible refine gate_callee (f := 87) rfl ?_); refine goesL_ (some 12) rfl rfl Try.func87 (by kernel_rfl) rfl #[.int .i64 a0, .slice A1 l1.length c1] rfl (by (try simp only [List.map_toArray, List.map_cons, List.map_nil]); first | done | rfl | (simp only [List.length_drop, List.length_take]; rfl)) ?_; (with_reducible refine (knead_asked.calls a0 _ _ l1 t126 _ ?side1 ?side2 A3.out).mono ?_); (case side1 => repeat (first | exact HR1.out | (with_reducible refine Kd.C_alloc ?_ _) | (with_reducible refine Kd.C_drewN ?_ _) | (with_reducible refine Kd.C_drew ?_))); (case side2 => exact HC1.out); rintro e w' ⟨rfl, ⟨nd, rfl⟩⟩; refine ⟨_, rfl, ?_⟩) | ((with_reducible refine gate_callee (f := 69) rfl ?_); refine goesL_ (some 17) rfl rfl Try.func69 (by kernel_rfl) rfl #[.int .i64 a0] rfl (by (try simp only [List.map_toArray, List.map_cons, List.map_nil]); first | done | rfl | (simp only [List.length_drop, List.length_take]; rfl)) ?_; (with_reducible refine (knead_fresh.calls k a0 t127 _ A5.out).mono ?_); rintro e w7 ⟨v128, rfl, ho0, hb⟩; refine ⟨_, rfl, ?_⟩; have n0_ := Aside0.mk (Kd.R_lower ho0 (below_size (by repeat (first | (with_reducible first | exact HB.out | apply below_alloc | apply pw_below_drewN | apply below_drew1) | exact HB.out)))); have n1_ := Aside0.mk (below_step (by repeat (first | (with_reducible first | exact HB.out | apply below_alloc | apply pw_below_drewN | apply below_drew1) | exact HB.out)) hb); clear HB; have HO129 := n0_; have HB := n1_; clear n0_ n1_; (try clear hb); (try clear hb2); (try clear hk); (try clear hi); (try clear ho0); obtain ⟨Ao8, co8, eo8⟩ := Kd.R_slice HO129.out; subst eo8) | ((with_reducible refine gate_callee (f := 71) rfl ?_); refine goesL_ (some 19) rfl rfl Try.func71 (by kernel_rfl) rfl #[.slice Ao8 t127.length co8, .slice A1 l1.length c1] rfl (by (try simp only [List.map_toArray, List.map_cons, List.map_nil]); first | done | rfl | (simp only [List.length_drop, List.length_take]; rfl)) ?_; (with_reducible refine (knead_folded.calls k _ _ t127 _ _ l1 t130 _ ?side1 ?side2 ?side3 ?side4 A6.out).mono ?_); (case side1 => repeat (first | exact (Kd.R_reads' HO129.out).2.2 | (with_reducible refine Kd.C_alloc ?_ _) | (with_reducible refine Kd.C_drewN ?_ _) | (with_reducible refine Kd.C_drew ?_))); (case side2 => exact (Kd.R_reads' HO129.out).2.1); (case side3 => repeat (first | exact (Kd.C_below HR1.out HB.out) | (with_reducible refine Kd.C_alloc ?_ _) | (with_reducible refine Kd.C_drewN ?_ _) | (with_reducible refine Kd.C_drew ?_))); (case side4 => exact HC1.out); rintro e w9 ⟨v131, rfl, ho0, hb⟩; refine ⟨_, rfl, ?_⟩; have n0_ := Aside0.mk (Kd.R_elder' (by (with_reducible repeat (first | apply Kd.R_alloc | apply Kd.R_drewN | apply Kd.R_drew)); exact HO129.out) (Kd.R_base ho0) hb); have n1_ := Aside0.mk (Kd.R_lower (Kd.R_new' ho0 (Kd.R_lt (by (with_reducible repeat (first | apply Kd.R_alloc | apply Kd.R_drewN | apply Kd.R_drew)); exact HO129.out))) (below_size (by repeat (first | (with_reducible first | exact HB.out | apply below_alloc | apply pw_below_drewN | apply below_drew1) | exact HB.out)))); have n2_ := Aside0.mk (below_step (by repeat (first | (with_reducible first | exact HB.out | apply below_alloc | apply pw_below_drewN | apply below_drew1) | exact HB.out)) hb); clear HO129; clear HB; have HO129 := n0_; have HO132 := n1_; have HB := n2_; clear n0_ n1_ n2_; (try clear hb); (try clear hb2); (try clear hk); (try clear hi); (try clear ho0); obtain ⟨Ao10, co10, eo10⟩ := Kd.R_slice HO132.out; subst eo10))
    go_loopg [7, 21] k (fun kq v7 v21 w' => ∃ (x7_1 : Int) (x21_1 : Int), v7 = .int .i64 x7_1 ∧ v21 = .int .i64 x21_1 ∧ Aside0 (knead_Still.l0 kq x7_1 t130 (t130.length : Int) x21_1 = some (r1, r2)) ∧ Aside0 (kq ≤ k) ∧ Aside0 (Kd.R (Kd.int .i64) 3 w' w.heap.size (fun _ => True) (.slice Ao10 t130.length co10) t130) ∧ Aside0 (Below w.heap.size w w'))
    case atStart => exact ⟨(0), (0), (by first | rfl | (simp; done) | (simp [*]; done)), (by first | rfl | (simp; done) | (simp [*]; done)), H', ⟨Nat.le_refl _⟩, ⟨by (with_reducible repeat (first | apply Kd.R_alloc | apply Kd.R_drewN | apply Kd.R_drew)); exact Kd.R_mono HO132.out (fun _ hk => trivial)⟩, ⟨by repeat (first | (with_reducible first | exact HB.out | apply below_alloc | apply pw_below_drewN | apply below_drew1) | exact HB.out)⟩⟩
    case round =>
      clear H'
      try clear c1
      try clear p2
      try clear c4
      try clear c4b0
      try clear c4b1
      try clear c5
      try clear c6
      try clear c7
      try clear c8
      obtain ⟨x7_1, x21_1, rfl, rfl, HA, HK1, HO_19, HB⟩ := hrel
      cases gk with
      | zero => exact absurd HA.out (by simp [knead_Still.l0])
      | succ k1 =>
        have H := HA.out
        clear HA
        simp only [knead_Still.l0] at H
        by_cases c11 : x21_1 < (t130.length : Int)
        · rw [if_pos c11] at H
          have c11b0 : decide (x21_1 < (t130.length : Int)) = true := decide_eq_true c11
          clear c11
          by_cases c12 : 0 ≤ x21_1
          · rw [if_pos c12] at H
            have c12b0 : decide (0 ≤ x21_1) = true := decide_eq_true c12
            clear c12
            by_cases c13 : x21_1 < (t130.length : Int)
            · rw [if_pos c13] at H
              have c13b0 : decide (x21_1 < (t130.length : Int)) = true := decide_eq_true c13
              clear c13
              by_cases c14 : x21_1 = (rd t130 x21_1)
              · rw [if_pos c14] at H
                have c14b0 : (x21_1 == (rd t130 x21_1)) = true := beq_iff_eq.mpr c14
                have c14b1 : (x21_1 != (rd t130 x21_1)) = false := bne_eq_false_iff_eq.mpr c14
                clear c14
                have H' := Aside0.mk H
                clear H
                have p133 : 0 ≤ (x21_1 : Int) := of_decide_eq_true (by first | (with_reducible assumption) | assumption)
                have q133 : x21_1 < (t130.length : Int) := of_decide_eq_true (by first | (with_reducible assumption) | assumption)
                obtain ⟨ad133, e133, hx133_0⟩ := Kd.at_int (Kd.R_reads' HO_19.out).2.2 x21_1 p133 q133
                cases e133
                replace p133 := eq_true p133
                replace q133 := eq_true q133
                go_wp2
                go_roundg k1
                case measure => have := HK1.out; omega
                case rel => exact ⟨(wrap64 (x7_1 + 1)), (wrap64 (x21_1 + 1)), (by first | rfl | (simp; done) | (simp [*]; done)), (by first | rfl | (simp; done) | (simp [*]; done)), H', ⟨by have := HK1.out; omega⟩, ⟨by (with_reducible repeat (first | apply Kd.R_alloc | apply Kd.R_drewN | apply Kd.R_drew)); exact HO_19.out⟩, ⟨by repeat (first | (with_reducible first | exact HB.out | apply below_alloc | apply pw_below_drewN | apply below_drew1) | exact HB.out)⟩⟩
              · rw [if_neg c14] at H
                have c14b0 : (x21_1 == (rd t130 x21_1)) = false := beq_eq_false_iff_ne.mpr c14
                have c14b1 : (x21_1 != (rd t130 x21_1)) = true := bne_iff_ne.mpr c14
                have H' := Aside0.mk H
                clear H
                have p133 : 0 ≤ (x21_1 : Int) := of_decide_eq_true (by first | (with_reducible assumption) | assumption)
                have q133 : x21_1 < (t130.length : Int) := of_decide_eq_true (by first | (with_reducible assumption) | assumption)
                obtain ⟨ad133, e133, hx133_0⟩ := Kd.at_int (Kd.R_reads' HO_19.out).2.2 x21_1 p133 q133
                cases e133
                replace p133 := eq_true p133
                replace q133 := eq_true q133
                go_wp2
                go_roundg k1
                case measure => have := HK1.out; omega
                case rel => exact ⟨(x7_1), (wrap64 (x21_1 + 1)), (by first | rfl | (simp; done) | (simp [*]; done)), (by first | rfl | (simp; done) | (simp [*]; done)), H', ⟨by have := HK1.out; omega⟩, ⟨by (with_reducible repeat (first | apply Kd.R_alloc | apply Kd.R_drewN | apply Kd.R_drew)); exact HO_19.out⟩, ⟨by repeat (first | (with_reducible first | exact HB.out | apply below_alloc | apply pw_below_drewN | apply below_drew1) | exact HB.out)⟩⟩
            · rw [if_neg c13] at H
              exact absurd H (by simp)
          · rw [if_neg c12] at H
            exact absurd H (by simp)
        · rw [if_neg c11] at H
          have c11b0 : decide (x21_1 < (t130.length : Int)) = false := decide_eq_false c11
          clear c11
          simp only [Option.some.injEq, Prod.mk.injEq] at H
          obtain ⟨rfl, rfl⟩ := H
          go_wp2
          go_ret2
          exact ⟨by first | rfl | (simp [errW_none, errW_some] <;> rfl) | (simp [*, errW_none, errW_some] <;> rfl), by repeat (first | (with_reducible first | exact HB.out | apply below_alloc | apply pw_below_drewN | apply below_drew1) | exact HB.out)⟩
  · rw [if_neg c4] at H
    have c4b0 : (t126 == 0) = false := beq_eq_false_iff_ne.mpr c4
    have c4b1 : (t126 != 0) = true := bne_iff_ne.mpr c4
    simp only [Option.some.injEq, Prod.mk.injEq] at H
    obtain ⟨rfl, rfl⟩ := H
    go_enter Try.func57, Try.ntmps57
    go_wp2_with (first | ((with_reducible refine gate_callee (f := 87) rfl ?_); refine goesL_ (some 12) rfl rfl Try.func87 (by kernel_rfl) rfl #[.int .i64 a0, .slice A1 l1.length c1] rfl (by (try simp only [List.map_toArray, List.map_cons, List.map_nil]); first | done | rfl | (simp only [List.length_drop, List.length_take]; rfl)) ?_; (with_reducible refine (knead_asked.calls a0 _ _ l1 t126 _ ?side1 ?side2 A3.out).mono ?_); (case side1 => repeat (first | exact HR1.out | (with_reducible refine Kd.C_alloc ?_ _) | (with_reducible refine Kd.C_drewN ?_ _) | (with_reducible refine Kd.C_drew ?_))); (case side2 => exact HC1.out); rintro e w' ⟨rfl, ⟨nd, rfl⟩⟩; refine ⟨_, rfl, ?_⟩))
    go_ret2
    exact ⟨by first | rfl | (simp [errW_none, errW_some] <;> rfl) | (simp [*, errW_none, errW_some] <;> rfl), by repeat (first | (with_reducible first | exact HB.out | apply below_alloc | apply pw_below_drewN | apply below_drew1) | exact HB.out)⟩

end Go.Proofs.Ytgnklmhjejbcoaa.K

/- DERIVED by wip/pr.py: for each Go function named below a Lean function with the same answers, and that a call of it comes to these answers, for all arguments and memories, where the Lean function has an answer. -/
namespace Go.Proofs.Ytgnklmhjejbcoaa.K
open Go.RowKit Go.Proofs.YtgnklmhjejbcoaaW.PrintWords Go.Proofs.YtgnklmhjejbcoaaW.PrintLast Go.Proofs.YtgnklmhjejbcoaaW.PrintMore
attribute [local go_sem] max2_int min2_int max_two min_two max_three min_three max_four min_four   -- for this text's walks alone
set_option linter.unusedVariables false
set_option linter.unusedSimpArgs false

/-! ### knead_Same: function 59 -/
def knead_Same.f (k : Nat) (a0 : Int) (l1 : List Int) (l2 : List Int) : Option (Bool × Int) := (knead_asked.f a0 l1).bind fun t136 => (if t136 = 0 then ((knead_worded.f l2).bind fun t137 => (if t137 = 0 then ((knead_fresh.f k a0).bind fun t138 => ((knead_folded.f k t138 l1).bind fun t141 => ((knead_fresh.f k a0).bind fun t144 => ((knead_folded.f k t144 l2).bind fun t147 => ((slices_Equal_int_int.f k t141 t147).bind fun t150 => (some (t150, 0))))))) else (some (false, t137)))) else (some (false, t136)))
theorem knead_Same.mono : ∀ a0 a1 a2 k, LeO (knead_Same.f k a0 a1 a2) (knead_Same.f (k + 1) a0 a1 a2) := by
  intro a0 a1 a2 k
  unfold knead_Same.f
  repeat' first
      | (with_reducible exact knead_folded.mono _ _ _)
      | (with_reducible exact knead_fresh.mono _ _)
      | (with_reducible exact slices_Equal_int_int.mono _ _ _)
      | (with_reducible exact LeO.refl _)
      | (with_reducible exact LeO.none _)
      | (with_reducible refine LeO.ite ?_ ?_)
      | (with_reducible refine LeO.bind ?_ (fun _ => ?_))
      | exact knead_folded.mono _ _ _
      | exact knead_fresh.mono _ _
      | exact slices_Equal_int_int.mono _ _ _
      | exact LeO.none _
      | refine LeO.ite ?_ ?_
      | refine LeO.bind ?_ (fun _ => ?_)
set_option maxHeartbeats 8000000 in
set_option maxRecDepth 100000 in
theorem knead_Same.calls (k : Nat) (a0 : Int) (A1 : Option Addr) (c1 : Nat) (l1 : List Int) (A2 : Option Addr) (c2 : Nat) (l2 : List Int) (r1 : Bool) (r2 : Int) (w : World) (hr1 : Kd.C (Kd.int .i64) w A1 l1.length l1) (hc1 : l1.length ≤ c1) (hr2 : Kd.C (Kd.int .i64) w A2 l2.length l2) (hc2 : l2.length ≤ c2) (h : knead_Same.f k a0 l1 l2 = some (r1, r2)) :
    Calls Try.prog 59 #[.int .i64 a0, .slice A1 l1.length c1, .slice A2 l2.length c2] w fun e w' => e = .returned (.tuple #[.bool r1, .int .i64 r2]) ∧ Below w.heap.size w w' := by
  have HR1 := Aside0.mk hr1
  have HC1 := Aside0.mk hc1
  clear hr1 hc1
  have HR2 := Aside0.mk hr2
  have HC2 := Aside0.mk hc2
  clear hr2 hc2
  have HB := Aside0.mk (Below.refl w.heap.size w)
  have H : ((knead_asked.f a0 l1).bind fun t136 => (if t136 = 0 then ((knead_worded.f l2).bind fun t137 => (if t137 = 0 then ((knead_fresh.f k a0).bind fun t138 => ((knead_folded.f k t138 l1).bind fun t141 => ((knead_fresh.f k a0).bind fun t144 => ((knead_folded.f k t144 l2).bind fun t147 => ((slices_Equal_int_int.f k t141 t147).bind fun t150 => (some (t150, 0))))))) else (some (false, t137)))) else (some (false, t136)))) = some (r1, r2) := h
  clear h
  replace H := Option.bind_eq_some_iff.mp H
  obtain ⟨t136, A40, H⟩ := H
  replace H : (if t136 = 0 then ((knead_worded.f l2).bind fun t137 => (if t137 = 0 then ((knead_fresh.f k a0).bind fun t138 => ((knead_folded.f k t138 l1).bind fun t141 => ((knead_fresh.f k a0).bind fun t144 => ((knead_folded.f k t144 l2).bind fun t147 => ((slices_Equal_int_int.f k t141 t147).bind fun t150 => (some (t150, 0))))))) else (some (false, t137)))) else (some (false, t136))) = some (r1, r2) := H
  have A4 := Aside0.mk A40
  clear A40
  by_cases c5 : t136 = 0
  · rw [if_pos c5] at H
    have c5b0 : (t136 == 0) = true := beq_iff_eq.mpr c5
    have c5b1 : (t136 != 0) = false := bne_eq_false_iff_eq.mpr c5
    clear c5
    replace H := Option.bind_eq_some_iff.mp H
    obtain ⟨t137, A60, H⟩ := H
    replace H : (if t137 = 0 then ((knead_fresh.f k a0).bind fun t138 => ((knead_folded.f k t138 l1).bind fun t141 => ((knead_fresh.f k a0).bind fun t144 => ((knead_folded.f k t144 l2).bind fun t147 => ((slices_Equal_int_int.f k t141 t147).bind fun t150 => (some (t150, 0))))))) else (some (false, t137))) = some (r1, r2) := H
    have A6 := Aside0.mk A60
    clear A60
    by_cases c7 : t137 = 0
    · rw [if_pos c7] at H
      have c7b0 : (t137 == 0) = true := beq_iff_eq.mpr c7
      have c7b1 : (t137 != 0) = false := bne_eq_false_iff_eq.mpr c7
      clear c7
      replace H := Option.bind_eq_some_iff.mp H
      obtain ⟨t138, A80, H⟩ := H
      replace H : ((knead_folded.f k t138 l1).bind fun t141 => ((knead_fresh.f k a0).bind fun t144 => ((knead_folded.f k t144 l2).bind fun t147 => ((slices_Equal_int_int.f k t141 t147).bind fun t150 => (some (t150, 0)))))) = some (r1, r2) := H
      have A8 := Aside0.mk A80
      clear A80
      replace H := Option.bind_eq_some_iff.mp H
      obtain ⟨t141, A90, H⟩ := H
      replace H : ((knead_fresh.f k a0).bind fun t144 => ((knead_folded.f k t144 l2).bind fun t147 => ((slices_Equal_int_int.f k t141 t147).bind fun t150 => (some (t150, 0))))) = some (r1, r2) := H
      have A9 := Aside0.mk A90
      clear A90
      replace H := Option.bind_eq_some_iff.mp H
      obtain ⟨t144, A100, H⟩ := H
      replace H : ((knead_folded.f k t144 l2).bind fun t147 => ((slices_Equal_int_int.f k t141 t147).bind fun t150 => (some (t150, 0)))) = some (r1, r2) := H
      have A10 := Aside0.mk A100
      clear A100
      replace H := Option.bind_eq_some_iff.mp H
      obtain ⟨t147, A110, H⟩ := H
      replace H : ((slices_Equal_int_int.f k t141 t147).bind fun t150 => (some (t150, 0))) = some (r1, r2) := H
      have A11 := Aside0.mk A110
      clear A110
      replace H := Option.bind_eq_some_iff.mp H
      obtain ⟨t150, A120, H⟩ := H
      replace H : (some (t150, 0)) = some (r1, r2) := H
      have A12 := Aside0.mk A120
      clear A120
      simp only [Option.some.injEq, Prod.mk.injEq] at H
      obtain ⟨rfl, rfl⟩ := H
      go_enter Try.func59, Try.ntmps59
      go_wp2_with (first | ((with_reducible refine gate_callee (f := 87) rfl ?_); refine goesL_ (some 12) rfl rfl Try.func87 (by kernel_rfl) rfl #[.int .i64 a0, .slice A1 l1.length c1] rfl (by (try simp only [List.map_toArray, List.map_cons, List.map_nil]); first | done | rfl | (simp only [List.length_drop, List.length_take]; rfl)) ?_; (with_reducible refine (knead_asked.calls a0 _ _ l1 t136 _ ?side1 ?side2 A4.out).mono ?_); (case side1 => repeat (first | exact HR1.out | (with_reducible refine Kd.C_alloc ?_ _) | (with_reducible refine Kd.C_drewN ?_ _) | (with_reducible refine Kd.C_drew ?_))); (case side2 => exact HC1.out); rintro e w' ⟨rfl, ⟨nd, rfl⟩⟩; refine ⟨_, rfl, ?_⟩) | ((with_reducible refine gate_callee (f := 56) rfl ?_); refine goesL_ (some 17) rfl rfl Try.func56 (by kernel_rfl) rfl #[.slice A2 l2.length c2] rfl (by (try simp only [List.map_toArray, List.map_cons, List.map_nil]); first | done | rfl | (simp only [List.length_drop, List.length_take]; rfl)) ?_; (with_reducible refine (knead_worded.calls _ _ l2 t137 _ ?side1 ?side2 A6.out).mono ?_); (case side1 => repeat (first | exact HR2.out | (with_reducible refine Kd.C_alloc ?_ _) | (with_reducible refine Kd.C_drewN ?_ _) | (with_reducible refine Kd.C_drew ?_))); (case side2 => exact HC2.out); rintro e w' ⟨rfl, ⟨nd, rfl⟩⟩; refine ⟨_, rfl, ?_⟩) | ((with_reducible refine gate_callee (f := 69) rfl ?_); refine goesL_ (some 22) rfl rfl Try.func69 (by kernel_rfl) rfl #[.int .i64 a0] rfl (by (try simp only [List.map_toArray, List.map_cons, List.map_nil]); first | done | rfl | (simp only [List.length_drop, List.length_take]; rfl)) ?_; (with_reducible refine (knead_fresh.calls k a0 t138 _ A8.out).mono ?_); rintro e w13 ⟨v139, rfl, ho0, hb⟩; refine ⟨_, rfl, ?_⟩; have n0_ := Aside0.mk (Kd.R_lower ho0 (below_size (by repeat (first | (with_reducible first | exact HB.out | apply below_alloc | apply pw_below_drewN | apply below_drew1) | exact HB.out)))); have n1_ := Aside0.mk (below_step (by repeat (first | (with_reducible first | exact HB.out | apply below_alloc | apply pw_below_drewN | apply below_drew1) | exact HB.out)) hb); clear HB; have HO140 := n0_; have HB := n1_; clear n0_ n1_; (try clear hb); (try clear hb2); (try clear hk); (try clear hi); (try clear ho0); obtain ⟨Ao14, co14, eo14⟩ := Kd.R_slice HO140.out; subst eo14) | ((with_reducible refine gate_callee (f := 71) rfl ?_); refine goesL_ (some 24) rfl rfl Try.func71 (by kernel_rfl) rfl #[.slice Ao14 t138.length co14, .slice A1 l1.length c1] rfl (by (try simp only [List.map_toArray, List.map_cons, List.map_nil]); first | done | rfl | (simp only [List.length_drop, List.length_take]; rfl)) ?_; (with_reducible refine (knead_folded.calls k _ _ t138 _ _ l1 t141 _ ?side1 ?side2 ?side3 ?side4 A9.out).mono ?_); (case side1 => repeat (first | exact (Kd.R_reads' HO140.out).2.2 | (with_reducible refine Kd.C_alloc ?_ _) | (with_reducible refine Kd.C_drewN ?_ _) | (with_reducible refine Kd.C_drew ?_))); (case side2 => exact (Kd.R_reads' HO140.out).2.1); (case side3 => repeat (first | exact (Kd.C_below HR1.out HB.out) | (with_reducible refine Kd.C_alloc ?_ _) | (with_reducible refine Kd.C_drewN ?_ _) | (with_reducible refine Kd.C_drew ?_))); (case side4 => exact HC1.out); rintro e w15 ⟨v142, rfl, ho0, hb⟩; refine ⟨_, rfl, ?_⟩; have n0_ := Aside0.mk (Kd.R_elder' (by (with_reducible repeat (first | apply Kd.R_alloc | apply Kd.R_drewN | apply Kd.R_drew)); exact HO140.out) (Kd.R_base ho0) hb); have n1_ := Aside0.mk (Kd.R_lower (Kd.R_new' ho0 (Kd.R_lt (by (with_reducible repeat (first | apply Kd.R_alloc | apply Kd.R_drewN | apply Kd.R_drew)); exact HO140.out))) (below_size (by repeat (first | (with_reducible first | exact HB.out | apply below_alloc | apply pw_below_drewN | apply below_drew1) | exact HB.out)))); have n2_ := Aside0.mk (below_step (by repeat (first | (with_reducible first | exact HB.out | apply below_alloc | apply pw_below_drewN | apply below_drew1) | exact HB.out)) hb); clear HO140; clear HB; have HO140 := n0_; have HO143 := n1_; have HB := n2_; clear n0_ n1_ n2_; (try clear hb); (try clear hb2); (try clear hk); (try clear hi); (try clear ho0)) | ((with_reducible refine gate_callee (f := 69) rfl ?_); refine goesL_ (some 26) rfl rfl Try.func69 (by kernel_rfl) rfl #[.int .i64 a0] rfl (by (try simp only [List.map_toArray, List.map_cons, List.map_nil]); first | done | rfl | (simp only [List.length_drop, List.length_take]; rfl)) ?_; (with_reducible refine (knead_fresh.calls k a0 t144 _ A10.out).mono ?_); rintro e w16 ⟨v145, rfl, ho0, hb⟩; refine ⟨_, rfl, ?_⟩; have n0_ := Aside0.mk (Kd.R_elder' (by (with_reducible repeat (first | apply Kd.R_alloc | apply Kd.R_drewN | apply Kd.R_drew)); exact HO140.out) (Kd.R_base ho0) hb); have n1_ := Aside0.mk (Kd.R_elder' (by (with_reducible repeat (first | apply Kd.R_alloc | apply Kd.R_drewN | apply Kd.R_drew)); exact HO143.out) (Kd.R_base ho0) hb); have n2_ := Aside0.mk (Kd.R_lower (Kd.R_new' (Kd.R_new' ho0 (Kd.R_lt (by (with_reducible repeat (first | apply Kd.R_alloc | apply Kd.R_drewN | apply Kd.R_drew)); exact HO140.out))) (Kd.R_lt (by (with_reducible repeat (first | apply Kd.R_alloc | apply Kd.R_drewN | apply Kd.R_drew)); exact HO143.out))) (below_size (by repeat (first | (with_reducible first | exact HB.out | apply below_alloc | apply pw_below_drewN | apply below_drew1) | exact HB.out)))); have n3_ := Aside0.mk (below_step (by repeat (first | (with_reducible first | exact HB.out | apply below_alloc | apply pw_below_drewN | apply below_drew1) | exact HB.out)) hb); clear HO140; clear HO143; clear HB; have HO140 := n0_; have HO143 := n1_; have HO146 := n2_; have HB := n3_; clear n0_ n1_ n2_ n3_; (try clear hb); (try clear hb2); (try clear hk); (try clear hi); (try clear ho0); obtain ⟨Ao17, co17, eo17⟩ := Kd.R_slice HO146.out; subst eo17) | ((with_reducible refine gate_callee (f := 71) rfl ?_); refine goesL_ (some 28) rfl rfl Try.func71 (by kernel_rfl) rfl #[.slice Ao17 t144.length co17, .slice A2 l2.length c2] rfl (by (try simp only [List.map_toArray, List.map_cons, List.map_nil]); first | done | rfl | (simp only [List.length_drop, List.length_take]; rfl)) ?_; (with_reducible refine (knead_folded.calls k _ _ t144 _ _ l2 t147 _ ?side1 ?side2 ?side3 ?side4 A11.out).mono ?_); (case side1 => repeat (first | exact (Kd.R_reads' HO146.out).2.2 | (with_reducible refine Kd.C_alloc ?_ _) | (with_reducible refine Kd.C_drewN ?_ _) | (with_reducible refine Kd.C_drew ?_))); (case side2 => exact (Kd.R_reads' HO146.out).2.1); (case side3 => repeat (first | exact (Kd.C_below HR2.out HB.out) | (with_reducible refine Kd.C_alloc ?_ _) | (with_reducible refine Kd.C_drewN ?_ _) | (with_reducible refine Kd.C_drew ?_))); (case side4 => exact HC2.out); rintro e w18 ⟨v148, rfl, ho0, hb⟩; refine ⟨_, rfl, ?_⟩; have n0_ := Aside0.mk (Kd.R_elder' (by (with_reducible repeat (first | apply Kd.R_alloc | apply Kd.R_drewN | apply Kd.R_drew)); exact HO140.out) (Kd.R_base ho0) hb); have n1_ := Aside0.mk (Kd.R_elder' (by (with_reducible repeat (first | apply Kd.R_alloc | apply Kd.R_drewN | apply Kd.R_drew)); exact HO143.out) (Kd.R_base ho0) hb); have n2_ := Aside0.mk (Kd.R_elder' (by (with_reducible repeat (first | apply Kd.R_alloc | apply Kd.R_drewN | apply Kd.R_drew)); exact HO146.out) (Kd.R_base ho0) hb); have n3_ := Aside0.mk (Kd.R_lower (Kd.R_new' (Kd.R_new' (Kd.R_new' ho0 (Kd.R_lt (by (with_reducible repeat (first | apply Kd.R_alloc | apply Kd.R_drewN | apply Kd.R_drew)); exact HO140.out))) (Kd.R_lt (by (with_reducible repeat (first | apply Kd.R_alloc | apply Kd.R_drewN | apply Kd.R_drew)); exact HO143.out))) (Kd.R_lt (by (with_reducible repeat (first | apply Kd.R_alloc | apply Kd.R_drewN | apply Kd.R_drew)); exact HO146.out))) (below_size (by repeat (first | (with_reducible first | exact HB.out | apply below_alloc | apply pw_below_drewN | apply below_drew1) | exact HB.out)))); have n4_ := Aside0.mk (below_step (by repeat (first | (with_reducible first | exact HB.out | apply below_alloc | apply pw_below_drewN | apply below_drew1) | exact HB.out)) hb); clear HO140; clear HO143; clear HO146; clear HB; have HO140 := n0_; have HO143 := n1_; have HO146 := n2_; have HO149 := n3_; have HB := n4_; clear n0_ n1_ n2_ n3_ n4_; (try clear hb); (try clear hb2); (try clear hk); (try clear hi); (try clear ho0); obtain ⟨Ao19, co19, eo19⟩ := Kd.R_slice HO143.out; subst eo19; obtain ⟨Ao20, co20, eo20⟩ := Kd.R_slice HO149.out; subst eo20) | ((with_reducible refine gate_callee (f := 70) rfl ?_); refine goesL_ (some 29) rfl rfl Try.func70 (by kernel_rfl) rfl #[.slice Ao19 t141.length co19, .slice Ao20 t147.length co20] rfl (by (try simp only [List.map_toArray, List.map_cons, List.map_nil]); first | done | rfl | (simp only [List.length_drop, List.length_take]; rfl)) ?_; (with_reducible refine (slices_Equal_int_int.calls k _ _ t141 _ _ t147 t150 _ ?side1 ?side2 ?side3 ?side4 A12.out).mono ?_); (case side1 => repeat (first | exact (Kd.R_reads' HO143.out).2.2 | (with_reducible refine Kd.C_alloc ?_ _) | (with_reducible refine Kd.C_drewN ?_ _) | (with_reducible refine Kd.C_drew ?_))); (case side2 => exact (Kd.R_reads' HO143.out).2.1); (case side3 => repeat (first | exact (Kd.R_reads' HO149.out).2.2 | (with_reducible refine Kd.C_alloc ?_ _) | (with_reducible refine Kd.C_drewN ?_ _) | (with_reducible refine Kd.C_drew ?_))); (case side4 => exact (Kd.R_reads' HO149.out).2.1); rintro e w' ⟨rfl, ⟨nd, rfl⟩⟩; refine ⟨_, rfl, ?_⟩))
      go_ret2
      exact ⟨by first | rfl | (simp [errW_none, errW_some] <;> rfl) | (simp [*, errW_none, errW_some] <;> rfl), by repeat (first | (with_reducible first | exact HB.out | apply below_alloc | apply pw_below_drewN | apply below_drew1) | exact HB.out)⟩
    · rw [if_neg c7] at H
      have c7b0 : (t137 == 0) = false := beq_eq_false_iff_ne.mpr c7
      have c7b1 : (t137 != 0) = true := bne_iff_ne.mpr c7
      simp only [Option.some.injEq, Prod.mk.injEq] at H
      obtain ⟨rfl, rfl⟩ := H
      go_enter Try.func59, Try.ntmps59
      go_wp2_with (first | ((with_reducible refine gate_callee (f := 87) rfl ?_); refine goesL_ (some 12) rfl rfl Try.func87 (by kernel_rfl) rfl #[.int .i64 a0, .slice A1 l1.length c1] rfl (by (try simp only [List.map_toArray, List.map_cons, List.map_nil]); first | done | rfl | (simp only [List.length_drop, List.length_take]; rfl)) ?_; (with_reducible refine (knead_asked.calls a0 _ _ l1 t136 _ ?side1 ?side2 A4.out).mono ?_); (case side1 => repeat (first | exact HR1.out | (with_reducible refine Kd.C_alloc ?_ _) | (with_reducible refine Kd.C_drewN ?_ _) | (with_reducible refine Kd.C_drew ?_))); (case side2 => exact HC1.out); rintro e w' ⟨rfl, ⟨nd, rfl⟩⟩; refine ⟨_, rfl, ?_⟩) | ((with_reducible refine gate_callee (f := 56) rfl ?_); refine goesL_ (some 17) rfl rfl Try.func56 (by kernel_rfl) rfl #[.slice A2 l2.length c2] rfl (by (try simp only [List.map_toArray, List.map_cons, List.map_nil]); first | done | rfl | (simp only [List.length_drop, List.length_take]; rfl)) ?_; (with_reducible refine (knead_worded.calls _ _ l2 t137 _ ?side1 ?side2 A6.out).mono ?_); (case side1 => repeat (first | exact HR2.out | (with_reducible refine Kd.C_alloc ?_ _) | (with_reducible refine Kd.C_drewN ?_ _) | (with_reducible refine Kd.C_drew ?_))); (case side2 => exact HC2.out); rintro e w' ⟨rfl, ⟨nd, rfl⟩⟩; refine ⟨_, rfl, ?_⟩))
      go_ret2
      exact ⟨by first | rfl | (simp [errW_none, errW_some] <;> rfl) | (simp [*, errW_none, errW_some] <;> rfl), by repeat (first | (with_reducible first | exact HB.out | apply below_alloc | apply pw_below_drewN | apply below_drew1) | exact HB.out)⟩
  · rw [if_neg c5] at H
    have c5b0 : (t136 == 0) = false := beq_eq_false_iff_ne.mpr c5
    have c5b1 : (t136 != 0) = true := bne_iff_ne.mpr c5
    simp only [Option.some.injEq, Prod.mk.injEq] at H
    obtain ⟨rfl, rfl⟩ := H
    go_enter Try.func59, Try.ntmps59
    go_wp2_with (first | ((with_reducible refine gate_callee (f := 87) rfl ?_); refine goesL_ (some 12) rfl rfl Try.func87 (by kernel_rfl) rfl #[.int .i64 a0, .slice A1 l1.length c1] rfl (by (try simp only [List.map_toArray, List.map_cons, List.map_nil]); first | done | rfl | (simp only [List.length_drop, List.length_take]; rfl)) ?_; (with_reducible refine (knead_asked.calls a0 _ _ l1 t136 _ ?side1 ?side2 A4.out).mono ?_); (case side1 => repeat (first | exact HR1.out | (with_reducible refine Kd.C_alloc ?_ _) | (with_reducible refine Kd.C_drewN ?_ _) | (with_reducible refine Kd.C_drew ?_))); (case side2 => exact HC1.out); rintro e w' ⟨rfl, ⟨nd, rfl⟩⟩; refine ⟨_, rfl, ?_⟩))
    go_ret2
    exact ⟨by first | rfl | (simp [errW_none, errW_some] <;> rfl) | (simp [*, errW_none, errW_some] <;> rfl), by repeat (first | (with_reducible first | exact HB.out | apply below_alloc | apply pw_below_drewN | apply below_drew1) | exact HB.out)⟩

end Go.Proofs.Ytgnklmhjejbcoaa.K

/- DERIVED by wip/pr.py: for each Go function named below a Lean function with the same answers, and that a call of it comes to these answers, for all arguments and memories, where the Lean function has an answer. -/
namespace Go.Proofs.Ytgnklmhjejbcoaa.K
open Go.RowKit Go.Proofs.YtgnklmhjejbcoaaW.PrintWords Go.Proofs.YtgnklmhjejbcoaaW.PrintLast Go.Proofs.YtgnklmhjejbcoaaW.PrintMore
attribute [local go_sem] max2_int min2_int max_two min_two max_three min_three max_four min_four   -- for this text's walks alone
set_option linter.unusedVariables false
set_option linter.unusedSimpArgs false

/-! ### knead_Times: function 32 -/
def knead_Times.l0 : Nat → Int → List Int → List Int → Option (Int × Int)
  | 0, _, _, _ => none
  | k + 1, x1, x7, x8 => (knead_folded.f k x8 x7).bind fun t159 => ((slices_Equal_int_int.f k t159 x8).bind fun t162 => (if t162 = true then (some ((x7.length : Int), 0)) else (if x7.length < 17592186044416 then (knead_Times.l0 k x1 (x7 ++ [x1]) x8) else (none))))
def knead_Times.f (k : Nat) (a0 : Int) (a1 : Int) : Option (Int × Int) := (knead_kinded.f a0 a1).bind fun t152 => (if t152 = 0 then ((knead_fresh.f k a0).bind fun t156 => (knead_Times.l0 k a1 (([a1] : List Int)) t156)) else (some (0, t152)))
theorem knead_Times.mono_l : ∀ k, (∀ y0 y1 y2, LeO (knead_Times.l0 k y0 y1 y2) (knead_Times.l0 (k + 1) y0 y1 y2))
  | 0 => fun _ _ _ r h => by simp [knead_Times.l0] at h
  | k + 1 => by
    have ih0 := knead_Times.mono_l k
    · intro y0 y1 y2
      unfold knead_Times.l0
      repeat' first
      | (with_reducible exact ih0 _ _ _)
      | (with_reducible exact knead_folded.mono _ _ _)
      | (with_reducible exact knead_fresh.mono _ _)
      | (with_reducible exact slices_Equal_int_int.mono _ _ _)
      | (with_reducible exact LeO.refl _)
      | (with_reducible exact LeO.none _)
      | (with_reducible refine LeO.ite ?_ ?_)
      | (with_reducible refine LeO.bind ?_ (fun _ => ?_))
      | exact ih0 _ _ _
      | exact knead_folded.mono _ _ _
      | exact knead_fresh.mono _ _
      | exact slices_Equal_int_int.mono _ _ _
      | exact LeO.none _
      | refine LeO.ite ?_ ?_
      | refine LeO.bind ?_ (fun _ => ?_)
theorem knead_Times.mono : ∀ a0 a1 k, LeO (knead_Times.f k a0 a1) (knead_Times.f (k + 1) a0 a1) := by
  intro a0 a1 k
  have ih0 := knead_Times.mono_l k
  unfold knead_Times.f
  repeat' first
      | (with_reducible exact ih0 _ _ _)
      | (with_reducible exact knead_folded.mono _ _ _)
      | (with_reducible exact knead_fresh.mono _ _)
      | (with_reducible exact slices_Equal_int_int.mono _ _ _)
      | (with_reducible exact LeO.refl _)
      | (with_reducible exact LeO.none _)
      | (with_reducible refine LeO.ite ?_ ?_)
      | (with_reducible refine LeO.bind ?_ (fun _ => ?_))
      | exact ih0 _ _ _
      | exact knead_folded.mono _ _ _
      | exact knead_fresh.mono _ _
      | exact slices_Equal_int_int.mono _ _ _
      | exact LeO.none _
      | refine LeO.ite ?_ ?_
      | refine LeO.bind ?_ (fun _ => ?_)
set_option maxHeartbeats 8000000 in
set_option maxRecDepth 100000 in
theorem knead_Times.calls (k : Nat) (a0 : Int) (a1 : Int) (r1 : Int) (r2 : Int) (w : World) (h : knead_Times.f k a0 a1 = some (r1, r2)) :
    Calls Try.prog 32 #[.int .i64 a0, .int .i64 a1] w fun e w' => e = .returned (.tuple #[.int .i64 r1, .int .i64 r2]) ∧ Below w.heap.size w w' := by
  have HB := Aside0.mk (Below.refl w.heap.size w)
  have H : ((knead_kinded.f a0 a1).bind fun t152 => (if t152 = 0 then ((knead_fresh.f k a0).bind fun t156 => (knead_Times.l0 k a1 (([a1] : List Int)) t156)) else (some (0, t152)))) = some (r1, r2) := h
  clear h
  replace H := Option.bind_eq_some_iff.mp H
  obtain ⟨t152, A30, H⟩ := H
  replace H : (if t152 = 0 then ((knead_fresh.f k a0).bind fun t156 => (knead_Times.l0 k a1 (([a1] : List Int)) t156)) else (some (0, t152))) = some (r1, r2) := H
  have A3 := Aside0.mk A30
  clear A30
  by_cases c4 : t152 = 0
  · rw [if_pos c4] at H
    have c4b0 : (t152 == 0) = true := beq_iff_eq.mpr c4
    have c4b1 : (t152 != 0) = false := bne_eq_false_iff_eq.mpr c4
    clear c4
    obtain ⟨y153, hy153⟩ : ∃ y_ : List Int, y_ = (([a1] : List Int)) := ⟨_, rfl⟩
    replace H : ((knead_fresh.f k a0).bind fun t156 => (knead_Times.l0 k a1 y153 t156)) = some (r1, r2) := by first | (rw [hy153]; with_reducible exact H) | (have H2_ := (Option.bind_some _ _).symm.trans H; rw [hy153]; with_reducible exact H2_) | (have H2_ := (Option.bind_some _ _).symm.trans H; with_reducible exact H2_) | with_reducible exact H | (rw [hy153]; exact H) | exact H
    have Ny153 := Aside0.mk hy153
    clear hy153
    replace H := Option.bind_eq_some_iff.mp H
    obtain ⟨t156, A50, H⟩ := H
    replace H : (knead_Times.l0 k a1 y153 t156) = some (r1, r2) := H
    have A5 := Aside0.mk A50
    clear A50
    have H' := Aside0.mk H
    clear H
    go_enter Try.func32, Try.ntmps32
    go_wp2_with (first | ((with_reducible refine gate_callee (f := 68) rfl ?_); refine goesL_ (some 11) rfl rfl Try.func68 (by kernel_rfl) rfl #[.int .i64 a0, .int .i64 a1] rfl (by (try simp only [List.map_toArray, List.map_cons, List.map_nil]); first | done | rfl | (simp only [List.length_drop, List.length_take]; rfl)) ?_; (with_reducible refine (knead_kinded.calls a0 a1 t152 _ A3.out).mono ?_); rintro e w' ⟨rfl, ⟨nd, rfl⟩⟩; refine ⟨_, rfl, ?_⟩) | ((with_reducible refine gate_dst (N := 16) rfl ?_); refine Kd.R_lit (Kd.int .i64) _ 3 ?hg (N := 16) ?hd (xs := ([a1] : List Int)) (inner := [.int .i64 a1]) (ok := fun _ => True) (okp := fun _ => True) ?hr ?hp (fun _ hk => hk) trivial (Below.refl _ _) (Nat.le_refl _) (by simp) ?_; (case hd => rfl); (case hg => rfl); (case hr => first | (go_simp; done) | (go_simp; rfl)); (case hp => exact (Reps.one (show Kd.M (Kd.int .i64) _ _ _ a1 [.int .i64 a1] from rfl) (Reps.none _ _))); intro v154 w6 ho7 hb hg_ hnew_; clear hg_ hnew_; (first | rw [← Ny153.out] at ho7 | (simp only [Int.reduceToNat] at ho7; rw [← Ny153.out] at ho7)); have n0_ := Aside0.mk (Kd.R_lower ho7 (below_size (by repeat (first | (with_reducible first | exact HB.out | apply below_alloc | apply pw_below_drewN | apply below_drew1) | exact HB.out)))); have n1_ := Aside0.mk (below_step (by repeat (first | (with_reducible first | exact HB.out | apply below_alloc | apply pw_below_drewN | apply below_drew1) | exact HB.out)) hb); clear HB; have HO155 := n0_; have HB := n1_; clear n0_ n1_; clear hb ho7) | ((with_reducible refine gate_callee (f := 69) rfl ?_); refine goesL_ (some 18) rfl rfl Try.func69 (by kernel_rfl) rfl #[.int .i64 a0] rfl (by (try simp only [List.map_toArray, List.map_cons, List.map_nil]); first | done | rfl | (simp only [List.length_drop, List.length_take]; rfl)) ?_; (with_reducible refine (knead_fresh.calls k a0 t156 _ A5.out).mono ?_); rintro e w8 ⟨v157, rfl, ho0, hb⟩; refine ⟨_, rfl, ?_⟩; have n0_ := Aside0.mk (Kd.R_elder' (by (with_reducible repeat (first | apply Kd.R_alloc | apply Kd.R_drewN | apply Kd.R_drew)); exact HO155.out) (Kd.R_base ho0) hb); have n1_ := Aside0.mk (Kd.R_lower (Kd.R_new' ho0 (Kd.R_lt (by (with_reducible repeat (first | apply Kd.R_alloc | apply Kd.R_drewN | apply Kd.R_drew)); exact HO155.out))) (below_size (by repeat (first | (with_reducible first | exact HB.out | apply below_alloc | apply pw_below_drewN | apply below_drew1) | exact HB.out)))); have n2_ := Aside0.mk (below_step (by repeat (first | (with_reducible first | exact HB.out | apply below_alloc | apply pw_below_drewN | apply below_drew1) | exact HB.out)) hb); clear HO155; clear HB; have HO155 := n0_; have HO158 := n1_; have HB := n2_; clear n0_ n1_ n2_; (try clear hb); (try clear hb2); (try clear hk); (try clear hi); (try clear ho0)))
    go_loopg [7] k (fun kq v7 w' => ∃ (x7_1 : List Int), Aside0 (knead_Times.l0 kq a1 x7_1 t156 = some (r1, r2)) ∧ Aside0 (kq ≤ k) ∧ Aside0 (Kd.R (Kd.int .i64) 3 w' w.heap.size (fun k_ => some k_ ≠ (v157 : Value).ownBlock) v7 x7_1) ∧ Aside0 (Kd.R (Kd.int .i64) 3 w' w.heap.size (fun k_ => some k_ ≠ (v7 : Value).ownBlock) v157 t156) ∧ Aside0 (Below w.heap.size w w'))
    case atStart => exact ⟨(y153), H', ⟨Nat.le_refl _⟩, ⟨by (with_reducible repeat (first | apply Kd.R_alloc | apply Kd.R_drewN | apply Kd.R_drew)); exact Kd.R_mono HO155.out (fun _ hk => hk.2)⟩, ⟨by (with_reducible repeat (first | apply Kd.R_alloc | apply Kd.R_drewN | apply Kd.R_drew)); exact Kd.R_mono HO158.out (fun _ hk => hk.2)⟩, ⟨by repeat (first | (with_reducible first | exact HB.out | apply below_alloc | apply pw_below_drewN | apply below_drew1) | exact HB.out)⟩⟩
    case round =>
      clear H'
      try clear p2
      try clear c3
      try clear c4
      try clear c4b0
      try clear c4b1
      try clear c6
      obtain ⟨x7_1, HA, HK1, HO_7, HO_8, HB⟩ := hrel
      cases gk with
      | zero => exact absurd HA.out (by simp [knead_Times.l0])
      | succ k1 =>
        have H := HA.out
        clear HA
        simp only [knead_Times.l0] at H
        replace H := Option.bind_eq_some_iff.mp H
        obtain ⟨t159, A90, H⟩ := H
        replace H : ((slices_Equal_int_int.f k1 t159 t156).bind fun t162 => (if t162 = true then (some ((x7_1.length : Int), 0)) else (if x7_1.length < 17592186044416 then (knead_Times.l0 k1 a1 (x7_1 ++ [a1]) t156) else (none)))) = some (r1, r2) := H
        have A9 := Aside0.mk A90
        clear A90
        replace H := Option.bind_eq_some_iff.mp H
        obtain ⟨t162, A100, H⟩ := H
        replace H : (if t162 = true then (some ((x7_1.length : Int), 0)) else (if x7_1.length < 17592186044416 then (knead_Times.l0 k1 a1 (x7_1 ++ [a1]) t156) else (none))) = some (r1, r2) := H
        have A10 := Aside0.mk A100
        clear A100
        by_cases c11 : t162 = true
        · subst c11
          have H1 : (some ((x7_1.length : Int), 0)) = some (r1, r2) := by rw [if_pos rfl] at H; exact H
          clear H
          have H := H1
          clear H1
          simp only [Option.some.injEq, Prod.mk.injEq] at H
          obtain ⟨rfl, rfl⟩ := H
          obtain ⟨Ao12, co12, eo12⟩ := Kd.R_slice HO_8.out
          subst eo12
          obtain ⟨Ao13, co13, eo13⟩ := Kd.R_slice HO_7.out
          subst eo13
          go_wp2_with (first | ((with_reducible refine gate_callee (f := 71) rfl ?_); refine goesL_ (some 21) rfl rfl Try.func71 (by kernel_rfl) rfl #[.slice Ao12 t156.length co12, .slice Ao13 x7_1.length co13] rfl (by (try simp only [List.map_toArray, List.map_cons, List.map_nil]); first | done | rfl | (simp only [List.length_drop, List.length_take]; rfl)) ?_; (with_reducible refine (knead_folded.calls k1 _ _ t156 _ _ x7_1 t159 _ ?side1 ?side2 ?side3 ?side4 A9.out).mono ?_); (case side1 => repeat (first | exact (Kd.R_reads' HO_8.out).2.2 | (with_reducible refine Kd.C_alloc ?_ _) | (with_reducible refine Kd.C_drewN ?_ _) | (with_reducible refine Kd.C_drew ?_))); (case side2 => exact (Kd.R_reads' HO_8.out).2.1); (case side3 => repeat (first | exact (Kd.R_reads' HO_7.out).2.2 | (with_reducible refine Kd.C_alloc ?_ _) | (with_reducible refine Kd.C_drewN ?_ _) | (with_reducible refine Kd.C_drew ?_))); (case side4 => exact (Kd.R_reads' HO_7.out).2.1); rintro e w14 ⟨v160, rfl, ho0, hb⟩; refine ⟨_, rfl, ?_⟩; have n0_ := Aside0.mk (Kd.R_elder' (by (with_reducible repeat (first | apply Kd.R_alloc | apply Kd.R_drewN | apply Kd.R_drew)); exact HO_7.out) (Kd.R_base ho0) hb); have n1_ := Aside0.mk (Kd.R_elder' (by (with_reducible repeat (first | apply Kd.R_alloc | apply Kd.R_drewN | apply Kd.R_drew)); exact HO_8.out) (Kd.R_base ho0) hb); have n2_ := Aside0.mk (Kd.R_lower (Kd.R_new' (Kd.R_new' ho0 (Kd.R_lt (by (with_reducible repeat (first | apply Kd.R_alloc | apply Kd.R_drewN | apply Kd.R_drew)); exact HO_7.out))) (Kd.R_lt (by (with_reducible repeat (first | apply Kd.R_alloc | apply Kd.R_drewN | apply Kd.R_drew)); exact HO_8.out))) (below_size (by repeat (first | (with_reducible first | exact HB.out | apply below_alloc | apply pw_below_drewN | apply below_drew1) | exact HB.out)))); have n3_ := Aside0.mk (below_step (by repeat (first | (with_reducible first | exact HB.out | apply below_alloc | apply pw_below_drewN | apply below_drew1) | exact HB.out)) hb); clear HO_7; clear HO_8; clear HB; have HO_7 := n0_; have HO_8 := n1_; have HO161 := n2_; have HB := n3_; clear n0_ n1_ n2_ n3_; (try clear hb); (try clear hb2); (try clear hk); (try clear hi); (try clear ho0); obtain ⟨Ao15, co15, eo15⟩ := Kd.R_slice HO161.out; subst eo15) | ((with_reducible refine gate_callee (f := 70) rfl ?_); refine goesL_ (some 23) rfl rfl Try.func70 (by kernel_rfl) rfl #[.slice Ao15 t159.length co15, .slice Ao12 t156.length co12] rfl (by (try simp only [List.map_toArray, List.map_cons, List.map_nil]); first | done | rfl | (simp only [List.length_drop, List.length_take]; rfl)) ?_; (with_reducible refine (slices_Equal_int_int.calls k1 _ _ t159 _ _ t156 true _ ?side1 ?side2 ?side3 ?side4 A10.out).mono ?_); (case side1 => repeat (first | exact (Kd.R_reads' HO161.out).2.2 | (with_reducible refine Kd.C_alloc ?_ _) | (with_reducible refine Kd.C_drewN ?_ _) | (with_reducible refine Kd.C_drew ?_))); (case side2 => exact (Kd.R_reads' HO161.out).2.1); (case side3 => repeat (first | exact (Kd.R_reads' HO_8.out).2.2 | (with_reducible refine Kd.C_alloc ?_ _) | (with_reducible refine Kd.C_drewN ?_ _) | (with_reducible refine Kd.C_drew ?_))); (case side4 => exact (Kd.R_reads' HO_8.out).2.1); rintro e w' ⟨rfl, ⟨nd, rfl⟩⟩; refine ⟨_, rfl, ?_⟩))
          go_ret2
          exact ⟨by first | rfl | (simp [errW_none, errW_some] <;> rfl) | (simp [*, errW_none, errW_some] <;> rfl), by repeat (first | (with_reducible first | exact HB.out | apply below_alloc | apply pw_below_drewN | apply below_drew1) | exact HB.out)⟩
        · replace c11 := Bool.eq_false_iff.mpr c11
          subst c11
          have H1 : (if x7_1.length < 17592186044416 then (knead_Times.l0 k1 a1 (x7_1 ++ [a1]) t156) else (none)) = some (r1, r2) := by rw [if_neg (show ¬ (false = true) by decide)] at H; exact H
          clear H
          have H := H1
          clear H1
          by_cases c16 : x7_1.length < 17592186044416
          · rw [if_pos c16] at H
            have LMc16 := Aside0.mk c16
            clear c16
            obtain ⟨y163, hy163⟩ : ∃ y_ : List Int, y_ = (x7_1 ++ [a1]) := ⟨_, rfl⟩
            replace H : (knead_Times.l0 k1 a1 y163 t156) = some (r1, r2) := by first | (rw [hy163]; with_reducible exact H) | (have H2_ := (Option.bind_some _ _).symm.trans H; rw [hy163]; with_reducible exact H2_) | (have H2_ := (Option.bind_some _ _).symm.trans H; with_reducible exact H2_) | with_reducible exact H | (rw [hy163]; exact H) | exact H
            have Ny163 := Aside0.mk hy163
            clear hy163
            have H' := Aside0.mk H
            clear H
            obtain ⟨Ao17, co17, eo17⟩ := Kd.R_slice HO_8.out
            subst eo17
            obtain ⟨Ao18, co18, eo18⟩ := Kd.R_slice HO_7.out
            subst eo18
            go_wp2_with (first | ((with_reducible refine gate_callee (f := 71) rfl ?_); refine goesL_ (some 21) rfl rfl Try.func71 (by kernel_rfl) rfl #[.slice Ao17 t156.length co17, .slice Ao18 x7_1.length co18] rfl (by (try simp only [List.map_toArray, List.map_cons, List.map_nil]); first | done | rfl | (simp only [List.length_drop, List.length_take]; rfl)) ?_; (with_reducible refine (knead_folded.calls k1 _ _ t156 _ _ x7_1 t159 _ ?side1 ?side2 ?side3 ?side4 A9.out).mono ?_); (case side1 => repeat (first | exact (Kd.R_reads' HO_8.out).2.2 | (with_reducible refine Kd.C_alloc ?_ _) | (with_reducible refine Kd.C_drewN ?_ _) | (with_reducible refine Kd.C_drew ?_))); (case side2 => exact (Kd.R_reads' HO_8.out).2.1); (case side3 => repeat (first | exact (Kd.R_reads' HO_7.out).2.2 | (with_reducible refine Kd.C_alloc ?_ _) | (with_reducible refine Kd.C_drewN ?_ _) | (with_reducible refine Kd.C_drew ?_))); (case side4 => exact (Kd.R_reads' HO_7.out).2.1); rintro e w19 ⟨v160, rfl, ho0, hb⟩; refine ⟨_, rfl, ?_⟩; have n0_ := Aside0.mk (Kd.R_elder' (by (with_reducible repeat (first | apply Kd.R_alloc | apply Kd.R_drewN | apply Kd.R_drew)); exact HO_7.out) (Kd.R_base ho0) hb); have n1_ := Aside0.mk (Kd.R_elder' (by (with_reducible repeat (first | apply Kd.R_alloc | apply Kd.R_drewN | apply Kd.R_drew)); exact HO_8.out) (Kd.R_base ho0) hb); have n2_ := Aside0.mk (Kd.R_lower (Kd.R_new' (Kd.R_new' ho0 (Kd.R_lt (by (with_reducible repeat (first | apply Kd.R_alloc | apply Kd.R_drewN | apply Kd.R_drew)); exact HO_7.out))) (Kd.R_lt (by (with_reducible repeat (first | apply Kd.R_alloc | apply Kd.R_drewN | apply Kd.R_drew)); exact HO_8.out))) (below_size (by repeat (first | (with_reducible first | exact HB.out | apply below_alloc | apply pw_below_drewN | apply below_drew1) | exact HB.out)))); have n3_ := Aside0.mk (below_step (by repeat (first | (with_reducible first | exact HB.out | apply below_alloc | apply pw_below_drewN | apply below_drew1) | exact HB.out)) hb); clear HO_7; clear HO_8; clear HB; have HO_7 := n0_; have HO_8 := n1_; have HO161 := n2_; have HB := n3_; clear n0_ n1_ n2_ n3_; (try clear hb); (try clear hb2); (try clear hk); (try clear hi); (try clear ho0); obtain ⟨Ao20, co20, eo20⟩ := Kd.R_slice HO161.out; subst eo20) | ((with_reducible refine gate_callee (f := 70) rfl ?_); refine goesL_ (some 23) rfl rfl Try.func70 (by kernel_rfl) rfl #[.slice Ao20 t159.length co20, .slice Ao17 t156.length co17] rfl (by (try simp only [List.map_toArray, List.map_cons, List.map_nil]); first | done | rfl | (simp only [List.length_drop, List.length_take]; rfl)) ?_; (with_reducible refine (slices_Equal_int_int.calls k1 _ _ t159 _ _ t156 false _ ?side1 ?side2 ?side3 ?side4 A10.out).mono ?_); (case side1 => repeat (first | exact (Kd.R_reads' HO161.out).2.2 | (with_reducible refine Kd.C_alloc ?_ _) | (with_reducible refine Kd.C_drewN ?_ _) | (with_reducible refine Kd.C_drew ?_))); (case side2 => exact (Kd.R_reads' HO161.out).2.1); (case side3 => repeat (first | exact (Kd.R_reads' HO_8.out).2.2 | (with_reducible refine Kd.C_alloc ?_ _) | (with_reducible refine Kd.C_drewN ?_ _) | (with_reducible refine Kd.C_drew ?_))); (case side4 => exact (Kd.R_reads' HO_8.out).2.1); rintro e w' ⟨rfl, ⟨nd, rfl⟩⟩; refine ⟨_, rfl, ?_⟩) | ((with_reducible refine gate_builtin (b := .append) (xs := #[.tmp 25, .tmp 27]) rfl ?_); at_builtin; refine Kd.R_append (Kd.int .i64) (w0 := w) w.heap.size rfl (.tmp 25) (.tmp 27) 22 3 (.int .i64 0) 8 rfl Try.underlying22 info3 rfl (by decide) (by omega) (.slice Ao18 x7_1.length co18) x7_1 a1 [.int .i64 a1] (fun k_ => some k_ ≠ (.slice Ao17 t156.length co17 : Value).ownBlock ∧ some k_ ≠ (.slice Ao20 t159.length co20 : Value).ownBlock) (fun _ => False) rfl rfl ?aP (fun _ hk => hk.elim) ?aF ?aO ?aB ?aS ?aL ?_; (case aP => exact rfl); (case aB => exact (by repeat (first | (with_reducible first | exact HB.out | apply below_alloc | apply pw_below_drewN | apply below_drew1) | exact HB.out))); (case aF => exact (fun k_ hk => ⟨Kd.fresh' (Kd.R_lt (by (with_reducible repeat (first | apply Kd.R_alloc | apply Kd.R_drewN | apply Kd.R_drew)); exact HO_8.out)) k_ hk, Kd.fresh' (Kd.R_lt (by (with_reducible repeat (first | apply Kd.R_alloc | apply Kd.R_drewN | apply Kd.R_drew)); exact HO161.out)) k_ hk⟩)); (case aO => exact (by (with_reducible repeat (first | apply Kd.R_alloc | apply Kd.R_drewN | apply Kd.R_drew)); exact HO_7.out)); (case aS => exact (below_size (by repeat (first | (with_reducible first | exact HB.out | apply below_alloc | apply pw_below_drewN | apply below_drew1) | exact HB.out)))); (case aL => have := LMc16.out; omega); intro v164 w21 ho hb hg hat; rw [← Ny163.out] at ho; have n0_ := Aside0.mk (Kd.R_after (ok := (fun k_ => some k_ ≠ (.slice Ao20 t159.length co20 : Value).ownBlock)) (by (with_reducible repeat (first | apply Kd.R_alloc | apply Kd.R_drewN | apply Kd.R_drew)); exact Kd.R_mono HO_8.out (fun _ hk => ⟨hk.2, hk.1⟩)) hg hat); have n1_ := Aside0.mk (Kd.R_after (ok := (fun k_ => some k_ ≠ (.slice Ao17 t156.length co17 : Value).ownBlock)) (by (with_reducible repeat (first | apply Kd.R_alloc | apply Kd.R_drewN | apply Kd.R_drew)); exact Kd.R_mono HO161.out (fun _ hk => ⟨hk.2, hk.1.2⟩)) hg hat); have n2_ := Aside0.mk (hb); have n3_ := Aside0.mk (ho); clear HO_8; clear HO161; clear HB; clear HO_7; have HO_8 := n0_; have HO161 := n1_; have HB := n2_; have HO165 := n3_; clear n0_ n1_ n2_ n3_; clear ho hb hg hat))
            go_roundg k1
            case measure => have := HK1.out; omega
            case rel => exact ⟨(y163), H', ⟨by have := HK1.out; omega⟩, ⟨by (with_reducible repeat (first | apply Kd.R_alloc | apply Kd.R_drewN | apply Kd.R_drew)); exact Kd.R_mono HO165.out (fun _ hk => hk.1)⟩, ⟨by (with_reducible repeat (first | apply Kd.R_alloc | apply Kd.R_drewN | apply Kd.R_drew)); exact Kd.R_mono HO_8.out (fun _ hk => hk.2)⟩, ⟨by repeat (first | (with_reducible first | exact HB.out | apply below_alloc | apply pw_below_drewN | apply below_drew1) | exact HB.out)⟩⟩
          · rw [if_neg c16] at H
            exact absurd H (by simp)
  · rw [if_neg c4] at H
    have c4b0 : (t152 == 0) = false := beq_eq_false_iff_ne.mpr c4
    have c4b1 : (t152 != 0) = true := bne_iff_ne.mpr c4
    simp only [Option.some.injEq, Prod.mk.injEq] at H
    obtain ⟨rfl, rfl⟩ := H
    go_enter Try.func32, Try.ntmps32
    go_wp2_with (first | ((with_reducible refine gate_callee (f := 68) rfl ?_); refine goesL_ (some 11) rfl rfl Try.func68 (by kernel_rfl) rfl #[.int .i64 a0, .int .i64 a1] rfl (by (try simp only [List.map_toArray, List.map_cons, List.map_nil]); first | done | rfl | (simp only [List.length_drop, List.length_take]; rfl)) ?_; (with_reducible refine (knead_kinded.calls a0 a1 t152 _ A3.out).mono ?_); rintro e w' ⟨rfl, ⟨nd, rfl⟩⟩; refine ⟨_, rfl, ?_⟩))
    go_ret2
    exact ⟨by first | rfl | (simp [errW_none, errW_some] <;> rfl) | (simp [*, errW_none, errW_some] <;> rfl), by repeat (first | (with_reducible first | exact HB.out | apply below_alloc | apply pw_below_drewN | apply below_drew1) | exact HB.out)⟩

end Go.Proofs.Ytgnklmhjejbcoaa.K

/- DERIVED by wip/pr.py: for each Go function named below a Lean function with the same answers, and that a call of it comes to these answers, for all arguments and memories, where the Lean function has an answer. -/
namespace Go.Proofs.Ytgnklmhjejbcoaa.K
open Go.RowKit Go.Proofs.YtgnklmhjejbcoaaW.PrintWords Go.Proofs.YtgnklmhjejbcoaaW.PrintLast Go.Proofs.YtgnklmhjejbcoaaW.PrintMore
attribute [local go_sem] max2_int min2_int max_two min_two max_three min_three max_four min_four   -- for this text's walks alone
set_option linter.unusedVariables false
set_option linter.unusedSimpArgs false

/-! ### knead_Fold: function 36 -/
def knead_Fold.f (k : Nat) (l0 : List Int) (l1 : List Int) : Option (List Int × Int) := (knead_Validate.f l0).bind fun t167 => (if t167 = 0 then ((knead_worded.f l1).bind fun t168 => (if t168 = 0 then ((knead_folded.f k l0 l1).bind fun t169 => (some (t169, 0))) else (some (([] : List Int), t168)))) else (some (([] : List Int), t167)))
theorem knead_Fold.mono : ∀ a0 a1 k, LeO (knead_Fold.f k a0 a1) (knead_Fold.f (k + 1) a0 a1) := by
  intro a0 a1 k
  unfold knead_Fold.f
  repeat' first
      | (with_reducible exact knead_folded.mono _ _ _)
      | (with_reducible exact LeO.refl _)
      | (with_reducible exact LeO.none _)
      | (with_reducible refine LeO.ite ?_ ?_)
      | (with_reducible refine LeO.bind ?_ (fun _ => ?_))
      | exact knead_folded.mono _ _ _
      | exact LeO.none _
      | refine LeO.ite ?_ ?_
      | refine LeO.bind ?_ (fun _ => ?_)
set_option maxHeartbeats 8000000 in
set_option maxRecDepth 100000 in
theorem knead_Fold.calls (k : Nat) (A0 : Option Addr) (c0 : Nat) (l0 : List Int) (A1 : Option Addr) (c1 : Nat) (l1 : List Int) (r1 : List Int) (r2 : Int) (w : World) (hr0 : Kd.C (Kd.int .i64) w A0 l0.length l0) (hc0 : l0.length ≤ c0) (hr1 : Kd.C (Kd.int .i64) w A1 l1.length l1) (hc1 : l1.length ≤ c1) (h : knead_Fold.f k l0 l1 = some (r1, r2)) :
    Calls Try.prog 36 #[.slice A0 l0.length c0, .slice A1 l1.length c1] w fun e w' => ∃ v0_ : Value, e = .returned (.tuple #[v0_, .int .i64 r2]) ∧ Kd.R (Kd.int .i64) 3 w' w.heap.size (fun _ => True) v0_ r1 ∧ Below w.heap.size w w' := by
  have HR0 := Aside0.mk hr0
  have HC0 := Aside0.mk hc0
  clear hr0 hc0
  have HR1 := Aside0.mk hr1
  have HC1 := Aside0.mk hc1
  clear hr1 hc1
  have HB := Aside0.mk (Below.refl w.heap.size w)
  have H : ((knead_Validate.f l0).bind fun t167 => (if t167 = 0 then ((knead_worded.f l1).bind fun t168 => (if t168 = 0 then ((knead_folded.f k l0 l1).bind fun t169 => (some (t169, 0))) else (some (([] : List Int), t168)))) else (some (([] : List Int), t167)))) = some (r1, r2) := h
  clear h
  replace H := Option.bind_eq_some_iff.mp H
  obtain ⟨t167, A30, H⟩ := H
  replace H : (if t167 = 0 then ((knead_worded.f l1).bind fun t168 => (if t168 = 0 then ((knead_folded.f k l0 l1).bind fun t169 => (some (t169, 0))) else (some (([] : List Int), t168)))) else (some (([] : List Int), t167))) = some (r1, r2) := H
  have A3 := Aside0.mk A30
  clear A30
  by_cases c4 : t167 = 0
  · rw [if_pos c4] at H
    have c4b0 : (t167 == 0) = true := beq_iff_eq.mpr c4
    have c4b1 : (t167 != 0) = false := bne_eq_false_iff_eq.mpr c4
    clear c4
    replace H := Option.bind_eq_some_iff.mp H
    obtain ⟨t168, A50, H⟩ := H
    replace H : (if t168 = 0 then ((knead_folded.f k l0 l1).bind fun t169 => (some (t169, 0))) else (some (([] : List Int), t168))) = some (r1, r2) := H
    have A5 := Aside0.mk A50
    clear A50
    by_cases c6 : t168 = 0
    · rw [if_pos c6] at H
      have c6b0 : (t168 == 0) = true := beq_iff_eq.mpr c6
      have c6b1 : (t168 != 0) = false := bne_eq_false_iff_eq.mpr c6
      clear c6
      replace H := Option.bind_eq_some_iff.mp H
      obtain ⟨t169, A70, H⟩ := H
      replace H : (some (t169, 0)) = some (r1, r2) := H
      have A7 := Aside0.mk A70
      clear A70
      simp only [Option.some.injEq, Prod.mk.injEq] at H
      obtain ⟨rfl, rfl⟩ := H
      go_enter Try.func36, Try.ntmps36
      go_wp2_with (first | ((with_reducible refine gate_callee (f := 45) rfl ?_); refine goesL_ (some 9) rfl rfl Try.func45 (by kernel_rfl) rfl #[.slice A0 l0.length c0] rfl (by (try simp only [List.map_toArray, List.map_cons, List.map_nil]); first | done | rfl | (simp only [List.length_drop, List.length_take]; rfl)) ?_; (with_reducible refine (knead_Validate.calls _ _ l0 t167 _ ?side1 ?side2 A3.out).mono ?_); (case side1 => repeat (first | exact HR0.out | (with_reducible refine Kd.C_alloc ?_ _) | (with_reducible refine Kd.C_drewN ?_ _) | (with_reducible refine Kd.C_drew ?_))); (case side2 => exact HC0.out); rintro e w' ⟨rfl, ⟨nd, rfl⟩⟩; refine ⟨_, rfl, ?_⟩) | ((with_reducible refine gate_callee (f := 56) rfl ?_); refine goesL_ (some 14) rfl rfl Try.func56 (by kernel_rfl) rfl #[.slice A1 l1.length c1] rfl (by (try simp only [List.map_toArray, List.map_cons, List.map_nil]); first | done | rfl | (simp only [List.length_drop, List.length_take]; rfl)) ?_; (with_reducible refine (knead_worded.calls _ _ l1 t168 _ ?side1 ?side2 A5.out).mono ?_); (case side1 => repeat (first | exact HR1.out | (with_reducible refine Kd.C_alloc ?_ _) | (with_reducible refine Kd.C_drewN ?_ _) | (with_reducible refine Kd.C_drew ?_))); (case side2 => exact HC1.out); rintro e w' ⟨rfl, ⟨nd, rfl⟩⟩; refine ⟨_, rfl, ?_⟩) | ((with_reducible refine gate_callee (f := 71) rfl ?_); refine goesL_ (some 20) rfl rfl Try.func71 (by kernel_rfl) rfl #[.slice A0 l0.length c0, .slice A1 l1.length c1] rfl (by (try simp only [List.map_toArray, List.map_cons, List.map_nil]); first | done | rfl | (simp only [List.length_drop, List.length_take]; rfl)) ?_; (with_reducible refine (knead_folded.calls k _ _ l0 _ _ l1 t169 _ ?side1 ?side2 ?side3 ?side4 A7.out).mono ?_); (case side1 => repeat (first | exact HR0.out | (with_reducible refine Kd.C_alloc ?_ _) | (with_reducible refine Kd.C_drewN ?_ _) | (with_reducible refine Kd.C_drew ?_))); (case side2 => exact HC0.out); (case side3 => repeat (first | exact HR1.out | (with_reducible refine Kd.C_alloc ?_ _) | (with_reducible refine Kd.C_drewN ?_ _) | (with_reducible refine Kd.C_drew ?_))); (case side4 => exact HC1.out); rintro e w8 ⟨v170, rfl, ho0, hb⟩; refine ⟨_, rfl, ?_⟩; have n0_ := Aside0.mk (Kd.R_lower ho0 (below_size (by repeat (first | (with_reducible first | exact HB.out | apply below_alloc | apply pw_below_drewN | apply below_drew1) | exact HB.out)))); have n1_ := Aside0.mk (below_step (by repeat (first | (with_reducible first | exact HB.out | apply below_alloc | apply pw_below_drewN | apply below_drew1) | exact HB.out)) hb); clear HB; have HO171 := n0_; have HB := n1_; clear n0_ n1_; (try clear hb); (try clear hb2); (try clear hk); (try clear hi); (try clear ho0)))
      go_ret2
      exact ⟨_, by first | rfl | (simp [errW_none, errW_some] <;> rfl) | (simp [*, errW_none, errW_some] <;> rfl), by (with_reducible repeat (first | apply Kd.R_alloc | apply Kd.R_drewN | apply Kd.R_drew)); exact HO171.out, by repeat (first | (with_reducible first | exact HB.out | apply below_alloc | apply pw_below_drewN | apply below_drew1) | exact HB.out)⟩
    · rw [if_neg c6] at H
      have c6b0 : (t168 == 0) = false := beq_eq_false_iff_ne.mpr c6
      have c6b1 : (t168 != 0) = true := bne_iff_ne.mpr c6
      simp only [Option.some.injEq, Prod.mk.injEq] at H
      obtain ⟨rfl, rfl⟩ := H
      go_enter Try.func36, Try.ntmps36
      go_wp2_with (first | ((with_reducible refine gate_callee (f := 45) rfl ?_); refine goesL_ (some 9) rfl rfl Try.func45 (by kernel_rfl) rfl #[.slice A0 l0.length c0] rfl (by (try simp only [List.map_toArray, List.map_cons, List.map_nil]); first | done | rfl | (simp only [List.length_drop, List.length_take]; rfl)) ?_; (with_reducible refine (knead_Validate.calls _ _ l0 t167 _ ?side1 ?side2 A3.out).mono ?_); (case side1 => repeat (first | exact HR0.out | (with_reducible refine Kd.C_alloc ?_ _) | (with_reducible refine Kd.C_drewN ?_ _) | (with_reducible refine Kd.C_drew ?_))); (case side2 => exact HC0.out); rintro e w' ⟨rfl, ⟨nd, rfl⟩⟩; refine ⟨_, rfl, ?_⟩) | ((with_reducible refine gate_callee (f := 56) rfl ?_); refine goesL_ (some 14) rfl rfl Try.func56 (by kernel_rfl) rfl #[.slice A1 l1.length c1] rfl (by (try simp only [List.map_toArray, List.map_cons, List.map_nil]); first | done | rfl | (simp only [List.length_drop, List.length_take]; rfl)) ?_; (with_reducible refine (knead_worded.calls _ _ l1 t168 _ ?side1 ?side2 A5.out).mono ?_); (case side1 => repeat (first | exact HR1.out | (with_reducible refine Kd.C_alloc ?_ _) | (with_reducible refine Kd.C_drewN ?_ _) | (with_reducible refine Kd.C_drew ?_))); (case side2 => exact HC1.out); rintro e w' ⟨rfl, ⟨nd, rfl⟩⟩; refine ⟨_, rfl, ?_⟩))
      go_ret2
      exact ⟨_, by first | rfl | (simp [errW_none, errW_some] <;> rfl) | (simp [*, errW_none, errW_some] <;> rfl), by first | exact Kd.R_nil _ _ _ _ _ | exact Kd.N_nil _ _ _ _ _ | exact Kd.V_nil _ _ _ _ _ | exact Kd.Q_nil _ _ _ _ _ | exact Kd.S_nil _ _ _ _ _, by repeat (first | (with_reducible first | exact HB.out | apply below_alloc | apply pw_below_drewN | apply below_drew1) | exact HB.out)⟩
  · rw [if_neg c4] at H
    have c4b0 : (t167 == 0) = false := beq_eq_false_iff_ne.mpr c4
    have c4b1 : (t167 != 0) = true := bne_iff_ne.mpr c4
    simp only [Option.some.injEq, Prod.mk.injEq] at H
    obtain ⟨rfl, rfl⟩ := H
    go_enter Try.func36, Try.ntmps36
    go_wp2_with (first | ((with_reducible refine gate_callee (f := 45) rfl ?_); refine goesL_ (some 9) rfl rfl Try.func45 (by kernel_rfl) rfl #[.slice A0 l0.length c0] rfl (by (try simp only [List.map_toArray, List.map_cons, List.map_nil]); first | done | rfl | (simp only [List.length_drop, List.length_take]; rfl)) ?_; (with_reducible refine (knead_Validate.calls _ _ l0 t167 _ ?side1 ?side2 A3.out).mono ?_); (case side1 => repeat (first | exact HR0.out | (with_reducible refine Kd.C_alloc ?_ _) | (with_reducible refine Kd.C_drewN ?_ _) | (with_reducible refine Kd.C_drew ?_))); (case side2 => exact HC0.out); rintro e w' ⟨rfl, ⟨nd, rfl⟩⟩; refine ⟨_, rfl, ?_⟩))
    go_ret2
    exact ⟨_, by first | rfl | (simp [errW_none, errW_some] <;> rfl) | (simp [*, errW_none, errW_some] <;> rfl), by first | exact Kd.R_nil _ _ _ _ _ | exact Kd.N_nil _ _ _ _ _ | exact Kd.V_nil _ _ _ _ _ | exact Kd.Q_nil _ _ _ _ _ | exact Kd.S_nil _ _ _ _ _, by repeat (first | (with_reducible first | exact HB.out | apply below_alloc | apply pw_below_drewN | apply below_drew1) | exact HB.out)⟩

end Go.Proofs.Ytgnklmhjejbcoaa.K
