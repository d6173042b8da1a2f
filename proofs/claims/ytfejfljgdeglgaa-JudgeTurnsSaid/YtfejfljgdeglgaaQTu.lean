/- Plain: the law JudgeTurns says true at every input. -/
import Derived.Test.YtfejfljgdeglgaaQS
import Derived.Test.YtfejfljgdeglgaaHTu
namespace Go.Proofs.Ytfejfljgdeglgaa.K
open Go.RowKit Go.Proofs.YtfejfljgdeglgaaW.PrintWords Go.Proofs.YtfejfljgdeglgaaW.PrintLast Go.Proofs.YtfejfljgdeglgaaW.PrintMore
set_option linter.unusedVariables false
set_option linter.unusedSimpArgs false
theorem tcopy_l0 (l : List S49) (hl : l.length ≤ 100) (hs : ∀ s ∈ l, s.f0.length ≤ 100) : ∀ m n : Nat, n + m = l.length → ∀ k, verditerref02_Copy.l0 (k + m + 1) l (l.take n) (n : Int) = some l
  | 0, n, h, k => by rw [verditerref02_Copy.l0, if_neg (by omega), List.take_of_length_le (by omega)]
  | m + 1, n, h, k => by
    have hn : n < l.length := by omega
    rw [verditerref02_Copy.l0, if_pos (by omega), Option.bind_some, if_pos (by omega), rd49_nat, getD_at l n z49 hn, if_pos (by have := hs _ (List.getElem_mem hn); simp; omega), if_pos (by rw [List.length_take]; omega), w_succ n (by omega)]
    have e : l.take n ++ [(⟨[] ++ l[n].f0, l[n].f1⟩ : S49)] = l.take (n + 1) := by
      rw [List.take_add_one, List.getElem?_eq_getElem hn]
      rfl
    rw [e]
    exact tcopy_l0 l hl hs m (n + 1) (by omega) k
theorem tcopy_ok (l : List S49) (hs : Short l) (k : Nat) (hk : 200 ≤ k) : verditerref02_Copy.f k l = some l := by
  unfold verditerref02_Copy.f
  have := tcopy_l0 l hs.1 hs.2 l.length 0 (by omega) (k - l.length - 1)
  rw [show k - l.length - 1 + l.length + 1 = k by have := hs.1; omega] at this
  exact this
theorem tsame_l0 (l : List S49) (hl : l.length ≤ 100) (hs : ∀ s ∈ l, s.f0.length ≤ 100) : ∀ m n k : Nat, n + m = l.length → 200 < k → verditerref02_Same.l0 (k + m + 1) l l n = some true
  | 0, n, k, h, hk => by rw [verditerref02_Same.l0, if_neg (by omega)]
  | m + 1, n, k, h, hk => by
    have hn : n < l.length := by omega
    rw [verditerref02_Same.l0, if_pos (by omega), if_pos (by omega), if_pos (by omega), bne_self_eq_false, if_neg (by decide), rd49_nat, getD_at l n z49 hn, same_ok _ _ (by have := hs _ (List.getElem_mem hn); omega) (by have := hs _ (List.getElem_mem hn); omega), Option.bind_some, if_pos rfl, w_succ n (by omega)]
    exact tsame_l0 l hl hs m (n + 1) k (by omega) hk
theorem tsame_ok (l : List S49) (hs : Short l) (k : Nat) (hk : 400 ≤ k) : verditerref02_Same.f k l l = some true := by
  unfold verditerref02_Same.f
  rw [if_pos rfl]
  have hl := hs.1
  have := tsame_l0 l hs.1 hs.2 l.length 0 (k - l.length - 1) (by omega) (by omega)
  rw [show k - l.length - 1 + l.length + 1 = k by omega] at this
  exact this
/-- The numbers from n on, m of them, that a list has not. -/
def cmpF (s : List Int) : Nat → Nat → List Int
  | 0, _ => []
  | m + 1, n => if (n : Int) ∈ s then cmpF s m (n + 1) else (n : Int) :: cmpF s m (n + 1)
theorem mem_cmpF (s : List Int) (x : Int) : ∀ m n, x ∈ cmpF s m n ↔ (n : Int) ≤ x ∧ x < (n : Int) + m ∧ x ∉ s
  | 0, n => by rw [cmpF]; exact ⟨fun h => (by cases h), fun h => by omega⟩
  | m + 1, n => by
    rw [cmpF]
    by_cases h : (n : Int) ∈ s
    · rw [if_pos h, mem_cmpF s x m (n + 1)]
      exact ⟨fun h2 => ⟨by omega, by omega, h2.2.2⟩, fun h2 => ⟨by have : x ≠ n := fun e => h2.2.2 (e ▸ h); omega, by omega, h2.2.2⟩⟩
    · rw [if_neg h, List.mem_cons, mem_cmpF s x m (n + 1)]
      constructor
      · rintro (rfl | h2)
        · exact ⟨by omega, by omega, h⟩
        · exact ⟨by omega, by omega, h2.2.2⟩
      · intro h2
        by_cases e : x = n
        · exact .inl e
        · exact .inr ⟨by omega, by omega, h2.2.2⟩
theorem cmpF_pair (s : List Int) : ∀ m n, (cmpF s m n).Pairwise (· < ·)
  | 0, n => by rw [cmpF]; exact List.Pairwise.nil
  | m + 1, n => by
    rw [cmpF]
    split
    · exact cmpF_pair s m (n + 1)
    · exact List.pairwise_cons.mpr ⟨fun x hx => by have := (mem_cmpF s x m (n + 1)).mp hx; omega, cmpF_pair s m (n + 1)⟩
theorem cmpF_set (s : List Int) (g : Nat) : isSetP (cmpF s g 0) g = true := (isSet_iff _ _).mpr ⟨cmpF_pair s g 0, fun x hx => by have := (mem_cmpF s x g 0).mp hx; omega⟩
theorem cmpF_length (s : List Int) (g : Nat) : (cmpF s g 0).length ≤ g := set_length (cmpF_set s g)
def turn1 (g : Nat) (s : S49) : S49 := ⟨cmpF s.f0 g 0, !s.f1⟩
def turnL (l : List S49) (g : Nat) : List S49 := l.map (turn1 g)
theorem jturn_l1 (x1 : Int) (x7 : List S49) (l : List S49) (len i : Int) (g : Nat) (hg : g ≤ 1000) (f0 : List Int) (f1 : Bool) (hf : f0.length ≤ 100) (h7 : x7.length ≤ 1000) (k : Nat) (hk : 100 < k) : ∀ m n (acc : List Int), n + m = g → acc.length ≤ n →
    judge_Turn.l1 (k + m + 1) x1 x7 acc l len i (g : Int) (n : Int) f0 f1 = judge_Turn.l0 k x1 (x7 ++ [(⟨acc ++ cmpF f0 m n, !f1⟩ : S49)]) l len (wrap64 (i + 1))
  | 0, n, acc, h, ha => by rw [judge_Turn.l1, if_neg (by omega), if_pos (by omega), cmpF, List.append_nil]
  | m + 1, n, acc, h, ha => by
    rw [judge_Turn.l1, if_pos (by omega), contains_ok _ _ _ (by omega) (by omega), Option.bind_some, w_succ n (by omega), cmpF]
    by_cases hm : (n : Int) ∈ f0
    · rw [if_pos (decide_eq_true hm), if_pos hm]
      exact jturn_l1 x1 x7 l len i g hg f0 f1 hf h7 k hk m (n + 1) acc (by omega) (by omega)
    · rw [if_neg (by simpa using hm), if_neg hm, if_pos (by omega)]
      have := jturn_l1 x1 x7 l len i g hg f0 f1 hf h7 k hk m (n + 1) (acc ++ [(n : Int)]) (by omega) (by rw [List.length_append, List.length_singleton]; omega)
      rw [List.append_assoc, List.singleton_append] at this
      exact this
theorem fuel_step (k m g : Nat) : k + (m + 1) * (g + 2) + 1 = ((k + m * (g + 2) + 1) + g + 1) + 1 := by rw [Nat.succ_mul]; omega
theorem jturn_l0 (l : List S49) (hl : l.length ≤ 100) (hs : ∀ s ∈ l, s.f0.length ≤ 100) (g : Nat) (hg : g ≤ 1000) (k : Nat) (hk : 100 < k) : ∀ m n, n + m = l.length →
    judge_Turn.l0 (k + m * (g + 2) + 1) (g : Int) (turnL (l.take n) g) l (l.length : Int) (n : Int) = some (turnL l g, 0)
  | 0, n, h => by rw [judge_Turn.l0, if_neg (by omega), List.take_of_length_le (by omega)]
  | m + 1, n, h => by
    have hn : n < l.length := by omega
    have hlt : (turnL (l.take n) g).length ≤ 1000 := by unfold turnL; rw [List.length_map, List.length_take]; omega
    rw [fuel_step, judge_Turn.l0, if_pos (by omega), if_pos (by omega), if_pos (by omega), rd49_nat, getD_at l n z49 hn]
    have h1 := jturn_l1 (g : Int) (turnL (l.take n) g) l (l.length : Int) (n : Int) g hg l[n].f0 l[n].f1 (hs _ (List.getElem_mem hn)) hlt (k + m * (g + 2) + 1) (by omega) g 0 [] (by omega) (Nat.le_refl _)
    have e : turnL (l.take n) g ++ [(⟨[] ++ cmpF l[n].f0 g 0, !l[n].f1⟩ : S49)] = turnL (l.take (n + 1)) g := by
      unfold turnL
      rw [List.take_add_one, List.getElem?_eq_getElem hn, List.map_append]
      rfl
    rw [e, w_succ n (by omega)] at h1
    refine h1.trans ?_
    exact jturn_l0 l hl hs g hg k hk m (n + 1) (by omega)
theorem rturn_l1 (l : List S49) (hl : l.length ≤ 100) (x7 : List S49) (i : Nat) (hi : i < l.length) (g : Nat) (hg : g ≤ 1000) (hf : l[i].f0.length ≤ 100) (h7 : x7.length ≤ 1000) (k : Nat) (hk : 100 < k) : ∀ m n (acc : List Int), n + m = g → acc.length ≤ n →
    verditerref02_Turn.l1 (k + m + 1) l (g : Int) x7 (i : Int) acc (n : Int) = verditerref02_Turn.l0 k l (g : Int) (x7 ++ [(⟨acc ++ cmpF l[i].f0 m n, !l[i].f1⟩ : S49)]) (((i + 1 : Nat)) : Int)
  | 0, n, acc, h, ha => by rw [verditerref02_Turn.l1, if_neg (by omega), if_pos (by omega), if_pos (by omega), if_pos (by omega), rd49_nat, getD_at l i z49 hi, cmpF, List.append_nil, w_succ i (by omega)]
  | m + 1, n, acc, h, ha => by
    rw [verditerref02_Turn.l1, if_pos (by omega), if_pos (by omega), if_pos (by omega), rd49_nat, getD_at l i z49 hi, has_ok _ _ _ (by omega) (by omega), Option.bind_some, w_succ n (by omega), cmpF]
    by_cases hm : (n : Int) ∈ l[i].f0
    · rw [if_pos (decide_eq_true hm), if_pos hm]
      exact rturn_l1 l hl x7 i hi g hg hf h7 k hk m (n + 1) acc (by omega) (by omega)
    · rw [if_neg (by simpa using hm), if_neg hm, if_pos (by omega)]
      have := rturn_l1 l hl x7 i hi g hg hf h7 k hk m (n + 1) (acc ++ [(n : Int)]) (by omega) (by rw [List.length_append, List.length_singleton]; omega)
      rw [List.append_assoc, List.singleton_append] at this
      exact this
theorem rturn_l0 (l : List S49) (hl : l.length ≤ 100) (hs : ∀ s ∈ l, s.f0.length ≤ 100) (g : Nat) (hg : g ≤ 1000) (k : Nat) (hk : 100 < k) : ∀ m n, n + m = l.length →
    verditerref02_Turn.l0 (k + m * (g + 2) + 1) l (g : Int) (turnL (l.take n) g) (n : Int) = some (turnL l g, 0)
  | 0, n, h => by rw [verditerref02_Turn.l0, if_neg (by omega), List.take_of_length_le (by omega)]
  | m + 1, n, h => by
    have hn : n < l.length := by omega
    have hlt : (turnL (l.take n) g).length ≤ 1000 := by unfold turnL; rw [List.length_map, List.length_take]; omega
    rw [fuel_step, verditerref02_Turn.l0, if_pos (by omega)]
    have h1 := rturn_l1 l hl (turnL (l.take n) g) n hn g hg (hs _ (List.getElem_mem hn)) hlt (k + m * (g + 2) + 1) (by omega) g 0 [] (by omega) (Nat.le_refl _)
    have e : turnL (l.take n) g ++ [(⟨[] ++ cmpF l[n].f0 g 0, !l[n].f1⟩ : S49)] = turnL (l.take (n + 1)) g := by
      unfold turnL
      rw [List.take_add_one, List.getElem?_eq_getElem hn, List.map_append]
      rfl
    rw [e] at h1
    refine h1.trans ?_
    exact rturn_l0 l hl hs g hg k hk m (n + 1) (by omega)
/-- What Turn answers. -/
def turnV (g : Int) (l : List S49) : List S49 × Int := if validV g l = 0 then (turnL l g.toNat, 0) else ([], validV g l)
theorem turn_fuel {m g k : Nat} (hm : m ≤ 12) (hg : g ≤ 16) (hk : 600 ≤ k) : ∃ k0, 100 < k0 ∧ k = k0 + m * (g + 2) + 1 := by
  have : m * (g + 2) ≤ 12 * 18 := Nat.mul_le_mul hm (by omega)
  exact ⟨k - m * (g + 2) - 1, by omega, by omega⟩
theorem jTurn (g : Int) (l : List S49) (hs : Short l) (k : Nat) (hk : 600 ≤ k) : judge_Turn.f k l g = some (turnV g l) := by
  unfold judge_Turn.f turnV
  rw [jvalid, Option.bind_some]
  by_cases h : validV g l = 0
  · rw [if_pos h, if_pos h]
    obtain ⟨h1, h2, h3⟩ := valid_of h
    obtain ⟨n, rfl, h4, h5⟩ := nat_of ⟨h1, h2⟩
    obtain ⟨k0, h6, h7⟩ := turn_fuel h3 h4 hk
    rw [h7, Int.toNat_natCast]
    exact jturn_l0 l hs.1 hs.2 n (by omega) k0 h6 l.length 0 (by omega)
  · rw [if_neg h, if_neg h]
theorem rTurn (g : Int) (l : List S49) (hs : Short l) (k : Nat) (hk : 600 ≤ k) : verditerref02_Turn.f k l g = some (turnV g l) := by
  unfold verditerref02_Turn.f turnV
  rw [rvalid g l k (by omega), Option.bind_some]
  by_cases h : validV g l = 0
  · rw [if_pos h, if_pos h]
    obtain ⟨h1, h2, h3⟩ := valid_of h
    obtain ⟨n, rfl, h4, h5⟩ := nat_of ⟨h1, h2⟩
    obtain ⟨k0, h6, h7⟩ := turn_fuel h3 h4 hk
    rw [h7, Int.toNat_natCast]
    exact rturn_l0 l hs.1 hs.2 n (by omega) k0 h6 l.length 0 (by omega)
  · rw [if_neg h, if_neg h]
theorem cnt_turn (g : Nat) (i : Int) (h0 : 0 ≤ i) (h1 : i < g) : ∀ l : List S49, cnt (turnL l g) i = cnt l i
  | [] => rfl
  | s :: l => by
    have ih := cnt_turn g i h0 h1 l
    unfold turnL at ih ⊢
    rw [List.map_cons, cnt, cnt, ih]
    have e : decide (i ∈ (turn1 g s).f0) = !decide (i ∈ s.f0) := by
      show decide (i ∈ cmpF s.f0 g 0) = !decide (i ∈ s.f0)
      have := mem_cmpF s.f0 i g 0
      by_cases hm : i ∈ s.f0
      · rw [decide_eq_true hm, decide_eq_false (fun h => (this.mp h).2.2 hm)]; rfl
      · rw [decide_eq_false hm, decide_eq_true (this.mpr ⟨by omega, by omega, hm⟩)]; rfl
    rw [e]
    show (if ((!decide (i ∈ s.f0)) != (!s.f1)) = true then 1 else 0) + cnt l i = _
    cases decide (i ∈ s.f0) <;> cases s.f1 <;> rfl
theorem agP_turn (l : List S49) (g : Nat) : agP (turnL l g) g = agP l g := by
  unfold agP
  apply List.map_congr_left
  intro i hi
  rw [List.mem_range] at hi
  rw [cnt_turn g (i : Int) (by omega) (by omega) l]
theorem turnV_short (g : Int) (l : List S49) (hs : Short l) : Short (turnV g l).1 := by
  unfold turnV
  split
  · rename_i h
    obtain ⟨h1, h2, h3⟩ := valid_of h
    refine ⟨by unfold turnL; rw [List.length_map]; omega, fun s hsm => ?_⟩
    unfold turnL at hsm
    obtain ⟨s0, _, rfl⟩ := List.mem_map.mp hsm
    have := cmpF_length s0.f0 g.toNat
    show (cmpF s0.f0 g.toNat 0).length ≤ 100
    omega
  · exact ⟨Nat.zero_le _, fun s hsm => by cases hsm⟩
theorem Pure.JudgeTurns (g : Int) (l : List S49) (wg : (Lit.int .i64 g).wf = true) (wl : ∀ s ∈ l, ∀ z ∈ s.f0, (Lit.int .i64 z).wf = true) : ∃ k, verditerlaw02_judgeTurns.f k g l = some true := by
  refine ⟨1000, ?_⟩
  unfold verditerlaw02_judgeTurns.f
  refine if_pos ⟨known_ok (by omega), ?_⟩
  rcases long_ok l 1000 (by omega) with h | ⟨h, hs⟩
  · exact .inl h
  · refine .inr ⟨h, (turnV g l).1, (turnV g l).2, (againstV g l).1, (againstV g (turnV g l).1).1, (againstV g l).2, (againstV g (turnV g l).1).2, tcopy_ok l hs _ (by omega), rTurn g l hs _ (by omega), jTurn g l hs _ (by omega), tsame_ok _ (turnV_short g l hs) _ (by omega), jAgainst g l hs _ (by omega), jAgainst g _ (turnV_short g l hs) _ (by omega), ?_, tsame_ok l hs _ (by omega), (turnV_short g l hs).1, (turnV_short g l hs).2⟩
    by_cases hv : validV g l = 0
    · right
      have hv' := (validV_zero g l).mp hv
      obtain ⟨h1, h2, h3, h4⟩ := hv'
      obtain ⟨n, rfl, h5, h6⟩ := nat_of ⟨h1, h2⟩
      have e : turnV (n : Int) l = (turnL l n, 0) := by unfold turnV; rw [if_pos hv, Int.toNat_natCast]
      have hv2 : validV (n : Int) (turnL l n) = 0 := (validV_zero _ _).mpr ⟨h1, h2, by unfold turnL; rw [List.length_map]; exact h3, fun s hsm => by
        unfold turnL at hsm
        obtain ⟨s0, _, rfl⟩ := List.mem_map.mp hsm
        exact cmpF_set s0.f0 n⟩
      have e1 : againstV (n : Int) l = (agP l n, 0) := by unfold againstV; rw [if_pos hv, Int.toNat_natCast]
      have e2 : againstV (n : Int) (turnL l n) = (agP l n, 0) := by unfold againstV; rw [if_pos hv2, Int.toNat_natCast, agP_turn]
      rw [e, e1, e2]
      exact ⟨rfl, rfl, rfl, same_ok _ _ (by rw [agP_length]; omega) (by rw [agP_length]; omega)⟩
    · left
      unfold turnV
      rw [if_neg hv]
      exact hv
end Go.Proofs.Ytfejfljgdeglgaa.K
