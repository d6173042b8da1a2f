/- Plain: what Long, Validate, Against, Left, Grade and State answer for a record that is not long. -/
import Derived.Test.YtfejfljgdeglgaaQK
import Derived.Test.YtfejfljgdeglgaaHV
import Derived.Test.YtfejfljgdeglgaaK1
import Derived.Test.YtfejfljgdeglgaaK2
import Derived.Test.YtfejfljgdeglgaaK3
import Derived.Test.YtfejfljgdeglgaaK5
namespace Go.Proofs.Ytfejfljgdeglgaa.K
open Go.RowKit Go.Proofs.YtfejfljgdeglgaaW.PrintWords Go.Proofs.YtfejfljgdeglgaaW.PrintLast Go.Proofs.YtfejfljgdeglgaaW.PrintMore
set_option linter.unusedVariables false
set_option linter.unusedSimpArgs false
theorem rd_nat (l : List Int) (n : Nat) : rd l (n : Int) = l.getD n 0 := by unfold rd; rw [Int.toNat_natCast]
theorem rd49_nat (l : List S49) (n : Nat) : rd_T49 l (n : Int) = l.getD n z49 := by unfold rd_T49; rw [Int.toNat_natCast]
theorem w_succ (n : Nat) (h : n ≤ 4611686018427387904) : wrap64 ((n : Int) + 1) = ((n + 1 : Nat) : Int) := by unfold wrap64; omega
theorem getD_at {α : Type} (l : List α) (n : Nat) (d : α) (h : n < l.length) : l.getD n d = l[n] := by rw [List.getD_eq_getElem?_getD, List.getElem?_eq_getElem h]; rfl
theorem mem_drop (l : List Int) (n : Nat) (x : Int) (h : n < l.length) : x ∈ l.drop n ↔ l.getD n 0 = x ∨ x ∈ l.drop (n + 1) := by
  rw [getD_at l n 0 h, List.drop_eq_getElem_cons h, List.mem_cons]
  constructor
  · rintro (h | h)
    · exact .inl h.symm
    · exact .inr h
  · rintro (h | h)
    · exact .inl h.symm
    · exact .inr h
theorem has_l0 (l : List Int) (x : Int) (hl : l.length ≤ 1000000) : ∀ m n k : Nat, n + m = l.length → m < k → verditerref02_Has.l0 k l x n = some (decide (x ∈ l.drop n))
  | m, n, 0, _, hk => by omega
  | 0, n, k + 1, h, _ => by
    rw [verditerref02_Has.l0, if_neg (by omega), List.drop_of_length_le (by omega)]
    simp
  | m + 1, n, k + 1, h, hk => by
    rw [verditerref02_Has.l0, if_pos (by omega), if_pos (by omega), rd_nat]
    have hm := mem_drop l n x (by omega)
    by_cases e : l.getD n 0 = x
    · rw [if_pos e, decide_eq_true (hm.2 (.inl e))]
    · rw [if_neg e, w_succ n (by omega), has_l0 l x hl m (n + 1) k (by omega) (by omega)]
      congr 1
      rw [decide_eq_decide, hm]
      constructor
      · exact .inr
      · rintro (h | h)
        · exact absurd h e
        · exact h
theorem has_ok (l : List Int) (x : Int) (k : Nat) (hl : l.length ≤ 1000000) (hk : l.length < k) : verditerref02_Has.f k l x = some (decide (x ∈ l)) := by
  have := has_l0 l x hl l.length 0 k (by omega) hk
  rw [List.drop_zero] at this
  exact this
theorem index_l0 (l : List Int) (x : Int) (hl : l.length ≤ 1000000) : ∀ m n k : Nat, n + m = l.length → m < k → ∃ t, slices_Index_int_int.l0 k l x (l.length : Int) n = some t ∧ (0 ≤ t ↔ x ∈ l.drop n)
  | m, n, 0, _, hk => by omega
  | 0, n, k + 1, h, _ => by
    rw [slices_Index_int_int.l0, if_neg (by omega), List.drop_of_length_le (by omega)]
    exact ⟨-1, rfl, by simp⟩
  | m + 1, n, k + 1, h, hk => by
    rw [slices_Index_int_int.l0, if_pos (by omega), if_pos (by omega), if_pos (by omega), rd_nat]
    have hm := mem_drop l n x (by omega)
    by_cases e : x = l.getD n 0
    · rw [if_pos e]
      exact ⟨n, rfl, fun _ => hm.2 (.inl e.symm), fun _ => by omega⟩
    · rw [if_neg e, w_succ n (by omega)]
      obtain ⟨t, ht, h2⟩ := index_l0 l x hl m (n + 1) k (by omega) (by omega)
      refine ⟨t, ht, h2.trans ?_⟩
      rw [hm]
      constructor
      · exact .inr
      · rintro (h | h)
        · exact absurd h.symm e
        · exact h
theorem contains_ok (l : List Int) (x : Int) (k : Nat) (hl : l.length ≤ 1000000) (hk : l.length < k) : slices_Contains_int_int.f k l x = some (decide (x ∈ l)) := by
  obtain ⟨t, ht, h2⟩ := index_l0 l x hl l.length 0 k (by omega) hk
  rw [List.drop_zero] at h2
  unfold slices_Contains_int_int.f slices_Index_int_int.f
  rw [show ((0 : Nat) : Int) = 0 from rfl] at ht
  rw [ht, Option.bind_some]
  congr 1
  rw [decide_eq_decide]
  exact h2
/-- Not long. -/
def Short (l : List S49) : Prop := l.length ≤ 100 ∧ ∀ s ∈ l, s.f0.length ≤ 100
theorem long_l0 (l : List S49) (hl : l.length ≤ 100) : ∀ m n k : Nat, n + m = l.length → m < k → verditerlaw02_Long.l0 k l n = some true ∨ (verditerlaw02_Long.l0 k l n = some false ∧ ∀ s ∈ l.drop n, s.f0.length ≤ 100)
  | m, n, 0, _, hk => by omega
  | 0, n, k + 1, h, _ => by
    rw [verditerlaw02_Long.l0, if_neg (by omega), List.drop_of_length_le (by omega)]
    exact .inr ⟨rfl, by simp⟩
  | m + 1, n, k + 1, h, hk => by
    rw [verditerlaw02_Long.l0, if_pos (by omega), if_pos (by omega), rd49_nat, getD_at l n z49 (by omega)]
    by_cases e : ((l[n].f0.length : Nat) : Int) > 100
    · rw [if_pos e]; exact .inl rfl
    · rw [if_neg e, w_succ n (by omega)]
      rcases long_l0 l hl m (n + 1) k (by omega) (by omega) with h1 | ⟨h1, h2⟩
      · exact .inl h1
      · refine .inr ⟨h1, ?_⟩
        rw [List.drop_eq_getElem_cons (by omega)]
        intro s hs
        rcases List.mem_cons.1 hs with rfl | hs
        · omega
        · exact h2 s hs
theorem long_ok (l : List S49) (k : Nat) (hk : 101 < k) : verditerlaw02_Long.f k l = some true ∨ (verditerlaw02_Long.f k l = some false ∧ Short l) := by
  unfold verditerlaw02_Long.f
  by_cases h : (l.length : Int) > 100
  · rw [if_pos h]; exact .inl rfl
  · rw [if_neg h]
    rcases long_l0 l (by omega) l.length 0 k (by omega) (by omega) with h1 | ⟨h1, h2⟩
    · exact .inl h1
    · exact .inr ⟨h1, by omega, by simpa using h2⟩
theorem valid_l0 (g : Int) (hg : 0 ≤ g ∧ g ≤ 1000) (l : List S49) (hl : l.length ≤ 1000000) : ∀ m n k : Nat, n + m = l.length → m < k → verditerref02_Validate.l0 k g l n = some (if allSetF l g m n = true then 0 else 1)
  | m, n, 0, _, hk => by omega
  | 0, n, k + 1, h, _ => by
    rw [verditerref02_Validate.l0, if_neg (by omega)]
    rfl
  | m + 1, n, k + 1, h, hk => by
    rw [verditerref02_Validate.l0, if_pos (by omega), if_pos (by omega)]
    unfold verditerref02_isSet.f
    rw [if_pos hg, Option.bind_some, allSetF]
    cases isSetP (rd_T49 l n).f0 g
    · rfl
    · simp only [if_true]
      rw [w_succ n (by omega), valid_l0 g hg l hl m (n + 1) k (by omega) (by omega)]
/-- What Validate answers. -/
def validV (g : Int) (l : List S49) : Int := if 1 ≤ g ∧ g ≤ 16 then (if l.length > 12 then 3 else (if allSet l g = true then 0 else 1)) else 1
theorem jvalid (g : Int) (l : List S49) : judge_Validate.f g l = some (validV g l) := by
  unfold judge_Validate.f validV
  split
  · split <;> rfl
  · rfl
theorem rvalid (g : Int) (l : List S49) (k : Nat) (hk : 100 < k) : verditerref02_Validate.f k g l = some (validV g l) := by
  unfold verditerref02_Validate.f validV
  rw [rwithin, Option.bind_some]
  simp only [decide_eq_true_eq]
  by_cases h1 : 1 ≤ g ∧ g ≤ 16
  · rw [if_pos h1, if_pos h1]
    by_cases h2 : l.length > 12
    · rw [if_pos (by omega), if_pos h2]
    · rw [if_neg (by omega), if_neg h2]
      exact valid_l0 g (by omega) l (by omega) l.length 0 k (by omega) (by omega)
  · rw [if_neg h1, if_neg h1]
theorem valid_of {g : Int} {l : List S49} (h : validV g l = 0) : 1 ≤ g ∧ g ≤ 16 ∧ l.length ≤ 12 := by
  unfold validV at h
  split at h
  · rename_i h1
    split at h
    · cases h
    · exact ⟨h1.1, h1.2, by omega⟩
  · cases h
/-- How many answers are against a grade. -/
def cnt : List S49 → Int → Nat
  | [], _ => 0
  | s :: l, g => (if (decide (g ∈ s.f0) != s.f1) = true then 1 else 0) + cnt l g
theorem cnt_le : ∀ (l : List S49) (g : Int), cnt l g ≤ l.length
  | [], _ => Nat.le_refl _
  | s :: l, g => by
    have := cnt_le l g
    rw [cnt, List.length_cons]
    split <;> omega
theorem cnt_drop (l : List S49) (n : Nat) (g : Int) (h : n < l.length) : cnt (l.drop n) g = (if (decide (g ∈ l[n].f0) != l[n].f1) = true then 1 else 0) + cnt (l.drop (n + 1)) g := by
  rw [List.drop_eq_getElem_cons h, cnt]
/-- How many answers are against each of the first grades. -/
def agP (l : List S49) (g : Nat) : List Int := (List.range g).map fun i : Nat => ((cnt l (i : Int) : Nat) : Int)
theorem agP_succ (l : List S49) (g : Nat) : agP l (g + 1) = agP l g ++ [((cnt l (g : Int) : Nat) : Int)] := by
  unfold agP
  rw [List.range_succ, List.map_append]
  rfl
theorem agP_length (l : List S49) (g : Nat) : (agP l g).length = g := by unfold agP; simp
theorem agP_get (l : List S49) (g i : Nat) (h : i < g) : (agP l g).getD i 0 = ((cnt l (i : Int) : Nat) : Int) := by
  rw [getD_at _ _ _ (by rw [agP_length]; exact h)]
  simp [agP]
theorem r1 (g : Int) (l : List S49) (hl : l.length ≤ 100) (hs : ∀ s ∈ l, s.f0.length ≤ 100) (acc : List Int) (hacc : acc.length ≤ 1000) (x : Nat) (hx : x ≤ 1000) : ∀ m n c k : Nat, n + m = l.length → c ≤ n → 101 < k →
    verditerref02_against.l1 (k + m + 1) g l acc x (c : Int) (n : Int) = verditerref02_against.l0 k g l (acc ++ [((c + cnt (l.drop n) (x : Int) : Nat) : Int)]) ((x + 1 : Nat) : Int)
  | 0, n, c, k, h, hc, hk => by
    rw [verditerref02_against.l1, if_neg (by omega), if_pos (by omega), w_succ x (by omega), List.drop_of_length_le (by omega)]
    rfl
  | m + 1, n, c, k, h, hc, hk => by
    have hn : n < l.length := by omega
    rw [verditerref02_against.l1, if_pos (by omega), if_pos (by omega), rd49_nat, getD_at l n z49 hn, has_ok _ _ _ (by have := hs _ (List.getElem_mem hn); omega) (by have := hs _ (List.getElem_mem hn); omega), Option.bind_some, w_succ n (by omega), w_succ c (by omega), cnt_drop l n x hn]
    rw [show k + (m + 1) = k + m + 1 by omega]
    split
    · rw [r1 g l hl hs acc hacc x hx m (n + 1) (c + 1) k (by omega) (by omega) hk, show c + 1 + cnt (l.drop (n + 1)) x = c + (1 + cnt (l.drop (n + 1)) x) by omega]
    · rw [r1 g l hl hs acc hacc x hx m (n + 1) c k (by omega) (by omega) hk, Nat.zero_add]
theorem r0 (g : Nat) (l : List S49) (hg : g ≤ 100) (hl : l.length ≤ 100) (hs : ∀ s ∈ l, s.f0.length ≤ 100) : ∀ m x k : Nat, x + m = g → 101 < k →
    verditerref02_against.l0 (k + m * (l.length + 2) + 1) g l (agP l x) x = some (agP l g)
  | 0, x, k, h, hk => by
    rw [verditerref02_against.l0, if_neg (by omega)]
    rw [show x = g by omega]
  | m + 1, x, k, h, hk => by
    rw [verditerref02_against.l0, if_pos (by omega)]
    rw [show k + (m + 1) * (l.length + 2) = (k + m * (l.length + 2) + 1) + l.length + 1 by rw [Nat.add_mul]; omega]
    have := r1 g l hl hs (agP l x) (by rw [agP_length]; omega) x (by omega) l.length 0 0 (k + m * (l.length + 2) + 1) (by omega) (by omega) (by omega)
    rw [show ((0 : Nat) : Int) = 0 from rfl] at this
    rw [this, List.drop_zero, Nat.zero_add, ← agP_succ]
    exact r0 g l hg hl hs m (x + 1) k (by omega) hk
theorem ragainst (g : Nat) (l : List S49) (hg : g ≤ 16) (hl : l.length ≤ 12) (hs : ∀ s ∈ l, s.f0.length ≤ 100) (k : Nat) (hk : 400 ≤ k) : verditerref02_against.f k g l = some (agP l g) := by
  unfold verditerref02_against.f
  have hm : g * (l.length + 2) ≤ 16 * 14 := Nat.mul_le_mul hg (by omega)
  have := r0 g l (by omega) (by omega) hs g 0 (k - g * (l.length + 2) - 1) (by omega) (by omega)
  rw [show k - g * (l.length + 2) - 1 + g * (l.length + 2) + 1 = k by omega] at this
  exact this
/-- The counts of the first x grades, and zeros. -/
def arrP (l : List S49) (g x : Nat) : List Int := agP l x ++ List.replicate (g - x) 0
theorem arrP_length (l : List S49) (g x : Nat) (h : x ≤ g) : (arrP l g x).length = g := by unfold arrP; rw [List.length_append, agP_length, List.length_replicate]; omega
theorem arrP_set (l : List S49) (g x : Nat) (h : x < g) (c : Int) : (arrP l g x).set x c = agP l x ++ c :: List.replicate (g - (x + 1)) 0 := by
  unfold arrP
  rw [show g - x = (g - (x + 1)) + 1 by omega, List.replicate_succ, List.set_append_right _ _ (by rw [agP_length]; exact Nat.le_refl _), agP_length, Nat.sub_self, List.set_cons_zero]
theorem j1 (l : List S49) (hl : l.length ≤ 100) (hs : ∀ s ∈ l, s.f0.length ≤ 100) (a b : List Int) (g : Int) (x : Nat) (hx : x = a.length) (hx2 : x ≤ 1000) : ∀ m n c k : Nat, n + m = l.length → c ≤ n → 101 < k →
    judge_against.l1 (k + m + 1) l (a ++ (c : Int) :: b) (x : Int) g (x : Int) l (l.length : Int) (n : Int) = judge_against.l0 k l (a ++ (((c + cnt (l.drop n) (x : Int) : Nat) : Int)) :: b) g ((x + 1 : Nat) : Int)
  | 0, n, c, k, h, hc, hk => by
    rw [judge_against.l1, if_neg (by omega), w_succ x (by omega), List.drop_of_length_le (by omega)]
    rfl
  | m + 1, n, c, k, h, hc, hk => by
    have hn : n < l.length := by omega
    rw [judge_against.l1, if_pos (by omega), if_pos (by omega), if_pos (by omega), rd49_nat, getD_at l n z49 hn, contains_ok _ _ _ (by have := hs _ (List.getElem_mem hn); omega) (by have := hs _ (List.getElem_mem hn); omega), Option.bind_some, w_succ n (by omega), cnt_drop l n x hn]
    rw [show k + (m + 1) = k + m + 1 by omega]
    split
    · rw [if_pos (by omega), if_pos (by rw [List.length_append, List.length_cons]; omega), rd_nat, Int.toNat_natCast]
      have e1 : (a ++ (c : Int) :: b).getD x 0 = c := by rw [List.getD_eq_getElem?_getD, List.getElem?_append_right (by omega), hx, Nat.sub_self]; rfl
      have e2 : ∀ d : Int, (a ++ (c : Int) :: b).set x d = a ++ d :: b := by intro d; rw [List.set_append_right _ _ (by omega), hx, Nat.sub_self, List.set_cons_zero]
      rw [e1, w_succ c (by omega), e2, j1 l hl hs a b g x hx hx2 m (n + 1) (c + 1) k (by omega) (by omega) hk, show c + 1 + cnt (l.drop (n + 1)) x = c + (1 + cnt (l.drop (n + 1)) x) by omega]
    · rw [j1 l hl hs a b g x hx hx2 m (n + 1) c k (by omega) (by omega) hk, Nat.zero_add]
theorem j0 (g : Nat) (l : List S49) (hg : g ≤ 100) (hl : l.length ≤ 100) (hs : ∀ s ∈ l, s.f0.length ≤ 100) : ∀ m x k : Nat, x + m = g → 101 < k →
    judge_against.l0 (k + m * (l.length + 2) + 1) l (arrP l g x) g x = some (agP l g)
  | 0, x, k, h, hk => by
    rw [judge_against.l0, if_neg (by omega)]
    rw [show x = g by omega]
    unfold arrP
    rw [Nat.sub_self]
    simp
  | m + 1, x, k, h, hk => by
    rw [judge_against.l0, if_pos (by omega)]
    rw [show k + (m + 1) * (l.length + 2) = (k + m * (l.length + 2) + 1) + l.length + 1 by rw [Nat.add_mul]; omega]
    have := j1 l hl hs (agP l x) (List.replicate (g - (x + 1)) 0) g x (by rw [agP_length]) (by omega) l.length 0 0 (k + m * (l.length + 2) + 1) (by omega) (by omega) (by omega)
    rw [show ((0 : Nat) : Int) = 0 from rfl] at this
    have e : arrP l g x = agP l x ++ 0 :: List.replicate (g - (x + 1)) 0 := by
      unfold arrP
      rw [show g - x = (g - (x + 1)) + 1 by omega, List.replicate_succ]
    rw [e, this, List.drop_zero, Nat.zero_add]
    have e2 : agP l x ++ ((cnt l (x : Int) : Nat) : Int) :: List.replicate (g - (x + 1)) 0 = arrP l g (x + 1) := by
      unfold arrP
      rw [agP_succ, List.append_assoc]
      rfl
    rw [e2]
    exact j0 g l hg hl hs m (x + 1) k (by omega) hk
theorem jagainst (g : Nat) (l : List S49) (hg : g ≤ 16) (hl : l.length ≤ 12) (hs : ∀ s ∈ l, s.f0.length ≤ 100) (k : Nat) (hk : 400 ≤ k) : judge_against.f k g l = some (agP l g) := by
  unfold judge_against.f
  rw [if_pos (by omega), if_pos (by omega), Int.toNat_natCast]
  have hm : g * (l.length + 2) ≤ 16 * 14 := Nat.mul_le_mul hg (by omega)
  have := j0 g l (by omega) (by omega) hs g 0 (k - g * (l.length + 2) - 1) (by omega) (by omega)
  rw [show k - g * (l.length + 2) - 1 + g * (l.length + 2) + 1 = k by omega] at this
  exact this
theorem same_l0 (l : List Int) (hl : l.length ≤ 1000000) : ∀ m n k : Nat, n + m = l.length → m < k → verditerref02_SameInts.l0 k l l n = some true
  | m, n, 0, _, hk => by omega
  | 0, n, k + 1, h, _ => by rw [verditerref02_SameInts.l0, if_neg (by omega)]
  | m + 1, n, k + 1, h, hk => by rw [verditerref02_SameInts.l0, if_pos (by omega), if_pos (by omega), if_pos (by omega), if_pos rfl, w_succ n (by omega), same_l0 l hl m (n + 1) k (by omega) (by omega)]
theorem same_ok (l : List Int) (k : Nat) (hl : l.length ≤ 1000000) (hk : l.length < k) : verditerref02_SameInts.f k l l = some true := by
  unfold verditerref02_SameInts.f
  rw [if_pos rfl]
  exact same_l0 l hl l.length 0 k (by omega) hk
/-- What Against answers. -/
def againstV (g : Int) (l : List S49) : List Int × Int := if validV g l = 0 then (agP l g.toNat, 0) else ([], validV g l)
theorem nat_of {g : Int} (h : 1 ≤ g ∧ g ≤ 16) : ∃ n : Nat, g = n ∧ n ≤ 16 ∧ 1 ≤ n := ⟨g.toNat, by omega, by omega, by omega⟩
theorem rAgainst (g : Int) (l : List S49) (hs : Short l) (k : Nat) (hk : 400 ≤ k) : verditerref02_Against.f k g l = some (againstV g l) := by
  unfold verditerref02_Against.f againstV
  rw [rvalid g l k (by omega), Option.bind_some]
  by_cases h : validV g l = 0
  · rw [if_pos h, if_pos h]
    obtain ⟨h1, h2, h3⟩ := valid_of h
    obtain ⟨n, rfl, h4, h5⟩ := nat_of ⟨h1, h2⟩
    rw [ragainst n l h4 h3 hs.2 k hk]
    rfl
  · rw [if_neg h, if_neg h]
theorem jAgainst (g : Int) (l : List S49) (hs : Short l) (k : Nat) (hk : 400 ≤ k) : judge_Against.f k g l = some (againstV g l) := by
  unfold judge_Against.f againstV
  rw [jvalid g l, Option.bind_some]
  by_cases h : validV g l = 0
  · rw [if_pos h, if_pos h]
    obtain ⟨h1, h2, h3⟩ := valid_of h
    obtain ⟨n, rfl, h4, h5⟩ := nat_of ⟨h1, h2⟩
    rw [jagainst n l h4 h3 hs.2 k hk]
    rfl
  · rw [if_neg h, if_neg h]
theorem againstV_length (g : Int) (l : List S49) : (againstV g l).1.length ≤ 16 := by
  unfold againstV
  split
  · rename_i h
    obtain ⟨h1, h2, h3⟩ := valid_of h
    show (agP l g.toNat).length ≤ 16
    rw [agP_length]; omega
  · exact Nat.zero_le _
end Go.Proofs.Ytfejfljgdeglgaa.K
