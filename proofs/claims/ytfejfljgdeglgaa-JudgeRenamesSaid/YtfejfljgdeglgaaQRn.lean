/- Plain: the law JudgeRenames says true at every input. -/
import Derived.Test.YtfejfljgdeglgaaQSo
import Derived.Test.YtfejfljgdeglgaaHRn
import Derived.Test.YtfejfljgdeglgaaK14
import Derived.Test.YtfejfljgdeglgaaK15
import Derived.Test.YtfejfljgdeglgaaK4
namespace Go.Proofs.Ytfejfljgdeglgaa.K
open Go.RowKit Go.Proofs.YtfejfljgdeglgaaW.PrintWords Go.Proofs.YtfejfljgdeglgaaW.PrintLast Go.Proofs.YtfejfljgdeglgaaW.PrintMore
set_option linter.unusedVariables false
set_option linter.unusedSimpArgs false
theorem nsame_l0 (l : List S49) (hl : l.length ≤ 100) (hs : ∀ s ∈ l, s.f0.length ≤ 100) : ∀ m n k : Nat, n + m = l.length → 200 < k → verditerref02_Same.l0 (k + m + 1) l l n = some true
  | 0, n, k, h, hk => by rw [verditerref02_Same.l0, if_neg (by omega)]
  | m + 1, n, k, h, hk => by
    have hn : n < l.length := by omega
    rw [verditerref02_Same.l0, if_pos (by omega), if_pos (by omega), if_pos (by omega), bne_self_eq_false, if_neg (by decide), rd49_nat, getD_at l n z49 hn, same_ok _ _ (by have := hs _ (List.getElem_mem hn); omega) (by have := hs _ (List.getElem_mem hn); omega), Option.bind_some, if_pos rfl, w_succ n (by omega)]
    exact nsame_l0 l hl hs m (n + 1) k (by omega) hk
theorem nsame_ok (l : List S49) (hs : Short l) (k : Nat) (hk : 400 ≤ k) : verditerref02_Same.f k l l = some true := by
  unfold verditerref02_Same.f
  rw [if_pos rfl]
  have hl := hs.1
  have := nsame_l0 l hs.1 hs.2 l.length 0 (k - l.length - 1) (by omega) (by omega)
  rw [show k - l.length - 1 + l.length + 1 = k by omega] at this
  exact this
/-- What Rename answers. -/
def renameV (g : Int) (l : List S49) (t : List Int) : List S49 × Int := if validV g l = 0 then (if (t.length : Int) = g then (if ∀ g, g < t.length → ((g : Nat) : Int) ∈ t then (l.map (rn1 t), 0) else ([], 1)) else ([], 1)) else ([], validV g l)
theorem jRename (g : Int) (l : List S49) (hs : Short l) (t : List Int) (ht : t.length ≤ 100) : judge_Rename.f g l t = some (renameV g l t) := by
  unfold judge_Rename.f renameV
  rw [jvalid, Option.bind_some]
  by_cases h : validV g l = 0
  · rw [if_pos h, if_pos h]
    by_cases h1 : (t.length : Int) = g
    · rw [if_pos h1, if_pos h1]
      by_cases h2 : ∀ g, g < t.length → ((g : Nat) : Int) ∈ t
      · rw [if_pos h2, if_pos h2, if_pos ⟨hs.1, hs.2, ht⟩]
      · rw [if_neg h2, if_neg h2, if_pos ht]
    · rw [if_neg h1, if_neg h1]
  · rw [if_neg h, if_neg h]
theorem ord_l0 (t : List Int) (n : Nat) (ht : t.length = n) (hn : n ≤ 100) : ∀ m i K, i + m = n → (∀ j, j < i → ((j : Nat) : Int) ∈ t) → m + 101 < K → verditerref02_isOrder.l0 K t (n : Int) (i : Int) = some (decide (∀ g, g < t.length → ((g : Nat) : Int) ∈ t))
  | _, _, 0, _, _, hK => by omega
  | 0, i, K + 1, h, hj, hK => by
    rw [verditerref02_isOrder.l0, if_neg (by omega), decide_eq_true (show ∀ g, g < t.length → ((g : Nat) : Int) ∈ t from fun g hg => hj g (by omega))]
  | m + 1, i, K + 1, h, hj, hK => by
    rw [verditerref02_isOrder.l0, if_pos (by omega), has_ok _ _ _ (by omega) (by omega), Option.bind_some]
    by_cases hm : (i : Int) ∈ t
    · rw [if_pos (decide_eq_true hm), w_succ i (by omega)]
      exact ord_l0 t n ht hn m (i + 1) K (by omega) (fun j h2 => if e : j = i then e ▸ hm else hj j (by omega)) (by omega)
    · rw [if_neg (by simpa using hm), decide_eq_false (fun h2 => hm (h2 i (by omega)))]
theorem isOrder_ok (t : List Int) (n : Nat) (hn : n ≤ 100) (k : Nat) (hk : 300 ≤ k) : verditerref02_isOrder.f k t (n : Int) = some (decide (t.length = n ∧ ∀ g, g < t.length → ((g : Nat) : Int) ∈ t)) := by
  unfold verditerref02_isOrder.f
  by_cases h : t.length = n
  · rw [if_pos (by omega), show (0 : Int) = ((0 : Nat) : Int) from rfl, ord_l0 t n h hn n 0 k (by omega) (fun j hj => by omega) (by omega)]
    congr 1
    simp only [decide_eq_decide]
    exact ⟨fun h2 => ⟨h, h2⟩, fun h2 => h2.2⟩
  · rw [if_neg (by omega), decide_eq_false (fun h2 => h h2.1)]
/-- The marks that a list's numbers make. -/
def markL (t : List Int) : List Int → List Bool → List Bool
  | [], b => b
  | x :: xs, b => markL t xs (b.set (rd t x).toNat true)
theorem markL_length (t : List Int) : ∀ (xs : List Int) (b : List Bool), (markL t xs b).length = b.length
  | [], _ => rfl
  | x :: xs, b => by rw [markL, markL_length t xs, List.length_set]
theorem markL_get (t : List Int) (j : Nat) : ∀ (xs : List Int) (b : List Bool), j < b.length → ((markL t xs b).getD j false = true ↔ b.getD j false = true ∨ ∃ x, x ∈ xs ∧ (rd t x).toNat = j)
  | [], b, _ => by
    rw [markL]
    exact ⟨fun h => .inl h, fun h => h.elim id (fun ⟨x, hx, _⟩ => by cases hx)⟩
  | x :: xs, b, hb => by
    rw [markL, markL_get t j xs _ (by rw [List.length_set]; exact hb)]
    have e : (b.set (rd t x).toNat true).getD j false = true ↔ b.getD j false = true ∨ (rd t x).toNat = j := by
      rw [List.getD_eq_getElem?_getD, List.getElem?_set]
      by_cases h : (rd t x).toNat = j
      · rw [if_pos h, if_pos (by omega)]
        exact ⟨fun _ => .inr h, fun _ => rfl⟩
      · rw [if_neg h, List.getD_eq_getElem?_getD]
        exact ⟨fun h2 => .inl h2, fun h2 => h2.elim id (fun h3 => absurd h3 h)⟩
    rw [e]
    constructor
    · rintro ((h | h) | ⟨y, hy, h⟩)
      · exact .inl h
      · exact .inr ⟨x, List.mem_cons_self .., h⟩
      · exact .inr ⟨y, List.mem_cons_of_mem _ hy, h⟩
    · rintro (h | ⟨y, hy, h⟩)
      · exact .inl (.inl h)
      · rcases List.mem_cons.mp hy with rfl | hy
        · exact .inl (.inr h)
        · exact .inr ⟨y, hy, h⟩
/-- The marked numbers. -/
def selB (b : List Bool) : Nat → Nat → List Int
  | 0, _ => []
  | d + 1, m => if b.getD m false = true then (m : Int) :: selB b d (m + 1) else selB b d (m + 1)
theorem mem_selB (b : List Bool) (x : Int) : ∀ d m, x ∈ selB b d m ↔ ∃ j : Nat, m ≤ j ∧ j < m + d ∧ x = j ∧ b.getD j false = true
  | 0, m => by
    rw [selB]
    exact ⟨fun h => (by cases h), fun ⟨j, h1, h2, _⟩ => by omega⟩
  | d + 1, m => by
    rw [selB]
    have ih := mem_selB b x d (m + 1)
    by_cases h : b.getD m false = true
    · rw [if_pos h, List.mem_cons, ih]
      constructor
      · rintro (rfl | ⟨j, h1, h2, h3, h4⟩)
        · exact ⟨m, Nat.le_refl _, by omega, rfl, h⟩
        · exact ⟨j, by omega, by omega, h3, h4⟩
      · rintro ⟨j, h1, h2, h3, h4⟩
        by_cases e : j = m
        · exact .inl (e ▸ h3)
        · exact .inr ⟨j, by omega, by omega, h3, h4⟩
    · rw [if_neg h, ih]
      constructor
      · rintro ⟨j, h1, h2, h3, h4⟩
        exact ⟨j, by omega, by omega, h3, h4⟩
      · rintro ⟨j, h1, h2, h3, h4⟩
        have : j ≠ m := fun e => h (e ▸ h4)
        exact ⟨j, by omega, by omega, h3, h4⟩
theorem selB_pair (b : List Bool) : ∀ d m, (selB b d m).Pairwise (· < ·)
  | 0, m => by rw [selB]; exact List.Pairwise.nil
  | d + 1, m => by
    rw [selB]
    split
    · exact List.pairwise_cons.mpr ⟨fun x hx => by obtain ⟨j, h1, h2, h3, h4⟩ := (mem_selB b x d (m + 1)).mp hx; omega, selB_pair b d (m + 1)⟩
    · exact selB_pair b d (m + 1)
theorem rd_mem (t : List Int) (x : Int) (h0 : 0 ≤ x) (h1 : x < (t.length : Int)) : rd t x ∈ t := by
  unfold rd
  rw [List.getD_eq_getElem?_getD, List.getElem?_eq_getElem (show x.toNat < t.length by omega)]
  exact List.getElem_mem _
theorem rn_l1 (l : List S49) (hl : l.length ≤ 100) (t : List Int) (n : Nat) (ht : ∀ x ∈ t, 0 ≤ x ∧ x < (n : Int)) (out : List S49) (i : Nat) (hi : i < l.length) (hfl : l[i].f0.length ≤ 100) (hf : ∀ x ∈ l[i].f0, 0 ≤ x ∧ x < (t.length : Int)) : ∀ d m K (b : List Bool), m + d = l[i].f0.length → b.length = n → d < K →
    verditerref02_Rename.l1 K (n : Int) l t out (i : Int) b (m : Int) = verditerref02_Rename.l2 (K - d - 1) (n : Int) l t out (i : Int) (markL t (l[i].f0.drop m) b) [] 0
  | _, _, 0, _, _, _, hK => by omega
  | 0, m, K + 1, b, h, hb, hK => by
    rw [verditerref02_Rename.l1, if_pos (by omega), if_pos (by omega), rd49_nat, getD_at l i z49 hi, if_neg (by omega), List.drop_of_length_le (by omega), markL]
    rfl
  | d + 1, m, K + 1, b, h, hb, hK => by
    have hm : m < l[i].f0.length := by omega
    have hx := hf _ (List.getElem_mem hm)
    have hy := ht _ (rd_mem t _ hx.1 hx.2)
    rw [verditerref02_Rename.l1, if_pos (by omega), if_pos (by omega), rd49_nat, getD_at l i z49 hi, if_pos (by omega), if_pos (by omega), rd_nat, getD_at l[i].f0 m 0 hm, if_pos hx.1, if_pos hx.2, if_pos hy.1, if_pos (by omega), w_succ m (by omega)]
    rw [rn_l1 l hl t n ht out i hi hfl hf d (m + 1) K _ (by omega) (by rw [List.length_set]; exact hb) (by omega), List.drop_eq_getElem_cons hm, markL]
    rw [show K - d - 1 = K + 1 - (d + 1) - 1 by omega]
theorem rn_l2 (l : List S49) (hl : l.length ≤ 100) (t : List Int) (n : Nat) (hn : n ≤ 100) (out : List S49) (hout : out.length ≤ 1000) (i : Nat) (hi : i < l.length) (b : List Bool) (hb : b.length = n) : ∀ d m K (acc : List Int), m + d = n → acc.length ≤ m → d < K →
    verditerref02_Rename.l2 K (n : Int) l t out (i : Int) b acc (m : Int) = verditerref02_Rename.l0 (K - d - 1) (n : Int) l t (out ++ [(⟨acc ++ selB b d m, l[i].f1⟩ : S49)]) ((i + 1 : Nat) : Int)
  | _, _, 0, _, _, _, hK => by omega
  | 0, m, K + 1, acc, h, ha, hK => by
    rw [verditerref02_Rename.l2, if_neg (by omega), if_pos (by omega), if_pos (by omega), if_pos (by omega), rd49_nat, getD_at l i z49 hi, selB, List.append_nil, w_succ i (by omega)]
    rfl
  | d + 1, m, K + 1, acc, h, ha, hK => by
    have e : rdOf false b (m : Int) = b.getD m false := by unfold rdOf; rw [Int.toNat_natCast]
    rw [verditerref02_Rename.l2, if_pos (by omega), if_pos (by omega), if_pos (by omega), e, w_succ m (by omega), selB, show K + 1 - (d + 1) - 1 = K - d - 1 by omega]
    by_cases hm : b.getD m false = true
    · rw [if_pos hm, if_pos hm, if_pos (by omega)]
      have := rn_l2 l hl t n hn out hout i hi b hb d (m + 1) K (acc ++ [(m : Int)]) (by omega) (by rw [List.length_append, List.length_singleton]; omega) (by omega)
      rw [List.append_assoc, List.singleton_append] at this
      exact this
    · rw [if_neg hm, if_neg hm]
      exact rn_l2 l hl t n hn out hout i hi b hb d (m + 1) K acc (by omega) (by omega) (by omega)
theorem toAt_inj {t : List Int} (hn : t.Nodup) {x y : Int} (hx : 0 ≤ x ∧ x < (t.length : Int)) (hy : 0 ≤ y ∧ y < (t.length : Int)) (h : rd t x = rd t y) : x = y := by
  unfold rd at h
  rw [List.getD_eq_getElem?_getD, List.getElem?_eq_getElem (show x.toNat < t.length by omega), List.getD_eq_getElem?_getD, List.getElem?_eq_getElem (show y.toNat < t.length by omega)] at h
  have h : t[x.toNat] = t[y.toNat] := h
  have hp := List.pairwise_iff_getElem.mp hn
  rcases Nat.lt_trichotomy x.toNat y.toNat with h1 | h1 | h1
  · exact absurd h (hp x.toNat y.toNat (by omega) (by omega) h1)
  · omega
  · exact absurd h.symm (hp y.toNat x.toNat (by omega) (by omega) h1)
theorem map_nodup {t : List Int} (hn : t.Nodup) {f : List Int} (hf : f.Pairwise (· < ·)) (hr : ∀ x ∈ f, 0 ≤ x ∧ x < (t.length : Int)) : (f.map (toAt t)).Nodup := by
  refine List.pairwise_map.mpr (hf.imp_of_mem (fun {a b} ha hb hab he => ?_))
  have := toAt_inj hn (hr a ha) (hr b hb) he
  omega
theorem sel_sort {t : List Int} (hn : t.Nodup) (ht : ∀ x ∈ t, 0 ≤ x ∧ x < (t.length : Int)) {f : List Int} (hf : f.Pairwise (· < ·)) (hr : ∀ x ∈ f, 0 ≤ x ∧ x < (t.length : Int)) :
    selB (markL t f (List.replicate t.length false)) t.length 0 = sortL (f.map (toAt t)) := by
  refine pair_ext (selB_pair _ _ _) (sortL_strict (map_nodup hn hf hr)) (fun x => ?_)
  rw [mem_selB, mem_sortL, List.mem_map]
  constructor
  · rintro ⟨j, _, h2, rfl, h4⟩
    rw [markL_get t j f _ (by rw [List.length_replicate]; omega)] at h4
    rcases h4 with h4 | ⟨y, hy, h4⟩
    · rw [List.getD_eq_getElem?_getD, List.getElem?_replicate, if_pos (by omega)] at h4
      cases h4
    · have := ht _ (rd_mem t y (hr y hy).1 (hr y hy).2)
      exact ⟨y, hy, by unfold toAt; omega⟩
  · rintro ⟨y, hy, rfl⟩
    have := ht _ (rd_mem t y (hr y hy).1 (hr y hy).2)
    refine ⟨(rd t y).toNat, Nat.zero_le _, by omega, by unfold toAt; omega, ?_⟩
    rw [markL_get t _ f _ (by rw [List.length_replicate]; omega)]
    exact .inr ⟨y, hy, rfl⟩
theorem rn_l0 (l : List S49) (hl : l.length ≤ 100) (t : List Int) (hn : t.Nodup) (ht : ∀ x ∈ t, 0 ≤ x ∧ x < (t.length : Int)) (htl : t.length ≤ 16) (hs : ∀ s ∈ l, isSetP s.f0 (t.length : Int) = true) : ∀ m i K, i + m = l.length → m * 150 + 1 ≤ K →
    verditerref02_Rename.l0 K (t.length : Int) l t ((l.take i).map (rn1 t)) (i : Int) = some (l.map (rn1 t), 0)
  | _, _, 0, _, hK => by omega
  | 0, i, K + 1, h, hK => by rw [verditerref02_Rename.l0, if_neg (by omega), List.take_of_length_le (by omega)]
  | m + 1, i, K + 1, h, hK => by
    have hi : i < l.length := by omega
    have hset := hs _ (List.getElem_mem hi)
    have hfl := set_length hset
    obtain ⟨hp, hr⟩ := (isSet_iff _ _).mp hset
    have hr' : ∀ x ∈ l[i].f0, 0 ≤ x ∧ x < (t.length : Int) := fun x hx => by have := hr x hx; omega
    have e0 : ((t.length : Nat) : Int).toNat = t.length := Int.toNat_natCast _
    rw [verditerref02_Rename.l0, if_pos (by omega), if_pos (by omega), e0, if_pos (by omega)]
    have h1 := rn_l1 l hl t t.length ht ((l.take i).map (rn1 t)) i hi (by omega) hr' l[i].f0.length 0 K (List.replicate t.length false) (by omega) (List.length_replicate ..) (by omega)
    have h2 := rn_l2 l hl t t.length (by omega) ((l.take i).map (rn1 t)) (by rw [List.length_map, List.length_take]; omega) i hi (markL t (l[i].f0.drop 0) (List.replicate t.length false)) (by rw [markL_length, List.length_replicate]) t.length 0 (K - l[i].f0.length - 1) [] (by omega) (Nat.le_refl _) (by omega)
    refine h1.trans (h2.trans ?_)
    have e : (l.take i).map (rn1 t) ++ [(⟨[] ++ selB (markL t (l[i].f0.drop 0) (List.replicate t.length false)) t.length 0, l[i].f1⟩ : S49)] = (l.take (i + 1)).map (rn1 t) := by
      rw [List.drop_zero, sel_sort hn ht hp hr', List.take_add_one, List.getElem?_eq_getElem hi, List.map_append]
      rfl
    rw [e]
    exact rn_l0 l hl t hn ht htl hs m (i + 1) _ (by omega) (by omega)
theorem rRename (g : Int) (l : List S49) (hs : Short l) (t : List Int) (ht : t.length ≤ 100) (k : Nat) (hk : 2000 ≤ k) : verditerref02_Rename.f k g l t = some (renameV g l t) := by
  unfold verditerref02_Rename.f renameV
  rw [rvalid g l k (by omega), Option.bind_some]
  by_cases h : validV g l = 0
  · rw [if_pos h, if_pos h]
    obtain ⟨h1, h2, h3, h4⟩ := (validV_zero g l).mp h
    obtain ⟨n, rfl, h5, h6⟩ := nat_of ⟨h1, h2⟩
    rw [isOrder_ok t n (by omega) k (by omega), Option.bind_some]
    by_cases h7 : (t.length : Int) = (n : Int)
    · rw [if_pos h7]
      have h7' : t.length = n := by omega
      by_cases h8 : ∀ g, g < t.length → ((g : Nat) : Int) ∈ t
      · rw [if_pos (decide_eq_true ⟨h7', h8⟩), if_pos h8]
        obtain ⟨h9, h10⟩ := order_nodup t.length t rfl h8
        subst h7'
        exact rn_l0 l hs.1 t h9 h10 h5 h4 l.length 0 k (by omega) (by omega)
      · rw [if_neg (by rw [decide_eq_true_eq]; exact fun h9 => h8 h9.2), if_neg h8]
    · rw [if_neg h7, if_neg (by rw [decide_eq_true_eq]; exact fun h9 => h7 (by omega))]
  · rw [if_neg h, if_neg h]
theorem cnt_rename (t : List Int) (hn : t.Nodup) (i : Int) (hi : 0 ≤ i ∧ i < (t.length : Int)) : ∀ l : List S49, (∀ s ∈ l, ∀ x ∈ s.f0, 0 ≤ x ∧ x < (t.length : Int)) → cnt (l.map (rn1 t)) (rd t i) = cnt l i
  | [], _ => rfl
  | s :: l, h => by
    have ih := cnt_rename t hn i hi l (fun s hs => h s (List.mem_cons_of_mem _ hs))
    rw [List.map_cons, cnt, cnt, ih]
    have e : decide (rd t i ∈ (rn1 t s).f0) = decide (i ∈ s.f0) := by
      rw [decide_eq_decide]
      show rd t i ∈ sortL (s.f0.map (toAt t)) ↔ _
      rw [mem_sortL, List.mem_map]
      constructor
      · rintro ⟨x, hx, he⟩
        have := toAt_inj hn (h s (List.mem_cons_self ..) x hx) hi he
        exact this ▸ hx
      · intro hx
        exact ⟨i, hx, rfl⟩
    rw [e]
    rfl
theorem ren_l0 (t x y : List Int) (ht : ∀ z ∈ t, 0 ≤ z ∧ z < (t.length : Int)) (htl : t.length ≤ 16) (hx : x.length = t.length) (hy : y.length = t.length) (h : ∀ i, i < t.length → rd x (i : Int) = rd y (rd t (i : Int))) : ∀ m n K, n + m = t.length → m + 100 < K → verditerlaw02_judgeRenames.l0 K t x y (n : Int) = some true
  | _, _, 0, _, hK => by omega
  | 0, n, K + 1, hn, hK => by rw [verditerlaw02_judgeRenames.l0, if_neg (by omega), known_ok (by omega)]; rfl
  | m + 1, n, K + 1, hn, hK => by
    have h2 := ht _ (rd_mem t (n : Int) (by omega) (by omega))
    rw [verditerlaw02_judgeRenames.l0, if_pos (by omega), if_pos (by omega), if_pos (by omega), if_pos h2.1, if_pos (by omega), if_pos (h n (by omega)), w_succ n (by omega)]
    exact ren_l0 t x y ht htl hx hy h m (n + 1) K (by omega) (by omega)
theorem renameV_short (g : Int) (l : List S49) (hs : Short l) (t : List Int) : Short (renameV g l t).1 := by
  unfold renameV
  split
  · split
    · split
      · refine ⟨by rw [List.length_map]; exact hs.1, fun s hsm => ?_⟩
        obtain ⟨s0, h0, rfl⟩ := List.mem_map.mp hsm
        show (sortL (s0.f0.map (toAt t))).length ≤ 100
        rw [sortL_length, List.length_map]
        exact hs.2 _ h0
      · exact ⟨Nat.zero_le _, fun s hsm => by cases hsm⟩
    · exact ⟨Nat.zero_le _, fun s hsm => by cases hsm⟩
  · exact ⟨Nat.zero_le _, fun s hsm => by cases hsm⟩
theorem Pure.JudgeRenames (g : Int) (l : List S49) (t : List Int) (wg : (Lit.int .i64 g).wf = true) (wl : ∀ s ∈ l, ∀ z ∈ s.f0, (Lit.int .i64 z).wf = true) (ht0 : t.length ≤ maxLen) (ht1 : t.length * 8 ≤ 140737488351232) (wt : ∀ z ∈ t, (Lit.int .i64 z).wf = true) : ∃ k, verditerlaw02_judgeRenames.f k g l t = some true := by
  refine ⟨3000 + 1 + 1 + 1, ?_⟩
  have hj0 : ∀ b : Bool, b = true → verditerlaw02_judgeRenames.j0 (3000 + 1 + 1 + 1) g l t b = some true := fun b hb => by
    rw [verditerlaw02_judgeRenames.j0, if_pos hb, known_ok (by omega)]
    rfl
  unfold verditerlaw02_judgeRenames.f
  rcases long_ok l (3000 + 1 + 1 + 1) (by omega) with h | ⟨h, hs⟩
  · rw [h, Option.bind_some, if_pos rfl]
    exact hj0 true rfl
  · rw [h, Option.bind_some, if_neg (by decide)]
    by_cases htl : (t.length : Int) > 100
    · exact hj0 _ (decide_eq_true htl)
    · have htl' : t.length ≤ 100 := by omega
      rw [verditerlaw02_judgeRenames.j0, if_neg (by rw [decide_eq_true_eq]; exact htl), rRename g l hs t htl' _ (by omega), Option.bind_some, jRename g l hs t htl', Option.bind_some, if_pos rfl, nsame_ok _ (renameV_short g l hs t) _ (by omega), Option.bind_some]
      rw [verditerlaw02_judgeRenames.j1, if_neg (by decide), jAgainst g l hs _ (by omega), Option.bind_some, jAgainst g _ (renameV_short g l hs t) _ (by omega), Option.bind_some]
      by_cases e : (renameV g l t).2 = 0
      · have hv : validV g l = 0 ∧ (t.length : Int) = g ∧ ∀ g, g < t.length → ((g : Nat) : Int) ∈ t := by
          unfold renameV at e
          split at e
          · rename_i hv
            split at e
            · rename_i h1
              split at e
              · rename_i h2; exact ⟨hv, h1, h2⟩
              · cases e
            · cases e
          · rename_i hv; exact absurd e hv
        obtain ⟨hv, h1, h2⟩ := hv
        have ew : renameV g l t = (l.map (rn1 t), 0) := by unfold renameV; rw [if_pos hv, if_pos h1, if_pos h2]
        subst h1
        obtain ⟨h3, h4, h5, h6⟩ := (validV_zero _ _).mp hv
        obtain ⟨h7, h8⟩ := order_nodup t.length t rfl h2
        have hr : ∀ s ∈ l, s.f0.Pairwise (· < ·) ∧ ∀ x ∈ s.f0, 0 ≤ x ∧ x < (t.length : Int) := fun s hs => by
          obtain ⟨hp, hr⟩ := (isSet_iff _ _).mp (h6 s hs)
          exact ⟨hp, fun x hx => by have := hr x hx; omega⟩
        have hv2 : validV (t.length : Int) (l.map (rn1 t)) = 0 := (validV_zero _ _).mpr ⟨h3, h4, by rw [List.length_map]; exact h5, fun s hsm => by
          obtain ⟨s0, h0, rfl⟩ := List.mem_map.mp hsm
          refine (isSet_iff _ _).mpr ⟨sortL_strict (map_nodup h7 (hr s0 h0).1 (hr s0 h0).2), fun x hx => ?_⟩
          obtain ⟨y, hy, rfl⟩ := List.mem_map.mp ((mem_sortL _ x).mp hx)
          have := h8 _ (rd_mem t y ((hr s0 h0).2 y hy).1 ((hr s0 h0).2 y hy).2)
          show 0 ≤ rd t y ∧ rd t y ≤ _
          omega⟩
        have e1 : againstV (t.length : Int) l = (agP l t.length, 0) := by unfold againstV; rw [if_pos hv, Int.toNat_natCast]
        have e2 : againstV (t.length : Int) (l.map (rn1 t)) = (agP (l.map (rn1 t)) t.length, 0) := by unfold againstV; rw [if_pos hv2, Int.toNat_natCast]
        rw [if_pos e, ew, e1, e2, if_pos rfl, if_pos rfl, if_pos (by rw [agP_length]), agP_length, bne_self_eq_false]
        rw [verditerlaw02_judgeRenames.j2, if_neg (by decide)]
        refine ren_l0 t _ _ h8 (by omega) (agP_length _ _) (agP_length _ _) (fun i hi => ?_) t.length 0 3000 (by omega) (by omega)
        have h9 := h8 _ (rd_mem t (i : Int) (by omega) (by omega))
        obtain ⟨j, hj⟩ := Int.eq_ofNat_of_zero_le h9.1
        rw [hj, rd_nat, rd_nat, agP_get _ _ _ hi, agP_get _ _ _ (by omega), ← hj, cnt_rename t h7 (i : Int) (by omega) l (fun s hs => (hr s hs).2)]
      · rw [if_neg e, known_ok (by omega)]
        rfl
end Go.Proofs.Ytfejfljgdeglgaa.K
