/- Plain: the law JudgeWithout says true at every input. -/
import Derived.Test.YtfejfljgdeglgaaQL
import Derived.Test.YtfejfljgdeglgaaHDl
import Derived.Test.YtfejfljgdeglgaaK11
import Derived.Test.YtfejfljgdeglgaaK15
import Derived.Test.YtfejfljgdeglgaaK3
namespace Go.Proofs.Ytfejfljgdeglgaa.K
open Go.RowKit Go.Proofs.YtfejfljgdeglgaaW.PrintWords Go.Proofs.YtfejfljgdeglgaaW.PrintLast Go.Proofs.YtfejfljgdeglgaaW.PrintMore
set_option linter.unusedVariables false
set_option linter.unusedSimpArgs false
theorem wcopy_l0 (l : List S49) (hl : l.length ≤ 100) (hs : ∀ s ∈ l, s.f0.length ≤ 100) : ∀ m n : Nat, n + m = l.length → ∀ k, verditerref02_Copy.l0 (k + m + 1) l (l.take n) (n : Int) = some l
  | 0, n, h, k => by rw [verditerref02_Copy.l0, if_neg (by omega), List.take_of_length_le (by omega)]
  | m + 1, n, h, k => by
    have hn : n < l.length := by omega
    rw [verditerref02_Copy.l0, if_pos (by omega), Option.bind_some, if_pos (by omega), rd49_nat, getD_at l n z49 hn, if_pos (by have := hs _ (List.getElem_mem hn); simp; omega), if_pos (by rw [List.length_take]; omega), w_succ n (by omega)]
    have e : l.take n ++ [(⟨[] ++ l[n].f0, l[n].f1⟩ : S49)] = l.take (n + 1) := by
      rw [List.take_add_one, List.getElem?_eq_getElem hn]
      rfl
    rw [e]
    exact wcopy_l0 l hl hs m (n + 1) (by omega) k
theorem wcopy_ok (l : List S49) (hs : Short l) (k : Nat) (hk : 200 ≤ k) : verditerref02_Copy.f k l = some l := by
  unfold verditerref02_Copy.f
  have := wcopy_l0 l hs.1 hs.2 l.length 0 (by omega) (k - l.length - 1)
  rw [show k - l.length - 1 + l.length + 1 = k by have := hs.1; omega] at this
  exact this
/-- What Without answers. -/
def withoutV (g : Int) (l : List S49) (k : Int) : List S49 × Int := if validV g l = 0 then (if 0 ≤ k ∧ k ≤ (l.length : Int) - 1 then (l.eraseIdx k.toNat, 0) else ([], 4)) else ([], validV g l)
theorem jWithout (g : Int) (l : List S49) (hs : Short l) (q : Int) : judge_Without.f g l q = some (withoutV g l q) := by
  unfold judge_Without.f withoutV
  rw [jvalid, Option.bind_some]
  by_cases h : validV g l = 0
  · rw [if_pos h, if_pos h]
    by_cases hk : 0 ≤ q ∧ q ≤ (l.length : Int) - 1
    · rw [if_pos hk, if_pos hk, if_pos (show l.length ≤ 100 ∧ ∀ s ∈ l, s.f0.length ≤ 100 from hs)]
    · rw [if_neg hk, if_neg hk]
  · rw [if_neg h, if_neg h]
theorem rWithout (g : Int) (l : List S49) (hs : Short l) (q : Int) (k : Nat) (hk : 400 ≤ k) : verditerref02_Without.f k g l q = some (withoutV g l q) := by
  unfold verditerref02_Without.f withoutV
  rw [rvalid g l k (by omega), Option.bind_some]
  by_cases h : validV g l = 0
  · rw [if_pos h, if_pos h]
    obtain ⟨h1, h2, h3⟩ := valid_of h
    rw [wid (x := (l.length : Int) - 1) (by omega) (by omega), rwithin, Option.bind_some]
    by_cases hq : 0 ≤ q ∧ q ≤ (l.length : Int) - 1
    · obtain ⟨i, rfl⟩ := Int.eq_ofNat_of_zero_le hq.1
      rw [if_pos (decide_eq_true hq), if_pos hq, wcopy_ok l hs k (by omega)]
      have hi : i + 1 ≤ l.length := by omega
      have e0 : ((i : Nat) : Int).toNat = i := Int.toNat_natCast i
      have e0' : ((i + 1 : Nat) : Int).toNat = i + 1 := Int.toNat_natCast (i + 1)
      have e1 : ([] : List S49).length + (l.take i).length < 4398046511104 := by rw [List.length_nil, List.length_take]; omega
      have e2 : (l.take i).length + (l.drop (i + 1)).length < 4398046511104 := by rw [List.length_take, List.length_drop]; omega
      rw [Option.bind_some, Option.bind_some, if_pos (by omega), if_pos (by omega), Option.bind_some, e0, if_pos e1, Option.bind_some, w_succ i (by omega), if_pos (by omega), if_pos (by omega), Option.bind_some, e0', List.nil_append, if_pos e2, List.eraseIdx_eq_take_drop_succ]
    · rw [if_neg (by simpa using hq), if_neg hq]
  · rw [if_neg h, if_neg h]
theorem sameA_l0 (l : List S49) (hl : l.length ≤ 100) (hs : ∀ s ∈ l, s.f0.length ≤ 100) : ∀ m n k : Nat, n + m = l.length → 200 < k → verditerref02_Same.l0 (k + m + 1) l l n = some true
  | 0, n, k, h, hk => by rw [verditerref02_Same.l0, if_neg (by omega)]
  | m + 1, n, k, h, hk => by
    have hn : n < l.length := by omega
    rw [verditerref02_Same.l0, if_pos (by omega), if_pos (by omega), if_pos (by omega), bne_self_eq_false, if_neg (by decide), rd49_nat, getD_at l n z49 hn, same_ok _ _ (by have := hs _ (List.getElem_mem hn); omega) (by have := hs _ (List.getElem_mem hn); omega), Option.bind_some, if_pos rfl, w_succ n (by omega)]
    exact sameA_l0 l hl hs m (n + 1) k (by omega) hk
theorem sameA_ok (l : List S49) (hl : l.length ≤ 100) (hs : ∀ s ∈ l, s.f0.length ≤ 100) (k : Nat) (hk : 400 ≤ k) : verditerref02_Same.f k l l = some true := by
  unfold verditerref02_Same.f
  rw [if_pos rfl]
  have := sameA_l0 l hl hs l.length 0 (k - l.length - 1) (by omega) (by omega)
  rw [show k - l.length - 1 + l.length + 1 = k by omega] at this
  exact this
theorem cnt_erase : ∀ (l : List S49) (i : Nat) (g : Int), cnt l g = cnt (l.eraseIdx i) g ∨ cnt l g = cnt (l.eraseIdx i) g + 1
  | [], i, g => by simp
  | s :: l, 0, g => by
    rw [List.eraseIdx_cons_zero, cnt]
    split
    · right; omega
    · left; omega
  | s :: l, i + 1, g => by
    rw [List.eraseIdx_cons_succ, cnt, cnt]
    rcases cnt_erase l i g with h | h <;> omega
theorem wo_l0 (l l2 : List S49) (g : Nat) (hg : g ≤ 16) (h : ∀ i, cnt l i = cnt l2 i ∨ cnt l i = cnt l2 i + 1) (hl : l.length ≤ 100) : ∀ m n k : Nat, n + m = g → 200 < k → verditerlaw02_judgeWithout.l0 (k + m + 1) (agP l g) (agP l2 g) (n : Int) = some true
  | 0, n, k, hn, hk => by rw [verditerlaw02_judgeWithout.l0, agP_length, if_neg (by omega), known_ok (by omega)]; rfl
  | m + 1, n, k, hn, hk => by
    rw [verditerlaw02_judgeWithout.l0, agP_length, agP_length, if_pos (by omega), if_pos (by omega), if_pos (by omega), rd_nat, rd_nat, agP_get l g n (by omega), agP_get l2 g n (by omega)]
    have hc := cnt_le l n
    have hx := h (n : Int)
    rw [wid (by omega) (by omega), w_succ n (by omega)]
    have ih := wo_l0 l l2 g hg h hl m (n + 1) k (by omega) hk
    rcases hx with hx | hx
    · rw [if_pos (by omega)]; exact ih
    · rw [if_neg (by omega), if_pos (by omega)]; exact ih
theorem erase_mem {l : List S49} {i : Nat} {s : S49} (h : s ∈ l.eraseIdx i) : s ∈ l := List.mem_of_mem_eraseIdx h
theorem setF_erase (l : List S49) (g : Int) : allSet l g = true ↔ ∀ s ∈ l, isSetP s.f0 g = true := by
  have key : ∀ m n, n + m = l.length → (allSetF l g m n = true ↔ ∀ s ∈ l.drop n, isSetP s.f0 g = true) := by
    intro m
    induction m with
    | zero => intro n h; rw [allSetF, List.drop_of_length_le (by omega)]; simp
    | succ m ih =>
      intro n h
      have hn : n < l.length := by omega
      rw [allSetF, rd49_nat, getD_at l n z49 hn, List.drop_eq_getElem_cons hn, List.forall_mem_cons]
      by_cases hp : isSetP l[n].f0 g = true
      · rw [if_pos hp, ih (n + 1) (by omega)]
        exact ⟨fun h => ⟨hp, h⟩, fun h => h.2⟩
      · rw [if_neg hp]
        exact ⟨fun h => (by cases h), fun h => absurd h.1 hp⟩
  have := key l.length 0 (by omega)
  rw [List.drop_zero] at this
  exact this
theorem valid_erase {g : Int} {l : List S49} (h : validV g l = 0) (i : Nat) : validV g (l.eraseIdx i) = 0 := by
  obtain ⟨h1, h2, h3⟩ := valid_of h
  unfold validV at h ⊢
  have hle : (l.eraseIdx i).length ≤ l.length := List.length_eraseIdx_le l i
  rw [if_pos ⟨h1, h2⟩, if_neg (by omega)] at h ⊢
  by_cases ha : allSet l g = true
  · rw [if_pos ((setF_erase _ g).2 (fun s hs => (setF_erase l g).1 ha s (erase_mem hs)))]
  · rw [if_neg ha] at h; cases h
theorem Pure.JudgeWithout (g : Int) (l : List S49) (q : Int) (wg : (Lit.int .i64 g).wf = true) (wl : ∀ s ∈ l, ∀ z ∈ s.f0, (Lit.int .i64 z).wf = true) (wq : (Lit.int .i64 q).wf = true) : ∃ k, verditerlaw02_judgeWithout.f k g l q = some true := by
  refine ⟨600 + 1 + 1, ?_⟩
  unfold verditerlaw02_judgeWithout.f
  rcases long_ok l (600 + 1 + 1) (by omega) with h | ⟨h, hs⟩
  · rw [h, Option.bind_some, if_pos rfl, known_ok (by omega)]; rfl
  · rw [h, Option.bind_some, if_neg (by decide), rWithout g l hs q _ (by omega), jWithout g l hs q]
    simp only [Option.bind_some, if_true]
    have hlen : (withoutV g l q).1.length ≤ 100 ∧ ∀ s ∈ (withoutV g l q).1, s.f0.length ≤ 100 := by
      unfold withoutV
      split
      · split
        · exact ⟨Nat.le_trans (List.length_eraseIdx_le _ _) hs.1, fun s hs2 => hs.2 s (erase_mem hs2)⟩
        · exact ⟨Nat.zero_le _, fun s hs => by cases hs⟩
      · exact ⟨Nat.zero_le _, fun s hs => by cases hs⟩
    rw [sameA_ok _ hlen.1 hlen.2 _ (by omega), Option.bind_some]
    show verditerlaw02_judgeWithout.j0 (600 + 1 + 1) g l (withoutV g l q).1 (withoutV g l q).2 (!true) = some true
    rw [verditerlaw02_judgeWithout.j0, if_neg (by decide), jAgainst g l hs _ (by omega), jAgainst g _ hlen _ (by omega)]
    simp only [Option.bind_some]
    by_cases e : (withoutV g l q).2 = 0
    · have hv : validV g l = 0 ∧ 0 ≤ q ∧ q ≤ (l.length : Int) - 1 := by
        unfold withoutV at e
        split at e
        · rename_i hv
          split at e
          · rename_i h6; exact ⟨hv, h6⟩
          · cases e
        · rename_i hv; exact absurd e hv
      obtain ⟨hv, hq⟩ := hv
      have ew : withoutV g l q = (l.eraseIdx q.toNat, 0) := by unfold withoutV; rw [if_pos hv, if_pos hq]
      obtain ⟨h1, h2, h3⟩ := valid_of hv
      have e1 : againstV g l = (agP l g.toNat, 0) := by unfold againstV; rw [if_pos hv]
      have e2 : againstV g (l.eraseIdx q.toNat) = (agP (l.eraseIdx q.toNat) g.toNat, 0) := by unfold againstV; rw [if_pos (valid_erase hv _)]
      rw [ew, e1, e2]
      simp only [if_true, agP_length, bne_self_eq_false]
      rw [verditerlaw02_judgeWithout.j1, if_neg (by decide)]
      have := wo_l0 l (l.eraseIdx q.toNat) g.toNat (by omega) (fun i => cnt_erase l _ i) hs.1 g.toNat 0 (600 - g.toNat - 1) (by omega) (by omega)
      rw [show 600 - g.toNat - 1 + g.toNat + 1 = 600 by omega] at this
      exact this
    · rw [if_neg e, known_ok (by omega)]
      rfl
end Go.Proofs.Ytfejfljgdeglgaa.K
