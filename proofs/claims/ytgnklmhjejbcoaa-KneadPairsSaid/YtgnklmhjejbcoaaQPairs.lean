/- The pure statement of KneadPairs: for all lists of whole numbers the law within it answers true. -/
import Derived.Test.YtgnklmhjejbcoaaQC
import Derived.Test.YtgnklmhjejbcoaaQD
import Derived.Test.YtgnklmhjejbcoaaHP
import Derived.Test.YtgnklmhjejbcoaaK15
namespace Go.Proofs.Ytgnklmhjejbcoaa.K
open Go.RowKit Go.Proofs.YtgnklmhjejbcoaaW.PrintWords Go.Proofs.YtgnklmhjejbcoaaW.PrintLast Go.Proofs.YtgnklmhjejbcoaaW.PrintMore
set_option linter.unusedVariables false
set_option linter.unusedSimpArgs false

theorem and_one (n : Int) : Go.bits .and .i64 n 1 = n % 2 := by
  have h127 : (BitVec.ofInt 64 1).toNat = 2 ^ 1 - 1 := by decide
  have key : (BitVec.ofInt 64 n &&& BitVec.ofInt 64 1).toNat = (n % ((2 ^ 64 : Nat) : Int)).toNat % 2 ^ 1 := by
    rw [BitVec.toNat_and, BitVec.toNat_ofInt, h127, Nat.and_two_pow_sub_one_eq_mod]
  show IntKind.i64.wrap ((BitVec.ofInt 64 n &&& BitVec.ofInt 64 1).toNat : Nat) = n % 2
  rw [key, IntKind.wrap_i64]
  omega
theorem and_low (n : Int) : Go.bits .and .i64 n 4294967295 = n % 4294967296 := by
  have h127 : (BitVec.ofInt 64 4294967295).toNat = 2 ^ 32 - 1 := by decide
  have key : (BitVec.ofInt 64 n &&& BitVec.ofInt 64 4294967295).toNat = (n % ((2 ^ 64 : Nat) : Int)).toNat % 2 ^ 32 := by
    rw [BitVec.toNat_and, BitVec.toNat_ofInt, h127, Nat.and_two_pow_sub_one_eq_mod]
  show IntKind.i64.wrap ((BitVec.ofInt 64 n &&& BitVec.ofInt 64 4294967295).toNat : Nat) = n % 4294967296
  rw [key, IntKind.wrap_i64]
  omega
def In64 (x : Int) : Prop := -9223372036854775808 ≤ x ∧ x ≤ 9223372036854775807
theorem ownSum_eq {a b c d : Int} (ha : In64 a) (hb : In64 b) (hc : In64 c) (hd : In64 d) : ownSum a b c d = decide (a + b = c + d) := by
  unfold In64 at *
  unfold ownSum knead_sameSum.f
  simp only [and_one]
  have w1 : ∀ x y : Int, wrap64 (x % 2 + y % 2) = x % 2 + y % 2 := fun x y => by unfold wrap64; omega
  rw [w1 a b, w1 c d]
  have w2 : ∀ x y : Int, In64 x → In64 y → wrap64 (x / 2 + y / 2) = x / 2 + y / 2 := fun x y hx hy => by unfold In64 at hx hy; unfold wrap64; omega
  rw [w2 a b ha hb, w2 c d hc hd]
  have w3 : ∀ x y : Int, In64 x → In64 y → wrap64 (x / 2 + y / 2 + (x % 2 + y % 2) / 2) = (x + y) / 2 := fun x y hx hy => by unfold In64 at hx hy; unfold wrap64; omega
  rw [w3 a b ha hb, w3 c d hc hd]
  by_cases h : (a + b) / 2 = (c + d) / 2
  · rw [if_pos h]
    simp only [Option.getD_some]
    rw [Bool.eq_iff_iff]
    simp
    omega
  · rw [if_neg h]
    simp
    omega
theorem refSum_eq {a b c d : Int} (ha : In64 a) (hb : In64 b) (hc : In64 c) (hd : In64 d) : refSum a b c d = decide (a + b = c + d) := by
  unfold In64 at *
  unfold refSum verditerref07_sameSum.f
  simp only [and_low]
  obtain ⟨h, hh⟩ : ∃ h, h = a / 4294967296 + b / 4294967296 - c / 4294967296 - d / 4294967296 := ⟨_, rfl⟩
  obtain ⟨l, hl⟩ : ∃ l, l = a % 4294967296 + b % 4294967296 - c % 4294967296 - d % 4294967296 := ⟨_, rfl⟩
  have w1 : wrap64 ((wrap64 ((wrap64 ((a / 4294967296) + (b / 4294967296))) - (c / 4294967296))) - (d / 4294967296)) = h := by unfold wrap64; omega
  have w2 : wrap64 ((wrap64 ((wrap64 ((a % 4294967296) + (b % 4294967296))) - (c % 4294967296))) - (d % 4294967296)) = l := by unfold wrap64; omega
  have b1 : -8589934593 ≤ l ∧ l ≤ 8589934593 := by omega
  have b2 : -8589934593 ≤ h ∧ h ≤ 8589934593 := by omega
  have e : a + b = c + d ↔ h * 4294967296 = -l := by omega
  rw [w1, w2]
  have w3 : wrap64 (-l) = -l := by unfold wrap64; omega
  rw [w3]
  by_cases c1 : wrap64 (h * 4294967296) = -l
  · rw [if_pos c1]
    by_cases c2 : h > -8
    · rw [if_pos c2]
      simp only [Option.getD_some]
      rw [Bool.eq_iff_iff, decide_eq_true_eq, decide_eq_true_eq, e]
      constructor
      · intro c3
        unfold wrap64 at c1
        omega
      · intro c3
        omega
    · rw [if_neg c2]
      simp only [Option.getD_some]
      symm
      rw [decide_eq_false_iff_not, e]
      omega
  · rw [if_neg c1]
    simp only [Option.getD_some]
    symm
    rw [decide_eq_false_iff_not, e]
    intro c3
    apply c1
    rw [c3, w3]
/-- A dough all of whose opposite lumps have one sum. -/
def HasPairs (l : List Int) : Prop := ∀ i, i < l.length → l.getD i 0 + l.getD (l.length - 1 - i) 0 = l.getD 0 0 + l.getD (l.length - 1) 0
theorem rd_getD (l : List Int) (i : Nat) : rd l (i : Int) = l.getD i 0 := by unfold rd; rw [Int.toNat_natCast]
theorem mem64 {l : List Int} (h : ∀ x ∈ l, In64 x) (i : Nat) : In64 (l.getD i 0) := by
  rw [List.getD_eq_getElem?_getD]
  cases c : l[i]? with
  | none => simp [In64]
  | some v => exact h v (List.mem_of_getElem? c)
theorem pairsTo_iff {s : Int → Int → Int → Int → Bool} {l : List Int} (hs : ∀ a b c d, In64 a → In64 b → In64 c → In64 d → s a b c d = decide (a + b = c + d)) (hl : ∀ x ∈ l, In64 x) (hp : 0 < l.length) : pairsTo s l l.length = true ↔ HasPairs l := by
  unfold pairsTo HasPairs
  rw [List.all_eq_true]
  constructor
  · intro h i hi
    have := h i (List.mem_range.2 hi)
    rw [show ((l.length : Int) - 1 - i) = ((l.length - 1 - i : Nat) : Int) by omega, show ((l.length : Int) - 1) = ((l.length - 1 : Nat) : Int) by omega, show (0 : Int) = ((0 : Nat) : Int) from rfl, rd_getD, rd_getD, rd_getD, rd_getD, hs _ _ _ _ (mem64 hl _) (mem64 hl _) (mem64 hl _) (mem64 hl _)] at this
    exact of_decide_eq_true this
  · intro h i hi
    have hi := List.mem_range.1 hi
    rw [show ((l.length : Int) - 1 - i) = ((l.length - 1 - i : Nat) : Int) by omega, show ((l.length : Int) - 1) = ((l.length - 1 : Nat) : Int) by omega, show (0 : Int) = ((0 : Nat) : Int) from rfl, rd_getD, rd_getD, rd_getD, rd_getD, hs _ _ _ _ (mem64 hl _) (mem64 hl _) (mem64 hl _) (mem64 hl _)]
    exact decide_eq_true (h i hi)
theorem pairsTo_eq {s t : Int → Int → Int → Int → Bool} {l : List Int} (hs : ∀ a b c d, In64 a → In64 b → In64 c → In64 d → s a b c d = decide (a + b = c + d)) (ht : ∀ a b c d, In64 a → In64 b → In64 c → In64 d → t a b c d = decide (a + b = c + d)) (hl : ∀ x ∈ l, In64 x) (hp : 0 < l.length) : pairsTo s l l.length = pairsTo t l l.length := by
  rw [Bool.eq_iff_iff, pairsTo_iff hs hl hp, pairsTo_iff ht hl hp]
theorem step_opp {n p k : Nat} (hn : n % 2 = 0) (hk : k ≤ 1) (hp : p < n) : stepN n (n - 1 - p) k = n - 1 - stepN n p k := by
  unfold stepN
  by_cases c : p < n / 2
  · rw [if_pos c, if_neg (by omega)]; omega
  · rw [if_neg c, if_pos (by omega)]; omega
theorem along_opp {n : Nat} (hn : n % 2 = 0) : ∀ (w : List Int) (p : Nat), Kinds w → p < n → alongN n w (n - 1 - p) = n - 1 - alongN n w p
  | [], _, _, _ => rfl
  | k :: w, p, hw, hp => by rw [along_cons, along_cons, step_opp hn hw.head.1 hp, along_opp hn w _ hw.tail (step_lt hn hw.head.1 hp)]
theorem pairs_folds {w l : List Int} (hw : Kinds w) (hn : l.length % 2 = 0) (hp : 0 < l.length) : HasPairs (foldsL w l) ↔ HasPairs l := by
  have e := folds_length w l hn
  have g := fun p hp => folds_getD w l p hw hn hp
  unfold HasPairs
  rw [e]
  constructor
  · intro h i hi
    have key : ∀ p, p < l.length → l.getD p 0 + l.getD (l.length - 1 - p) 0 = (foldsL w l).getD 0 0 + (foldsL w l).getD (l.length - 1) 0 := fun p hp => by
      have h1 := h _ (along_lt hn w p hw hp)
      rw [← along_opp hn w p hw hp, g p hp, g _ (by omega)] at h1
      exact h1
    have h0 := key 0 (by omega)
    rw [Nat.sub_zero] at h0
    rw [key i hi, h0]
  · intro h i hi
    have key : ∀ q, q < l.length → (foldsL w l).getD q 0 + (foldsL w l).getD (l.length - 1 - q) 0 = l.getD 0 0 + l.getD (l.length - 1) 0 := fun q hq => by
      have hb := back_lt hn w q hq
      have h1 := h _ hb
      rw [← g _ hb, ← g _ (show l.length - 1 - backN l.length w q < l.length by omega), along_opp hn w _ hw hb, along_back hn w q hw hq] at h1
      exact h1
    have h0 := key 0 (by omega)
    rw [Nat.sub_zero] at h0
    rw [key i hi, h0]
theorem riffle_mem (x : Int) : ∀ (a b : List Int), x ∈ riffle a b → x ∈ a ∨ x ∈ b
  | y :: a, z :: b, h => by
    simp only [riffle, List.mem_cons] at h
    rcases h with h | h | h
    · simp [h]
    · simp [h]
    · rcases riffle_mem x a b h with h | h <;> simp [h]
  | [], _, h => by simp [riffle] at h
  | _ :: _, [], h => by simp [riffle] at h
theorem foldL_mem {k x : Int} {l : List Int} (h : x ∈ foldL k l) : x ∈ l := by
  unfold foldL at h
  split at h
  · rcases riffle_mem x _ _ h with h | h
    · exact List.mem_of_mem_drop (List.mem_of_mem_take h)
    · exact List.mem_of_mem_take h
  · rcases riffle_mem x _ _ h with h | h
    · exact List.mem_of_mem_take h
    · exact List.mem_of_mem_drop (List.mem_of_mem_take h)
theorem folds_mem {x : Int} : ∀ (w l : List Int), x ∈ foldsL w l → x ∈ l
  | [], _, h => h
  | k :: w, l, h => foldL_mem (folds_mem w _ h)
/-- What the two functions Pairs answer. -/
theorem pairs_R {l : List Int} (hl : ∀ x ∈ l, In64 x) : knead_Pairs.f l = some (if lumps l.length then (pairsTo ownSum l l.length, 0) else (false, 1)) ∧ verditerref07_Pairs.f l = some (if lumps l.length then (pairsTo ownSum l l.length, 0) else (false, 1)) := by
  unfold knead_Pairs.f verditerref07_Pairs.f
  rw [validate_eq, refValidate_eq]
  cases c : lumps l.length with
  | false => exact ⟨rfl, rfl⟩
  | true =>
    refine ⟨rfl, ?_⟩
    have := lumps_nat c
    rw [← pairsTo_eq (s := refSum) (fun _ _ _ _ ha hb hc hd => refSum_eq ha hb hc hd) (fun _ _ _ _ ha hb hc hd => ownSum_eq ha hb hc hd) hl (by omega)]
    rfl
namespace Pure
theorem KneadPairs : verditerlaw07_kneadPairs.Pure := by
  intro l w _ _ hwf _ _ _
  have h64 : ∀ x ∈ l, In64 x := fun x hx => by
    have h := hwf x hx
    simp only [Lit.wf, Bool.and_eq_true, decide_eq_true_eq] at h
    exact h
  refine ⟨5000, ?_⟩
  unfold verditerlaw07_kneadPairs.f
  rw [long_eq, long_eq]
  rw [show (5000 : Nat) = 4998 + 1 + 1 from rfl]
  simp only [Option.bind_some]
  by_cases hl : 100 < l.length
  · rw [if_pos (by simpa using hl)]
    simp only [verditerlaw07_kneadPairs.j0, if_true]
    rw [known_eq (by omega)]
    rfl
  · rw [if_neg (by simpa using hl)]
    by_cases hw : 100 < w.length
    · rw [show decide (100 < w.length) = true by simpa using hw]
      simp only [verditerlaw07_kneadPairs.j0, if_true]
      rw [known_eq (by omega)]
      rfl
    · rw [show decide (100 < w.length) = false by simpa using hw]
      simp only [verditerlaw07_kneadPairs.j0, Bool.false_eq_true, if_false]
      rw [(pairs_R h64).1, (pairs_R h64).2]
      simp only [Option.bind_some, bne_self_eq_false, Bool.false_eq_true, if_false, verditerlaw07_kneadPairs.j1]
      rw [fold_R _ l w (by omega) (by omega) (by omega)]
      simp only [Option.bind_some]
      unfold foldR
      cases c : lumps l.length with
      | false =>
        simp only [Bool.false_eq_true, if_false, show ¬ ((1 : Int) = 0) by decide]
        rw [known_eq (by omega)]
        rfl
      | true =>
        simp only [if_true]
        by_cases h3 : wcode w = 0
        · rw [if_pos h3]
          have hn := lumps_nat c
          have hk := (wcode_zero h3).2
          have e := folds_length w l hn.2.2
          have h2 : ∀ x ∈ foldsL w l, In64 x := fun x hx => h64 x (folds_mem w l hx)
          simp only [if_true]
          rw [(pairs_R h2).1, e, c]
          simp only [Option.bind_some, if_true]
          have he : pairsTo ownSum (foldsL w l) (foldsL w l).length = pairsTo ownSum l l.length := by
            have hs : ∀ a b c d, In64 a → In64 b → In64 c → In64 d → ownSum a b c d = decide (a + b = c + d) := fun _ _ _ _ ha hb hc hd => ownSum_eq ha hb hc hd
            rw [Bool.eq_iff_iff, pairsTo_iff hs h2 (by omega), pairsTo_iff hs h64 (by omega)]
            exact pairs_folds hk hn.2.2 (by omega)
          rw [e] at he
          rw [he, beq_self_eq_true, if_pos rfl, known_eq (by omega)]
          rfl
        · rw [if_neg h3]
          simp only [h3, if_false]
          rw [known_eq (by omega)]
          rfl
end Pure
end Go.Proofs.Ytgnklmhjejbcoaa.K
