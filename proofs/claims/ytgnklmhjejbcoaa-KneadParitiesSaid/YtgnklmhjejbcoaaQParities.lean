/- The pure statement of KneadParities: for all numbers and lists the law within it answers true. -/
import Derived.Test.YtgnklmhjejbcoaaQC
import Derived.Test.YtgnklmhjejbcoaaQD
import Derived.Test.YtgnklmhjejbcoaaQS
import Derived.Test.YtgnklmhjejbcoaaHI
import Derived.Test.YtgnklmhjejbcoaaK11
import Derived.Test.YtgnklmhjejbcoaaK22
import Derived.Test.YtgnklmhjejbcoaaK6
namespace Go.Proofs.Ytgnklmhjejbcoaa.K
open Go.RowKit Go.Proofs.YtgnklmhjejbcoaaW.PrintWords Go.Proofs.YtgnklmhjejbcoaaW.PrintLast Go.Proofs.YtgnklmhjejbcoaaW.PrintMore
set_option linter.unusedVariables false
set_option linter.unusedSimpArgs false

def lcode (n : Int) (w : List Int) : Int := if lumps n then wcode w else 1
theorem asked_eq (n : Int) (w : List Int) : knead_asked.f n w = some (lcode n w) := by
  unfold knead_asked.f lcode
  rw [isLumps_eq, worded_eq]
  cases lumps n <;> rfl
theorem lumped_eq (k : Nat) (n : Int) (w : List Int) (hw : w.length ≤ 1000) (hk : w.length < k) : verditerref07_lumped.f k n w = some (lcode n w) := by
  unfold verditerref07_lumped.f lcode
  rw [refLumps_eq, refWorded_eq k w hw hk]
  cases lumps n <;> rfl
theorem lcode_zero {n : Int} {w : List Int} (h : lcode n w = 0) : lumps n = true ∧ wcode w = 0 := by
  unfold lcode at h
  split at h
  · rename_i h1; exact ⟨h1, h⟩
  · omega
/-- The sign of a word. -/
def sgn (n : Nat) (w : List Int) : Bool := parF (alongN n w) n
theorem along_inj {n : Nat} (hn : n % 2 = 0) {w : List Int} (hw : Kinds w) : Inj n (alongN n w) := fun p q hp hq e => by
  have h1 := back_along hn w p hw hp
  have h2 := back_along hn w q hw hq
  rw [← h1, ← h2, e]
theorem along_good {n : Nat} (hn : n % 2 = 0) (hs : n ≤ 1000) {w : List Int} (hw : Kinds w) : Good n (alongN n w) := by
  obtain ⟨_, _, _, _, h, _⟩ := rnds_sign (f := alongN n w) hs (fun p hp => along_lt hn w p hw hp) (along_inj hn hw)
  exact h
theorem along_append (n : Nat) (v w : List Int) (p : Nat) : alongN n (v ++ w) p = alongN n w (alongN n v p) := by simp [alongN, List.foldl_append]
theorem sgn_append {n : Nat} (hn : n % 2 = 0) (hs : n ≤ 1000) {v w : List Int} (hv : Kinds v) (hw : Kinds w) : sgn n (v ++ w) = xor (sgn n w) (sgn n v) := by
  unfold sgn
  rw [← (along_good hn hs hv).mul _ (along_inj hn hw)]
  exact parF_congr n (fun q _ => along_append n v w q)
/-- Where the folded dough's lumps came from. -/
def backF (n : Nat) (w : List Int) (q : Nat) : Nat := ((foldsL w (numL n)).getD q 0).toNat
theorem folds_num {n : Nat} (hn : n % 2 = 0) {w : List Int} (hw : Kinds w) {p : Nat} (hp : p < n) : (foldsL w (numL n)).getD (alongN n w p) 0 = (p : Int) := by
  have h := folds_getD w (numL n) p hw (by rw [numL_length]; exact hn) (by rw [numL_length]; exact hp)
  rw [numL_length, numL_getD n p hp] at h
  exact h
theorem folds_at {n : Nat} (hn : n % 2 = 0) {w : List Int} (hw : Kinds w) {q : Nat} (hq : q < n) : (foldsL w (numL n)).getD q 0 = ((backN n w q : Nat) : Int) := by
  have h := folds_num hn hw (back_lt hn w q hq)
  rw [along_back hn w q hw hq] at h
  exact h
theorem backF_eq {n : Nat} (hn : n % 2 = 0) {w : List Int} (hw : Kinds w) {q : Nat} (hq : q < n) : backF n w q = backN n w q := by
  unfold backF
  rw [folds_at hn hw hq]
  simp
theorem back_inj {n : Nat} (hn : n % 2 = 0) {w : List Int} (hw : Kinds w) : Inj n (backN n w) := fun p q hp hq e => by
  rw [← along_back hn w p hw hp, ← along_back hn w q hw hq, e]
theorem sgn_back {n : Nat} (hn : n % 2 = 0) (hs : n ≤ 1000) {w : List Int} (hw : Kinds w) : parF (backN n w) n = sgn n w := by
  have h := (along_good hn hs hw).mul _ (back_inj hn hw)
  rw [parF_congr (g := fun x => x) n (fun q hq => back_along hn w q hw hq), parF_id] at h
  unfold sgn
  cases h1 : parF (backN n w) n <;> cases h2 : parF (alongN n w) n <;> simp_all

/-- What IsOdd answers. -/
def oddR (n : Int) (w : List Int) : Bool × Int := if lcode n w = 0 then (sgn n.toNat w, 0) else (false, lcode n w)
theorem isOdd_R (n : Int) (w : List Int) (hw : w.length ≤ 1000) : knead_IsOdd.f n w = some (oddR n w) := by
  unfold knead_IsOdd.f oddR
  rw [asked_eq]
  simp only [Option.bind_some]
  by_cases h : lcode n w = 0
  · rw [if_pos h, if_pos h]
    obtain ⟨h1, h2⟩ := lcode_zero h
    have hc := lumps_int h1
    have hk := (wcode_zero h2).2
    obtain ⟨m, rfl⟩ : ∃ m : Nat, n = m := ⟨n.toNat, by omega⟩
    have hm2 : m % 2 = 0 := by omega
    rw [if_pos (by omega), fresh_eq 2000 m (by omega) (by omega)]
    simp only [Option.bind_some]
    rw [folded_eq 2000 (numL m) w (by rw [numL_length]; omega) hw (by omega)]
    simp only [Option.bind_some, Int.toNat_natCast]
    have hlen : (foldsL w (numL m)).length = m := by rw [folds_length w _ (by rw [numL_length]; exact hm2), numL_length]
    rw [if_pos ⟨hlen, fun x hx => by
      obtain ⟨q, hq, rfl⟩ := List.mem_iff_getElem.1 hx
      have hqm : q < m := by omega
      have := folds_at hm2 hk hqm
      have hb := back_lt hm2 w q hqm
      rw [List.getD_eq_getElem?_getD, List.getElem?_eq_getElem hq] at this
      simp only [Option.getD_some] at this
      omega⟩]
    have hf : ∀ p, p < m → backF m w p < m := fun p hp => by rw [backF_eq hm2 hk hp]; exact back_lt hm2 w p hp
    have hi : Inj m (backF m w) := fun p q hp hq e => back_inj hm2 hk p q hp hq (by rw [← backF_eq hm2 hk hp, ← backF_eq hm2 hk hq]; exact e)
    obtain ⟨res, r1, r2, r3, _, r5⟩ := rnds_sign (f := backF m w) (by omega) hf hi
    have r1' : rnds (fun p => ((foldsL w (numL m)).getD p 0).toNat) m (List.replicate m false) 0 [] = some res := r1
    rw [r1']
    simp only [Option.bind_some]
    rw [if_pos ⟨r3 (by omega), r2⟩, ← r5, parF_congr m (fun q hq => backF_eq hm2 hk hq), sgn_back hm2 (by omega) hk]
  · rw [if_neg h, if_neg h]

/-- How many of the places q, q + 1, .., m of them, come behind v. -/
def cR (f : Nat → Nat) (v : Nat) : Nat → Nat → Nat
  | _, 0 => 0
  | q, m + 1 => (if v < f q then 1 else 0) + cR f v (q + 1) m
theorem cR_le (f : Nat → Nat) (v : Nat) : ∀ m q, cR f v q m ≤ m
  | 0, _ => Nat.le_refl _
  | m + 1, q => by rw [cR]; have := cR_le f v m (q + 1); split <;> omega
theorem cR_par (f : Nat → Nat) (v : Nat) : ∀ m q, cntF f (q + m) v = xor (cntF f q v) (decide (cR f v q m % 2 = 1))
  | 0, q => by simp [cR]
  | m + 1, q => by
    rw [show q + (m + 1) = (q + 1) + m by omega, cR_par f v m (q + 1), cR, odd_add]
    show xor (xor (cntF f q v) (decide (v < f q))) _ = _
    by_cases h : v < f q
    · simp [h]
    · simp [h]
theorem refOdd_l1 {n : Nat} (hn : n % 2 = 0) (hs : n ≤ 32) (w : List Int) (hw : Kinds w) (hl : w.length ≤ 1000) : ∀ (m k q p c : Nat), q + m = p → p < n → 1100 ≤ k → c + m ≤ 100000 →
    verditerref07_IsOdd.l1 (m + 1 + k) (n : Int) w (c : Int) (p : Int) (q : Int) = verditerref07_IsOdd.l0 k (n : Int) w ((c + cR (alongN n w) (alongN n w p) q m : Nat) : Int) ((p + 1 : Nat) : Int) := by
  intro m
  induction m with
  | zero =>
    intro k q p c h1 hp hk hc
    rw [show 0 + 1 + k = k + 1 by omega]
    simp only [verditerref07_IsOdd.l1]
    rw [if_neg (by omega), wrap_nat _ (by omega)]
    rfl
  | succ m ih =>
    intro k q p c h1 hp hk hc
    rw [show m + 1 + 1 + k = (m + 1 + k) + 1 by omega]
    simp only [verditerref07_IsOdd.l1]
    rw [if_pos (by omega), along_eq hn (by omega) w hw hl _ (by omega) (show q < n by omega), along_eq hn (by omega) w hw hl _ (by omega) hp]
    simp only [Option.bind_some]
    rw [cR]
    by_cases hg : alongN n w p < alongN n w q
    · rw [if_pos (by omega), if_pos hg, wrap_nat _ (by omega), wrap_nat _ (by omega), ih k (q + 1) p (c + 1) (by omega) hp hk (by omega)]
      congr 2
      omega
    · rw [if_neg (by omega), if_neg hg, wrap_nat _ (by omega), ih k (q + 1) p c (by omega) hp hk (by omega), Nat.zero_add]
theorem refOdd_l0 {n : Nat} (hn : n % 2 = 0) (hs : n ≤ 32) (w : List Int) (hw : Kinds w) (hl : w.length ≤ 1000) : ∀ (m k p c : Nat), p + m = n → 1101 + m * 40 ≤ k → c + m * 40 ≤ 10000 →
    verditerref07_IsOdd.l0 k (n : Int) w (c : Int) (p : Int) = some (xor (decide (c % 2 = 1)) (xor (parF (alongN n w) n) (parF (alongN n w) p)), 0) := by
  intro m
  induction m with
  | zero =>
    intro k p c h1 hk hc
    obtain ⟨k, rfl⟩ : ∃ m, k = m + 1 := ⟨k - 1, by omega⟩
    obtain rfl : p = n := by omega
    simp only [verditerref07_IsOdd.l0]
    rw [if_neg (by omega)]
    have e : (Int.tmod (c : Int) 2 == 1) = decide (c % 2 = 1) := by
      rw [Int.tmod_eq_emod_of_nonneg (by omega)]
      by_cases h : c % 2 = 1
      · have : (c : Int) % 2 = 1 := by omega
        simp [h, this]
      · have : ¬ (c : Int) % 2 = 1 := by omega
        simp [h, this]
    rw [e]
    cases parF (alongN p w) p <;> simp
  | succ m ih =>
    intro k p c h1 hk hc
    obtain ⟨k, rfl⟩ : ∃ j, k = (p + 1 + j) + 1 := ⟨k - (p + 2), by omega⟩
    simp only [verditerref07_IsOdd.l0]
    rw [if_pos (by omega)]
    have h0 := refOdd_l1 hn hs w hw hl p k 0 p c (by omega) (by omega) (by omega) (by omega)
    rw [show ((0 : Nat) : Int) = 0 from rfl] at h0
    have hcr := cR_le (alongN n w) (alongN n w p) p 0
    rw [h0, ih k (p + 1) _ (by omega) (by omega) (by omega), odd_add]
    have hp := cR_par (alongN n w) (alongN n w p) p 0
    rw [Nat.zero_add] at hp
    have hp2 : cntF (alongN n w) p (alongN n w p) = decide (cR (alongN n w) (alongN n w p) 0 p % 2 = 1) := by rw [hp]; simp [cntF]
    rw [show parF (alongN n w) (p + 1) = xor (parF (alongN n w) p) (cntF (alongN n w) p (alongN n w p)) from rfl, hp2]
    cases parF (alongN n w) n <;> cases parF (alongN n w) p <;> cases decide (c % 2 = 1) <;> cases decide (cR (alongN n w) (alongN n w p) 0 p % 2 = 1) <;> rfl
theorem refOdd_R (k : Nat) (n : Int) (w : List Int) (hw : w.length ≤ 1000) (hk : 3000 ≤ k) : verditerref07_IsOdd.f k n w = some (oddR n w) := by
  unfold verditerref07_IsOdd.f oddR
  rw [lumped_eq k n w hw (by omega)]
  simp only [Option.bind_some]
  by_cases h : lcode n w = 0
  · rw [if_pos h, if_pos h]
    obtain ⟨h1, h2⟩ := lcode_zero h
    have hc := lumps_int h1
    have hk2 := (wcode_zero h2).2
    obtain ⟨m, rfl⟩ : ∃ m : Nat, n = m := ⟨n.toNat, by omega⟩
    have h0 := refOdd_l0 (n := m) (by omega) (by omega) w hk2 hw m k 0 0 (by omega) (by omega) (by omega)
    rw [show ((0 : Nat) : Int) = 0 from rfl] at h0
    rw [h0, Int.toNat_natCast]
    unfold sgn
    cases parF (alongN m w) m <;> rfl
  · rw [if_neg h, if_neg h]

/-- How many of the places q, q + 1, .., m of them, are where they were. -/
def stR (f : Nat → Nat) : Nat → Nat → Nat
  | _, 0 => 0
  | q, m + 1 => (if f q = q then 1 else 0) + stR f (q + 1) m
theorem stR_le (f : Nat → Nat) : ∀ m q, stR f q m ≤ m
  | 0, _ => Nat.le_refl _
  | m + 1, q => by rw [stR]; have := stR_le f m (q + 1); split <;> omega
/-- What Still answers. -/
def stillR (n : Int) (w : List Int) : Int × Int := if lcode n w = 0 then ((stR (alongN n.toNat w) 0 n.toNat : Nat), 0) else (0, lcode n w)
theorem refStill_l0 {n : Nat} (hn : n % 2 = 0) (hs : n ≤ 32) (w : List Int) (hw : Kinds w) (hl : w.length ≤ 1000) : ∀ (m k p c : Nat), p + m = n → 1100 + m ≤ k → c + m ≤ 10000 →
    verditerref07_Still.l0 k (n : Int) w (c : Int) (p : Int) = some (((c + stR (alongN n w) p m : Nat) : Int), 0) := by
  intro m
  induction m with
  | zero =>
    intro k p c h1 hk hc
    obtain ⟨k, rfl⟩ : ∃ m, k = m + 1 := ⟨k - 1, by omega⟩
    simp only [verditerref07_Still.l0]
    rw [if_neg (by omega)]
    rfl
  | succ m ih =>
    intro k p c h1 hk hc
    obtain ⟨k, rfl⟩ : ∃ j, k = j + 1 := ⟨k - 1, by omega⟩
    simp only [verditerref07_Still.l0]
    rw [if_pos (by omega), along_eq hn (by omega) w hw hl _ (by omega) (show p < n by omega)]
    simp only [Option.bind_some]
    rw [stR]
    by_cases hg : alongN n w p = p
    · rw [if_pos (by omega), if_pos hg, wrap_nat _ (by omega), wrap_nat _ (by omega), ih k (p + 1) (c + 1) (by omega) (by omega) (by omega)]
      congr 3
      omega
    · rw [if_neg (by omega), if_neg hg, wrap_nat _ (by omega), ih k (p + 1) c (by omega) (by omega) (by omega), Nat.zero_add]
theorem refStill_R (k : Nat) (n : Int) (w : List Int) (hw : w.length ≤ 1000) (hk : 3000 ≤ k) : verditerref07_Still.f k n w = some (stillR n w) := by
  unfold verditerref07_Still.f stillR
  rw [lumped_eq k n w hw (by omega)]
  simp only [Option.bind_some]
  by_cases h : lcode n w = 0
  · rw [if_pos h, if_pos h]
    obtain ⟨h1, h2⟩ := lcode_zero h
    have hc := lumps_int h1
    obtain ⟨m, rfl⟩ : ∃ m : Nat, n = m := ⟨n.toNat, by omega⟩
    have h0 := refStill_l0 (n := m) (by omega) (by omega) w (wcode_zero h2).2 hw m k 0 0 (by omega) (by omega) (by omega)
    rw [show ((0 : Nat) : Int) = 0 from rfl, Nat.zero_add] at h0
    rw [h0, Int.toNat_natCast]
  · rw [if_neg h, if_neg h]
theorem still_same {n : Nat} (hn : n % 2 = 0) {w : List Int} (hw : Kinds w) {p : Nat} (hp : p < n) : (p : Int) = (foldsL w (numL n)).getD p 0 ↔ alongN n w p = p := by
  rw [folds_at hn hw hp]
  constructor
  · intro h
    have h1 : backN n w p = p := by omega
    have := along_back hn w p hw hp
    rwa [h1] at this
  · intro h
    have := back_along hn w p hw hp
    rw [h] at this
    rw [this]
theorem still_l0 {n : Nat} (hn : n % 2 = 0) (hs : n ≤ 32) (w : List Int) (hw : Kinds w) : ∀ (m k p c : Nat), p + m = n → m < k → c + m ≤ 10000 →
    knead_Still.l0 k (c : Int) (foldsL w (numL n)) (n : Int) (p : Int) = some (((c + stR (alongN n w) p m : Nat) : Int), 0) := by
  have hlen : (foldsL w (numL n)).length = n := by rw [folds_length w _ (by rw [numL_length]; exact hn), numL_length]
  intro m
  induction m with
  | zero =>
    intro k p c h1 hk hc
    obtain ⟨k, rfl⟩ : ∃ m, k = m + 1 := ⟨k - 1, by omega⟩
    simp only [knead_Still.l0]
    rw [if_neg (by omega)]
    rfl
  | succ m ih =>
    intro k p c h1 hk hc
    obtain ⟨k, rfl⟩ : ∃ j, k = j + 1 := ⟨k - 1, by omega⟩
    simp only [knead_Still.l0]
    rw [if_pos (by omega), if_pos (by omega), if_pos (by omega), stR]
    have hr : rd (foldsL w (numL n)) (p : Int) = (foldsL w (numL n)).getD p 0 := by unfold rd; rw [Int.toNat_natCast]
    rw [hr]
    by_cases hg : alongN n w p = p
    · rw [if_pos ((still_same hn hw (by omega)).2 hg), if_pos hg, wrap_nat _ (by omega), wrap_nat _ (by omega), ih k (p + 1) (c + 1) (by omega) (by omega) (by omega)]
      congr 3
      omega
    · rw [if_neg (fun h => hg ((still_same hn hw (by omega)).1 h)), if_neg hg, wrap_nat _ (by omega), ih k (p + 1) c (by omega) (by omega) (by omega), Nat.zero_add]
theorem still_R (k : Nat) (n : Int) (w : List Int) (hw : w.length ≤ 1000) (hk : 3000 ≤ k) : knead_Still.f k n w = some (stillR n w) := by
  unfold knead_Still.f stillR
  rw [asked_eq]
  simp only [Option.bind_some]
  by_cases h : lcode n w = 0
  · rw [if_pos h, if_pos h]
    obtain ⟨h1, h2⟩ := lcode_zero h
    have hc := lumps_int h1
    obtain ⟨m, rfl⟩ : ∃ m : Nat, n = m := ⟨n.toNat, by omega⟩
    have hm2 : m % 2 = 0 := by omega
    have hlen : (foldsL w (numL m)).length = m := by rw [folds_length w _ (by rw [numL_length]; exact hm2), numL_length]
    rw [fresh_eq k m (by omega) (by omega)]
    simp only [Option.bind_some]
    rw [folded_eq k (numL m) w (by rw [numL_length]; omega) hw (by omega)]
    simp only [Option.bind_some]
    rw [hlen]
    have h0 := still_l0 (n := m) hm2 (by omega) w (wcode_zero h2).2 m k 0 0 (by omega) (by omega) (by omega)
    rw [show ((0 : Nat) : Int) = 0 from rfl, Nat.zero_add] at h0
    rw [h0, Int.toNat_natCast]
  · rw [if_neg h, if_neg h]

namespace Pure
theorem KneadParities : verditerlaw07_kneadParities.Pure := by
  intro n v w _ _ _ _ _ _ _
  refine ⟨5000, ?_⟩
  have hdone : ∀ m, verditerlaw07_kneadParities.j0 (m + 200) n v w true = some true := by
    intro m
    rw [show m + 200 = (m + 199) + 1 from rfl]
    simp only [verditerlaw07_kneadParities.j0, if_true]
    rw [known_eq (by omega)]
    rfl
  unfold verditerlaw07_kneadParities.f
  rw [long_eq, long_eq]
  simp only [Option.bind_some]
  by_cases hl : 100 < v.length
  · rw [if_pos (by simpa using hl)]
    exact hdone 4800
  · rw [if_neg (by simpa using hl)]
    by_cases hw : 100 < w.length
    · rw [decide_eq_true hw]
      exact hdone 4800
    · rw [decide_eq_false hw]
      rw [show (5000 : Nat) = 4999 + 1 from rfl]
      simp only [verditerlaw07_kneadParities.j0, Bool.false_eq_true, if_false]
      rw [refOdd_R _ n v (by omega) (by omega), refStill_R _ n v (by omega) (by omega), isOdd_R n v (by omega), still_R _ n v (by omega) (by omega)]
      rw [show (4999 : Nat) = 4998 + 1 from rfl]
      simp only [Option.bind_some, bne_self_eq_false, Bool.false_eq_true, if_false, if_true, verditerlaw07_kneadParities.j1, List.nil_append, List.length_nil, List.length_append]
      rw [isOdd_R n w (by omega), isOdd_R n (v ++ w) (by simp; omega)]
      simp only [Option.bind_some]
      rw [if_pos (by omega), if_pos (by omega)]
      rw [known_eq (by omega)]
      simp only [Option.bind_some]
      by_cases h1 : (oddR n v).2 = 0
      · by_cases h2 : (oddR n w).2 = 0
        · by_cases h3 : (oddR n (v ++ w)).2 = 0
          · rw [if_pos h1, if_pos h2, if_pos h3]
            have hz : ∀ u, (oddR n u).2 = 0 → lcode n u = 0 := fun u h => by
              unfold oddR at h
              split at h
              · rename_i h'; exact h'
              · exact h
            have z1 := hz v h1
            have z2 := hz w h2
            have z3 := hz (v ++ w) h3
            obtain ⟨c1, c2⟩ := lcode_zero z1
            obtain ⟨_, c3⟩ := lcode_zero z2
            have hc := lumps_int c1
            have e : (oddR n (v ++ w)).1 = ((oddR n v).1 != (oddR n w).1) := by
              unfold oddR
              rw [if_pos z1, if_pos z2, if_pos z3]
              simp only []
              rw [sgn_append (by omega) (by omega) (wcode_zero c2).2 (wcode_zero c3).2]
              cases sgn n.toNat v <;> cases sgn n.toNat w <;> rfl
            rw [e, if_pos (by simp)]
          · rw [if_pos h1, if_pos h2, if_neg h3]
        · rw [if_pos h1, if_neg h2]
      · rw [if_neg h1]
end Pure
end Go.Proofs.Ytgnklmhjejbcoaa.K
