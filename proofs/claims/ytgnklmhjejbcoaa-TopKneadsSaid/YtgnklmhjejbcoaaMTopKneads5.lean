/- Texts of this claim in one file: HB, QC, QD, QV, QWays, QBrings, QTimes, QS, QParities, QPairs, QWords, QTop. -/
import Derived.Test.YtgnklmhjejbcoaaMTopKneads0
import Derived.Test.YtgnklmhjejbcoaaMTopKneads1
import Derived.Test.YtgnklmhjejbcoaaMTopKneads2
import Derived.Test.YtgnklmhjejbcoaaMTopKneads3
import Derived.Test.YtgnklmhjejbcoaaMTopKneads4

/- What knead.Out, In, UnOut and UnIn return, for all slices of fewer than 2^43 elements: the folded or unfolded slice in memory of the call's own, or nil and the error; older memory stays as it was. -/
namespace Go.Proofs.Ytgnklmhjejbcoaa.K
open Go.RowKit Go.Proofs.YtgnklmhjejbcoaaW.PrintWords Go.Proofs.YtgnklmhjejbcoaaW.PrintLast Go.Proofs.YtgnklmhjejbcoaaW.PrintMore
set_option linter.unusedVariables false
set_option linter.unusedSimpArgs false

def knead_Out.f (l0 : List Int) : Option (List Int × Int) := (knead_Validate.f l0).bind fun t => if t = 0 then (knead_fold.f l0 0).bind fun r => some (r, 0) else some ([], t)

set_option maxHeartbeats 1000000 in
set_option maxRecDepth 100000 in
theorem knead_Out.calls (A0 : Option Addr) (c0 : Nat) (l0 : List Int) (r1 : List Int) (r2 : Int) (w : World) (hr0 : Kd.C (Kd.int .i64) w A0 l0.length l0) (hc0 : l0.length ≤ c0) (h : knead_Out.f l0 = some (r1, r2)) :
    Calls Try.prog 41 #[.slice A0 l0.length c0] w fun e w' => ∃ v0_ : Value, e = .returned (.tuple #[v0_, .int .i64 r2]) ∧ Kd.R (Kd.int .i64) 3 w' w.heap.size (fun _ => True) v0_ r1 ∧ Below w.heap.size w w' := by
  have HR0 := Aside0.mk hr0
  have HC0 := Aside0.mk hc0
  clear hr0 hc0
  unfold knead_Out.f at h
  obtain ⟨t, ht, h⟩ := Option.bind_eq_some_iff.mp h
  have HT := Aside0.mk ht
  clear ht
  by_cases hz : t = 0
  · rw [if_pos hz] at h
    have hb : (t != 0) = false := bne_eq_false_iff_eq.mpr hz
    clear hz
    obtain ⟨r, hf, h⟩ := Option.bind_eq_some_iff.mp h
    simp only [Option.some.injEq, Prod.mk.injEq] at h
    obtain ⟨rfl, rfl⟩ := h
    have HF := Aside0.mk hf
    clear hf
    go_enter Try.func41, Try.ntmps41
    go_wp2_with (first | (go_at_call 45; refine (knead_Validate.calls _ _ l0 t _ HR0.out HC0.out HT.out).mono ?_; rintro e w' ⟨rfl, ⟨nd, rfl⟩⟩) | (go_at_call 79; refine (knead_fold.calls _ _ l0 0 r _ (Kd.C_drewN HR0.out _) HC0.out HF.out).mono ?_; rintro e w' ⟨v, rfl, hR, hB⟩; have HO := Aside0.mk hR; have HB := Aside0.mk hB; clear hR hB) | go_in)
    go_ret2
    exact ⟨_, rfl, Kd.R_lower HO.out (Nat.le_refl _), below_step (pw_below_drewN (Below.refl _ _) _) HB.out⟩
  · rw [if_neg hz] at h
    have hb : (t != 0) = true := bne_iff_ne.mpr hz
    simp only [Option.some.injEq, Prod.mk.injEq] at h
    obtain ⟨rfl, rfl⟩ := h
    go_enter Try.func41, Try.ntmps41
    go_wp2_with (first | (go_at_call 45; refine (knead_Validate.calls _ _ l0 t _ HR0.out HC0.out HT.out).mono ?_; rintro e w' ⟨rfl, ⟨nd, rfl⟩⟩) | go_in)
    go_ret2
    exact ⟨_, rfl, Kd.R_nil _ _ _ _ _, by exact pw_below_drewN (Below.refl _ _) _⟩

def knead_In.f (l0 : List Int) : Option (List Int × Int) := (knead_Validate.f l0).bind fun t => if t = 0 then (knead_fold.f l0 1).bind fun r => some (r, 0) else some ([], t)

set_option maxHeartbeats 1000000 in
set_option maxRecDepth 100000 in
theorem knead_In.calls (A0 : Option Addr) (c0 : Nat) (l0 : List Int) (r1 : List Int) (r2 : Int) (w : World) (hr0 : Kd.C (Kd.int .i64) w A0 l0.length l0) (hc0 : l0.length ≤ c0) (h : knead_In.f l0 = some (r1, r2)) :
    Calls Try.prog 42 #[.slice A0 l0.length c0] w fun e w' => ∃ v0_ : Value, e = .returned (.tuple #[v0_, .int .i64 r2]) ∧ Kd.R (Kd.int .i64) 3 w' w.heap.size (fun _ => True) v0_ r1 ∧ Below w.heap.size w w' := by
  have HR0 := Aside0.mk hr0
  have HC0 := Aside0.mk hc0
  clear hr0 hc0
  unfold knead_In.f at h
  obtain ⟨t, ht, h⟩ := Option.bind_eq_some_iff.mp h
  have HT := Aside0.mk ht
  clear ht
  by_cases hz : t = 0
  · rw [if_pos hz] at h
    have hb : (t != 0) = false := bne_eq_false_iff_eq.mpr hz
    clear hz
    obtain ⟨r, hf, h⟩ := Option.bind_eq_some_iff.mp h
    simp only [Option.some.injEq, Prod.mk.injEq] at h
    obtain ⟨rfl, rfl⟩ := h
    have HF := Aside0.mk hf
    clear hf
    go_enter Try.func42, Try.ntmps42
    go_wp2_with (first | (go_at_call 45; refine (knead_Validate.calls _ _ l0 t _ HR0.out HC0.out HT.out).mono ?_; rintro e w' ⟨rfl, ⟨nd, rfl⟩⟩) | (go_at_call 79; refine (knead_fold.calls _ _ l0 1 r _ (Kd.C_drewN HR0.out _) HC0.out HF.out).mono ?_; rintro e w' ⟨v, rfl, hR, hB⟩; have HO := Aside0.mk hR; have HB := Aside0.mk hB; clear hR hB) | go_in)
    go_ret2
    exact ⟨_, rfl, Kd.R_lower HO.out (Nat.le_refl _), below_step (pw_below_drewN (Below.refl _ _) _) HB.out⟩
  · rw [if_neg hz] at h
    have hb : (t != 0) = true := bne_iff_ne.mpr hz
    simp only [Option.some.injEq, Prod.mk.injEq] at h
    obtain ⟨rfl, rfl⟩ := h
    go_enter Try.func42, Try.ntmps42
    go_wp2_with (first | (go_at_call 45; refine (knead_Validate.calls _ _ l0 t _ HR0.out HC0.out HT.out).mono ?_; rintro e w' ⟨rfl, ⟨nd, rfl⟩⟩) | go_in)
    go_ret2
    exact ⟨_, rfl, Kd.R_nil _ _ _ _ _, by exact pw_below_drewN (Below.refl _ _) _⟩

def knead_UnOut.f (l0 : List Int) : Option (List Int × Int) := (knead_Validate.f l0).bind fun t => if t = 0 then (knead_unfold.f l0 0).bind fun r => some (r, 0) else some ([], t)

set_option maxHeartbeats 1000000 in
set_option maxRecDepth 100000 in
theorem knead_UnOut.calls (A0 : Option Addr) (c0 : Nat) (l0 : List Int) (r1 : List Int) (r2 : Int) (w : World) (hr0 : Kd.C (Kd.int .i64) w A0 l0.length l0) (hc0 : l0.length ≤ c0) (h : knead_UnOut.f l0 = some (r1, r2)) :
    Calls Try.prog 43 #[.slice A0 l0.length c0] w fun e w' => ∃ v0_ : Value, e = .returned (.tuple #[v0_, .int .i64 r2]) ∧ Kd.R (Kd.int .i64) 3 w' w.heap.size (fun _ => True) v0_ r1 ∧ Below w.heap.size w w' := by
  have HR0 := Aside0.mk hr0
  have HC0 := Aside0.mk hc0
  clear hr0 hc0
  unfold knead_UnOut.f at h
  obtain ⟨t, ht, h⟩ := Option.bind_eq_some_iff.mp h
  have HT := Aside0.mk ht
  clear ht
  by_cases hz : t = 0
  · rw [if_pos hz] at h
    have hb : (t != 0) = false := bne_eq_false_iff_eq.mpr hz
    clear hz
    obtain ⟨r, hf, h⟩ := Option.bind_eq_some_iff.mp h
    simp only [Option.some.injEq, Prod.mk.injEq] at h
    obtain ⟨rfl, rfl⟩ := h
    have HF := Aside0.mk hf
    clear hf
    go_enter Try.func43, Try.ntmps43
    go_wp2_with (first | (go_at_call 45; refine (knead_Validate.calls _ _ l0 t _ HR0.out HC0.out HT.out).mono ?_; rintro e w' ⟨rfl, ⟨nd, rfl⟩⟩) | (go_at_call 80; refine (knead_unfold.calls _ _ l0 0 r _ (Kd.C_drewN HR0.out _) HC0.out HF.out).mono ?_; rintro e w' ⟨v, rfl, hR, hB⟩; have HO := Aside0.mk hR; have HB := Aside0.mk hB; clear hR hB) | go_in)
    go_ret2
    exact ⟨_, rfl, Kd.R_lower HO.out (Nat.le_refl _), below_step (pw_below_drewN (Below.refl _ _) _) HB.out⟩
  · rw [if_neg hz] at h
    have hb : (t != 0) = true := bne_iff_ne.mpr hz
    simp only [Option.some.injEq, Prod.mk.injEq] at h
    obtain ⟨rfl, rfl⟩ := h
    go_enter Try.func43, Try.ntmps43
    go_wp2_with (first | (go_at_call 45; refine (knead_Validate.calls _ _ l0 t _ HR0.out HC0.out HT.out).mono ?_; rintro e w' ⟨rfl, ⟨nd, rfl⟩⟩) | go_in)
    go_ret2
    exact ⟨_, rfl, Kd.R_nil _ _ _ _ _, by exact pw_below_drewN (Below.refl _ _) _⟩

def knead_UnIn.f (l0 : List Int) : Option (List Int × Int) := (knead_Validate.f l0).bind fun t => if t = 0 then (knead_unfold.f l0 1).bind fun r => some (r, 0) else some ([], t)

set_option maxHeartbeats 1000000 in
set_option maxRecDepth 100000 in
theorem knead_UnIn.calls (A0 : Option Addr) (c0 : Nat) (l0 : List Int) (r1 : List Int) (r2 : Int) (w : World) (hr0 : Kd.C (Kd.int .i64) w A0 l0.length l0) (hc0 : l0.length ≤ c0) (h : knead_UnIn.f l0 = some (r1, r2)) :
    Calls Try.prog 44 #[.slice A0 l0.length c0] w fun e w' => ∃ v0_ : Value, e = .returned (.tuple #[v0_, .int .i64 r2]) ∧ Kd.R (Kd.int .i64) 3 w' w.heap.size (fun _ => True) v0_ r1 ∧ Below w.heap.size w w' := by
  have HR0 := Aside0.mk hr0
  have HC0 := Aside0.mk hc0
  clear hr0 hc0
  unfold knead_UnIn.f at h
  obtain ⟨t, ht, h⟩ := Option.bind_eq_some_iff.mp h
  have HT := Aside0.mk ht
  clear ht
  by_cases hz : t = 0
  · rw [if_pos hz] at h
    have hb : (t != 0) = false := bne_eq_false_iff_eq.mpr hz
    clear hz
    obtain ⟨r, hf, h⟩ := Option.bind_eq_some_iff.mp h
    simp only [Option.some.injEq, Prod.mk.injEq] at h
    obtain ⟨rfl, rfl⟩ := h
    have HF := Aside0.mk hf
    clear hf
    go_enter Try.func44, Try.ntmps44
    go_wp2_with (first | (go_at_call 45; refine (knead_Validate.calls _ _ l0 t _ HR0.out HC0.out HT.out).mono ?_; rintro e w' ⟨rfl, ⟨nd, rfl⟩⟩) | (go_at_call 80; refine (knead_unfold.calls _ _ l0 1 r _ (Kd.C_drewN HR0.out _) HC0.out HF.out).mono ?_; rintro e w' ⟨v, rfl, hR, hB⟩; have HO := Aside0.mk hR; have HB := Aside0.mk hB; clear hR hB) | go_in)
    go_ret2
    exact ⟨_, rfl, Kd.R_lower HO.out (Nat.le_refl _), below_step (pw_below_drewN (Below.refl _ _) _) HB.out⟩
  · rw [if_neg hz] at h
    have hb : (t != 0) = true := bne_iff_ne.mpr hz
    simp only [Option.some.injEq, Prod.mk.injEq] at h
    obtain ⟨rfl, rfl⟩ := h
    go_enter Try.func44, Try.ntmps44
    go_wp2_with (first | (go_at_call 45; refine (knead_Validate.calls _ _ l0 t _ HR0.out HC0.out HT.out).mono ?_; rintro e w' ⟨rfl, ⟨nd, rfl⟩⟩) | go_in)
    go_ret2
    exact ⟨_, rfl, Kd.R_nil _ _ _ _ _, by exact pw_below_drewN (Below.refl _ _) _⟩
end Go.Proofs.Ytgnklmhjejbcoaa.K

/- What the Lean functions of knead's first functions answer, for all lists that their guards let in; that the law's examples hold. -/
namespace Go.Proofs.Ytgnklmhjejbcoaa.K
open Go.RowKit Go.Proofs.YtgnklmhjejbcoaaW.PrintWords Go.Proofs.YtgnklmhjejbcoaaW.PrintLast Go.Proofs.YtgnklmhjejbcoaaW.PrintMore
set_option linter.unusedVariables false
set_option linter.unusedSimpArgs false

theorem fold_eq (l : List Int) (kind : Int) (hl : l.length ≤ 1000) : knead_fold.f l kind = some (foldL kind l) := by unfold knead_fold.f; rw [if_pos (by omega)]
theorem unfold_eq (l : List Int) (kind : Int) (hl : l.length ≤ 1000) (hk : kind = 0 ∨ kind = 1) : knead_unfold.f l kind = some (unfoldL kind l) := by unfold knead_unfold.f; rw [if_pos ⟨by omega, hk⟩]
theorem out_eq (l : List Int) (hl : l.length ≤ 1000) : knead_Out.f l = some (if lumps l.length then (foldL 0 l, 0) else ([], 1)) := by
  unfold knead_Out.f
  rw [validate_eq, fold_eq l 0 hl]
  cases lumps l.length <;> rfl
theorem in_eq (l : List Int) (hl : l.length ≤ 1000) : knead_In.f l = some (if lumps l.length then (foldL 1 l, 0) else ([], 1)) := by
  unfold knead_In.f
  rw [validate_eq, fold_eq l 1 hl]
  cases lumps l.length <;> rfl
theorem unOut_eq (l : List Int) (hl : l.length ≤ 1000) : knead_UnOut.f l = some (if lumps l.length then (unfoldL 0 l, 0) else ([], 1)) := by
  unfold knead_UnOut.f
  rw [validate_eq, unfold_eq l 0 hl (.inl rfl)]
  cases lumps l.length <;> rfl
theorem unIn_eq (l : List Int) (hl : l.length ≤ 1000) : knead_UnIn.f l = some (if lumps l.length then (unfoldL 1 l, 0) else ([], 1)) := by
  unfold knead_UnIn.f
  rw [validate_eq, unfold_eq l 1 hl (.inr rfl)]
  cases lumps l.length <;> rfl
end Go.Proofs.Ytgnklmhjejbcoaa.K

/- What the Lean functions of knead's Fold, Place and of the reference's functions of the same names answer, for all lists of at most 1000 numbers. -/
namespace Go.Proofs.Ytgnklmhjejbcoaa.K
open Go.RowKit Go.Proofs.YtgnklmhjejbcoaaW.PrintWords Go.Proofs.YtgnklmhjejbcoaaW.PrintLast Go.Proofs.YtgnklmhjejbcoaaW.PrintMore
set_option linter.unusedVariables false
set_option linter.unusedSimpArgs false

def wcode (w : List Int) : Int := if 40 < w.length then 3 else if w.any badK then 1 else 0
theorem worded_eq (w : List Int) : knead_worded.f w = some (wcode w) := rfl
theorem badK_false {x : Int} : badK x = false ↔ x = 0 ∨ x = 1 := by
  unfold badK
  by_cases h0 : x = 0
  · simp [h0]
  · by_cases h1 : x = 1 <;> simp [h0, h1]
theorem wcode_zero {w : List Int} (h : wcode w = 0) : w.length ≤ 40 ∧ Kinds w := by
  unfold wcode at h
  split at h
  · omega
  · split at h
    · omega
    · rename_i h1 h2
      refine ⟨by omega, fun k hk => ?_⟩
      have h3 : w.any badK = false := by simpa using h2
      rw [List.any_eq_false] at h3
      exact badK_false.1 (by simpa using h3 k hk)
theorem foldL_le (k : Int) (l : List Int) : (foldL k l).length ≤ l.length := by
  unfold foldL
  split
  · rw [riffle_length _ _ (by simp; omega)]; simp; omega
  · rw [riffle_length _ _ (by simp; omega)]; simp; omega
theorem folded_l0 (w : List Int) (hl : w.length ≤ 1000) : ∀ (d k i : Nat) (l : List Int), i + d = w.length → d < k → l.length ≤ 1000 → knead_folded.l0 k l w (w.length : Int) (i : Int) = some (foldsL (w.drop i) l) := by
  intro d
  induction d with
  | zero =>
    intro k i l h1 h2 h3
    obtain ⟨k, rfl⟩ : ∃ m, k = m + 1 := ⟨k - 1, by omega⟩
    simp only [knead_folded.l0]
    rw [if_neg (by omega), List.drop_eq_nil_of_le (by omega)]
    rfl
  | succ d ih =>
    intro k i l h1 h2 h3
    obtain ⟨k, rfl⟩ : ∃ m, k = m + 1 := ⟨k - 1, by omega⟩
    have hx : i < w.length := by omega
    have hf : knead_fold.f l w[i] = some (foldL w[i] l) := by unfold knead_fold.f; rw [if_pos (by omega)]
    simp only [knead_folded.l0]
    rw [if_pos (by omega), if_pos (by omega), if_pos (by omega), rd_nat w i hx, hf]
    simp only [Option.bind_some]
    rw [wrap_nat _ (by omega), ih k (i + 1) _ (by omega) (by omega) (Nat.le_trans (foldL_le _ _) h3), List.drop_eq_getElem_cons hx]
    rfl
theorem clone_eq (l : List Int) (hl : l.length ≤ 1000) : slices_Clone_int_int.f l = some l := by unfold slices_Clone_int_int.f; rw [if_pos (by omega)]
theorem folded_eq (k : Nat) (l w : List Int) (hl : l.length ≤ 1000) (hw : w.length ≤ 1000) (hk : w.length < k) : knead_folded.f k l w = some (foldsL w l) := by
  unfold knead_folded.f
  rw [clone_eq l hl]
  simpa using folded_l0 w hw w.length k 0 l (by omega) hk hl
/-- What Fold and Unfold answer. -/
def foldR (w l : List Int) : List Int × Int := if lumps l.length then (if wcode w = 0 then (foldsL w l, 0) else ([], wcode w)) else ([], 1)
def unfoldR (w l : List Int) : List Int × Int := if lumps l.length then (if wcode w = 0 then (unfoldsL w l, 0) else ([], wcode w)) else ([], 1)
theorem fold_R (k : Nat) (l w : List Int) (hl : l.length ≤ 1000) (hw : w.length ≤ 1000) (hk : w.length < k) : knead_Fold.f k l w = some (foldR w l) := by
  unfold knead_Fold.f foldR
  rw [validate_eq, worded_eq, folded_eq k l w hl hw hk]
  cases lumps l.length with
  | false => rfl
  | true =>
    simp only [Option.bind_some, if_true]
    split <;> rfl
/-- What Place answers. -/
def placeR (n : Int) (w : List Int) (p : Int) : Int × Int := if lumps n then (if 0 ≤ p ∧ p < n then (if wcode w = 0 then ((alongN n.toNat w p.toNat : Int), 0) else (0, wcode w)) else (0, 4)) else (0, 1)
theorem place_l0 {n : Nat} (hn : n % 2 = 0) (hs : n ≤ 1000) (w : List Int) (hw : Kinds w) (hl : w.length ≤ 1000) : ∀ (d k i p : Nat), i + d = w.length → d < k → p < n →
    knead_Place.l0 k (n : Int) (p : Int) w (w.length : Int) (i : Int) = some (((alongN n (w.drop i) p : Nat) : Int), 0) := by
  intro d
  induction d with
  | zero =>
    intro k i p h1 h2 hp
    obtain ⟨k, rfl⟩ : ∃ m, k = m + 1 := ⟨k - 1, by omega⟩
    simp only [knead_Place.l0]
    rw [if_neg (by omega), List.drop_eq_nil_of_le (by omega)]
    rfl
  | succ d ih =>
    intro k i p h1 h2 hp
    obtain ⟨k, rfl⟩ : ∃ m, k = m + 1 := ⟨k - 1, by omega⟩
    have hx : i < w.length := by omega
    have hkk : w[i].toNat ≤ 1 ∧ (w[i].toNat : Int) = w[i] := by rcases hw _ (List.getElem_mem hx) with h | h <;> rw [h] <;> simp
    simp only [knead_Place.l0]
    rw [if_pos (by omega), if_pos (by omega), if_pos (by omega), rd_nat w i hx, ← hkk.2, step_eq hn hs hkk.1 hp]
    simp only [Option.bind_some]
    rw [wrap_nat _ (by omega), ih k (i + 1) _ (by omega) (by omega) (step_lt hn hkk.1 hp), List.drop_eq_getElem_cons hx]
    rfl
theorem lumps_int {n : Int} (h : lumps n = true) : 2 ≤ n ∧ n ≤ 32 ∧ n % 2 = 0 := of_decide_eq_true h
theorem place_R (k : Nat) (n : Int) (w : List Int) (p : Int) (hw : w.length ≤ 1000) (hk : w.length + 1 < k) : knead_Place.f k n w p = some (placeR n w p) := by
  unfold knead_Place.f placeR
  rw [isLumps_eq]
  obtain ⟨k, rfl⟩ : ∃ m, k = m + 1 := ⟨k - 1, by omega⟩
  simp only [Option.bind_some]
  cases c : lumps n with
  | false => rfl
  | true =>
    have hc := lumps_int c
    simp only [if_true]
    by_cases hp : 0 ≤ p ∧ p < n
    · rw [if_neg (by omega), if_pos hp, show decide (p ≥ n) = false by simp; omega]
      simp only [knead_Place.j0, Bool.false_eq_true, if_false]
      rw [worded_eq]
      simp only [Option.bind_some]
      by_cases h : wcode w = 0
      · rw [if_pos h, if_pos h]
        obtain ⟨m, rfl⟩ := Int.eq_ofNat_of_zero_le (show 0 ≤ n by omega)
        obtain ⟨q, rfl⟩ := Int.eq_ofNat_of_zero_le hp.1
        have := place_l0 (n := m) (by omega) (by omega) w (wcode_zero h).2 hw w.length k 0 q (by omega) (by omega) (by omega)
        simpa using this
      · rw [if_neg h, if_neg h]
    · rw [if_neg hp]
      by_cases h0 : p < 0
      · rw [if_pos h0]; simp only [knead_Place.j0, if_true]
      · rw [if_neg h0, show decide (p ≥ n) = true by simp; omega]; simp only [knead_Place.j0, if_true]
theorem wrap_small {x : Int} (h1 : -1000000 ≤ x) (h2 : x ≤ 1000000) : wrap64 x = x := by unfold wrap64; omega
/-- 0, 1, 2, .. -/
def numL (n : Nat) : List Int := (List.range n).map (fun (i : Nat) => (i : Int))
theorem numL_length (n : Nat) : (numL n).length = n := by simp [numL]
theorem numL_succ (n : Nat) : numL (n + 1) = numL n ++ [(n : Int)] := by simp [numL, List.range_succ]
theorem numL_getD (n i : Nat) (h : i < n) : (numL n).getD i 0 = (i : Int) := by
  rw [List.getD_eq_getElem?_getD, List.getElem?_eq_getElem (by rw [numL_length]; exact h)]
  simp [numL]
theorem numbers_l0 (n : Nat) (hn : n ≤ 1000) : ∀ (d k i : Nat), i + d = n → d < k → verditerref01_Numbers.l0 k (n : Int) (numL i) (i : Int) = some (numL n) := by
  intro d
  induction d with
  | zero =>
    intro k i h1 h2
    obtain ⟨k, rfl⟩ : ∃ m, k = m + 1 := ⟨k - 1, by omega⟩
    simp only [verditerref01_Numbers.l0]
    rw [if_neg (by omega), show i = n by omega]
  | succ d ih =>
    intro k i h1 h2
    obtain ⟨k, rfl⟩ : ∃ m, k = m + 1 := ⟨k - 1, by omega⟩
    simp only [verditerref01_Numbers.l0]
    rw [if_pos (by omega), if_pos (by rw [numL_length]; omega), wrap_nat _ (by omega), ← numL_succ, ih k (i + 1) (by omega) (by omega)]
theorem numbers_eq (k n : Nat) (hn : n ≤ 1000) (hk : n < k) : verditerref01_Numbers.f k (n : Int) = some (numL n) := by
  unfold verditerref01_Numbers.f
  exact numbers_l0 n hn n k 0 (by omega) hk
theorem fresh_l0 (n : Nat) (hn : n ≤ 1000) : ∀ (d k i : Nat), i + d = n → d < k → knead_fresh.l0 k (numL i) (n : Int) (i : Int) = some (numL n) := by
  intro d
  induction d with
  | zero =>
    intro k i h1 h2
    obtain ⟨k, rfl⟩ : ∃ m, k = m + 1 := ⟨k - 1, by omega⟩
    simp only [knead_fresh.l0]
    rw [if_neg (by omega), show i = n by omega]
  | succ d ih =>
    intro k i h1 h2
    obtain ⟨k, rfl⟩ : ∃ m, k = m + 1 := ⟨k - 1, by omega⟩
    simp only [knead_fresh.l0]
    rw [if_pos (by omega), if_pos (by rw [numL_length]; omega), wrap_nat _ (by omega), ← numL_succ, ih k (i + 1) (by omega) (by omega)]
theorem fresh_eq (k n : Nat) (hn : n ≤ 1000) (hk : n < k) : knead_fresh.f k (n : Int) = some (numL n) := by
  unfold knead_fresh.f
  exact fresh_l0 n hn n k 0 (by omega) hk
end Go.Proofs.Ytgnklmhjejbcoaa.K

/- The shortest words: the search's words are those that the document's table of distances leads along. By reckoning, for all numbers of lumps and places. -/
namespace Go.Proofs.Ytgnklmhjejbcoaa.K
open Go.RowKit Go.Proofs.YtgnklmhjejbcoaaW.PrintWords Go.Proofs.YtgnklmhjejbcoaaW.PrintLast Go.Proofs.YtgnklmhjejbcoaaW.PrintMore
set_option linter.unusedVariables false
set_option linter.unusedSimpArgs false

/-- After how many folds a lump can come from p to t. -/
def dist (n t p : Nat) : Nat := if p = t then 0 else if (t + (n - 1) * (2 * p)) % n < 2 then 1 else if (t + (n - 1) * (4 * p)) % n < 4 then 2 else if (t + (n - 1) * (8 * p)) % n < 8 then 3 else if (t + (n - 1) * (16 * p)) % n < 16 then 4 else 5
/-- The word along falling distances, outs first. -/
def gr (n t : Nat) : Nat → Nat → List Int
  | 0, _ => []
  | f + 1, p => if p = t then [] else if dist n t (stepN n p 0) + 1 = dist n t p then 0 :: gr n t f (stepN n p 0) else 1 :: gr n t f (stepN n p 1)
def oneChk (n p t : Nat) (w : Option (List Int)) : Bool :=
  decide (w = some (gr n t 10 p)) && decide (alongN n (gr n t 10 p) p = t) && decide (wcode (gr n t 10 p) = 0) && decide (dist n t p ≤ 1 + dist n t (stepN n p 0)) && decide (dist n t p ≤ 1 + dist n t (stepN n p 1)) &&
  decide (p = t ∨ dist n t p = 1 + dist n t (stepN n p 0) ∨ dist n t p = 1 + dist n t (stepN n p 1)) && decide (dist n t p ≤ 5) && decide (dist n t p ≤ n)
def wayChk (n : Nat) : Bool := (List.range n).all fun p => match bfs n 100000 (startW p) with | none => false | some wd => (List.range n).all fun t => oneChk n p t (wd t)
set_option maxRecDepth 100000 in
theorem way_all : ((List.range 16).all fun m => wayChk (2 * (m + 1))) = true := by decide +kernel
end Go.Proofs.Ytgnklmhjejbcoaa.K

/- The pure statement of KneadWays: for all whole numbers the law answers true. -/
namespace Go.Proofs.Ytgnklmhjejbcoaa.K
open Go.RowKit Go.Proofs.YtgnklmhjejbcoaaW.PrintWords Go.Proofs.YtgnklmhjejbcoaaW.PrintLast Go.Proofs.YtgnklmhjejbcoaaW.PrintMore
set_option linter.unusedVariables false
set_option linter.unusedSimpArgs false

theorem way_ok {n p t : Nat} (hn : lumps (n : Int) = true) (hp : p < n) (ht : t < n) : ∃ wd, bfs n 100000 (startW p) = some wd ∧ oneChk n p t (wd t) = true := by
  have hc := lumps_nat hn
  have h := way_all
  rw [List.all_eq_true] at h
  have h1 := h (n / 2 - 1) (List.mem_range.2 (by omega))
  rw [show 2 * (n / 2 - 1 + 1) = n by omega] at h1
  unfold wayChk at h1
  rw [List.all_eq_true] at h1
  have h2 := h1 p (List.mem_range.2 hp)
  split at h2
  · cases h2
  · rename_i wd hwd
    rw [List.all_eq_true] at h2
    exact ⟨wd, hwd, h2 t (List.mem_range.2 ht)⟩

/-- What the table of distances has to be. -/
structure Dist (n t : Nat) (d : Nat → Nat) : Prop where
  zero : d t = 0
  le : ∀ p, p < n → d p ≤ 1 + d (stepN n p 0) ∧ d p ≤ 1 + d (stepN n p 1)
  ex : ∀ p, p < n → p = t ∨ d p = 1 + d (stepN n p 0) ∨ d p = 1 + d (stepN n p 1)
  small : ∀ p, p < n → d p ≤ 5 ∧ d p ≤ n
theorem dist_ok {n t : Nat} (hn : lumps (n : Int) = true) (ht : t < n) : Dist n t (dist n t) := by
  have h : ∀ p, p < n → _ := fun p hp => (way_ok hn hp ht)
  refine ⟨by simp [dist], fun p hp => ?_, fun p hp => ?_, fun p hp => ?_⟩ <;>
  · obtain ⟨wd, _, hw⟩ := h p hp
    simp only [oneChk, Bool.and_eq_true, decide_eq_true_eq] at hw
    first
      | exact ⟨hw.1.1.1.1.2, hw.1.1.1.2⟩
      | exact hw.1.1.2
      | exact ⟨hw.1.2, hw.2⟩

/-- The table before the place i of a round. -/
structure Mid (n t : Nat) (d : Nat → Nat) (r i : Nat) (x : List Int) : Prop where
  len : x.length = n
  lo : ∀ p, p < n → (d p : Int) ≤ x.getD p 0
  hi : ∀ p, p < n → x.getD p 0 ≤ 1000
  eq : ∀ p, p < n → d p ≤ r → x.getD p 0 = d p
  eq1 : ∀ p, p < i → d p ≤ r + 1 → x.getD p 0 = d p

theorem mn_eq (a b : Int) : mn a b = if b < a then b else a := rfl
/-- What Way answers. -/
def wayR (a0 a1 a2 : Int) : List Int × Bool × Int := if lumps a0 then (if a1 < 0 ∨ a1 ≥ a0 ∨ a2 < 0 ∨ a2 ≥ a0 then ([], false, 4) else (gr a0.toNat a2.toNat 10 a1.toNat, true, 0)) else ([], false, 1)
theorem way_R (a0 a1 a2 : Int) : knead_Way.f a0 a1 a2 = some (wayR a0 a1 a2) := by
  unfold knead_Way.f wayR
  rw [isLumps_eq]
  simp only [Option.bind_some]
  cases c : lumps a0 with
  | false => rfl
  | true =>
    have hc := lumps_int c
    simp only [if_true]
    by_cases h : a1 < 0 ∨ a1 ≥ a0 ∨ a2 < 0 ∨ a2 ≥ a0
    · rw [if_pos h, if_pos h]
    · rw [if_neg h, if_neg h, if_pos (by omega)]
      obtain ⟨n, rfl⟩ : ∃ n : Nat, a0 = n := ⟨a0.toNat, by omega⟩
      obtain ⟨p, rfl⟩ : ∃ p : Nat, a1 = p := ⟨a1.toNat, by omega⟩
      obtain ⟨t, rfl⟩ : ∃ t : Nat, a2 = t := ⟨a2.toNat, by omega⟩
      simp only [Int.toNat_natCast]
      obtain ⟨wd, h1, h2⟩ := way_ok (p := p) (t := t) c (by omega) (by omega)
      simp only [oneChk, Bool.and_eq_true, decide_eq_true_eq] at h2
      rw [h1]
      simp only [Option.bind_some]
      rw [h2.1.1.1.1.1.1.1]
      rfl
theorem wayR_len (a0 a1 a2 : Int) : (wayR a0 a1 a2).1.length ≤ 10 := by
  have hg : ∀ f (n t p : Nat), (gr n t f p).length ≤ f := by
    intro f
    induction f with
    | zero => intro n t p; simp [gr]
    | succ f ih =>
      intro n t p
      rw [gr]
      split
      · simp
      · split
        · have := ih n t (stepN n p 0); simp; omega
        · have := ih n t (stepN n p 1); simp; omega
  unfold wayR
  split
  · split
    · simp
    · exact hg 10 _ _ _
  · simp
namespace Pure
end Pure
end Go.Proofs.Ytgnklmhjejbcoaa.K

/- The pure statement of KneadBrings: for all whole numbers the law answers true. -/
namespace Go.Proofs.Ytgnklmhjejbcoaa.K
open Go.RowKit Go.Proofs.YtgnklmhjejbcoaaW.PrintWords Go.Proofs.YtgnklmhjejbcoaaW.PrintLast Go.Proofs.YtgnklmhjejbcoaaW.PrintMore
set_option linter.unusedVariables false
set_option linter.unusedSimpArgs false

/-- What Bring answers. -/
def bringR (a0 a1 : Int) : List Int × Int := if lumps a0 then (if a1 < 0 ∨ a1 ≥ a0 then ([], 4) else ((lowF 10 a1.toNat).reverse, 0)) else ([], 1)
theorem bring_R (a0 a1 : Int) : knead_Bring.f a0 a1 = some (bringR a0 a1) := by
  unfold knead_Bring.f bringR
  rw [isLumps_eq]
  simp only [Option.bind_some]
  cases c : lumps a0 with
  | false => rfl
  | true =>
    have hc := lumps_int c
    simp only [if_true]
    by_cases h : a1 < 0 ∨ a1 ≥ a0
    · rw [if_pos h, if_pos h]
    · rw [if_neg h, if_neg h, if_pos (by omega)]
def bringChk (n t : Nat) : Bool := decide (alongN n (lowF 10 t).reverse 0 = t) && decide (wcode (lowF 10 t).reverse = 0) && decide ((gr n t 10 0).length ≤ (lowF 10 t).length)
set_option maxRecDepth 100000 in
theorem bring_all : ((List.range 16).all fun m => (List.range (2 * (m + 1))).all fun t => bringChk (2 * (m + 1)) t) = true := by decide +kernel
theorem bring_ok {n t : Nat} (hn : lumps (n : Int) = true) (ht : t < n) : bringChk n t = true := by
  have hc := lumps_nat hn
  have h := bring_all
  rw [List.all_eq_true] at h
  have h1 := h (n / 2 - 1) (List.mem_range.2 (by omega))
  rw [show 2 * (n / 2 - 1 + 1) = n by omega, List.all_eq_true] at h1
  exact h1 t (List.mem_range.2 ht)
theorem bringR_len (a0 a1 : Int) : (bringR a0 a1).1.length ≤ 10 := by
  unfold bringR
  split
  · split
    · simp
    · rw [List.length_reverse]; exact lowF_length 10 _
  · simp
namespace Pure
end Pure
end Go.Proofs.Ytgnklmhjejbcoaa.K

/- The pure statement of KneadTimes: for all whole numbers the law answers true: by reckoning for all numbers of lumps and both kinds. -/
namespace Go.Proofs.Ytgnklmhjejbcoaa.K
open Go.RowKit Go.Proofs.YtgnklmhjejbcoaaW.PrintWords Go.Proofs.YtgnklmhjejbcoaaW.PrintLast Go.Proofs.YtgnklmhjejbcoaaW.PrintMore
set_option linter.unusedVariables false
set_option linter.unusedSimpArgs false

def insI (x : Int) : List Int → List Int
  | [] => [x]
  | y :: ys => if x ≤ y then x :: y :: ys else y :: insI x ys
def isort : List Int → List Int
  | [] => []
  | x :: xs => insI x (isort xs)
theorem insI_perm (x : Int) : ∀ l : List Int, (insI x l).Perm (x :: l)
  | [] => List.Perm.refl _
  | y :: ys => by
    rw [insI]
    split
    · exact List.Perm.refl _
    · exact ((insI_perm x ys).cons y).trans (List.Perm.swap x y ys)
theorem isort_perm : ∀ l : List Int, (isort l).Perm l
  | [] => List.Perm.refl _
  | x :: xs => (insI_perm x _).trans ((isort_perm xs).cons x)
theorem insI_sorted (x : Int) : ∀ l : List Int, l.Pairwise (· ≤ ·) → (insI x l).Pairwise (· ≤ ·)
  | [], _ => by simp [insI]
  | y :: ys, h => by
    rw [insI]
    rw [List.pairwise_cons] at h
    split
    · rename_i hxy
      refine List.pairwise_cons.2 ⟨fun z hz => ?_, List.pairwise_cons.2 h⟩
      rcases List.mem_cons.1 hz with rfl | hz
      · exact hxy
      · exact Int.le_trans hxy (h.1 z hz)
    · rename_i hxy
      refine List.pairwise_cons.2 ⟨fun z hz => ?_, insI_sorted x ys h.2⟩
      rcases List.mem_cons.1 ((insI_perm x ys).mem_iff.1 hz) with rfl | hz
      · omega
      · exact h.1 z hz
theorem isort_sorted : ∀ l : List Int, (isort l).Pairwise (· ≤ ·)
  | [] => List.Pairwise.nil
  | x :: xs => insI_sorted x _ (isort_sorted xs)
theorem sorted_unique : ∀ (a b : List Int), a.Perm b → a.Pairwise (· ≤ ·) → b.Pairwise (· ≤ ·) → a = b
  | [], b, h, _, _ => (List.Perm.eq_nil h.symm).symm
  | x :: a, [], h, _, _ => by have := h.length_eq; simp at this
  | x :: a, y :: b, h, ha, hb => by
    rw [List.pairwise_cons] at ha hb
    have hxy : x = y := by
      have h1 : x ∈ y :: b := h.mem_iff.1 (List.mem_cons_self ..)
      have h2 : y ∈ x :: a := h.mem_iff.2 (List.mem_cons_self ..)
      rcases List.mem_cons.1 h1 with e | h1
      · exact e
      · rcases List.mem_cons.1 h2 with e | h2
        · exact e.symm
        · exact Int.le_antisymm (ha.1 y h2) (hb.1 x h1)
    subst hxy
    rw [sorted_unique a b (List.Perm.cons_inv h) ha.2 hb.2]
theorem sortL_eq (l : List Int) : sortL l = isort l := by
  refine sorted_unique _ _ ((List.mergeSort_perm l _).trans (isort_perm l).symm) ?_ (isort_sorted l)
  have := List.pairwise_mergeSort (le := fun x y : Int => decide (x ≤ y)) (fun a b c h1 h2 => by simp at h1 h2 ⊢; omega) (fun a b => by simp; omega) l
  exact this.imp (fun h => by simpa using h)
theorem kinded_eq (a0 a1 : Int) : knead_kinded.f a0 a1 = some (if lumps a0 = true ∧ (a1 = 0 ∨ a1 = 1) then 0 else 1) := by
  unfold knead_kinded.f
  rw [isLumps_eq]
  simp only [Option.bind_some]
  by_cases c : lumps a0 = true
  · rw [if_pos c]
    by_cases h0 : a1 = 0
    · rw [if_pos h0, if_pos ⟨c, .inl h0⟩]
    · by_cases h1 : a1 = 1
      · rw [if_neg h0, if_pos h1, if_pos ⟨c, .inr h1⟩]
      · rw [if_neg h0, if_neg h1, if_neg (by omega)]
  · rw [if_neg c, if_neg (fun h => c h.1)]
namespace Pure
end Pure
end Go.Proofs.Ytgnklmhjejbcoaa.K

/- Signs of exchanges: the parity of the pairs that change their order. Plain theory, no program in sight. -/
namespace Go.Proofs.Ytgnklmhjejbcoaa.K
set_option linter.unusedVariables false
set_option linter.unusedSimpArgs false

/-- Whether an odd number of places below m holds more than v. -/
def cntF (f : Nat → Nat) : Nat → Nat → Bool
  | 0, _ => false
  | m + 1, v => xor (cntF f m v) (decide (v < f m))
/-- Whether an odd number of pairs of places below n has changed its order. -/
def parF (f : Nat → Nat) : Nat → Bool
  | 0 => false
  | m + 1 => xor (parF f m) (cntF f m (f m))
theorem cntF_congr {f g : Nat → Nat} : ∀ (m v : Nat), (∀ q, q < m → f q = g q) → cntF f m v = cntF g m v
  | 0, _, _ => rfl
  | m + 1, v, h => by rw [cntF, cntF, cntF_congr m v (fun q hq => h q (by omega)), h m (by omega)]
theorem parF_congr {f g : Nat → Nat} : ∀ (n : Nat), (∀ q, q < n → f q = g q) → parF f n = parF g n
  | 0, _ => rfl
  | m + 1, h => by rw [parF, parF, parF_congr m (fun q hq => h q (by omega)), cntF_congr m _ (fun q hq => h q (by omega)), h m (by omega)]
theorem cntF_id : ∀ (m v : Nat), m ≤ v → cntF (fun x => x) m v = false
  | 0, _, _ => rfl
  | m + 1, v, h => by rw [cntF, cntF_id m v (by omega)]; simp; omega
theorem parF_id : ∀ n, parF (fun x => x) n = false
  | 0 => rfl
  | m + 1 => by rw [parF, parF_id m, cntF_id m m (Nat.le_refl _)]; rfl

/-- Two places exchanged. -/
def sw (a b x : Nat) : Nat := if x = a then b else if x = b then a else x
theorem sw_lt {a b n x : Nat} (ha : a < n) (hb : b < n) (hx : x < n) : sw a b x < n := by unfold sw; split <;> (try split) <;> omega
theorem sw_sw (a b x : Nat) : sw a b (sw a b x) = x := by unfold sw; (repeat' split) <;> omega
def Inj (n : Nat) (f : Nat → Nat) : Prop := ∀ p q, p < n → q < n → f p = f q → p = q
theorem Inj.sw {n : Nat} {f : Nat → Nat} (h : Inj n f) {a b : Nat} (ha : a < n) (hb : b < n) : Inj n (fun x => f (sw a b x)) := fun p q hp hq e => by
  have := h _ _ (sw_lt ha hb hp) (sw_lt ha hb hq) e
  have h2 := congrArg (K.sw a b) this
  rwa [sw_sw, sw_sw] at h2
theorem cntF_adj (f : Nat → Nat) (a v : Nat) : ∀ d, cntF (fun x => f (sw a (a + 1) x)) (a + 2 + d) v = cntF f (a + 2 + d) v
  | 0 => by
    have h1 : cntF (fun x => f (sw a (a + 1) x)) a v = cntF f a v := cntF_congr a v (fun q hq => by show f (sw a (a + 1) q) = f q; congr 1; unfold sw; (repeat' split) <;> omega)
    show xor (xor (cntF (fun x => f (sw a (a + 1) x)) a v) (decide (v < f (sw a (a + 1) a)))) (decide (v < f (sw a (a + 1) (a + 1)))) = xor (xor (cntF f a v) (decide (v < f a))) (decide (v < f (a + 1)))
    rw [h1, show sw a (a + 1) a = a + 1 by simp [sw], show sw a (a + 1) (a + 1) = a by simp [sw]]
    cases cntF f a v <;> cases decide (v < f a) <;> cases decide (v < f (a + 1)) <;> rfl
  | d + 1 => by
    show xor (cntF (fun x => f (sw a (a + 1) x)) (a + 2 + d) v) (decide (v < f (sw a (a + 1) (a + 2 + d)))) = xor (cntF f (a + 2 + d) v) (decide (v < f (a + 2 + d)))
    rw [cntF_adj f a v d, show sw a (a + 1) (a + 2 + d) = a + 2 + d by unfold sw; (repeat' split) <;> omega]
theorem parF_adj (f : Nat → Nat) (a : Nat) (hne : f a ≠ f (a + 1)) : ∀ d, parF (fun x => f (sw a (a + 1) x)) (a + 2 + d) = !parF f (a + 2 + d)
  | 0 => by
    have h1 : ∀ v, cntF (fun x => f (sw a (a + 1) x)) a v = cntF f a v := fun v => cntF_congr a v (fun q hq => by show f (sw a (a + 1) q) = f q; congr 1; unfold sw; (repeat' split) <;> omega)
    have h2 : parF (fun x => f (sw a (a + 1) x)) a = parF f a := parF_congr a (fun q hq => by show f (sw a (a + 1) q) = f q; congr 1; unfold sw; (repeat' split) <;> omega)
    show xor (xor (parF (fun x => f (sw a (a + 1) x)) a) (cntF (fun x => f (sw a (a + 1) x)) a (f (sw a (a + 1) a)))) (xor (cntF (fun x => f (sw a (a + 1) x)) a (f (sw a (a + 1) (a + 1)))) (decide (f (sw a (a + 1) (a + 1)) < f (sw a (a + 1) a)))) = !(xor (xor (parF f a) (cntF f a (f a))) (xor (cntF f a (f (a + 1))) (decide (f (a + 1) < f a))))
    rw [h1, h1, h2, show sw a (a + 1) a = a + 1 by simp [sw], show sw a (a + 1) (a + 1) = a by simp [sw]]
    have h3 : decide (f a < f (a + 1)) = !decide (f (a + 1) < f a) := by
      by_cases h : f a < f (a + 1)
      · have : ¬ f (a + 1) < f a := by omega
        simp [h, this]
      · have : f (a + 1) < f a := by omega
        simp [h, this]
    rw [h3]
    cases parF f a <;> cases cntF f a (f a) <;> cases cntF f a (f (a + 1)) <;> cases decide (f (a + 1) < f a) <;> rfl
  | d + 1 => by
    show xor (parF (fun x => f (sw a (a + 1) x)) (a + 2 + d)) (cntF (fun x => f (sw a (a + 1) x)) (a + 2 + d) (f (sw a (a + 1) (a + 2 + d)))) = !(xor (parF f (a + 2 + d)) (cntF f (a + 2 + d) (f (a + 2 + d))))
    rw [parF_adj f a hne d, cntF_adj, show sw a (a + 1) (a + 2 + d) = a + 2 + d by unfold sw; (repeat' split) <;> omega]
    cases parF f (a + 2 + d) <;> cases cntF f (a + 2 + d) (f (a + 2 + d)) <;> rfl
theorem parF_next {n : Nat} {f : Nat → Nat} (h : Inj n f) (a : Nat) (ha : a + 1 < n) : parF (fun x => f (sw a (a + 1) x)) n = !parF f n := by
  obtain ⟨d, rfl⟩ : ∃ d, n = a + 2 + d := ⟨n - (a + 2), by omega⟩
  exact parF_adj f a (fun e => by have := h a (a + 1) (by omega) (by omega) e; omega) d
theorem sw_conj (a b x : Nat) (hab : a < b) : sw b (b + 1) (sw a b (sw b (b + 1) x)) = sw a (b + 1) x := by unfold sw; (repeat' split) <;> omega
theorem parF_lt {n : Nat} : ∀ (d : Nat) {f : Nat → Nat} (h : Inj n f) (a : Nat), a + 1 + d < n → parF (fun x => f (sw a (a + 1 + d) x)) n = !parF f n
  | 0, f, h, a, ha => parF_next h a ha
  | d + 1, f, h, a, ha => by
    have h1 : Inj n (fun x => f (sw (a + 1 + d) (a + 1 + d + 1) x)) := h.sw (by omega) (by omega)
    have h2 : Inj n (fun x => f (sw (a + 1 + d) (a + 1 + d + 1) (sw a (a + 1 + d) x))) := h1.sw (f := fun x => f (sw (a + 1 + d) (a + 1 + d + 1) x)) (a := a) (b := a + 1 + d) (by omega) (by omega)
    have e1 := parF_next h (a + 1 + d) (by omega)
    have e2 := parF_lt d h1 a (by omega)
    have e3 := parF_next h2 (a + 1 + d) (by omega)
    have e4 : parF (fun x => f (sw a (a + 1 + (d + 1)) x)) n = parF (fun x => f (sw (a + 1 + d) (a + 1 + d + 1) (sw a (a + 1 + d) (sw (a + 1 + d) (a + 1 + d + 1) x)))) n := parF_congr n (fun q _ => by
      show f (sw a (a + 1 + (d + 1)) q) = f (sw (a + 1 + d) (a + 1 + d + 1) (sw a (a + 1 + d) (sw (a + 1 + d) (a + 1 + d + 1) q)))
      rw [sw_conj a (a + 1 + d) q (by omega)]
      rfl)
    rw [e4, e3, e2, e1]
    cases parF f n <;> rfl
theorem sw_comm (a b x : Nat) : sw a b x = sw b a x := by unfold sw; (repeat' split) <;> omega
/-- An exchange of two places turns the sign. -/
theorem parF_sw {n : Nat} {f : Nat → Nat} (h : Inj n f) {a b : Nat} (ha : a < n) (hb : b < n) (hne : a ≠ b) : parF (fun x => f (sw a b x)) n = !parF f n := by
  rcases Nat.lt_or_gt_of_ne hne with hl | hl
  · obtain ⟨d, rfl⟩ : ∃ d, b = a + 1 + d := ⟨b - (a + 1), by omega⟩
    exact parF_lt d h a hb
  · obtain ⟨d, rfl⟩ : ∃ d, a = b + 1 + d := ⟨a - (b + 1), by omega⟩
    have := parF_lt d h b ha
    rw [← this]
    exact parF_congr n (fun q _ => by show f (sw (b + 1 + d) b q) = f (sw b (b + 1 + d) q); rw [sw_comm])

/-- f is made of exchanges: signs multiply at it. -/
structure Good (n : Nat) (f : Nat → Nat) : Prop where
  lt : ∀ p, p < n → f p < n
  inj : Inj n f
  mul : ∀ g, Inj n g → parF (fun x => g (f x)) n = xor (parF g n) (parF f n)
theorem Good.id (n : Nat) : Good n (fun x => x) := ⟨fun _ h => h, fun _ _ _ _ e => e, fun g _ => by rw [parF_id]; cases parF g n <;> rfl⟩
theorem Good.congr {n : Nat} {f f' : Nat → Nat} (h : Good n f) (e : ∀ p, p < n → f p = f' p) : Good n f' :=
  ⟨fun p hp => by rw [← e p hp]; exact h.lt p hp, fun p q hp hq k => h.inj p q hp hq (by rw [e p hp, e q hq]; exact k), fun g hg => by rw [← parF_congr n e, ← h.mul g hg]; exact parF_congr n (fun q hq => by show g (f' q) = g (f q); rw [e q hq])⟩
theorem Good.sw {n : Nat} {f : Nat → Nat} (h : Good n f) {a b : Nat} (ha : a < n) (hb : b < n) (hne : a ≠ b) : Good n (fun x => f (sw a b x)) := by
  refine ⟨fun p hp => h.lt _ (sw_lt ha hb hp), h.inj.sw ha hb, fun g hg => ?_⟩
  have hgf : Inj n (fun x => g (f x)) := fun p q hp hq e => h.inj p q hp hq (hg _ _ (h.lt p hp) (h.lt q hq) e)
  have e1 := parF_sw hgf ha hb hne
  have e2 := parF_sw h.inj ha hb hne
  rw [e1, e2, h.mul g hg]
  cases parF g n <;> cases parF f n <;> rfl

def Sn (sn : List Bool) (p : Nat) : Prop := sn.getD p true = true
/-- How many places have not been seen. -/
def unseen (sn : List Bool) : Nat := sn.countP (fun b => !b)
theorem getD_set_b (sn : List Bool) (p q : Nat) (hp : p < sn.length) : (sn.set p true).getD q true = if p = q then true else sn.getD q true := by
  simp only [List.getD_eq_getElem?_getD, List.getElem?_set]
  split
  · rename_i h; subst h; simp [hp]
  · rfl
theorem Sn_set {sn : List Bool} {p q : Nat} (hp : p < sn.length) : Sn (sn.set p true) q ↔ p = q ∨ Sn sn q := by
  unfold Sn
  rw [getD_set_b sn p q hp]
  by_cases h : p = q <;> simp [h]
theorem unseen_set : ∀ (sn : List Bool) (p : Nat), p < sn.length → ¬ Sn sn p → unseen (sn.set p true) + 1 = unseen sn
  | [], p, h, _ => by simp at h
  | b :: sn, 0, _, hs => by
    have hb : b = false := by simpa [Sn] using hs
    subst hb
    simp [unseen]
  | b :: sn, p + 1, h, hs => by
    have := unseen_set sn p (by simpa using h) (by simpa [Sn] using hs)
    simp only [unseen, List.set_cons_succ, List.countP_cons] at this ⊢
    omega

/-- While a cycle is walked: x0 its start, la the last place, h the exchanges so far. -/
structure Walk (n : Nat) (f : Nat → Nat) (x0 la p : Nat) (sq : List Bool) (h : Nat → Nat) : Prop where
  good : Good n h
  la_lt : la < n
  la_in : Sn sq la
  x0_in : Sn sq x0
  la_f : f la = p
  la_h : h la = x0
  eq : ∀ q, q < n → Sn sq q → q ≠ la → h q = f q
  out : ∀ q, q < n → ¬ Sn sq q → h q = q
  pre : ∀ r, r < n → Sn sq r → r ≠ x0 → ∃ q, q < n ∧ Sn sq q ∧ q ≠ la ∧ f q = r
/-- Between two cycles. -/
structure Done (n : Nat) (f : Nat → Nat) (sn : List Bool) (h : Nat → Nat) : Prop where
  good : Good n h
  eq : ∀ q, q < n → Sn sn q → h q = f q
  out : ∀ q, q < n → ¬ Sn sn q → h q = q
  pre : ∀ r, r < n → Sn sn r → ∃ q, q < n ∧ Sn sn q ∧ f q = r

theorem walk_cyc {n : Nat} {f : Nat → Nat} (hf : ∀ p, p < n → f p < n) (hi : Inj n f) {x0 : Nat} (hx0 : x0 < n) : ∀ (k : Nat) (sq : List Bool) (la p c : Nat) (h : Nat → Nat), sq.length = n → unseen sq < k → p < n → Walk n f x0 la p sq h →
    ∃ s d h', cyc f k sq p c = some (s, d) ∧ s.length = n ∧ c ≤ d ∧ Done n f s h' ∧ (∀ q, Sn sq q → Sn s q) ∧ unseen s + d = unseen sq + c ∧ parF h' n = xor (parF h n) (decide ((d - c) % 2 = 1)) := by
  intro k
  induction k with
  | zero => intro sq la p c h _ hu; omega
  | succ k ih =>
    intro sq la p c h hl hu hp W
    rw [cyc]
    by_cases hs : sq.getD p true = true
    · rw [if_pos hs]
      have hpx : p = x0 := by
        by_cases e : p = x0
        · exact e
        · obtain ⟨q, hq, _, hne, hfq⟩ := W.pre p hp hs e
          exact absurd (hi q la hq W.la_lt (hfq.trans W.la_f.symm)) hne
      refine ⟨sq, c, h, rfl, hl, Nat.le_refl _, ⟨W.good, fun q hq hsq => ?_, W.out, fun r hr hsr => ?_⟩, fun _ hq => hq, rfl, by simp⟩
      · by_cases e : q = la
        · subst e
          rw [W.la_h, W.la_f, hpx]
        · exact W.eq q hq hsq e
      · by_cases e : r = x0
        · exact ⟨la, W.la_lt, W.la_in, by rw [W.la_f, hpx, e]⟩
        · obtain ⟨q, hq, h1, _, h2⟩ := W.pre r hr hsr e
          exact ⟨q, hq, h1, h2⟩
    · rw [if_neg hs]
      have hns : ¬ Sn sq p := hs
      have hlap : la ≠ p := fun e => hns (by rw [← e]; exact W.la_in)
      have hus := unseen_set sq p (by omega) hns
      have hset : ∀ q, Sn (sq.set p true) q ↔ p = q ∨ Sn sq q := fun q => Sn_set (by omega)
      have W' : Walk n f x0 p (f p) (sq.set p true) (fun x => h (sw la p x)) := by
        refine ⟨W.good.sw W.la_lt hp hlap, hp, (hset p).2 (.inl rfl), (hset x0).2 (.inr W.x0_in), rfl, ?_, fun q hq hsq hne => ?_, fun q hq hsq => ?_, fun r hr hsr hne => ?_⟩
        · show h (sw la p p) = x0
          rw [show sw la p p = la by unfold sw; (repeat' split) <;> omega, W.la_h]
        · show h (sw la p q) = f q
          by_cases e : q = la
          · subst e
            rw [show sw q p q = p by simp [sw], W.out p hp hns, W.la_f]
          · rw [show sw la p q = q by unfold sw; (repeat' split) <;> omega]
            rcases (hset q).1 hsq with e' | h'
            · exact absurd e'.symm hne
            · exact W.eq q hq h' e
        · show h (sw la p q) = q
          have hq2 : ¬ (p = q ∨ Sn sq q) := fun h' => hsq ((hset q).2 h')
          have hla : q ≠ la := fun e => hq2 (.inr (by rw [e]; exact W.la_in))
          rw [show sw la p q = q by unfold sw; (repeat' split) <;> omega]
          exact W.out q hq (fun h' => hq2 (.inr h'))
        · rcases (hset r).1 hsr with e' | h'
          · subst e'
            exact ⟨la, W.la_lt, (hset la).2 (.inr W.la_in), hlap, W.la_f⟩
          · obtain ⟨q, hq, h1, _, h2⟩ := W.pre r hr h' hne
            exact ⟨q, hq, (hset q).2 (.inr h1), fun e => hns (by rw [← e]; exact h1), h2⟩
      obtain ⟨s, d, h', e1, e2, e3, e4, e5, e6, e7⟩ := ih (sq.set p true) p (f p) (c + 1) _ (by rw [List.length_set]; exact hl) (by omega) (hf p hp) W'
      refine ⟨s, d, h', e1, e2, by omega, e4, fun q hq => e5 q ((hset q).2 (.inr hq)), by omega, ?_⟩
      rw [e7, parF_sw W.good.inj W.la_lt hp hlap]
      have : decide ((d - c) % 2 = 1) = !decide ((d - (c + 1)) % 2 = 1) := by
        by_cases h1 : (d - c) % 2 = 1
        · have : ¬ (d - (c + 1)) % 2 = 1 := by omega
          simp [h1, this]
        · have : (d - (c + 1)) % 2 = 1 := by omega
          simp [h1, this]
      rw [this]
      cases parF h n <;> cases decide ((d - (c + 1)) % 2 = 1) <;> rfl

theorem unseen_le (sn : List Bool) : unseen sn ≤ sn.length := List.countP_le_length
theorem unseen_zero : ∀ (sn : List Bool), (∀ q, q < sn.length → Sn sn q) → unseen sn = 0
  | [], _ => rfl
  | b :: sn, h => by
    have hb : b = true := by simpa [Sn] using h 0 (by simp)
    subst hb
    have := unseen_zero sn (fun q hq => by simpa [Sn] using h (q + 1) (by simpa using hq))
    simpa [unseen] using this
theorem odd_add (a b : Nat) : decide ((a + b) % 2 = 1) = xor (decide (a % 2 = 1)) (decide (b % 2 = 1)) := by
  by_cases h1 : a % 2 = 1 <;> by_cases h2 : b % 2 = 1
  · have : ¬ (a + b) % 2 = 1 := by omega
    simp [h1, h2, this]
  · have : (a + b) % 2 = 1 := by omega
    simp [h1, h2, this]
  · have : (a + b) % 2 = 1 := by omega
    simp [h1, h2, this]
  · have : ¬ (a + b) % 2 = 1 := by omega
    simp [h1, h2, this]
theorem rnds_ok {n : Nat} {f : Nat → Nat} (hn : n ≤ 1000) (hf : ∀ p, p < n → f p < n) (hi : Inj n f) : ∀ (m i : Nat) (sn : List Bool) (out : List Int) (h : Nat → Nat), i + m = n → sn.length = n → Done n f sn h → (∀ q, q < i → Sn sn q) →
    ∃ res h' k, rnds f m sn i out = some res ∧ Good n h' ∧ (∀ q, q < n → h' q = f q) ∧ res.length = out.length + k ∧ k ≤ unseen sn ∧ (0 < unseen sn → 0 < k) ∧ parF h' n = xor (parF h n) (decide ((unseen sn - k) % 2 = 1)) := by
  intro m
  induction m with
  | zero =>
    intro i sn out h h1 hl D hs
    have hz := unseen_zero sn (fun q hq => hs q (by omega))
    exact ⟨out, h, 0, rfl, D.good, fun q hq => D.eq q hq (hs q (by omega)), rfl, Nat.zero_le _, fun hp => by omega, by rw [hz]; simp⟩
  | succ m ih =>
    intro i sn out h h1 hl D hs
    rw [rnds]
    by_cases hsi : sn.getD i true = true
    · rw [show cyc f 2000 sn i 0 = some (sn, 0) by rw [show (2000 : Nat) = 1999 + 1 from rfl, cyc, if_pos hsi]]
      simp only [Option.bind_some, Nat.lt_irrefl, if_false]
      exact ih (i + 1) sn out h (by omega) hl D (fun q hq => by
        by_cases e : q = i
        · subst e; exact hsi
        · exact hs q (by omega))
    · have hin : i < n := by omega
      have hns : ¬ Sn sn i := hsi
      have hus := unseen_set sn i (by omega) hns
      have hule := unseen_le sn
      have hset : ∀ q, Sn (sn.set i true) q ↔ i = q ∨ Sn sn q := fun q => Sn_set (by omega)
      have W : Walk n f i i (f i) (sn.set i true) h := by
        refine ⟨D.good, hin, (hset i).2 (.inl rfl), (hset i).2 (.inl rfl), rfl, D.out i hin hns, fun q hq hsq hne => ?_, fun q hq hsq => ?_, fun r hr hsr hne => ?_⟩
        · rcases (hset q).1 hsq with e' | h'
          · exact absurd e'.symm hne
          · exact D.eq q hq h'
        · exact D.out q hq (fun h' => hsq ((hset q).2 (.inr h')))
        · rcases (hset r).1 hsr with e' | h'
          · exact absurd e'.symm hne
          · obtain ⟨q, hq, h2, h3⟩ := D.pre r hr h'
            exact ⟨q, hq, (hset q).2 (.inr h2), fun e => hns (by rw [← e]; exact h2), h3⟩
      obtain ⟨s, d, h', e1, e2, e3, e4, e5, e6, e7⟩ := walk_cyc hf hi hin 1999 (sn.set i true) i (f i) 1 h (by rw [List.length_set]; exact hl) (by omega) (hf i hin) W
      rw [show cyc f 2000 sn i 0 = some (s, d) by rw [show (2000 : Nat) = 1999 + 1 from rfl, cyc, if_neg hsi]; exact e1]
      simp only [Option.bind_some]
      rw [if_pos (by omega)]
      obtain ⟨res, h2, k, r1, r2, r3, r4, r5, r6, r7⟩ := ih (i + 1) s (out ++ [(d : Int)]) h' (by omega) e2 e4 (fun q hq => by
        by_cases e : q = i
        · subst e; exact e5 q ((hset q).2 (.inl rfl))
        · exact e5 q ((hset q).2 (.inr (hs q (by omega)))))
      refine ⟨res, h2, k + 1, r1, r2, r3, by rw [r4]; simp; omega, by omega, fun _ => by omega, ?_⟩
      rw [r7, e7]
      have hsum : unseen sn - (k + 1) = (d - 1) + (unseen s - k) := by omega
      rw [hsum, odd_add]
      cases parF h n <;> cases decide ((d - 1) % 2 = 1) <;> cases decide ((unseen s - k) % 2 = 1) <;> rfl
/-- The cycles tell the sign; and signs multiply. -/
theorem rnds_sign {n : Nat} {f : Nat → Nat} (hn : n ≤ 1000) (hf : ∀ p, p < n → f p < n) (hi : Inj n f) : ∃ res, rnds f n (List.replicate n false) 0 [] = some res ∧ res.length ≤ n ∧ (0 < n → 0 < res.length) ∧ Good n f ∧ parF f n = decide ((n - res.length) % 2 = 1) := by
  have hu : unseen (List.replicate n false) = n := by simp [unseen, List.countP_replicate]
  have hnone : ∀ q, q < n → ¬ Sn (List.replicate n false) q := fun q hq h => by simp [Sn, hq] at h
  obtain ⟨res, h', k, r1, r2, r3, r4, r5, r6, r7⟩ := rnds_ok hn hf hi n 0 (List.replicate n false) [] (fun x => x) (by omega) (by simp) ⟨Good.id n, fun q hq h => absurd h (hnone q hq), fun q hq _ => rfl, fun r hr h => absurd h (hnone r hr)⟩ (fun q hq => by omega)
  rw [hu] at r5 r6 r7
  simp only [List.length_nil, Nat.zero_add] at r4
  refine ⟨res, r1, by omega, fun h => by have := r6 h; omega, r2.congr r3, ?_⟩
  rw [← parF_congr n r3, r7, parF_id, r4]
  cases decide ((n - k) % 2 = 1) <;> rfl
end Go.Proofs.Ytgnklmhjejbcoaa.K

/- The pure statement of KneadParities: for all numbers and lists the law within it answers true. -/
namespace Go.Proofs.Ytgnklmhjejbcoaa.K
open Go.RowKit Go.Proofs.YtgnklmhjejbcoaaW.PrintWords Go.Proofs.YtgnklmhjejbcoaaW.PrintLast Go.Proofs.YtgnklmhjejbcoaaW.PrintMore
set_option linter.unusedVariables false
set_option linter.unusedSimpArgs false

def lcode (n : Int) (w : List Int) : Int := if lumps n then wcode w else 1
theorem asked_eq (n : Int) (w : List Int) : knead_asked.f n w = some (lcode n w) := by
  unfold knead_asked.f lcode
  rw [isLumps_eq, worded_eq]
  cases lumps n <;> rfl
theorem lcode_zero {n : Int} {w : List Int} (h : lcode n w = 0) : lumps n = true ∧ wcode w = 0 := by
  unfold lcode at h
  split at h
  · rename_i h1; exact ⟨h1, h⟩
  · omega
/-- The sign of a word. -/
def sgn (n : Nat) (w : List Int) : Bool := parF (alongN n w) n
theorem along_inj {n : Nat} (hn : n % 2 = 0) {w : List Int} (hw : Kinds w) : Inj n (alongN n w) := fun p q hp hq e => by
  have h1 := back_along hn w p hw hp
  have h2 := back_along hn w q hw hq
  rw [← h1, ← h2, e]
theorem along_good {n : Nat} (hn : n % 2 = 0) (hs : n ≤ 1000) {w : List Int} (hw : Kinds w) : Good n (alongN n w) := by
  obtain ⟨_, _, _, _, h, _⟩ := rnds_sign (f := alongN n w) hs (fun p hp => along_lt hn w p hw hp) (along_inj hn hw)
  exact h
theorem along_append (n : Nat) (v w : List Int) (p : Nat) : alongN n (v ++ w) p = alongN n w (alongN n v p) := by simp [alongN, List.foldl_append]
theorem sgn_append {n : Nat} (hn : n % 2 = 0) (hs : n ≤ 1000) {v w : List Int} (hv : Kinds v) (hw : Kinds w) : sgn n (v ++ w) = xor (sgn n w) (sgn n v) := by
  unfold sgn
  rw [← (along_good hn hs hv).mul _ (along_inj hn hw)]
  exact parF_congr n (fun q _ => along_append n v w q)
/-- Where the folded dough's lumps came from. -/
def backF (n : Nat) (w : List Int) (q : Nat) : Nat := ((foldsL w (numL n)).getD q 0).toNat
theorem folds_num {n : Nat} (hn : n % 2 = 0) {w : List Int} (hw : Kinds w) {p : Nat} (hp : p < n) : (foldsL w (numL n)).getD (alongN n w p) 0 = (p : Int) := by
  have h := folds_getD w (numL n) p hw (by rw [numL_length]; exact hn) (by rw [numL_length]; exact hp)
  rw [numL_length, numL_getD n p hp] at h
  exact h
theorem folds_at {n : Nat} (hn : n % 2 = 0) {w : List Int} (hw : Kinds w) {q : Nat} (hq : q < n) : (foldsL w (numL n)).getD q 0 = ((backN n w q : Nat) : Int) := by
  have h := folds_num hn hw (back_lt hn w q hq)
  rw [along_back hn w q hw hq] at h
  exact h
theorem backF_eq {n : Nat} (hn : n % 2 = 0) {w : List Int} (hw : Kinds w) {q : Nat} (hq : q < n) : backF n w q = backN n w q := by
  unfold backF
  rw [folds_at hn hw hq]
  simp
theorem back_inj {n : Nat} (hn : n % 2 = 0) {w : List Int} (hw : Kinds w) : Inj n (backN n w) := fun p q hp hq e => by
  rw [← along_back hn w p hw hp, ← along_back hn w q hw hq, e]
theorem sgn_back {n : Nat} (hn : n % 2 = 0) (hs : n ≤ 1000) {w : List Int} (hw : Kinds w) : parF (backN n w) n = sgn n w := by
  have h := (along_good hn hs hw).mul _ (back_inj hn hw)
  rw [parF_congr (g := fun x => x) n (fun q hq => back_along hn w q hw hq), parF_id] at h
  unfold sgn
  cases h1 : parF (backN n w) n <;> cases h2 : parF (alongN n w) n <;> simp_all

/-- What IsOdd answers. -/
def oddR (n : Int) (w : List Int) : Bool × Int := if lcode n w = 0 then (sgn n.toNat w, 0) else (false, lcode n w)
theorem isOdd_R (n : Int) (w : List Int) (hw : w.length ≤ 1000) : knead_IsOdd.f n w = some (oddR n w) := by
  unfold knead_IsOdd.f oddR
  rw [asked_eq]
  simp only [Option.bind_some]
  by_cases h : lcode n w = 0
  · rw [if_pos h, if_pos h]
    obtain ⟨h1, h2⟩ := lcode_zero h
    have hc := lumps_int h1
    have hk := (wcode_zero h2).2
    obtain ⟨m, rfl⟩ : ∃ m : Nat, n = m := ⟨n.toNat, by omega⟩
    have hm2 : m % 2 = 0 := by omega
    rw [if_pos (by omega), fresh_eq 2000 m (by omega) (by omega)]
    simp only [Option.bind_some]
    rw [folded_eq 2000 (numL m) w (by rw [numL_length]; omega) hw (by omega)]
    simp only [Option.bind_some, Int.toNat_natCast]
    have hlen : (foldsL w (numL m)).length = m := by rw [folds_length w _ (by rw [numL_length]; exact hm2), numL_length]
    rw [if_pos ⟨hlen, fun x hx => by
      obtain ⟨q, hq, rfl⟩ := List.mem_iff_getElem.1 hx
      have hqm : q < m := by omega
      have := folds_at hm2 hk hqm
      have hb := back_lt hm2 w q hqm
      rw [List.getD_eq_getElem?_getD, List.getElem?_eq_getElem hq] at this
      simp only [Option.getD_some] at this
      omega⟩]
    have hf : ∀ p, p < m → backF m w p < m := fun p hp => by rw [backF_eq hm2 hk hp]; exact back_lt hm2 w p hp
    have hi : Inj m (backF m w) := fun p q hp hq e => back_inj hm2 hk p q hp hq (by rw [← backF_eq hm2 hk hp, ← backF_eq hm2 hk hq]; exact e)
    obtain ⟨res, r1, r2, r3, _, r5⟩ := rnds_sign (f := backF m w) (by omega) hf hi
    have r1' : rnds (fun p => ((foldsL w (numL m)).getD p 0).toNat) m (List.replicate m false) 0 [] = some res := r1
    rw [r1']
    simp only [Option.bind_some]
    rw [if_pos ⟨r3 (by omega), r2⟩, ← r5, parF_congr m (fun q hq => backF_eq hm2 hk hq), sgn_back hm2 (by omega) hk]
  · rw [if_neg h, if_neg h]

/-- How many of the places q, q + 1, .., m of them, come behind v. -/
def cR (f : Nat → Nat) (v : Nat) : Nat → Nat → Nat
  | _, 0 => 0
  | q, m + 1 => (if v < f q then 1 else 0) + cR f v (q + 1) m
theorem cR_le (f : Nat → Nat) (v : Nat) : ∀ m q, cR f v q m ≤ m
  | 0, _ => Nat.le_refl _
  | m + 1, q => by rw [cR]; have := cR_le f v m (q + 1); split <;> omega
theorem cR_par (f : Nat → Nat) (v : Nat) : ∀ m q, cntF f (q + m) v = xor (cntF f q v) (decide (cR f v q m % 2 = 1))
  | 0, q => by simp [cR]
  | m + 1, q => by
    rw [show q + (m + 1) = (q + 1) + m by omega, cR_par f v m (q + 1), cR, odd_add]
    show xor (xor (cntF f q v) (decide (v < f q))) _ = _
    by_cases h : v < f q
    · simp [h]
    · simp [h]
/-- How many of the places q, q + 1, .., m of them, are where they were. -/
def stR (f : Nat → Nat) : Nat → Nat → Nat
  | _, 0 => 0
  | q, m + 1 => (if f q = q then 1 else 0) + stR f (q + 1) m
theorem stR_le (f : Nat → Nat) : ∀ m q, stR f q m ≤ m
  | 0, _ => Nat.le_refl _
  | m + 1, q => by rw [stR]; have := stR_le f m (q + 1); split <;> omega
/-- What Still answers. -/
def stillR (n : Int) (w : List Int) : Int × Int := if lcode n w = 0 then ((stR (alongN n.toNat w) 0 n.toNat : Nat), 0) else (0, lcode n w)
theorem still_same {n : Nat} (hn : n % 2 = 0) {w : List Int} (hw : Kinds w) {p : Nat} (hp : p < n) : (p : Int) = (foldsL w (numL n)).getD p 0 ↔ alongN n w p = p := by
  rw [folds_at hn hw hp]
  constructor
  · intro h
    have h1 : backN n w p = p := by omega
    have := along_back hn w p hw hp
    rwa [h1] at this
  · intro h
    have := back_along hn w p hw hp
    rw [h] at this
    rw [this]
theorem still_l0 {n : Nat} (hn : n % 2 = 0) (hs : n ≤ 32) (w : List Int) (hw : Kinds w) : ∀ (m k p c : Nat), p + m = n → m < k → c + m ≤ 10000 →
    knead_Still.l0 k (c : Int) (foldsL w (numL n)) (n : Int) (p : Int) = some (((c + stR (alongN n w) p m : Nat) : Int), 0) := by
  have hlen : (foldsL w (numL n)).length = n := by rw [folds_length w _ (by rw [numL_length]; exact hn), numL_length]
  intro m
  induction m with
  | zero =>
    intro k p c h1 hk hc
    obtain ⟨k, rfl⟩ : ∃ m, k = m + 1 := ⟨k - 1, by omega⟩
    simp only [knead_Still.l0]
    rw [if_neg (by omega)]
    rfl
  | succ m ih =>
    intro k p c h1 hk hc
    obtain ⟨k, rfl⟩ : ∃ j, k = j + 1 := ⟨k - 1, by omega⟩
    simp only [knead_Still.l0]
    rw [if_pos (by omega), if_pos (by omega), if_pos (by omega), stR]
    have hr : rd (foldsL w (numL n)) (p : Int) = (foldsL w (numL n)).getD p 0 := by unfold rd; rw [Int.toNat_natCast]
    rw [hr]
    by_cases hg : alongN n w p = p
    · rw [if_pos ((still_same hn hw (by omega)).2 hg), if_pos hg, wrap_nat _ (by omega), wrap_nat _ (by omega), ih k (p + 1) (c + 1) (by omega) (by omega) (by omega)]
      congr 3
      omega
    · rw [if_neg (fun h => hg ((still_same hn hw (by omega)).1 h)), if_neg hg, wrap_nat _ (by omega), ih k (p + 1) c (by omega) (by omega) (by omega), Nat.zero_add]
theorem still_R (k : Nat) (n : Int) (w : List Int) (hw : w.length ≤ 1000) (hk : 3000 ≤ k) : knead_Still.f k n w = some (stillR n w) := by
  unfold knead_Still.f stillR
  rw [asked_eq]
  simp only [Option.bind_some]
  by_cases h : lcode n w = 0
  · rw [if_pos h, if_pos h]
    obtain ⟨h1, h2⟩ := lcode_zero h
    have hc := lumps_int h1
    obtain ⟨m, rfl⟩ : ∃ m : Nat, n = m := ⟨n.toNat, by omega⟩
    have hm2 : m % 2 = 0 := by omega
    have hlen : (foldsL w (numL m)).length = m := by rw [folds_length w _ (by rw [numL_length]; exact hm2), numL_length]
    rw [fresh_eq k m (by omega) (by omega)]
    simp only [Option.bind_some]
    rw [folded_eq k (numL m) w (by rw [numL_length]; omega) hw (by omega)]
    simp only [Option.bind_some]
    rw [hlen]
    have h0 := still_l0 (n := m) hm2 (by omega) w (wcode_zero h2).2 m k 0 0 (by omega) (by omega) (by omega)
    rw [show ((0 : Nat) : Int) = 0 from rfl, Nat.zero_add] at h0
    rw [h0, Int.toNat_natCast]
  · rw [if_neg h, if_neg h]

namespace Pure
end Pure
end Go.Proofs.Ytgnklmhjejbcoaa.K

/- The pure statement of KneadPairs: for all lists of whole numbers the law within it answers true. -/
namespace Go.Proofs.Ytgnklmhjejbcoaa.K
open Go.RowKit Go.Proofs.YtgnklmhjejbcoaaW.PrintWords Go.Proofs.YtgnklmhjejbcoaaW.PrintLast Go.Proofs.YtgnklmhjejbcoaaW.PrintMore
set_option linter.unusedVariables false
set_option linter.unusedSimpArgs false

theorem and_one (n : Int) : Go.bits .and .i64 n 1 = n % 2 := by
  have h127 : (BitVec.ofInt 64 1).toNat = 2 ^ 1 - 1 := by decide
  have key : (BitVec.ofInt 64 n &&& BitVec.ofInt 64 1).toNat = (n % ((2 ^ 64 : Nat) : Int)).toNat % 2 ^ 1 := by
    rw [BitVec.toNat_and, BitVec.toNat_ofInt, h127, Nat.and_two_pow_sub_one_eq_mod]
  show IntKind.i64.wrap ((BitVec.ofInt 64 n &&& BitVec.ofInt 64 1).toNat : Nat) = n % 2
  rw [key, IntKind.wrap_i64]
  omega
theorem and_low (n : Int) : Go.bits .and .i64 n 4294967295 = n % 4294967296 := by
  have h127 : (BitVec.ofInt 64 4294967295).toNat = 2 ^ 32 - 1 := by decide
  have key : (BitVec.ofInt 64 n &&& BitVec.ofInt 64 4294967295).toNat = (n % ((2 ^ 64 : Nat) : Int)).toNat % 2 ^ 32 := by
    rw [BitVec.toNat_and, BitVec.toNat_ofInt, h127, Nat.and_two_pow_sub_one_eq_mod]
  show IntKind.i64.wrap ((BitVec.ofInt 64 n &&& BitVec.ofInt 64 4294967295).toNat : Nat) = n % 4294967296
  rw [key, IntKind.wrap_i64]
  omega
def In64 (x : Int) : Prop := -9223372036854775808 ≤ x ∧ x ≤ 9223372036854775807
theorem ownSum_eq {a b c d : Int} (ha : In64 a) (hb : In64 b) (hc : In64 c) (hd : In64 d) : ownSum a b c d = decide (a + b = c + d) := by
  unfold In64 at *
  unfold ownSum knead_sameSum.f
  simp only [and_one]
  have w1 : ∀ x y : Int, wrap64 (x % 2 + y % 2) = x % 2 + y % 2 := fun x y => by unfold wrap64; omega
  rw [w1 a b, w1 c d]
  have w2 : ∀ x y : Int, In64 x → In64 y → wrap64 (x / 2 + y / 2) = x / 2 + y / 2 := fun x y hx hy => by unfold In64 at hx hy; unfold wrap64; omega
  rw [w2 a b ha hb, w2 c d hc hd]
  have w3 : ∀ x y : Int, In64 x → In64 y → wrap64 (x / 2 + y / 2 + (x % 2 + y % 2) / 2) = (x + y) / 2 := fun x y hx hy => by unfold In64 at hx hy; unfold wrap64; omega
  rw [w3 a b ha hb, w3 c d hc hd]
  by_cases h : (a + b) / 2 = (c + d) / 2
  · rw [if_pos h]
    simp only [Option.getD_some]
    rw [Bool.eq_iff_iff]
    simp
    omega
  · rw [if_neg h]
    simp
    omega
/-- A dough all of whose opposite lumps have one sum. -/
def HasPairs (l : List Int) : Prop := ∀ i, i < l.length → l.getD i 0 + l.getD (l.length - 1 - i) 0 = l.getD 0 0 + l.getD (l.length - 1) 0
theorem rd_getD (l : List Int) (i : Nat) : rd l (i : Int) = l.getD i 0 := by unfold rd; rw [Int.toNat_natCast]
theorem mem64 {l : List Int} (h : ∀ x ∈ l, In64 x) (i : Nat) : In64 (l.getD i 0) := by
  rw [List.getD_eq_getElem?_getD]
  cases c : l[i]? with
  | none => simp [In64]
  | some v => exact h v (List.mem_of_getElem? c)
theorem pairsTo_iff {s : Int → Int → Int → Int → Bool} {l : List Int} (hs : ∀ a b c d, In64 a → In64 b → In64 c → In64 d → s a b c d = decide (a + b = c + d)) (hl : ∀ x ∈ l, In64 x) (hp : 0 < l.length) : pairsTo s l l.length = true ↔ HasPairs l := by
  unfold pairsTo HasPairs
  rw [List.all_eq_true]
  constructor
  · intro h i hi
    have := h i (List.mem_range.2 hi)
    rw [show ((l.length : Int) - 1 - i) = ((l.length - 1 - i : Nat) : Int) by omega, show ((l.length : Int) - 1) = ((l.length - 1 : Nat) : Int) by omega, show (0 : Int) = ((0 : Nat) : Int) from rfl, rd_getD, rd_getD, rd_getD, rd_getD, hs _ _ _ _ (mem64 hl _) (mem64 hl _) (mem64 hl _) (mem64 hl _)] at this
    exact of_decide_eq_true this
  · intro h i hi
    have hi := List.mem_range.1 hi
    rw [show ((l.length : Int) - 1 - i) = ((l.length - 1 - i : Nat) : Int) by omega, show ((l.length : Int) - 1) = ((l.length - 1 : Nat) : Int) by omega, show (0 : Int) = ((0 : Nat) : Int) from rfl, rd_getD, rd_getD, rd_getD, rd_getD, hs _ _ _ _ (mem64 hl _) (mem64 hl _) (mem64 hl _) (mem64 hl _)]
    exact decide_eq_true (h i hi)
theorem pairsTo_eq {s t : Int → Int → Int → Int → Bool} {l : List Int} (hs : ∀ a b c d, In64 a → In64 b → In64 c → In64 d → s a b c d = decide (a + b = c + d)) (ht : ∀ a b c d, In64 a → In64 b → In64 c → In64 d → t a b c d = decide (a + b = c + d)) (hl : ∀ x ∈ l, In64 x) (hp : 0 < l.length) : pairsTo s l l.length = pairsTo t l l.length := by
  rw [Bool.eq_iff_iff, pairsTo_iff hs hl hp, pairsTo_iff ht hl hp]
theorem step_opp {n p k : Nat} (hn : n % 2 = 0) (hk : k ≤ 1) (hp : p < n) : stepN n (n - 1 - p) k = n - 1 - stepN n p k := by
  unfold stepN
  by_cases c : p < n / 2
  · rw [if_pos c, if_neg (by omega)]; omega
  · rw [if_neg c, if_pos (by omega)]; omega
theorem along_opp {n : Nat} (hn : n % 2 = 0) : ∀ (w : List Int) (p : Nat), Kinds w → p < n → alongN n w (n - 1 - p) = n - 1 - alongN n w p
  | [], _, _, _ => rfl
  | k :: w, p, hw, hp => by rw [along_cons, along_cons, step_opp hn hw.head.1 hp, along_opp hn w _ hw.tail (step_lt hn hw.head.1 hp)]
theorem pairs_folds {w l : List Int} (hw : Kinds w) (hn : l.length % 2 = 0) (hp : 0 < l.length) : HasPairs (foldsL w l) ↔ HasPairs l := by
  have e := folds_length w l hn
  have g := fun p hp => folds_getD w l p hw hn hp
  unfold HasPairs
  rw [e]
  constructor
  · intro h i hi
    have key : ∀ p, p < l.length → l.getD p 0 + l.getD (l.length - 1 - p) 0 = (foldsL w l).getD 0 0 + (foldsL w l).getD (l.length - 1) 0 := fun p hp => by
      have h1 := h _ (along_lt hn w p hw hp)
      rw [← along_opp hn w p hw hp, g p hp, g _ (by omega)] at h1
      exact h1
    have h0 := key 0 (by omega)
    rw [Nat.sub_zero] at h0
    rw [key i hi, h0]
  · intro h i hi
    have key : ∀ q, q < l.length → (foldsL w l).getD q 0 + (foldsL w l).getD (l.length - 1 - q) 0 = l.getD 0 0 + l.getD (l.length - 1) 0 := fun q hq => by
      have hb := back_lt hn w q hq
      have h1 := h _ hb
      rw [← g _ hb, ← g _ (show l.length - 1 - backN l.length w q < l.length by omega), along_opp hn w _ hw hb, along_back hn w q hw hq] at h1
      exact h1
    have h0 := key 0 (by omega)
    rw [Nat.sub_zero] at h0
    rw [key i hi, h0]
theorem riffle_mem (x : Int) : ∀ (a b : List Int), x ∈ riffle a b → x ∈ a ∨ x ∈ b
  | y :: a, z :: b, h => by
    simp only [riffle, List.mem_cons] at h
    rcases h with h | h | h
    · simp [h]
    · simp [h]
    · rcases riffle_mem x a b h with h | h <;> simp [h]
  | [], _, h => by simp [riffle] at h
  | _ :: _, [], h => by simp [riffle] at h
theorem foldL_mem {k x : Int} {l : List Int} (h : x ∈ foldL k l) : x ∈ l := by
  unfold foldL at h
  split at h
  · rcases riffle_mem x _ _ h with h | h
    · exact List.mem_of_mem_drop (List.mem_of_mem_take h)
    · exact List.mem_of_mem_take h
  · rcases riffle_mem x _ _ h with h | h
    · exact List.mem_of_mem_take h
    · exact List.mem_of_mem_drop (List.mem_of_mem_take h)
theorem folds_mem {x : Int} : ∀ (w l : List Int), x ∈ foldsL w l → x ∈ l
  | [], _, h => h
  | k :: w, l, h => foldL_mem (folds_mem w _ h)
theorem pairs_R {l : List Int} (hl : ∀ x ∈ l, In64 x) : knead_Pairs.f l = some (if lumps l.length then (pairsTo ownSum l l.length, 0) else (false, 1)) ∧ True := by
  refine ⟨?_, trivial⟩
  unfold knead_Pairs.f
  rw [validate_eq]
  cases c : lumps l.length with
  | false => rfl
  | true => rfl
namespace Pure
end Pure
end Go.Proofs.Ytgnklmhjejbcoaa.K

/- The pure statement of KneadWords: for all lists the law within it answers true. -/
namespace Go.Proofs.Ytgnklmhjejbcoaa.K
open Go.RowKit Go.Proofs.YtgnklmhjejbcoaaW.PrintWords Go.Proofs.YtgnklmhjejbcoaaW.PrintLast Go.Proofs.YtgnklmhjejbcoaaW.PrintMore
set_option linter.unusedVariables false
set_option linter.unusedSimpArgs false

theorem unfold_R (l w : List Int) (hl : l.length ≤ 1000) : knead_Unfold.f l w = some (unfoldR w l) := by
  unfold knead_Unfold.f unfoldR
  rw [validate_eq, worded_eq]
  cases lumps l.length with
  | false => rfl
  | true =>
    simp only [Option.bind_some, if_true, hl]
    split <;> rfl
theorem foldR_len (w l : List Int) (hl : l.length ≤ 1000) : (foldR w l).1.length ≤ 1000 := by
  unfold foldR
  split
  · rename_i h
    split
    · rw [folds_length w l (lumps_nat h).2.2]; exact hl
    · simp
  · simp
theorem unfoldR_len (w l : List Int) (hl : l.length ≤ 1000) : (unfoldR w l).1.length ≤ 1000 := by
  unfold unfoldR
  split
  · split
    · rw [unfolds_length]; exact hl
    · simp
  · simp
theorem foldR_zero {w l : List Int} (h : (foldR w l).2 = 0) : lumps l.length = true ∧ wcode w = 0 := by
  unfold foldR at h
  split at h
  · rename_i h1
    split at h
    · rename_i h2; exact ⟨h1, h2⟩
    · rename_i h2; exact absurd h h2
  · simp at h

namespace Pure
end Pure
end Go.Proofs.Ytgnklmhjejbcoaa.K

/- The pure statement of TopKneads: all that the law calls answers as it must. -/
namespace Go.Proofs.Ytgnklmhjejbcoaa.K
open Go.RowKit Go.Proofs.YtgnklmhjejbcoaaW.PrintWords Go.Proofs.YtgnklmhjejbcoaaW.PrintLast Go.Proofs.YtgnklmhjejbcoaaW.PrintMore
set_option linter.unusedVariables false
set_option linter.unusedSimpArgs false
/-- By reckoning: the folds of one kind come back after a number that all lengths of cycles divide. -/
def topChk (n kd : Nat) : Bool := match rnds (fun p => stepN n p kd) n (List.replicate n false) 0 [] with
  | none => false
  | some out => match knead_Times.f 5000 (n : Int) (kd : Int) with
    | none => false
    | some (t, e) => decide (0 < out.length) && decide (e = 0) && decide (1 ≤ t) && decide (t ≤ 10000) && decide (verditerref01_Sum.f 5000 (isort out) = some (n : Int)) && (isort out).all (fun x => decide (1 ≤ x) && decide (t % x = 0)) && decide ((isort out).length ≤ 1000)
set_option maxRecDepth 100000 in
theorem top_all : ((List.range 16).all fun m => topChk (2 * (m + 1)) 0 && topChk (2 * (m + 1)) 1) = true := by decide +kernel
theorem top_ok {n kd : Nat} (hn : lumps (n : Int) = true) (hk : kd ≤ 1) : topChk n kd = true := by
  have hc := lumps_nat hn
  have h := top_all
  rw [List.all_eq_true] at h
  have h1 := h (n / 2 - 1) (List.mem_range.2 (by omega))
  rw [show 2 * (n / 2 - 1 + 1) = n by omega, Bool.and_eq_true] at h1
  rcases (show kd = 0 ∨ kd = 1 by omega) with rfl | rfl
  · exact h1.1
  · exact h1.2
theorem top_times {n kd : Nat} (hn : lumps (n : Int) = true) (hk : kd ≤ 1) : ∃ t r, knead_Times.f 5000 (n : Int) (kd : Int) = some (t, 0) ∧ (1 ≤ t ∧ t ≤ 10000) ∧ knead_Rounds.f (n : Int) (kd : Int) = some (r, 0) ∧ verditerref01_Sum.f 5000 r = some (n : Int) ∧ (∀ j : Nat, j < r.length → 1 ≤ rd r (j : Int) ∧ t % rd r (j : Int) = 0) ∧ r.length ≤ 1000 := by
  have h := top_ok hn hk
  unfold topChk at h
  have hc := lumps_nat hn
  split at h
  · cases h
  · rename_i out hout
    split at h
    · cases h
    · rename_i t e ht
      simp only [Bool.and_eq_true, decide_eq_true_eq, List.all_eq_true] at h
      obtain ⟨⟨⟨⟨⟨⟨h1, rfl⟩, h3⟩, h4⟩, h5⟩, h6⟩, h7⟩ := h
      have hr : knead_Rounds.f (n : Int) (kd : Int) = some (isort out, 0) := by
        unfold knead_Rounds.f
        rw [kinded_eq, if_pos ⟨hn, by omega⟩]
        simp only [Option.bind_some, if_true, Int.toNat_natCast]
        rw [if_pos (by omega), hout]
        simp only [Option.bind_some]
        rw [if_pos h1, sortL_eq]
      refine ⟨t, isort out, ht, ⟨h3, h4⟩, hr, h5, fun j hj => ?_, h7⟩
      have hm : rd (isort out) (j : Int) ∈ isort out := by
        rw [rd_getD, List.getD_eq_getElem?_getD, List.getElem?_eq_getElem hj]
        exact List.getElem_mem hj
      exact h6 _ hm
theorem times_bad {n : Int} (kd : Int) (hn : lumps n = false) : knead_Times.f 5000 n kd = some (0, 1) := by
  unfold knead_Times.f
  rw [kinded_eq, if_neg (fun h => by rw [hn] at h; cases h.1)]
  rfl
theorem same_R (n : Nat) (v w : List Int) (hn : lumps (n : Int) = true) (hv : wcode v = 0) (hw : wcode w = 0) : knead_Same.f 5000 (n : Int) v w = some (decide (foldsL v (numL n) = foldsL w (numL n)), 0) := by
  have hc := lumps_nat hn
  have v1 := (wcode_zero hv).1
  have w1 := (wcode_zero hw).1
  have e1 := folds_length v (numL n) (by rw [numL_length]; exact hc.2.2)
  rw [numL_length] at e1
  unfold knead_Same.f
  rw [asked_eq]
  unfold lcode
  rw [if_pos hn, hv, worded_eq, hw, fresh_eq 5000 n (by omega) (by omega)]
  simp only [Option.bind_some, if_true]
  rw [folded_eq 5000 (numL n) v (by rw [numL_length]; omega) (by omega) (by omega), folded_eq 5000 (numL n) w (by rw [numL_length]; omega) (by omega) (by omega)]
  simp only [Option.bind_some]
  rw [equal_eq 5000 _ _ (by omega) (by omega)]
  rfl
theorem numL_pairs (n : Nat) (h : 0 < n) : HasPairs (numL n) := by
  intro i hi
  rw [numL_length] at hi ⊢
  rw [numL_getD n i hi, numL_getD n _ (by omega), numL_getD n 0 h, numL_getD n _ (by omega)]
  omega
theorem numL_64 (n : Nat) (h : n ≤ 1000) : ∀ x ∈ numL n, In64 x := by
  intro x hx
  unfold numL at hx
  obtain ⟨i, hi, rfl⟩ := List.mem_map.mp hx
  have := List.mem_range.mp hi
  unfold In64
  omega
theorem kinds_append {v w : List Int} (hv : Kinds v) (hw : Kinds w) : Kinds (v ++ w) := fun k hk => by
  rcases List.mem_append.mp hk with h | h
  · exact hv k h
  · exact hw k h
theorem wcode_of {w : List Int} (h1 : w.length ≤ 40) (h2 : Kinds w) : wcode w = 0 := by
  unfold wcode
  rw [if_neg (by omega), if_neg]
  intro h
  obtain ⟨x, hx, hb⟩ := List.any_eq_true.mp h
  rw [badK_false.mpr (h2 x hx)] at hb
  cases hb
theorem words_ok (n : Nat) (v w : List Int) (hn : lumps (n : Int) = true) (hv : wcode v = 0) (hw : wcode w = 0) : WordsOk 5000 (n : Int) v w (numL n) (foldsL v (numL n)) (foldsL w (numL n)) := by
  have hc := lumps_nat hn
  obtain ⟨v1, v2⟩ := wcode_zero hv
  obtain ⟨w1, w2⟩ := wcode_zero hw
  have hl := numL_length n
  have ln : lumps ((numL n).length : Int) = true := by rw [hl]; exact hn
  have ev : (numL n).length % 2 = 0 := by rw [hl]; exact hc.2.2
  have e1 := folds_length v (numL n) ev
  have e1' := folds_length w (numL n) ev
  have l1 : lumps ((foldsL v (numL n)).length : Int) = true := by rw [e1]; exact ln
  have ev1 : (foldsL v (numL n)).length % 2 = 0 := by rw [e1]; exact ev
  have e2 := folds_length w (foldsL v (numL n)) ev1
  have l2 : lumps ((foldsL w (foldsL v (numL n))).length : Int) = true := by rw [e2]; exact l1
  have hcat : foldsL (v ++ w) (numL n) = foldsL w (foldsL v (numL n)) := by unfold foldsL; rw [List.foldl_append]
  have fR : ∀ (l u : List Int), lumps (l.length : Int) = true → wcode u = 0 → foldR u l = (foldsL u l, 0) := fun l u h1 h2 => by unfold foldR; rw [if_pos h1, if_pos h2]
  have uR : ∀ (l u : List Int), lumps (l.length : Int) = true → wcode u = 0 → unfoldR u l = (unfoldsL u l, 0) := fun l u h1 h2 => by unfold unfoldR; rw [if_pos h1, if_pos h2]
  have oR : ∀ u, wcode u = 0 → oddR (n : Int) u = (sgn n u, 0) := fun u h => by unfold oddR lcode; rw [if_pos hn, if_pos h, Int.toNat_natCast]
  have h64 : ∀ x ∈ foldsL w (foldsL v (numL n)), In64 x := fun x hx => numL_64 n (by omega) x (folds_mem v _ (folds_mem w _ hx))
  have hpair : pairsTo ownSum (foldsL w (foldsL v (numL n))) (foldsL w (foldsL v (numL n))).length = true := by
    have hs : ∀ a b c d, In64 a → In64 b → In64 c → In64 d → ownSum a b c d = decide (a + b = c + d) := fun _ _ _ _ ha hb hc hd => ownSum_eq ha hb hc hd
    rw [pairsTo_iff hs h64 (by omega)]
    exact (pairs_folds w2 ev1 (by omega)).mpr ((pairs_folds v2 ev (by omega)).mpr (numL_pairs n (by omega)))
  refine ⟨foldsL w (foldsL v (numL n)), decide (foldsL v (numL n) = foldsL w (numL n)), sgn n v, sgn n w, (foldR (v ++ w) (numL n)).1, (foldR (v ++ w) (numL n)).2, ?_, ?_, ?_, same_R n v w hn hv hw, ?_, ?_, ?_, ?_, ?_, ?_, ?_, ?_⟩
  · rw [fold_R 5000 _ w (by omega) (by omega) (by omega), fR _ w l1 hw]
  · rw [unfold_R _ w (by omega), uR _ w l2 hw, unfolds_folds w2 ev1]
  · rw [unfold_R _ v (by omega), uR _ v l1 hv, unfolds_folds v2 ev]
  · rw [same_eq 5000 _ _ (by omega) (by omega), decide_eq_true rfl]
  · rw [same_eq 5000 _ _ (by omega) (by omega), decide_eq_true rfl]
  · rw [same_eq 5000 _ _ (by omega) (by omega)]
  · rw [isOdd_R _ v (by omega), oR v hv]
  · rw [isOdd_R _ w (by omega), oR w hw]
  · rw [(pairs_R h64).1, if_pos l2, hpair]
  · rw [fold_R 5000 _ (v ++ w) (by omega) (by rw [List.length_append]; omega) (by rw [List.length_append]; omega)]
  · by_cases h40 : 40 < (v ++ w).length
    · left
      refine ⟨?_, h40⟩
      have hcode : wcode (v ++ w) = 3 := by unfold wcode; rw [if_pos h40]
      unfold foldR
      rw [if_pos ln, if_neg (by rw [hcode]; decide), hcode]
    · right
      have hcode : wcode (v ++ w) = 0 := wcode_of (by omega) (kinds_append v2 w2)
      rw [fR _ _ ln hcode]
      refine ⟨rfl, hcat, ?_, ?_⟩
      · rw [isOdd_R _ (v ++ w) (by omega), oR _ hcode, sgn_append hc.2.2 (by omega) v2 w2]
        congr 2
        cases sgn n v <;> cases sgn n w <;> rfl
      · rw [same_eq 5000 _ _ (by omega) (by omega), decide_eq_true rfl]
theorem still_four : knead_Still.f 5000 4 [0] = some (2, 0) := by decide +kernel
namespace Pure
theorem TopKneads (n p : Int) (v w : List Int) (wn : (Lit.int .i64 n).wf = true) (wp : (Lit.int .i64 p).wf = true) (_ : v.length ≤ maxLen) (_ : v.length * 8 ≤ 140737488351232) (_ : ∀ x ∈ v, (Lit.int .i64 x).wf = true) (_ : w.length ≤ maxLen) (_ : w.length * 8 ≤ 140737488351232) (_ : ∀ x ∈ w, (Lit.int .i64 x).wf = true) :
    ∃ k, verditertop_topKneads.f k n p v w = some true := by
  refine ⟨5000, ?_⟩
  unfold verditertop_topKneads.f
  rw [if_pos]
  refine ⟨still_four, ?_⟩
  rw [long_eq, long_eq]
  by_cases hv : 100 < v.length
  · exact .inl (by rw [decide_eq_true hv])
  refine .inr ⟨by rw [decide_eq_false hv], ?_⟩
  by_cases hw : 100 < w.length
  · exact .inl (by rw [decide_eq_true hw])
  refine .inr ⟨by rw [decide_eq_false hw], ?_⟩
  by_cases hn : lumps n = true
  · right
    have hi := lumps_int hn
    obtain ⟨n, rfl⟩ : ∃ m : Nat, n = m := ⟨n.toNat, by omega⟩
    obtain ⟨o, r0, t1, t2, t3, t4, t5, t6⟩ := top_times (kd := 0) hn (by omega)
    obtain ⟨i, r1, u1, u2, u3, u4, u5, u6⟩ := top_times (kd := 1) hn (by omega)
    have hl := numL_length n
    have ln : lumps ((numL n).length : Int) = true := by rw [hl]; exact hn
    refine ⟨o, i, numL n, r0, r1, (bringR n p).1, (bringR n p).2, (foldR v (numL n)).1, (foldR w (numL n)).1, (foldR v (numL n)).2, (foldR w (numL n)).2, t1, u1, t2, u2, ⟨hi.1, hi.2.1⟩, numbers_eq 5000 n (by omega) (by omega), t3, u3, t4, u4, t5, u5, ⟨t6, u6⟩, bring_R _ _, ?_, fold_R 5000 _ v (by omega) (by omega) (by omega), fold_R 5000 _ w (by omega) (by omega) (by omega), ?_, by omega⟩
    · unfold bringR
      rw [if_pos hn]
      by_cases hp : p < 0 ∨ p ≥ (n : Int)
      · rw [if_pos hp]
        exact .inl (by decide)
      · rw [if_neg hp]
        obtain ⟨t, rfl⟩ : ∃ t : Nat, p = t := ⟨p.toNat, by omega⟩
        have hb := bring_ok (t := t) hn (by omega)
        simp only [bringChk, Bool.and_eq_true, decide_eq_true_eq] at hb
        obtain ⟨⟨h1, h2⟩, h3⟩ := hb
        have h5 := (wcode_zero h2).1
        obtain ⟨wd, g1, g2⟩ := way_ok (p := 0) (t := t) hn (by omega) (by omega)
        simp only [oneChk, Bool.and_eq_true, decide_eq_true_eq] at g2
        have h6 : wcode (gr n t 10 0) = 0 := g2.1.1.1.1.1.2
        have h7 : alongN n (gr n t 10 0) 0 = t := g2.1.1.1.1.1.1.2
        have h8 := (wcode_zero h6).1
        rw [Int.toNat_natCast]
        refine .inr ⟨rfl, gr n t 10 0, ?_, ?_, ?_, ?_⟩
        · show knead_Place.f 5000 (n : Int) (lowF 10 t).reverse 0 = _
          rw [place_R 5000 (n : Int) _ 0 (by omega) (by omega)]
          unfold placeR
          rw [if_pos hn, if_pos (by omega), if_pos h2, Int.toNat_natCast, Int.toNat_zero, h1]
        · rw [way_R]
          unfold wayR
          rw [if_pos hn, if_neg (by omega), Int.toNat_natCast, Int.toNat_natCast, Int.toNat_zero]
        · rw [place_R 5000 (n : Int) _ 0 (by omega) (by omega)]
          unfold placeR
          rw [if_pos hn, if_pos (by omega), if_pos h6, Int.toNat_natCast, Int.toNat_zero, h7]
        · show (gr n t 10 0).length ≤ (lowF 10 t).reverse.length
          rw [List.length_reverse]; exact h3
    · by_cases h1 : wcode v = 0
      · by_cases h2 : wcode w = 0
        · have f1 : foldR v (numL n) = (foldsL v (numL n), 0) := by unfold foldR; rw [if_pos ln, if_pos h1]
          have f2 : foldR w (numL n) = (foldsL w (numL n), 0) := by unfold foldR; rw [if_pos ln, if_pos h2]
          rw [f1, f2]
          exact .inr (.inr ⟨rfl, rfl, words_ok n v w hn h1 h2⟩)
        · refine .inr (.inl ⟨?_, ?_⟩)
          · unfold foldR; rw [if_pos ln, if_pos h1]
          · unfold foldR; rw [if_pos ln, if_neg h2]; exact h2
      · refine .inl ?_
        unfold foldR; rw [if_pos ln, if_neg h1]; exact h1
  · left
    have hn' : lumps n = false := by simpa using hn
    refine ⟨0, 0, times_bad 0 hn', times_bad 1 hn', ?_⟩
    unfold lumps at hn
    simp only [decide_eq_true_eq] at hn
    omega
end Pure
end Go.Proofs.Ytgnklmhjejbcoaa.K
