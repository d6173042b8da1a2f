/- The pure statement of KneadTimes: for all whole numbers the law answers true: by reckoning for all numbers of lumps and both kinds. -/
import Derived.Test.YtgnklmhjejbcoaaQC
import Derived.Test.YtgnklmhjejbcoaaQD
import Derived.Test.YtgnklmhjejbcoaaHF
import Derived.Test.YtgnklmhjejbcoaaK11
import Derived.Test.YtgnklmhjejbcoaaK21
import Derived.Test.YtgnklmhjejbcoaaK5
import Derived.Test.YtgnklmhjejbcoaaK6
namespace Go.Proofs.Ytgnklmhjejbcoaa.K
open Go.RowKit Go.Proofs.YtgnklmhjejbcoaaW.PrintWords Go.Proofs.YtgnklmhjejbcoaaW.PrintLast Go.Proofs.YtgnklmhjejbcoaaW.PrintMore
set_option linter.unusedVariables false
set_option linter.unusedSimpArgs false

def insI (x : Int) : List Int → List Int
  | [] => [x]
  | y :: ys => if x ≤ y then x :: y :: ys else y :: insI x ys
def isort : List Int → List Int
  | [] => []
  | x :: xs => insI x (isort xs)
theorem insI_perm (x : Int) : ∀ l : List Int, (insI x l).Perm (x :: l)
  | [] => List.Perm.refl _
  | y :: ys => by
    rw [insI]
    split
    · exact List.Perm.refl _
    · exact ((insI_perm x ys).cons y).trans (List.Perm.swap x y ys)
theorem isort_perm : ∀ l : List Int, (isort l).Perm l
  | [] => List.Perm.refl _
  | x :: xs => (insI_perm x _).trans ((isort_perm xs).cons x)
theorem insI_sorted (x : Int) : ∀ l : List Int, l.Pairwise (· ≤ ·) → (insI x l).Pairwise (· ≤ ·)
  | [], _ => by simp [insI]
  | y :: ys, h => by
    rw [insI]
    rw [List.pairwise_cons] at h
    split
    · rename_i hxy
      refine List.pairwise_cons.2 ⟨fun z hz => ?_, List.pairwise_cons.2 h⟩
      rcases List.mem_cons.1 hz with rfl | hz
      · exact hxy
      · exact Int.le_trans hxy (h.1 z hz)
    · rename_i hxy
      refine List.pairwise_cons.2 ⟨fun z hz => ?_, insI_sorted x ys h.2⟩
      rcases List.mem_cons.1 ((insI_perm x ys).mem_iff.1 hz) with rfl | hz
      · omega
      · exact h.1 z hz
theorem isort_sorted : ∀ l : List Int, (isort l).Pairwise (· ≤ ·)
  | [] => List.Pairwise.nil
  | x :: xs => insI_sorted x _ (isort_sorted xs)
theorem sorted_unique : ∀ (a b : List Int), a.Perm b → a.Pairwise (· ≤ ·) → b.Pairwise (· ≤ ·) → a = b
  | [], b, h, _, _ => (List.Perm.eq_nil h.symm).symm
  | x :: a, [], h, _, _ => by have := h.length_eq; simp at this
  | x :: a, y :: b, h, ha, hb => by
    rw [List.pairwise_cons] at ha hb
    have hxy : x = y := by
      have h1 : x ∈ y :: b := h.mem_iff.1 (List.mem_cons_self ..)
      have h2 : y ∈ x :: a := h.mem_iff.2 (List.mem_cons_self ..)
      rcases List.mem_cons.1 h1 with e | h1
      · exact e
      · rcases List.mem_cons.1 h2 with e | h2
        · exact e.symm
        · exact Int.le_antisymm (ha.1 y h2) (hb.1 x h1)
    subst hxy
    rw [sorted_unique a b (List.Perm.cons_inv h) ha.2 hb.2]
theorem sortL_eq (l : List Int) : sortL l = isort l := by
  refine sorted_unique _ _ ((List.mergeSort_perm l _).trans (isort_perm l).symm) ?_ (isort_sorted l)
  have := List.pairwise_mergeSort (le := fun x y : Int => decide (x ≤ y)) (fun a b c h1 h2 => by simp at h1 h2 ⊢; omega) (fun a b => by simp; omega) l
  exact this.imp (fun h => by simpa using h)
def timesBody (k : Nat) (a0 a1 : Int) (out : List Int) : Option Bool := (verditerref07_Times.f k a0 a1).bind fun bt572 => ((verditerref07_Rounds.f k a0 a1).bind fun bt574 => ((knead_Times.f k a0 a1).bind fun bt578 => ((some (isort out, 0) : Option (List Int × Int)).bind fun bt580 => (if bt578.1 = bt572.1 then (if bt578.2 = bt572.2 then ((verditerref01_SameInts.f k bt580.1 bt574.1).bind fun t584 => (if t584 = true then (verditerlaw07_KneadTimes.j0 k a0 a1 bt578.1 bt578.2 bt580.1 (bt580.2 != bt574.2)) else (verditerlaw07_KneadTimes.j0 k a0 a1 bt578.1 bt578.2 bt580.1 true))) else (verditerlaw07_KneadTimes.j0 k a0 a1 bt578.1 bt578.2 bt580.1 true)) else (verditerlaw07_KneadTimes.j0 k a0 a1 bt578.1 bt578.2 bt580.1 true)))))
def timesChk (n kd : Nat) : Bool := match rnds (fun p => stepN n p kd) n (List.replicate n false) 0 [] with | none => false | some out => decide (0 < out.length) && decide (timesBody 5000 (n : Int) (kd : Int) out = some true)
set_option maxRecDepth 100000 in
theorem times_all : ((List.range 16).all fun m => timesChk (2 * (m + 1)) 0 && timesChk (2 * (m + 1)) 1) = true := by decide +kernel
theorem times_ok {n kd : Nat} (hn : lumps (n : Int) = true) (hk : kd ≤ 1) : timesChk n kd = true := by
  have hc := lumps_nat hn
  have h := times_all
  rw [List.all_eq_true] at h
  have h1 := h (n / 2 - 1) (List.mem_range.2 (by omega))
  rw [show 2 * (n / 2 - 1 + 1) = n by omega, Bool.and_eq_true] at h1
  rcases (show kd = 0 ∨ kd = 1 by omega) with rfl | rfl
  · exact h1.1
  · exact h1.2
theorem kinded_eq (a0 a1 : Int) : knead_kinded.f a0 a1 = some (if lumps a0 = true ∧ (a1 = 0 ∨ a1 = 1) then 0 else 1) := by
  unfold knead_kinded.f
  rw [isLumps_eq]
  simp only [Option.bind_some]
  by_cases c : lumps a0 = true
  · rw [if_pos c]
    by_cases h0 : a1 = 0
    · rw [if_pos h0, if_pos ⟨c, .inl h0⟩]
    · by_cases h1 : a1 = 1
      · rw [if_neg h0, if_pos h1, if_pos ⟨c, .inr h1⟩]
      · rw [if_neg h0, if_neg h1, if_neg (by omega)]
  · rw [if_neg c, if_neg (fun h => c h.1)]
theorem refKinded_eq (a0 a1 : Int) : verditerref07_kinded.f a0 a1 = some (decide (lumps a0 = true ∧ (a1 = 0 ∨ a1 = 1))) := by
  unfold verditerref07_kinded.f
  rw [refLumps_eq, within_eq]
  simp only [Option.bind_some]
  by_cases c : lumps a0 = true
  · rw [if_pos c]
    congr 1
    exact decide_eq_decide.2 ⟨fun h => ⟨c, by omega⟩, fun h => by omega⟩
  · rw [if_neg c, decide_eq_false (fun h => c h.1)]
namespace Pure
theorem KneadTimes : verditerlaw07_KneadTimes.Pure := by
  intro a0 a1 _ _
  refine ⟨5000, ?_⟩
  by_cases hv : lumps a0 = true ∧ (a1 = 0 ∨ a1 = 1)
  · have hc := lumps_int hv.1
    obtain ⟨n, rfl⟩ : ∃ n : Nat, a0 = n := ⟨a0.toNat, by omega⟩
    obtain ⟨kd, rfl⟩ : ∃ n : Nat, a1 = n := ⟨a1.toNat, by omega⟩
    have h := times_ok hv.1 (show kd ≤ 1 by omega)
    unfold timesChk at h
    split at h
    · cases h
    · rename_i out hout
      simp only [Bool.and_eq_true, decide_eq_true_eq] at h
      have hr : knead_Rounds.f (n : Int) (kd : Int) = some (isort out, 0) := by
        unfold knead_Rounds.f
        rw [kinded_eq, if_pos hv]
        simp only [Option.bind_some, if_true, Int.toNat_natCast]
        rw [if_pos (by omega), hout]
        simp only [Option.bind_some]
        rw [if_pos h.1, sortL_eq]
      unfold verditerlaw07_KneadTimes.f
      rw [hr]
      exact h.2
  · unfold verditerlaw07_KneadTimes.f verditerref07_Times.f verditerref07_Rounds.f knead_Times.f knead_Rounds.f
    rw [kinded_eq, refKinded_eq, if_neg hv, decide_eq_false hv]
    simp only [Option.bind_some, Bool.false_eq_true, if_false, show ¬ ((1 : Int) = 0) by omega]
    rw [same_eq _ _ _ (by simp) (by simp)]
    rw [show (5000 : Nat) = 4999 + 1 from rfl]
    simp only [Option.bind_some, decide_true, if_true, bne_self_eq_false, Bool.false_eq_true, if_false, verditerlaw07_KneadTimes.j0, show ¬ ((1 : Int) = 0) by omega]
    rw [known_eq (by omega)]
    rfl
end Pure
end Go.Proofs.Ytgnklmhjejbcoaa.K
