/- What knead.Bring returns: the digits of a place, written in twos, in memory of the call's own, or nil and the error; older memory stays as it was. -/
import Derived.Test.YtgnklmhjejbcoaaHS
import Derived.Test.YtgnklmhjejbcoaaK1
namespace Go.Proofs.Ytgnklmhjejbcoaa.K
open Go.RowKit Go.Proofs.YtgnklmhjejbcoaaW.PrintWords Go.Proofs.YtgnklmhjejbcoaaW.PrintLast Go.Proofs.YtgnklmhjejbcoaaW.PrintMore
set_option linter.unusedVariables false
set_option linter.unusedSimpArgs false

/-- The digits of a number, the last one first. -/
def lowF : Nat → Nat → List Int
  | 0, _ => []
  | f + 1, n => if n = 0 then [] else ((n % 2 : Nat) : Int) :: lowF f (n / 2)
theorem lowF_zero (f : Nat) : lowF f 0 = [] := by cases f <;> rfl
theorem lowF_pos (f n : Nat) (h : 0 < n) : lowF (f + 1) n = ((n % 2 : Nat) : Int) :: lowF f (n / 2) := by rw [lowF, if_neg (by omega)]
theorem lowF_length : ∀ (f n : Nat), (lowF f n).length ≤ f
  | 0, n => Nat.le_refl _
  | f + 1, n => by
    rw [lowF]
    split
    · simp
    · have := lowF_length f (n / 2)
      simp only [List.length_cons]
      omega

def knead_Bring.f (a0 a1 : Int) : Option (List Int × Int) := (knead_isLumps.f a0).bind fun t => if t = true then (if a1 < 0 ∨ a1 ≥ a0 then some ([], 4) else if a1 < 1024 then some ((lowF 10 a1.toNat).reverse, 0) else none) else some ([], 1)

set_option maxHeartbeats 4000000 in
set_option maxRecDepth 100000 in
theorem knead_Bring.calls (a0 a1 : Int) (r1 : List Int) (r2 : Int) (w : World) (h : knead_Bring.f a0 a1 = some (r1, r2)) :
    Calls Try.prog 28 #[.int .i64 a0, .int .i64 a1] w fun e w' => ∃ v0_ : Value, e = .returned (.tuple #[v0_, .int .i64 r2]) ∧ Kd.R (Kd.int .i64) 3 w' w.heap.size (fun _ => True) v0_ r1 ∧ Below w.heap.size w w' := by
  unfold knead_Bring.f at h
  obtain ⟨t, ht, h⟩ := Option.bind_eq_some_iff.mp h
  have HT := Aside0.mk ht
  clear ht
  by_cases hz : t = true
  · rw [if_pos hz] at h
    subst hz
    by_cases h1 : a1 < 0
    · rw [if_pos (.inl h1)] at h
      simp only [Option.some.injEq, Prod.mk.injEq] at h
      obtain ⟨rfl, rfl⟩ := h
      go_enter Try.func28, Try.ntmps28
      go_wp2_with (first | (go_at_call 53; refine (knead_isLumps.calls a0 true _ HT.out).mono ?_; rintro e w' ⟨rfl, ⟨nd, rfl⟩⟩) | go_in)
      go_ret2
      exact ⟨_, rfl, Kd.R_nil _ _ _ _ _, by exact pw_below_drewN (Below.refl _ _) _⟩
    · by_cases h2 : a1 ≥ a0
      · rw [if_pos (.inr h2)] at h
        simp only [Option.some.injEq, Prod.mk.injEq] at h
        obtain ⟨rfl, rfl⟩ := h
        go_enter Try.func28, Try.ntmps28
        go_wp2_with (first | (go_at_call 53; refine (knead_isLumps.calls a0 true _ HT.out).mono ?_; rintro e w' ⟨rfl, ⟨nd, rfl⟩⟩) | go_in)
        go_ret2
        exact ⟨_, rfl, Kd.R_nil _ _ _ _ _, by exact pw_below_drewN (Below.refl _ _) _⟩
      · rw [if_neg (by omega)] at h
        by_cases h3 : a1 < 1024
        · rw [if_pos h3] at h
          simp only [Option.some.injEq, Prod.mk.injEq] at h
          obtain ⟨rfl, rfl⟩ := h
          obtain ⟨m, rfl⟩ : ∃ m : Nat, a1 = m := ⟨a1.toNat, by omega⟩
          rw [Int.toNat_natCast]
          have hm : m < 2 ^ 10 := by omega
          have hw2 := Aside0.mk hm
          clear hm
          go_enter Try.func28, Try.ntmps28
          go_wp2_with (first | (go_at_call 53; refine (knead_isLumps.calls a0 true _ HT.out).mono ?_; rintro e w' ⟨rfl, ⟨nd, rfl⟩⟩) | go_in)
          go_loopw [6, 7] (fun v i wr => ∃ (f n : Nat) (ds : List Int), i = .int .i64 n ∧ Aside0 (n ≤ 1024) ∧ Aside0 (n < 2 ^ f ∧ ds.length + f = 10 ∧ ds ++ lowF f n = lowF 10 m) ∧ Aside0 (Kd.R (Kd.int .i64) 3 wr w.heap.size (fun _ => True) v ds) ∧ Aside0 (Below w.heap.size w wr)) (fun _ i _ => (intOf i).toNat)
          case atStart => exact ⟨10, m, [], rfl, Aside0.mk (by have := hw2.out; omega), Aside0.mk ⟨hw2.out, rfl, rfl⟩, Aside0.mk (Kd.R_nil _ _ _ _ _), Aside0.mk (by exact pw_below_drewN (Below.refl _ _) _)⟩
          case round =>
            obtain ⟨f, n, ds, rfl, Hn, HF, HO, HB⟩ := hrel
            have hn := Hn.out
            obtain ⟨Av, cv, ev⟩ := Kd.R_slice HO.out
            subst ev
            by_cases hp : 0 < n
            · obtain ⟨f, rfl⟩ : ∃ g, f = g + 1 := by
                cases f with
                | zero => have := HF.out.1; omega
                | succ g => exact ⟨g, rfl⟩
              have hq1 : Int.tmod (n : Int) 2 = ((n % 2 : Nat) : Int) := by rw [Int.tmod_eq_emod_of_nonneg (by omega)]; omega
              have hq2 : Int.tdiv (n : Int) 2 = ((n / 2 : Nat) : Int) := by rw [Int.tdiv_eq_ediv_of_nonneg (by omega)]; omega
              have hdl : ds.length ≤ 10 := by have := HF.out.2.1; omega
              have hnn : (0 : Int) ≤ (n : Int) / 2 := by omega
              clear h hq1 hq2
              have HG := HF.out.2.2
              rw [lowF_pos f n hp] at HG
              have HS := Aside0.mk (show n / 2 < 2 ^ f ∧ (ds ++ [((n : Int) % 2)]).length + f = 10 ∧ (ds ++ [((n : Int) % 2)]) ++ lowF f (n / 2) = lowF 10 m by
                refine ⟨?_, ?_, ?_⟩
                · have := HF.out.1
                  rw [Nat.pow_succ] at this
                  omega
                · have := HF.out.2.1
                  simp only [List.length_append, List.length_singleton]
                  omega
                · rw [← HG]
                  simp)
              clear HG
              go_wp2_with (first | ((with_reducible refine gate_builtin (b := .append) (xs := #[.tmp 23, .tmp 26]) rfl ?_); at_builtin; refine Kd.R_append (Kd.int .i64) (w0 := w) w.heap.size rfl (.tmp 23) (.tmp 26) 22 3 (.int .i64 0) 8 rfl Try.underlying22 info3 rfl (by decide) (by omega) _ ds ((n : Int) % 2) [.int .i64 ((n : Int) % 2)] _ (fun _ => False) rfl rfl rfl (fun _ hk => hk.elim) (fun _ _ => trivial) HO.out HB.out (below_size HB.out) (by omega) ?_; intro v2 w2 ho hb hg hat; have HO2 := Aside0.mk ho; have HB2 := Aside0.mk hb; clear ho hb hg hat))
              go_roundw
              case rel => exact ⟨f, n / 2, _, by simp, Aside0.mk (by omega), HS, HO2, HB2⟩
              case measure => simp [intOf]; omega
            · obtain rfl : n = 0 := by omega
              have HE : Aside0 (ds = lowF 10 m) := Aside0.mk (by have := HF.out.2.2; rw [lowF_zero, List.append_nil] at this; exact this)
              have hdl : ds.length ≤ 10 := by rw [HE.out]; exact lowF_length _ _
              have HV := Aside0.mk (reverse_R HO.out (by omega))
              go_wp2_with fail
              refine HV.out.mono ?_
              rintro e w2 ⟨rfl, hR, hg⟩
              have HR2 := Aside0.mk hR
              have HB2 := Aside0.mk (HB.out.grown hg (below_size HB.out) (fun k e => Kd.R_base HO.out k e))
              clear hR hg
              go_wp2
              go_ret2
              exact ⟨_, rfl, by rw [← HE.out]; simpa using HR2.out, HB2.out⟩
        · rw [if_neg h3] at h
          cases h
  · rw [if_neg hz] at h
    have hb : t = false := by simpa using hz
    subst hb
    simp only [Option.some.injEq, Prod.mk.injEq] at h
    obtain ⟨rfl, rfl⟩ := h
    go_enter Try.func28, Try.ntmps28
    go_wp2_with (first | (go_at_call 53; refine (knead_isLumps.calls a0 false _ HT.out).mono ?_; rintro e w' ⟨rfl, ⟨nd, rfl⟩⟩) | go_in)
    go_ret2
    exact ⟨_, rfl, Kd.R_nil _ _ _ _ _, by exact pw_below_drewN (Below.refl _ _) _⟩
end Go.Proofs.Ytgnklmhjejbcoaa.K
