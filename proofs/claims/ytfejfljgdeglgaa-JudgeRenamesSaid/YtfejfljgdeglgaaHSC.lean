/- The solver of judge: the search where its memory does not hold the state; and that it answers as solveP says. -/
import Derived.Test.YtfejfljgdeglgaaHSB
import Derived.Test.YtfejfljgdeglgaaK3
namespace Go.Proofs.Ytfejfljgdeglgaa.K
open Go.RowKit Go.Maps Go.Proofs.YtfejfljgdeglgaaW.PrintWords Go.Proofs.YtfejfljgdeglgaaW.PrintLast Go.Proofs.YtfejfljgdeglgaaW.PrintMore
set_option linter.unusedVariables false
set_option linter.unusedSimpArgs false
theorem after_calls (a b x y : Nat) (W : World) (hs : a + b ≤ 64) (hx : x ≤ a) (hy : y ≤ b) : Calls Try.prog 66 #[.agg #[.int .i64 (a : Int), .int .i64 (b : Int)], .int .i64 (x : Int), .int .i64 (y : Int)] W fun e w' =>
    e = .returned (.tuple #[.agg #[.int .i64 (x : Int), .int .i64 ((y : Int) + a - x)], .agg #[.int .i64 ((a : Int) - x), .int .i64 ((b : Int) - y + x)]]) ∧ Below W.heap.size W w' := by
  refine judge_state_after.calls a b x y _ _ _ _ W ?_
  unfold judge_state_after.f
  rw [wrap_id (x := (y : Int) + a) (by omega) (by omega), wrap_id (x := (y : Int) + a - x) (by omega) (by omega), wrap_id (x := (a : Int) - x) (by omega) (by omega), wrap_id (x := (b : Int) - y) (by omega) (by omega), wrap_id (x := (b : Int) - y + x) (by omega) (by omega)]
/-- Where the solver stands in its search: its memory, and its own state's cells in the block N. -/
structure Inv (W Wr : World) (a b B1 B2 M : Nat) : Prop where
  m : ∃ f', Mem Wr B1 B2 M f'
  g : W.grownBy Wr (some M)
  c0 : Wr.cell? ⟨W.heap.size, 0, none⟩ = some (.int .i64 (a : Int))
  c1 : Wr.cell? ⟨W.heap.size, 1, none⟩ = some (.int .i64 (b : Int))
theorem Inv.step {W Wr W' : World} {a b B1 B2 M : Nat} (h : Inv W Wr a b B1 B2 M) (hM : M < W.heap.size) (hm : ∃ f', Mem W' B1 B2 M f') (hg : Wr.grownBy W' (some M)) : Inv W W' a b B1 B2 M :=
  ⟨hm, h.g.trans hg, cell_kept h.c0 hg (by simp; omega), cell_kept h.c1 hg (by simp; omega)⟩
theorem Inv.below {W Wr W' : World} {a b B1 B2 M : Nat} (h : Inv W Wr a b B1 B2 M) (hM : M < W.heap.size) (hb : Below Wr.heap.size Wr W') : Inv W W' a b B1 B2 M := by
  obtain ⟨f', hm⟩ := h.m
  exact h.step hM ⟨f', hm.grown (grown_of_below hb)⟩ (grown_none (grown_of_below hb))
theorem flat_len {α β : Type} (g : α → List β) (n : Nat) : ∀ l : List α, (∀ x ∈ l, (g x).length = n) → (l.flatMap g).length = l.length * n
  | [], _ => by simp
  | x :: l, h => by
    rw [List.flatMap_cons, List.length_append, h x (List.mem_cons_self ..), flat_len g n l (fun y hy => h y (List.mem_cons_of_mem _ hy)), List.length_cons, Nat.add_mul]
    omega
theorem allKeys_len : allKeys.length = 65 * (65 * 65) := by
  unfold allKeys
  rw [flat_len _ (65 * 65) _ (fun x _ => ?_), List.length_range]
  rw [flat_len _ 65 _ (fun y _ => ?_), List.length_range]
  rw [List.length_map, List.length_range]
theorem mem_allKeys {a b q : Nat} (ha : a ≤ 64) (hb : b ≤ 64) (hq : q ≤ 64) : Lit.string (keyBytes [.int .i64 (a : Nat), .int .i64 (b : Nat), .int .i64 (q : Nat)]) ∈ allKeys := by
  unfold allKeys
  rw [List.mem_flatMap]
  refine ⟨a, List.mem_range.2 (by omega), ?_⟩
  rw [List.mem_flatMap]
  refine ⟨b, List.mem_range.2 (by omega), ?_⟩
  rw [List.mem_map]
  exact ⟨q, List.mem_range.2 (by omega), rfl⟩
theorem Mem.put {w : World} {B1 B2 M : Nat} {f : Lit → Option Value} (h : Mem w B1 B2 M f) (q a b : Nat) (x y : Nat) (z : Bool) (hq : q ≤ 60) (hs : a + b ≤ 64) (hr : solveP (q + 1) a b = (x, y, z)) :
    ∃ wm, (Instr.mapUpdate 94 (.map (some M)) (.agg #[.int .i64 (a : Int), .int .i64 (b : Int), .int .i64 ((q : Int) + 1)]) (.agg #[.int .i64 (x : Int), .int .i64 (y : Int), .bool z])).run Try.prog w = .ok () wm ∧ (∃ f', Mem wm B1 B2 M f') ∧ w.grownBy wm (some M) := by
  have hk := key99 a b ((q : Int) + 1) (by go_wf) (by go_wf) (by go_wf)
  obtain ⟨wm, hrun, hmv, hg⟩ := h.m.store keyed99 Try.underlying94 (by rw [allKeys_len]; decide) hk (.agg #[.int .i64 (x : Int), .int .i64 (y : Int), .bool z])
  have sup : ∀ kl, putV f (.string (keyBytes [.int .i64 a, .int .i64 b, .int .i64 ((q : Int) + 1)])) (.agg #[.int .i64 (x : Int), .int .i64 (y : Int), .bool z]) kl ≠ none → kl ∈ allKeys := by
    intro kl hkl
    by_cases e : kl = .string (keyBytes [.int .i64 a, .int .i64 b, .int .i64 ((q : Int) + 1)])
    · rw [e]
      have := mem_allKeys (a := a) (b := b) (q := q + 1) (by omega) (by omega) (by omega)
      rw [show ((q + 1 : Nat) : Int) = (q : Int) + 1 by omega] at this
      exact this
    · exact h.sup kl (by simpa [putV, sameKey_ne e] using hkl)
  refine ⟨wm, hrun, ⟨_, cell_grown h.c1 hg (by simp; exact h.n1), cell_grown h.c2 hg (by simp; exact h.n2), h.n1, h.n2, (hmv.tight keyed99 allKeys ?_), ?_, ?_⟩, hg⟩
  · exact sup
  · intro a' b' q' v ha hb hq' hv
    by_cases e : Lit.string (keyBytes [.int .i64 (a' : Int), .int .i64 (b' : Int), .int .i64 (q' : Int)]) = .string (keyBytes [.int .i64 a, .int .i64 b, .int .i64 ((q : Int) + 1)])
    · obtain ⟨e1, e2, e3⟩ := key99_inj (by go_wf) (by go_wf) (by go_wf) (by go_wf) (by go_wf) (by go_wf) e
      have e1 : a' = a := by omega
      have e2 : b' = b := by omega
      have e3 : q' = q + 1 := by omega
      subst e1 e2 e3
      rw [hr]
      rw [e] at hv
      simp only [putV, WideAt.sameKey_self (keyed99.key hk), if_true, Option.some.injEq] at hv
      exact hv.symm
    · exact h.knows a' b' q' v ha hb hq' (by simpa [putV, sameKey_ne e] using hv)
  · exact sup
theorem firstY_step (t : Nat → Bool) (m y : Nat) (h : t y = false) : firstY t (m + 1) y = firstY t m (y + 1) := by rw [firstY, h]; simp
theorem firstX_step (t : Nat → Nat → Bool) (b m x : Nat) (h : firstY (t x) (b + 1) 0 = none) : firstX t b (m + 1) x = firstX t b m (x + 1) := by rw [firstX, h]
def TT (q a b x y : Nat) : Bool := (solveP q x (y + a - x)).2.2 && (solveP q (a - x) (b - y + x)).2.2

set_option maxHeartbeats 8000000 in
set_option maxRecDepth 100000 in
theorem solve_new (q a b B1 B2 M : Nat) (f : Lit → Option Value) (W : World) (hq : q ≤ 60) (ih : SolveAt q) (hab : 1 < a + b) (hs : a + b ≤ 64) (hw : ¬ 2 ^ (q + 1) < a * (q + 2) + b) (hm : Mem W B1 B2 M f)
  (hf : f (.string (keyBytes [.int .i64 a, .int .i64 b, .int .i64 ((q : Int) + 1)])) = none) :
  Calls Try.prog 87 #[.agg #[.int .i64 (a : Int), .int .i64 (b : Int)], .int .i64 ((q : Int) + 1), .pointer (some ⟨B1, 0, none⟩), .pointer (some ⟨B2, 0, none⟩)] W fun e W' =>
    e = .returned (.tuple #[.int .i64 ((solveP (q + 1) a b).1 : Int), .int .i64 ((solveP (q + 1) a b).2.1 : Int), .bool (solveP (q + 1) a b).2.2]) ∧ (∃ f', Mem W' B1 B2 M f') ∧ W.grownBy W' (some M) := by
  have HM := Aside0.mk hm
  have HF := Aside0.mk hf
  have IH := Aside0.mk ih
  clear hf ih
  have h1 : ¬ ((a : Int) + (b : Int) ≤ 1) := by omega
  have hqz : ¬ ((q : Int) + 1 = 0) := by omega
  clear hm
  go_enter Try.func87, Try.ntmps87
  go_wp2_with fail
  have hd : decide ((q : Int) + 1 = 0) = false := by simpa using hqz
  have hd' : (((q : Int) + 1) == 0) = false := by simpa using hqz
  have hp := pow_wrap q hq
  have hw2 : ¬ (2 : Int) ^ (q + 1) < (a : Int) * ((q : Int) + 2) + b := by
    intro h
    have : ((2 ^ (q + 1) : Nat) : Int) < ((a * (q + 2) + b : Nat) : Int) := by simpa using h
    exact hw (Int.ofNat_lt.1 this)
  have HW := Aside0.mk hw
  clear hw
  go_region_with (first | (go_at_call 46; refine (weight_calls q a b _ hq hs).mono ?_; rintro e w1 ⟨rfl, hb⟩; have hbw : Below W.heap.size W w1 := below_step (by repeat (first | exact Below.refl _ _ | apply below_drew1 | apply below_alloc)) hb; have HB := Aside0.mk hbw; have HM1 := Aside0.mk (HM.out.grown (grown_of_below hbw));  have ⟨k0, k1⟩ := box_cells W a b; have g0 := cell_kept k0 (grown_of_below (below_step (by repeat (first | exact Below.refl _ _ | apply below_drew1 | apply below_alloc)) hb)) (by simp); have g1 := cell_kept k1 (grown_of_below (below_step (by repeat (first | exact Below.refl _ _ | apply below_drew1 | apply below_alloc)) hb)) (by simp); have g2 := HM1.out.c1; have hlk := HM1.out.m.look_ok (e := 96) keyed99 Try.underlying94 (best0 w1) (key99 a b ((q : Int) + 1) (by go_wf) (by go_wf) (by go_wf)); rw [HF.out] at hlk; simp only [Option.getD_none, Option.isSome_none] at hlk; have hBa : Below w1.heap.size w1 (w1.alloc (Obj.cells #[.int .i64 0, .int .i64 0, .bool false] 96)) := below_alloc (Below.refl _ _) _; have j0 := cell_kept g0 (grown_of_below hBa) (by simp); have j1 := cell_kept g1 (grown_of_below hBa) (by simp); have HMa := Aside0.mk (HM1.out.grown (grown_of_below hBa)); have HBa := Aside0.mk (below_step hbw hBa); clear k0 k1 hb hbw hBa))
  have hM : M < W.heap.size := HM.out.m.lt
  go_wp2_with fail
  have hI0 : Inv W (w1.alloc (Obj.cells #[.int .i64 0, .int .i64 0, .bool false] 96)) a b B1 B2 M := ⟨⟨f, HMa.out⟩, grown_none (grown_of_below HBa.out), j0, j1⟩
  clear j0 j1 g0 g1 g2 hlk hd hd' hw2
  go_loopw [55] (fun i wr => ∃ x : Nat, x ≤ a + 1 ∧ i = .int .i64 x ∧ Inv W wr a b B1 B2 M ∧ firstX (TT q a b) b (a + 1) 0 = firstX (TT q a b) b (a + 1 - x) x) (fun i _ => a + 1 - (intOf i).toNat)
  case atStart => exact ⟨0, by omega, rfl, hI0, rfl⟩
  case round =>
    obtain ⟨x, hx, rfl, hinv, hfx⟩ := hrel
    by_cases hlt : x < a + 1
    · have k1 := hinv.c1
      have HI := Aside0.mk hinv
      have HX := Aside0.mk hfx
      clear hinv hfx
      have b1 := eq_true (show (x : Int) < (a : Int) + 1 by omega)
      go_wp2_with fail
      go_loopw [61] (fun i wr => ∃ y : Nat, y ≤ b + 1 ∧ i = .int .i64 y ∧ Inv W wr a b B1 B2 M ∧ firstY (TT q a b x) (b + 1) 0 = firstY (TT q a b x) (b + 1 - y) y) (fun i _ => b + 1 - (intOf i).toNat)
      case atStart => exact ⟨0, by omega, rfl, HI.out, rfl⟩
      case round =>
        obtain ⟨y, hy, rfl, hinv, hfy⟩ := hrel
        by_cases hlt2 : y < b + 1
        · have k1 := hinv.c1
          have k0 := hinv.c0
          have HI := Aside0.mk hinv
          have HY := Aside0.mk hfy
          clear hinv hfy
          have b2 := eq_true (show (y : Int) < (b : Int) + 1 by omega)
          obtain ⟨u1, u2, hA⟩ : ∃ u1 u2 : Nat, solveP q x (y + a - x) = (u1, u2, (solveP q x (y + a - x)).2.2) := ⟨_, _, rfl⟩
          obtain ⟨v1, v2, hB⟩ : ∃ v1 v2 : Nat, solveP q (a - x) (b - y + x) = (v1, v2, (solveP q (a - x) (b - y + x)).2.2) := ⟨_, _, rfl⟩
          have HT := Aside0.mk (show TT q a b x y = ((solveP q x (y + a - x)).2.2 && (solveP q (a - x) (b - y + x)).2.2) from rfl)
          generalize (solveP q x (y + a - x)).2.2 = zA at hA HT
          generalize (solveP q (a - x) (b - y + x)).2.2 = zB at hB HT
          have C1 : ∀ (wr : World) (f' : Lit → Option Value), Mem wr B1 B2 M f' → Calls Try.prog 87 #[.agg #[.int .i64 (x : Int), .int .i64 ((y : Int) + a - x)], .int .i64 (q : Int), .pointer (some ⟨B1, 0, none⟩), .pointer (some ⟨B2, 0, none⟩)] wr fun e W' => e = .returned (.tuple #[.int .i64 (u1 : Int), .int .i64 (u2 : Int), .bool zA]) ∧ (∃ f', Mem W' B1 B2 M f') ∧ wr.grownBy W' (some M) := by
            intro wr f' hm'
            have := IH.out x (y + a - x) B1 B2 M f' wr (by omega) hm'
            rw [show ((y + a - x : Nat) : Int) = (y : Int) + a - x by omega, hA] at this
            exact this
          have C2 : ∀ (wr : World) (f' : Lit → Option Value), Mem wr B1 B2 M f' → Calls Try.prog 87 #[.agg #[.int .i64 ((a : Int) - x), .int .i64 ((b : Int) - y + x)], .int .i64 (q : Int), .pointer (some ⟨B1, 0, none⟩), .pointer (some ⟨B2, 0, none⟩)] wr fun e W' => e = .returned (.tuple #[.int .i64 (v1 : Int), .int .i64 (v2 : Int), .bool zB]) ∧ (∃ f', Mem W' B1 B2 M f') ∧ wr.grownBy W' (some M) := by
            intro wr f' hm'
            have := IH.out (a - x) (b - y + x) B1 B2 M f' wr (by omega) hm'
            rw [show ((b - y + x : Nat) : Int) = (b : Int) - y + x by omega, show ((a - x : Nat) : Int) = (a : Int) - x by omega, hB] at this
            exact this
          have C1 := Aside0.mk C1
          have C2 := Aside0.mk C2
          clear hA hB
          have hres : zA = true → zB = true → solveP (q + 1) a b = (x, y, true) := by
            intro ea eb
            have e1 : TT q a b x y = true := by rw [HT.out, ea, eb]; rfl
            have e2 := HY.out
            rw [show b + 1 - y = (b - y) + 1 by omega] at e2
            unfold firstY at e2
            rw [e1] at e2
            simp only [if_true] at e2
            have e3 := HX.out
            rw [show a + 1 - x = (a - x) + 1 by omega] at e3
            unfold firstX at e3
            rw [show firstY (TT q a b x) (b + 1) 0 = some y from e2] at e3
            unfold solveP
            rw [if_neg (by omega), if_neg HW.out]
            rw [show firstX (fun x y => (solveP q x (y + a - x)).2.2 && (solveP q (a - x) (b - y + x)).2.2) b (a + 1) 0 = some (x, y) from e3]
          have HR := Aside0.mk hres
          clear hres
          cases zA
          · go_wp2_with (first | (go_at_call 66; refine (after_calls a b x y _ hs (by omega) (by omega)).mono ?_; rintro e w2 ⟨rfl, hb⟩; have hI2 := HI.out.below hM (below_step hb (below_alloc (below_alloc (Below.refl _ _) (Obj.cells #[.int .i64 (x : Int), .int .i64 ((y : Int) + a - x)] 58)) (Obj.cells #[.int .i64 ((a : Int) - x), .int .i64 ((b : Int) - y + x)] 58))); obtain ⟨f2, hm2⟩ := hI2.m; have m2 := hm2.c2; have HM2 := Aside0.mk hm2; have HI2 := Aside0.mk hI2; clear hI2 hm2) | (go_at_call_of 87 ((y : Int) + a - x); with_reducible refine (C1.out _ _ HM2.out).mono ?_; rintro e w3 ⟨rfl, hm3, hg3⟩; have HI3 := Aside0.mk (HI2.out.step hM hm3 hg3); clear hm3 hg3))
            go_roundw
            case rel => exact ⟨y + 1, by omega, by go_num, HI3.out, by rw [HY.out, show b + 1 - y = (b - y) + 1 by omega, show b + 1 - (y + 1) = b - y by omega]; exact firstY_step _ _ _ (by rw [HT.out]; rfl)⟩
            case measure => simp [intOf]; omega
          · cases zB
            · go_wp2_with (first
                | (go_at_call 66; refine (after_calls a b x y _ hs (by omega) (by omega)).mono ?_; rintro e w2 ⟨rfl, hb⟩; have hI2 := HI.out.below hM (below_step hb (below_alloc (below_alloc (Below.refl _ _) (Obj.cells #[.int .i64 (x : Int), .int .i64 ((y : Int) + a - x)] 58)) (Obj.cells #[.int .i64 ((a : Int) - x), .int .i64 ((b : Int) - y + x)] 58))); have hsz : M < w2.heap.size := Nat.lt_of_lt_of_le hM (Nat.le_trans HI.out.g.size hb.size); have HS := Aside0.mk hsz; have n0 := (box_cells (w2.alloc (Obj.cells #[.int .i64 (x : Int), .int .i64 ((y : Int) + a - x)] 58)) ((a : Int) - x) ((b : Int) - y + x)).1; have n1 := (box_cells (w2.alloc (Obj.cells #[.int .i64 (x : Int), .int .i64 ((y : Int) + a - x)] 58)) ((a : Int) - x) ((b : Int) - y + x)).2; rw [show (w2.alloc (Obj.cells #[.int .i64 (x : Int), .int .i64 ((y : Int) + a - x)] 58)).heap.size = w2.heap.size + 1 by simp] at n0 n1; have N0 := Aside0.mk n0; have N1 := Aside0.mk n1; obtain ⟨f2, hm2⟩ := hI2.m; have m2 := hm2.c2; have HM2 := Aside0.mk hm2; have HI2 := Aside0.mk hI2; clear hI2 hm2 hsz n0 n1)
                | (go_at_call_of 87 ((y : Int) + a - x); with_reducible refine (C1.out _ _ HM2.out).mono ?_; rintro e w3 ⟨rfl, hm3, hg3⟩; have i0 := cell_kept N0.out hg3 (by simp; have := HS.out; omega); have i1 := cell_kept N1.out hg3 (by simp; have := HS.out; omega); have hI3 := HI2.out.step hM hm3 hg3; obtain ⟨f3, hm3'⟩ := hI3.m; have m3 := hm3'.c2; have HM3 := Aside0.mk hm3'; have HI3 := Aside0.mk hI3; clear hm3 hg3 hI3 hm3')
                | (go_at_call_of 87 ((b : Int) - y + x); with_reducible refine (C2.out _ _ HM3.out).mono ?_; rintro e w4 ⟨rfl, hm4, hg4⟩; have HI4 := Aside0.mk (HI3.out.step hM hm4 hg4); clear hm4 hg4))
              go_roundw
              case rel => exact ⟨y + 1, by omega, by go_num, HI4.out, by rw [HY.out, show b + 1 - y = (b - y) + 1 by omega, show b + 1 - (y + 1) = b - y by omega]; exact firstY_step _ _ _ (by rw [HT.out]; rfl)⟩
              case measure => simp [intOf]; omega
            · have HR2 := Aside0.mk (HR.out rfl rfl)
              clear HR
              go_wp2_with (first
                | (go_at_call 66; refine (after_calls a b x y _ hs (by omega) (by omega)).mono ?_; rintro e w2 ⟨rfl, hb⟩; have hI2 := HI.out.below hM (below_step hb (below_alloc (below_alloc (Below.refl _ _) (Obj.cells #[.int .i64 (x : Int), .int .i64 ((y : Int) + a - x)] 58)) (Obj.cells #[.int .i64 ((a : Int) - x), .int .i64 ((b : Int) - y + x)] 58))); have hsz : M < w2.heap.size := Nat.lt_of_lt_of_le hM (Nat.le_trans HI.out.g.size hb.size); have HS := Aside0.mk hsz; have n0 := (box_cells (w2.alloc (Obj.cells #[.int .i64 (x : Int), .int .i64 ((y : Int) + a - x)] 58)) ((a : Int) - x) ((b : Int) - y + x)).1; have n1 := (box_cells (w2.alloc (Obj.cells #[.int .i64 (x : Int), .int .i64 ((y : Int) + a - x)] 58)) ((a : Int) - x) ((b : Int) - y + x)).2; rw [show (w2.alloc (Obj.cells #[.int .i64 (x : Int), .int .i64 ((y : Int) + a - x)] 58)).heap.size = w2.heap.size + 1 by simp] at n0 n1; have N0 := Aside0.mk n0; have N1 := Aside0.mk n1; obtain ⟨f2, hm2⟩ := hI2.m; have m2 := hm2.c2; have HM2 := Aside0.mk hm2; have HI2 := Aside0.mk hI2; clear hI2 hm2 hsz n0 n1)
                | (go_at_call_of 87 ((y : Int) + a - x); with_reducible refine (C1.out _ _ HM2.out).mono ?_; rintro e w3 ⟨rfl, hm3, hg3⟩; have i0 := cell_kept N0.out hg3 (by simp; have := HS.out; omega); have i1 := cell_kept N1.out hg3 (by simp; have := HS.out; omega); have hI3 := HI2.out.step hM hm3 hg3; obtain ⟨f3, hm3'⟩ := hI3.m; have m3 := hm3'.c2; have HM3 := Aside0.mk hm3'; have HI3 := Aside0.mk hI3; clear hm3 hg3 hI3 hm3')
                | (go_at_call_of 87 ((b : Int) - y + x); with_reducible refine (C2.out _ _ HM3.out).mono ?_; rintro e w4 ⟨rfl, hm4, hg4⟩; have hI4 := HI3.out.step hM hm4 hg4; have o0 := hI4.c0; have o1 := hI4.c1; obtain ⟨f4, hm4'⟩ := hI4.m; have m4 := hm4'.c1; obtain ⟨wm, hrun, hmm, hgm⟩ := hm4'.put q a b x y true hq hs HR2.out; have HMM := Aside0.mk hmm; have HGM := Aside0.mk (hI4.g.trans hgm); clear hm4 hg4 hI4 hm4' hmm hgm))
              go_ret3
              exact ⟨by rw [HR2.out]; rfl, HMM.out, HGM.out⟩
        · have e : y = b + 1 := by omega
          subst e
          have HI := Aside0.mk hinv
          have HY := Aside0.mk hfy
          clear hinv hfy
          have b2 := eq_false (show ¬ (((b + 1 : Nat) : Int) < (b : Int) + 1) by omega)
          go_wp2_with fail
          go_roundw
          case rel => exact ⟨x + 1, by omega, by go_num, HI.out, by
            have e2 := HY.out
            rw [show b + 1 - (b + 1) = 0 by omega] at e2
            rw [HX.out, show a + 1 - x = (a - x) + 1 by omega, show a + 1 - (x + 1) = a - x by omega]
            exact firstX_step _ _ _ _ e2⟩
          case measure => simp [intOf]; omega
    · have e : x = a + 1 := by omega
      subst e
      have hres : solveP (q + 1) a b = (0, 0, false) := by
        rw [show a + 1 - (a + 1) = 0 by omega] at hfx
        unfold solveP
        rw [if_neg (by omega), if_neg HW.out]
        rw [show firstX (fun x y => (solveP q x (y + a - x)).2.2 && (solveP q (a - x) (b - y + x)).2.2) b (a + 1) 0 = none from hfx]
      have o0 := hinv.c0
      have o1 := hinv.c1
      obtain ⟨f4, hm4⟩ := hinv.m
      have m4 := hm4.c1
      obtain ⟨wm, hrun, hmm, hgm⟩ := hm4.put q a b 0 0 false hq hs hres
      have hrun' : (Instr.mapUpdate 94 (.map (some M)) (.agg #[.int .i64 (a : Int), .int .i64 (b : Int), .int .i64 ((q : Int) + 1)]) (.agg #[.int .i64 0, .int .i64 0, .bool false])).run Try.prog _ = .ok () wm := hrun
      clear hrun
      have HMM := Aside0.mk hmm
      have HGM := Aside0.mk (hinv.g.trans hgm)
      have HR := Aside0.mk hres
      clear hm4 hmm hgm hinv hfx hres
      have b1 := eq_false (show ¬ (((a + 1 : Nat) : Int) < (a : Int) + 1) by omega)
      go_wp2_with fail
      go_ret3
      exact ⟨by rw [HR.out]; rfl, HMM.out, HGM.out⟩
theorem solve_all : ∀ q, q ≤ 60 → SolveAt q
  | 0, _ => by
    intro a b B1 B2 M f W hs hm
    by_cases h : a + b ≤ 1
    · have := solve_small 0 a b B1 B2 M f W h hm
      have e : solveP 0 a b = (0, 0, true) := by unfold solveP; rw [decide_eq_true h]
      rw [e]
      exact this
    · have := solve_none a b B1 B2 M f W (by omega) hs hm
      have e : solveP 0 a b = (0, 0, false) := by unfold solveP; rw [decide_eq_false h]
      rw [e]
      exact this
  | q + 1, hq => by
    have ih := solve_all q (by omega)
    intro a b B1 B2 M f W hs hm
    rw [show ((q + 1 : Nat) : Int) = (q : Int) + 1 by omega]
    by_cases h : a + b ≤ 1
    · have := solve_small (q + 1) a b B1 B2 M f W h hm
      have e : solveP (q + 1) a b = (0, 0, true) := by unfold solveP; rw [if_pos h]
      rw [e]
      exact this
    · by_cases hw : 2 ^ (q + 1) < a * (q + 2) + b
      · have := solve_heavy q a b B1 B2 M f W (by omega) (by omega) hs hw hm
        have e : solveP (q + 1) a b = (0, 0, false) := by unfold solveP; rw [if_neg h, if_pos hw]
        rw [e]
        exact this
      · cases hf : f (.string (keyBytes [.int .i64 a, .int .i64 b, .int .i64 ((q : Int) + 1)])) with
        | none => exact solve_new q a b B1 B2 M f W (by omega) ih (by omega) hs hw hm hf
        | some v =>
          have hk := hm.knows a b (q + 1) v (by omega) (by omega) (by omega) hf
          subst hk
          exact solve_found q a b B1 B2 M f W (by omega) (by omega) hs hw hm _ _ _ hf
end Go.Proofs.Ytfejfljgdeglgaa.K
