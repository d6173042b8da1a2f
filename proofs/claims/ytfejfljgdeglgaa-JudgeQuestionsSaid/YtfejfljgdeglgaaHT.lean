/- What the documents need, Enough and CheckQuestion answer. -/
import Derived.Test.YtfejfljgdeglgaaHTA
import Derived.Test.YtfejfljgdeglgaaK1
import Derived.Test.YtfejfljgdeglgaaK2
namespace Go.Proofs.Ytfejfljgdeglgaa.K
open Go.RowKit Go.Proofs.YtfejfljgdeglgaaW.PrintWords Go.Proofs.YtfejfljgdeglgaaW.PrintLast Go.Proofs.YtfejfljgdeglgaaW.PrintMore
set_option linter.unusedVariables false
set_option linter.unusedSimpArgs false
theorem info66 : (Try.prog.info? 66).map (fun i => (i.zero, i.size)) = some (some (.agg (Array.replicate 33 (.bool false))), 33) := by kernel_rfl
theorem info4b : (Try.prog.info? 4).map (fun i => (i.zero, i.size)) = some (some (.bool false), 1) := by kernel_rfl
theorem sizeOf_of {t : TypeId} {v : Value} {n : Nat} (h : (Try.prog.info? t).map (fun i => (i.zero, i.size)) = some (some v, n)) (w : World) : (sizeOf t).run Try.prog w = .ok n w := by
  cases hq : Try.prog.info? t with
  | none => simp [hq] at h
  | some i =>
    simp [hq] at h
    simp [sizeOf, typeInfo, hq, h.2]
theorem under_run (t : TypeId) (d : TypeDesc) (h : Try.prog.underlying t = some d) (w : World) : (underlying t).run Try.prog w = .ok d w := by
  simp [underlying, h]
theorem index67 (T : Nat → Bool) (a : Nat) (ha : a < 33) (w : World) : (Instr.index 67 (.agg (cellsT T)) (.int .i64 (a : Int))).run Try.prog w = .ok (.agg ((cellsT T).extract (a * 33) (a * 33 + 33))) w := by
  unfold Instr.index
  simp [asIntOf, under_run 67 _ Try.underlying67 w, sizeOf_of info66 w, Result.andThen, ha, part]
theorem index66 (T : Nat → Bool) (a b : Nat) (ha : a < 33) (hb : b < 33) (w : World) : (Instr.index 66 (.agg ((cellsT T).extract (a * 33) (a * 33 + 33))) (.int .i64 (b : Int))).run Try.prog w = .ok (.bool (T (a * 33 + b))) w := by
  have hx : ((cellsT T).extract (a * 33) (a * 33 + 33))[b]? = some (.bool (T (a * 33 + b))) := by
    rw [Array.getElem?_extract, if_pos (by rw [cellsT_size]; omega)]
    exact cellsT_get T (a * 33 + b) (by omega)
  unfold Instr.index
  simp [hx, asIntOf, under_run 66 _ Try.underlying66 w, sizeOf_of info4b w, Result.andThen, hb, part]

theorem enoughAB (a b q : Nat) (ha : a ≤ 16) (hb : b ≤ 16) (hq : q ≤ 12) (w : World) : Calls Try.prog 54 #[.int .i64 ((a : Int) + (b : Int)), .int .i64 (q : Int)] w fun e w' => e = .returned (.agg (cellsT (tabQ (a + b) q))) ∧ Below w.heap.size w w' := by
  have := enough_calls (a + b) q (by omega) hq w
  rw [show ((a + b : Nat) : Int) = (a : Int) + (b : Int) by omega] at this
  exact this
/-- What the document's need answers: the first number of questions, from q on and below 12, that is enough. -/
def needF (a b : Nat) : Nat → Nat → Nat
  | 0, q => q
  | m + 1, q => if tabQ (a + b) q (a * 33 + b) = true then q else needF a b m (q + 1)
def verditerref02_need.f (a b : Int) : Option Int := if 0 ≤ a ∧ a ≤ 16 ∧ 0 ≤ b ∧ b ≤ 16 then some ((needF a.toNat b.toNat 12 0 : Nat) : Int) else none
set_option maxHeartbeats 4000000 in
set_option maxRecDepth 100000 in
theorem verditerref02_need.calls (a0 a1 r : Int) (w : World) (h : verditerref02_need.f a0 a1 = some r) :
    Calls Try.prog 43 #[.int .i64 a0, .int .i64 a1] w fun e w' => e = .returned (.int .i64 r) ∧ Below w.heap.size w w' := by
  unfold verditerref02_need.f at h
  split at h
  case isFalse => cases h
  case isTrue hc =>
    obtain ⟨h0, h1, h2, h3⟩ := hc
    obtain ⟨a, rfl⟩ := Int.eq_ofNat_of_zero_le h0
    obtain ⟨b, rfl⟩ := Int.eq_ofNat_of_zero_le h2
    simp only [Int.toNat_natCast, Option.some.injEq] at h
    subst h
    go_enter Try.func43, Try.ntmps43
    go_wp2
    go_loopw [5] (fun i wr => ∃ q : Nat, q ≤ 12 ∧ i = .int .i64 q ∧ needF a b 12 0 = needF a b (12 - q) q ∧ Below w.heap.size w wr) (fun i _ => 12 - (intOf i).toNat)
    case atStart => exact ⟨0, by omega, rfl, rfl, Below.refl _ _⟩
    case round =>
      obtain ⟨q, hq, rfl, hn, hB⟩ := hrel
      have HN := Aside0.mk hn
      have HB := Aside0.mk hB
      clear hn hB
      by_cases hlt : q < 12
      · have b1 := eq_true (show (q : Int) < 12 by omega)
        have b2 : decide ((q : Int) < 12) = true := decide_eq_true (by omega)
        have i1 := index67 (tabQ (a + b) q) a (by omega)
        have i2 := index66 (tabQ (a + b) q) a b (by omega) (by omega)
        generalize hTv : tabQ (a + b) q (a * 33 + b) = v at i2
        have HT := Aside0.mk hTv
        clear hTv
        cases v
        · go_wp2_with (first | (go_at_call 54; (with_reducible refine (enoughAB a b q (by omega) (by omega) (by omega) _).mono ?_); rintro e w2 ⟨rfl, hb⟩; have HB2 := Aside0.mk (below_step HB.out hb); clear hb))
          go_roundw
          case rel => exact ⟨q + 1, by omega, by go_num, by rw [HN.out, show 12 - q = (12 - (q + 1)) + 1 by omega, needF, HT.out]; simp, HB2.out⟩
          case measure => simp [intOf]; omega
        · go_wp2_with (first | (go_at_call 54; (with_reducible refine (enoughAB a b q (by omega) (by omega) (by omega) _).mono ?_); rintro e w2 ⟨rfl, hb⟩; have HB2 := Aside0.mk (below_step HB.out hb); clear hb))
          go_ret
          exact ⟨by rw [HN.out, show 12 - q = (12 - (q + 1)) + 1 by omega, needF, if_pos HT.out]; rfl, HB2.out⟩
      · have e : q = 12 := by omega
        subst e
        go_wp2
        go_ret
        exact ⟨by rw [HN.out]; rfl, HB.out⟩
theorem rnum' (a b q : Int) : verditerref02_asked.f a b q = some (if 0 ≤ a ∧ a ≤ 16 ∧ 0 ≤ b ∧ b ≤ 16 ∧ 0 ≤ q ∧ q ≤ 12 then 0 else 1) := by
  unfold verditerref02_asked.f
  simp only [rwithin, Option.bind_some, decide_eq_true_eq]
  by_cases h1 : 0 ≤ a ∧ a ≤ 16
  · by_cases h2 : 0 ≤ b ∧ b ≤ 16
    · by_cases h3 : 0 ≤ q ∧ q ≤ 12
      · rw [if_pos h1, if_pos h2, if_pos h3, if_pos (by omega)]
      · rw [if_pos h1, if_pos h2, if_neg h3, if_neg (by omega)]
    · rw [if_pos h1, if_neg h2, if_neg (by omega)]
  · rw [if_neg h1, if_neg (by omega)]
/-- verditerref02.Enough. -/
def verditerref02_Enough.f (a b q : Int) : Option (Bool × Int) := if 0 ≤ a ∧ a ≤ 16 ∧ 0 ≤ b ∧ b ≤ 16 ∧ 0 ≤ q ∧ q ≤ 12 then some (tabQ (a.toNat + b.toNat) q.toNat (a.toNat * 33 + b.toNat), 0) else some (false, 1)
set_option maxHeartbeats 4000000 in
set_option maxRecDepth 100000 in
theorem verditerref02_Enough.calls (a0 a1 a2 : Int) (r1 : Bool) (r2 : Int) (w : World) (h : verditerref02_Enough.f a0 a1 a2 = some (r1, r2)) :
    Calls Try.prog 24 #[.int .i64 a0, .int .i64 a1, .int .i64 a2] w fun e w' => e = .returned (.tuple #[.bool r1, .int .i64 r2]) ∧ Below w.heap.size w w' := by
  unfold verditerref02_Enough.f at h
  have hn := rnum' a0 a1 a2
  by_cases hc : 0 ≤ a0 ∧ a0 ≤ 16 ∧ 0 ≤ a1 ∧ a1 ≤ 16 ∧ 0 ≤ a2 ∧ a2 ≤ 12
  · rw [if_pos hc] at h hn
    obtain ⟨h0, h1, h2, h3, h4, h5⟩ := hc
    obtain ⟨a, rfl⟩ := Int.eq_ofNat_of_zero_le h0
    obtain ⟨b, rfl⟩ := Int.eq_ofNat_of_zero_le h2
    obtain ⟨q, rfl⟩ := Int.eq_ofNat_of_zero_le h4
    simp only [Int.toNat_natCast, Option.some.injEq, Prod.mk.injEq] at h
    obtain ⟨rfl, rfl⟩ := h
    have HN := Aside0.mk hn
    clear hn
    have i1 := index67 (tabQ (a + b) q) a (by omega)
    have i2 := index66 (tabQ (a + b) q) a b (by omega) (by omega)
    go_enter Try.func24, Try.ntmps24
    go_wp2_with (first
      | (go_at_call 42; (with_reducible refine (verditerref02_asked.calls _ _ _ _ _ HN.out).mono ?_); rintro e w' ⟨rfl, ⟨nd, rfl⟩⟩)
      | (go_at_call 54; (with_reducible refine (enoughAB a b q (by omega) (by omega) (by omega) _).mono ?_); rintro e w2 ⟨rfl, hb⟩; have HB2 := Aside0.mk (below_step (pw_below_drewN (Below.refl _ _) _) hb); clear hb))
    go_ret2
    exact ⟨rfl, HB2.out⟩
  · rw [if_neg hc] at h hn
    simp only [Option.some.injEq, Prod.mk.injEq] at h
    obtain ⟨rfl, rfl⟩ := h
    have HN := Aside0.mk hn
    clear hn hc
    go_enter Try.func24, Try.ntmps24
    go_wp2_with (first
      | (go_at_call 42; (with_reducible refine (verditerref02_asked.calls _ _ _ _ _ HN.out).mono ?_); rintro e w' ⟨rfl, ⟨nd, rfl⟩⟩)
      | fail)
    go_ret2
    exact ⟨rfl, pw_below_drewN (Below.refl _ _) _⟩
theorem wrapS {x : Int} (h1 : -9223372036854775808 ≤ x) (h2 : x ≤ 9223372036854775807) : wrap64 x = x := by unfold wrap64; omega
theorem afterYes (a b x y : Nat) (ha : a ≤ 16) (hb : b ≤ 16) (hx : x ≤ a) (hy : y ≤ b) : verditerref02_after.f a b x y true = some ((x : Int), (y : Int) + a - x) := by
  unfold verditerref02_after.f
  rw [if_pos rfl, wrapS (x := (y : Int) + a) (by omega) (by omega), wrapS (x := (y : Int) + a - x) (by omega) (by omega)]
theorem afterNo (a b x y : Nat) (ha : a ≤ 16) (hb : b ≤ 16) (hx : x ≤ a) (hy : y ≤ b) : verditerref02_after.f a b x y false = some ((a : Int) - x, (b : Int) - y + x) := by
  unfold verditerref02_after.f
  rw [if_neg (by decide), wrapS (x := (a : Int) - x) (by omega) (by omega), wrapS (x := (b : Int) - y) (by omega) (by omega), wrapS (x := (b : Int) - y + x) (by omega) (by omega)]
/-- verditerref02.CheckQuestion. -/
def verditerref02_CheckQuestion.f (a b x y q : Int) : Option Int := if 0 ≤ a ∧ a ≤ 16 ∧ 0 ≤ b ∧ b ≤ 16 ∧ 0 ≤ q ∧ q ≤ 12 then (if q = 0 then some 1 else if 0 ≤ x ∧ x ≤ a then (if 0 ≤ y ∧ y ≤ b then some (cond (fT (tabQ (a.toNat + b.toNat) (q.toNat - 1)) a.toNat b.toNat x.toNat y.toNat) 0 7) else some 8) else some 8) else some 1
set_option maxHeartbeats 4000000 in
set_option maxRecDepth 100000 in
theorem verditerref02_CheckQuestion.calls (a0 a1 a2 a3 a4 r : Int) (w : World) (h : verditerref02_CheckQuestion.f a0 a1 a2 a3 a4 = some r) :
    Calls Try.prog 29 #[.int .i64 a0, .int .i64 a1, .int .i64 a2, .int .i64 a3, .int .i64 a4] w fun e w' => e = .returned (.int .i64 r) ∧ Below w.heap.size w w' := by
  unfold verditerref02_CheckQuestion.f at h
  have hn := rnum' a0 a1 a4
  by_cases hc : 0 ≤ a0 ∧ a0 ≤ 16 ∧ 0 ≤ a1 ∧ a1 ≤ 16 ∧ 0 ≤ a4 ∧ a4 ≤ 12
  · rw [if_pos hc] at h hn
    obtain ⟨h0, h1, h2, h3, h4, h5⟩ := hc
    have HN := Aside0.mk hn
    clear hn
    by_cases hq : a4 = 0
    · rw [if_pos hq] at h
      obtain rfl := Option.some.inj h
      subst hq
      clear h
      go_enter Try.func29, Try.ntmps29
      go_wp2_with (first
        | (go_at_call 42; (with_reducible refine (verditerref02_asked.calls _ _ _ _ _ HN.out).mono ?_); rintro e w' ⟨rfl, ⟨nd, rfl⟩⟩)
        | fail)
      go_ret
      exact ⟨rfl, pw_below_drewN (Below.refl _ _) _⟩
    · rw [if_neg hq] at h
      by_cases hx : 0 ≤ a2 ∧ a2 ≤ a0
      · rw [if_pos hx] at h
        have HX := Aside0.mk ((rwithin a2 0 a0).trans (by rw [decide_eq_true hx]) : verditerref02_within.f a2 0 a0 = some true)
        by_cases hy : 0 ≤ a3 ∧ a3 ≤ a1
        · rw [if_pos hy] at h
          have HY := Aside0.mk ((rwithin a3 0 a1).trans (by rw [decide_eq_true hy]) : verditerref02_within.f a3 0 a1 = some true)
          obtain ⟨a, rfl⟩ := Int.eq_ofNat_of_zero_le h0
          obtain ⟨b, rfl⟩ := Int.eq_ofNat_of_zero_le h2
          obtain ⟨x, rfl⟩ := Int.eq_ofNat_of_zero_le hx.1
          obtain ⟨y, rfl⟩ := Int.eq_ofNat_of_zero_le hy.1
          obtain ⟨q, rfl⟩ : ∃ q : Nat, a4 = (q : Int) + 1 := ⟨(a4 - 1).toNat, by omega⟩
          have hx2 : x ≤ a := by omega
          have hy2 : y ≤ b := by omega
          rw [show ((q : Int) + 1).toNat - 1 = q by omega] at h
          simp only [Int.toNat_natCast, Option.some.injEq] at h
          have HA := Aside0.mk (afterYes a b x y (by omega) (by omega) hx2 hy2)
          have HB := Aside0.mk (afterNo a b x y (by omega) (by omega) hx2 hy2)
          have HF : Aside0 (fT (tabQ (a + b) q) a b x y = (tabQ (a + b) q (x * 33 + (y + a - x)) && tabQ (a + b) q ((a - x) * 33 + (b - y + x)))) := ⟨rfl⟩
          have HR := Aside0.mk h
          have hqz : ((q : Int) + 1 == 0) = false := by simp; omega
          have z1 := zero67
          clear h hx hy hq
          obtain ⟨T, hT⟩ : ∃ T, T = tabQ (a + b) q := ⟨_, rfl⟩
          have HT := Aside0.mk hT
          rw [← hT] at HF HR
          clear hT
          obtain ⟨u1, hu1⟩ : ∃ u1, T (x * 33 + (y + a - x)) = u1 := ⟨_, rfl⟩
          obtain ⟨u2, hu2⟩ : ∃ u2, T ((a - x) * 33 + (b - y + x)) = u2 := ⟨_, rfl⟩
          have U1 := Aside0.mk hu1
          have U2 := Aside0.mk hu2
          clear hu1 hu2
          have b0 := eq_true (show x ≤ a from hx2)
          have b1 := eq_true (show y ≤ b from hy2)
          cases u1
          all_goals cases u2
          all_goals go_enter Try.func29, Try.ntmps29
          all_goals go_wp2_with (first
            | (go_at_call 42; (with_reducible refine (verditerref02_asked.calls _ _ _ _ _ HN.out).mono ?_); rintro e w' ⟨rfl, ⟨nd, rfl⟩⟩)
            | (go_at_call 61; (with_reducible refine (verditerref02_within.calls _ _ _ _ _ HX.out).mono ?_); rintro e w' ⟨rfl, ⟨nd, rfl⟩⟩)
            | (go_at_call 61; (with_reducible refine (verditerref02_within.calls _ _ _ _ _ HY.out).mono ?_); rintro e w' ⟨rfl, ⟨nd, rfl⟩⟩)
            | (go_at_call 54; (with_reducible refine (enoughAB a b q (by omega) (by omega) (by omega) _).mono ?_); rintro e w2 ⟨rfl, hb⟩; rw [← HT.out]; have hb1 : Below w.heap.size w w2 := below_step (by repeat (first | exact Below.refl _ _ | apply pw_below_drewN)) hb; have HB2 := Aside0.mk hb1; have hst := store_new w2 T; have hc1 := (World.cell?_alloc_at (w := w2) (cellsT T) 67 w2.heap.size (x * 33 + (y + a - x)) rfl).trans (cellsT_get T (x * 33 + (y + a - x)) (by omega)); rw [U1.out] at hc1; have hc2 := (World.cell?_alloc_at (w := w2) (cellsT T) 67 w2.heap.size ((a - x) * 33 + (b - y + x)) rfl).trans (cellsT_get T ((a - x) * 33 + (b - y + x)) (by omega)); rw [U2.out] at hc2; clear hb1; clear hb)
            | ((with_reducible refine gate_store (t := 67) (p := 12) (v := .tmp 41) rfl ?_); refine store_wp 67 12 (.tmp 41) rfl rfl rfl _ _ rfl rfl hst ?_)
            | (go_at_call 62; (with_reducible refine (verditerref02_after.calls _ _ _ _ _ _ _ _ HA.out).mono ?_); rintro e w' ⟨rfl, ⟨nd, rfl⟩⟩)
            | (go_at_call 62; (with_reducible refine (verditerref02_after.calls _ _ _ _ _ _ _ _ HB.out).mono ?_); rintro e w' ⟨rfl, ⟨nd, rfl⟩⟩))
          all_goals go_ret
          all_goals exact ⟨by rw [← HR.out, HF.out, U1.out, U2.out]; rfl, by repeat (first | exact HB2.out | apply pw_below_drewN | apply below_alloc)⟩
        · rw [if_neg hy] at h
          obtain rfl := Option.some.inj h
          have HY := Aside0.mk ((rwithin a3 0 a1).trans (by rw [decide_eq_false hy]) : verditerref02_within.f a3 0 a1 = some false)
          clear h hx hy
          have hqz : (a4 == 0) = false := by simpa using hq
          go_enter Try.func29, Try.ntmps29
          go_wp2_with (first
            | (go_at_call 42; (with_reducible refine (verditerref02_asked.calls _ _ _ _ _ HN.out).mono ?_); rintro e w' ⟨rfl, ⟨nd, rfl⟩⟩)
            | (go_at_call 61; (with_reducible refine (verditerref02_within.calls _ _ _ _ _ HX.out).mono ?_); rintro e w' ⟨rfl, ⟨nd, rfl⟩⟩)
            | (go_at_call 61; (with_reducible refine (verditerref02_within.calls _ _ _ _ _ HY.out).mono ?_); rintro e w' ⟨rfl, ⟨nd, rfl⟩⟩))
          go_ret
          exact ⟨rfl, by repeat (first | exact Below.refl _ _ | apply pw_below_drewN)⟩
      · rw [if_neg hx] at h
        obtain rfl := Option.some.inj h
        have HX := Aside0.mk ((rwithin a2 0 a0).trans (by rw [decide_eq_false hx]) : verditerref02_within.f a2 0 a0 = some false)
        clear h hx
        have hqz : (a4 == 0) = false := by simpa using hq
        go_enter Try.func29, Try.ntmps29
        go_wp2_with (first
          | (go_at_call 42; (with_reducible refine (verditerref02_asked.calls _ _ _ _ _ HN.out).mono ?_); rintro e w' ⟨rfl, ⟨nd, rfl⟩⟩)
          | (go_at_call 61; (with_reducible refine (verditerref02_within.calls _ _ _ _ _ HX.out).mono ?_); rintro e w' ⟨rfl, ⟨nd, rfl⟩⟩))
        go_ret
        exact ⟨rfl, by repeat (first | exact Below.refl _ _ | apply pw_below_drewN)⟩
  · rw [if_neg hc] at h hn
    obtain rfl := Option.some.inj h
    have HN := Aside0.mk hn
    clear hn hc h
    go_enter Try.func29, Try.ntmps29
    go_wp2_with (first
      | (go_at_call 42; (with_reducible refine (verditerref02_asked.calls _ _ _ _ _ HN.out).mono ?_); rintro e w' ⟨rfl, ⟨nd, rfl⟩⟩)
      | fail)
    go_ret
    exact ⟨rfl, pw_below_drewN (Below.refl _ _) _⟩
end Go.Proofs.Ytfejfljgdeglgaa.K
