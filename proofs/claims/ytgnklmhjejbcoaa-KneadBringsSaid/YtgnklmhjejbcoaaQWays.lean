/- The pure statement of KneadWays: for all whole numbers the law answers true. -/
import Derived.Test.YtgnklmhjejbcoaaQC
import Derived.Test.YtgnklmhjejbcoaaQV
import Derived.Test.YtgnklmhjejbcoaaK17
import Derived.Test.YtgnklmhjejbcoaaK4
namespace Go.Proofs.Ytgnklmhjejbcoaa.K
open Go.RowKit Go.Proofs.YtgnklmhjejbcoaaW.PrintWords Go.Proofs.YtgnklmhjejbcoaaW.PrintLast Go.Proofs.YtgnklmhjejbcoaaW.PrintMore
set_option linter.unusedVariables false
set_option linter.unusedSimpArgs false

theorem way_ok {n p t : Nat} (hn : lumps (n : Int) = true) (hp : p < n) (ht : t < n) : ∃ wd, bfs n 100000 (startW p) = some wd ∧ oneChk n p t (wd t) = true := by
  have hc := lumps_nat hn
  have h := way_all
  rw [List.all_eq_true] at h
  have h1 := h (n / 2 - 1) (List.mem_range.2 (by omega))
  rw [show 2 * (n / 2 - 1 + 1) = n by omega] at h1
  unfold wayChk at h1
  rw [List.all_eq_true] at h1
  have h2 := h1 p (List.mem_range.2 hp)
  split at h2
  · cases h2
  · rename_i wd hwd
    rw [List.all_eq_true] at h2
    exact ⟨wd, hwd, h2 t (List.mem_range.2 ht)⟩

/-- What the table of distances has to be. -/
structure Dist (n t : Nat) (d : Nat → Nat) : Prop where
  zero : d t = 0
  le : ∀ p, p < n → d p ≤ 1 + d (stepN n p 0) ∧ d p ≤ 1 + d (stepN n p 1)
  ex : ∀ p, p < n → p = t ∨ d p = 1 + d (stepN n p 0) ∨ d p = 1 + d (stepN n p 1)
  small : ∀ p, p < n → d p ≤ 5 ∧ d p ≤ n
theorem dist_ok {n t : Nat} (hn : lumps (n : Int) = true) (ht : t < n) : Dist n t (dist n t) := by
  have h : ∀ p, p < n → _ := fun p hp => (way_ok hn hp ht)
  refine ⟨by simp [dist], fun p hp => ?_, fun p hp => ?_, fun p hp => ?_⟩ <;>
  · obtain ⟨wd, _, hw⟩ := h p hp
    simp only [oneChk, Bool.and_eq_true, decide_eq_true_eq] at hw
    first
      | exact ⟨hw.1.1.1.1.2, hw.1.1.1.2⟩
      | exact hw.1.1.2
      | exact ⟨hw.1.2, hw.2⟩

/-- The table before the place i of a round. -/
structure Mid (n t : Nat) (d : Nat → Nat) (r i : Nat) (x : List Int) : Prop where
  len : x.length = n
  lo : ∀ p, p < n → (d p : Int) ≤ x.getD p 0
  hi : ∀ p, p < n → x.getD p 0 ≤ 1000
  eq : ∀ p, p < n → d p ≤ r → x.getD p 0 = d p
  eq1 : ∀ p, p < i → d p ≤ r + 1 → x.getD p 0 = d p

theorem mn_eq (a b : Int) : mn a b = if b < a then b else a := rfl
theorem way_l2 {n t : Nat} {d : Nat → Nat} (D : Dist n t d) (hn : n % 2 = 0) (hs : n ≤ 32) (ht : t < n) (p : Int) (r : Nat) : ∀ (m i : Nat) (x : List Int), i + m = n → Mid n t d r i x →
    ∃ y, Mid n t d (r + 1) 0 y ∧ ∀ k, verditerref07_Way.l2 (m + 1 + k) (n : Int) p (t : Int) x (r : Int) (i : Int) = verditerref07_Way.l1 k (n : Int) p (t : Int) y (wrap64 ((r : Int) + 1)) := by
  intro m
  induction m with
  | zero =>
    intro i x h1 hm
    refine ⟨x, ⟨hm.len, hm.lo, hm.hi, fun q hq hd => hm.eq1 q (by omega) hd, fun q hq => by omega⟩, fun k => ?_⟩
    rw [show 0 + 1 + k = k + 1 by omega]
    simp only [verditerref07_Way.l2]
    rw [if_neg (by omega)]
  | succ m ih =>
    intro i x h1 hm
    have hi : i < n := by omega
    have hl := hm.len
    have s0 := step_lt hn (show 0 ≤ 1 by omega) hi
    have s1 := step_lt hn (show 1 ≤ 1 by omega) hi
    have g0 : verditerref07_goes.f (n : Int) 0 (i : Int) = some ((stepN n i 0 : Nat) : Int) := goes_eq (n := n) (p := i) (k := 0) hn (by omega) (by omega) hi
    have g1 : verditerref07_goes.f (n : Int) 1 (i : Int) = some ((stepN n i 1 : Nat) : Int) := goes_eq (n := n) (p := i) (k := 1) hn (by omega) (by omega) hi
    have e0 : ∀ q : Nat, rd x (q : Int) = x.getD q 0 := fun q => by unfold rd; rw [Int.toNat_natCast]
    have b0 := hm.hi _ s0
    have b1 := hm.hi _ s1
    have l0 := hm.lo _ s0
    have l1 := hm.lo _ s1
    have li := hm.lo _ hi
    have bi := hm.hi _ hi
    have w0 : wrap64 (1 + x.getD (stepN n i 0) 0) = 1 + x.getD (stepN n i 0) 0 := wrap_small (by omega) (by omega)
    have w1 : wrap64 (1 + x.getD (stepN n i 1) 0) = 1 + x.getD (stepN n i 1) 0 := wrap_small (by omega) (by omega)
    obtain ⟨v, hv⟩ : ∃ v, v = mn (mn (x.getD i 0) (1 + x.getD (stepN n i 0) 0)) (1 + x.getD (stepN n i 1) 0) := ⟨_, rfl⟩
    have hle := D.le i hi
    have hv1 : (d i : Int) ≤ v ∧ v ≤ x.getD i 0 ∧ v ≤ 1 + x.getD (stepN n i 0) 0 ∧ v ≤ 1 + x.getD (stepN n i 1) 0 := by
      rw [hv, mn_eq, mn_eq]
      split <;> split <;> omega
    have hv2 : d i ≤ r + 1 → v = d i := by
      intro hd
      by_cases hz : d i ≤ r
      · have := hm.eq i hi hz
        omega
      · rcases D.ex i hi with e | e | e
        · subst e
          have := D.zero
          omega
        · have := hm.eq _ s0 (by omega)
          omega
        · have := hm.eq _ s1 (by omega)
          omega
    have hM : Mid n t d r (i + 1) (x.set i v) := by
      refine ⟨by rw [List.length_set]; exact hl, fun q hq => ?_, fun q hq => ?_, fun q hq hd => ?_, fun q hq hd => ?_⟩ <;> rw [set_getD x i q v (by omega)] <;> split
      · rename_i e; subst e; exact hv1.1
      · exact hm.lo q hq
      · rename_i e; subst e; omega
      · exact hm.hi q hq
      · rename_i e; subst e; exact hv2 (by omega)
      · exact hm.eq q hq hd
      · rename_i e; subst e; exact hv2 hd
      · exact hm.eq1 q (by omega) hd
    obtain ⟨y, hy, hk⟩ := ih (i + 1) (x.set i v) (by omega) hM
    refine ⟨y, hy, fun k => ?_⟩
    rw [show m + 1 + 1 + k = (m + 1 + k) + 1 by omega]
    simp only [verditerref07_Way.l2]
    rw [if_pos (by omega), if_pos (by omega), if_pos (by omega)]
    rw [g0]
    simp only [Option.bind_some]
    rw [if_pos (by omega), if_pos (by omega), g1]
    simp only [Option.bind_some]
    rw [if_pos (by omega), if_pos (by omega), e0, e0, e0]
    rw [Int.toNat_natCast, w0, w1, ← hv, wrap_nat _ (by omega)]
    exact hk k

theorem way_l1 {n t : Nat} {d : Nat → Nat} (D : Dist n t d) (hn : n % 2 = 0) (hs : n ≤ 32) (ht : t < n) (p : Nat) (hp : p < n) : ∀ (m r : Nat) (x : List Int), r + m = n → Mid n t d r 0 x →
    ∃ y : List Int, y.length = n ∧ (∀ q, q < n → y.getD q 0 = d q) ∧ ∀ k, verditerref07_Way.l1 (m * (n + 2) + 1 + k) (n : Int) (p : Int) (t : Int) x (r : Int) = verditerref07_Way.l3 k (n : Int) (t : Int) y [] (p : Int) := by
  intro m
  induction m with
  | zero =>
    intro r x h1 hm
    refine ⟨x, hm.len, fun q hq => hm.eq q hq (by have := (D.small q hq).2; omega), fun k => ?_⟩
    rw [show 0 * (n + 2) + 1 + k = k + 1 by omega]
    simp only [verditerref07_Way.l1]
    have e0 : rd x (p : Int) = x.getD p 0 := by unfold rd; rw [Int.toNat_natCast]
    have hl := hm.len
    have h5 := hm.eq p hp (by have := (D.small p hp).2; omega)
    have h6 := (D.small p hp).1
    rw [if_neg (by omega), if_pos (by omega), if_pos (by omega), e0, h5, if_neg (by omega)]
  | succ m ih =>
    intro r x h1 hm
    obtain ⟨y, hy, hk⟩ := way_l2 D hn hs ht p r n 0 x (by omega) hm
    obtain ⟨z, hz1, hz2, hz3⟩ := ih (r + 1) y (by omega) hy
    refine ⟨z, hz1, hz2, fun k => ?_⟩
    have hf : (m + 1) * (n + 2) + 1 + k = (n + 1 + (m * (n + 2) + 1 + k)) + 1 := by rw [Nat.succ_mul]; omega
    rw [hf]
    simp only [verditerref07_Way.l1]
    rw [if_pos (by omega)]
    have := hk (m * (n + 2) + 1 + k)
    rw [show ((0 : Nat) : Int) = 0 from rfl] at this
    rw [this, wrap_nat _ (by omega)]
    exact hz3 k
theorem way_l3 {n t : Nat} (D : Dist n t (dist n t)) (hn : n % 2 = 0) (hs : n ≤ 32) (ht : t < n) (y : List Int) (hl : y.length = n) (hy : ∀ q, q < n → y.getD q 0 = dist n t q) : ∀ (f p : Nat) (out : List Int) (k : Nat), p < n → dist n t p < f → out.length + f ≤ 100 → f ≤ k →
    verditerref07_Way.l3 k (n : Int) (t : Int) y out (p : Int) = some (out ++ gr n t f p, true, 0) := by
  intro f
  induction f with
  | zero => intro p out k _ h; omega
  | succ f ih =>
    intro p out k hp hd ho hk
    obtain ⟨k, rfl⟩ : ∃ m, k = m + 1 := ⟨k - 1, by omega⟩
    simp only [verditerref07_Way.l3, gr]
    by_cases hpt : p = t
    · subst hpt
      rw [if_pos rfl, if_pos rfl, List.append_nil]
    · rw [if_neg (by omega), if_neg hpt]
      have s0 := step_lt hn (show 0 ≤ 1 by omega) hp
      have s1 := step_lt hn (show 1 ≤ 1 by omega) hp
      have g0 : verditerref07_goes.f (n : Int) 0 (p : Int) = some ((stepN n p 0 : Nat) : Int) := goes_eq (n := n) (p := p) (k := 0) hn (by omega) (by omega) hp
      have g1 : verditerref07_goes.f (n : Int) 1 (p : Int) = some ((stepN n p 1 : Nat) : Int) := goes_eq (n := n) (p := p) (k := 1) hn (by omega) (by omega) hp
      have e0 : ∀ q : Nat, rd y (q : Int) = y.getD q 0 := fun q => by unfold rd; rw [Int.toNat_natCast]
      have hx := D.ex p hp
      have hsm := D.small p hp
      rw [g0, g1]
      simp only [Option.bind_some]
      rw [if_pos (by omega), if_pos (by omega), if_pos (by omega), if_pos (by omega), e0, e0, hy _ s0, hy _ hp, wrap_small (by omega) (by omega)]
      have hpos : 1 ≤ dist n t p := by rcases hx with e | e | e <;> omega
      by_cases hc : dist n t (stepN n p 0) + 1 = dist n t p
      · rw [if_pos (by omega), if_pos hc, if_pos (by omega), ih _ _ _ s0 (by omega) (by simp; omega) (by omega)]
        simp
      · rw [if_neg (by omega), if_neg hc, if_pos (by omega), ih _ _ _ s1 (by rcases hx with e | e | e <;> omega) (by simp; omega) (by omega)]
        simp
theorem way_l0 {n t : Nat} (hs : n ≤ 32) (ht : t < n) (p : Int) : ∀ (m i k : Nat), i + m = n → verditerref07_Way.l0 (m + 1 + k) (n : Int) p (t : Int) (List.replicate i 1000 ++ List.replicate m 0) (i : Int) = verditerref07_Way.l1 k (n : Int) p (t : Int) ((List.replicate n 1000).set t 0) 0 := by
  intro m
  induction m with
  | zero =>
    intro i k h1
    obtain rfl : i = n := by omega
    rw [show 0 + 1 + k = k + 1 by omega]
    simp only [verditerref07_Way.l0]
    rw [if_neg (by omega), if_pos (by omega), if_pos (by simp; omega)]
    simp
  | succ m ih =>
    intro i k h1
    rw [show m + 1 + 1 + k = (m + 1 + k) + 1 by omega]
    simp only [verditerref07_Way.l0]
    rw [if_pos (by omega), if_pos (by omega), if_pos (by simp; omega), wrap_nat _ (by omega), ← ih (i + 1) k (by omega)]
    congr 1
    rw [Int.toNat_natCast, List.set_append_right _ _ (by simp), List.length_replicate, Nat.sub_self, List.replicate_succ, List.set_cons_zero, List.replicate_succ', List.append_assoc]
    rfl

/-- What Way answers. -/
def wayR (a0 a1 a2 : Int) : List Int × Bool × Int := if lumps a0 then (if a1 < 0 ∨ a1 ≥ a0 ∨ a2 < 0 ∨ a2 ≥ a0 then ([], false, 4) else (gr a0.toNat a2.toNat 10 a1.toNat, true, 0)) else ([], false, 1)
theorem way_R (a0 a1 a2 : Int) : knead_Way.f a0 a1 a2 = some (wayR a0 a1 a2) := by
  unfold knead_Way.f wayR
  rw [isLumps_eq]
  simp only [Option.bind_some]
  cases c : lumps a0 with
  | false => rfl
  | true =>
    have hc := lumps_int c
    simp only [if_true]
    by_cases h : a1 < 0 ∨ a1 ≥ a0 ∨ a2 < 0 ∨ a2 ≥ a0
    · rw [if_pos h, if_pos h]
    · rw [if_neg h, if_neg h, if_pos (by omega)]
      obtain ⟨n, rfl⟩ : ∃ n : Nat, a0 = n := ⟨a0.toNat, by omega⟩
      obtain ⟨p, rfl⟩ : ∃ p : Nat, a1 = p := ⟨a1.toNat, by omega⟩
      obtain ⟨t, rfl⟩ : ∃ t : Nat, a2 = t := ⟨a2.toNat, by omega⟩
      simp only [Int.toNat_natCast]
      obtain ⟨wd, h1, h2⟩ := way_ok (p := p) (t := t) c (by omega) (by omega)
      simp only [oneChk, Bool.and_eq_true, decide_eq_true_eq] at h2
      rw [h1]
      simp only [Option.bind_some]
      rw [h2.1.1.1.1.1.1.1]
      rfl
theorem refWay_R (k : Nat) (a0 a1 a2 : Int) (hk : 3000 ≤ k) : verditerref07_Way.f k a0 a1 a2 = some (wayR a0 a1 a2) := by
  unfold verditerref07_Way.f wayR
  rw [refLumps_eq]
  simp only [Option.bind_some]
  cases c : lumps a0 with
  | false => rfl
  | true =>
    have hc := lumps_int c
    obtain ⟨k, rfl⟩ : ∃ m, k = m + 1 := ⟨k - 1, by omega⟩
    simp only [if_true]
    rw [wrap_small (by omega) (by omega), within_eq, within_eq]
    simp only [Option.bind_some]
    by_cases h1 : 0 ≤ a1 ∧ a1 ≤ a0 - 1
    · rw [if_pos (by simpa using h1)]
      by_cases h2 : 0 ≤ a2 ∧ a2 ≤ a0 - 1
      · rw [show (!decide (0 ≤ a2 ∧ a2 ≤ a0 - 1)) = false by simp [h2], if_neg (by omega)]
        obtain ⟨n, rfl⟩ : ∃ n : Nat, a0 = n := ⟨a0.toNat, by omega⟩
        obtain ⟨p, rfl⟩ : ∃ p : Nat, a1 = p := ⟨a1.toNat, by omega⟩
        obtain ⟨t, rfl⟩ : ∃ t : Nat, a2 = t := ⟨a2.toNat, by omega⟩
        simp only [Int.toNat_natCast, verditerref07_Way.j0, Bool.false_eq_true, if_false]
        rw [if_pos (by omega), if_pos (by omega)]
        have ht : t < n := by omega
        have hp : p < n := by omega
        have D := dist_ok c ht
        have hz := D.zero
        have hM : Mid n t (dist n t) 0 0 ((List.replicate n (1000 : Int)).set t 0) := by
          have hg : ∀ q, q < n → ((List.replicate n (1000 : Int)).set t 0).getD q 0 = if t = q then 0 else 1000 := fun q hq => by
            rw [set_getD _ t q 0 (by simpa using ht)]
            split
            · rfl
            · simp [hq]
          refine ⟨by simp, fun q hq => ?_, fun q hq => ?_, fun q hq hd => ?_, fun q hq => by omega⟩ <;> rw [hg q hq] <;> split
          · rename_i e; subst e; omega
          · have := (D.small q hq).1; omega
          · omega
          · omega
          · rename_i e; subst e; omega
          · rename_i e
            rcases D.ex q hq with e' | e' | e' <;> omega
        obtain ⟨y, hy1, hy2, hy3⟩ := way_l1 D (by omega) (by omega) ht p hp n 0 _ (by omega) hM
        have hb : n * (n + 2) ≤ 32 * 34 := Nat.mul_le_mul (by omega) (by omega)
        obtain ⟨q, rfl⟩ : ∃ q, k = n + 1 + (n * (n + 2) + 1 + q) := ⟨k - (n + 1 + (n * (n + 2) + 1)), by omega⟩
        have e1 := way_l0 (n := n) (t := t) (by omega) ht (p : Int) n 0 (n * (n + 2) + 1 + q) (by omega)
        simp only [List.replicate_zero, List.nil_append] at e1
        have e2 := way_l3 D (by omega) (by omega) ht y hy1 hy2 10 p [] q hp (by have := (D.small p hp).1; omega) (by simp) (by omega)
        have e3 := hy3 q
        rw [show ((0 : Nat) : Int) = 0 from rfl] at e1 e3
        rw [e1, e3, e2, List.nil_append]
      · rw [show (!decide (0 ≤ a2 ∧ a2 ≤ a0 - 1)) = true by simp; omega, if_pos (by omega)]
        simp only [verditerref07_Way.j0, if_true]
    · rw [if_neg (by simpa using h1), if_pos (by omega)]
      simp only [verditerref07_Way.j0, if_true]

theorem wayR_len (a0 a1 a2 : Int) : (wayR a0 a1 a2).1.length ≤ 10 := by
  have hg : ∀ f (n t p : Nat), (gr n t f p).length ≤ f := by
    intro f
    induction f with
    | zero => intro n t p; simp [gr]
    | succ f ih =>
      intro n t p
      rw [gr]
      split
      · simp
      · split
        · have := ih n t (stepN n p 0); simp; omega
        · have := ih n t (stepN n p 1); simp; omega
  unfold wayR
  split
  · split
    · simp
    · exact hg 10 _ _ _
  · simp
namespace Pure
theorem KneadWays : verditerlaw07_KneadWays.Pure := by
  intro a0 a1 a2 _ _ _
  refine ⟨5000, ?_⟩
  unfold verditerlaw07_KneadWays.f
  have hl := wayR_len a0 a1 a2
  rw [refWay_R _ a0 a1 a2 (by omega), way_R]
  simp only [Option.bind_some]
  rw [same_eq _ _ _ (by omega) (by omega)]
  rw [show (5000 : Nat) = 4999 + 1 from rfl]
  simp only [Option.bind_some, decide_true, if_true, bne_self_eq_false, Bool.false_eq_true, if_false, verditerlaw07_KneadWays.j0]
  by_cases hf : (wayR a0 a1 a2).2.1 = true
  · rw [if_pos hf]
    unfold wayR at hf ⊢
    by_cases c : lumps a0 = true
    · rw [if_pos c] at hf ⊢
      have hc := lumps_int c
      by_cases h : a1 < 0 ∨ a1 ≥ a0 ∨ a2 < 0 ∨ a2 ≥ a0
      · rw [if_pos h] at hf
        simp at hf
      · rw [if_neg h]
        obtain ⟨n, rfl⟩ : ∃ n : Nat, a0 = n := ⟨a0.toNat, by omega⟩
        obtain ⟨p, rfl⟩ : ∃ p : Nat, a1 = p := ⟨a1.toNat, by omega⟩
        obtain ⟨t, rfl⟩ : ∃ t : Nat, a2 = t := ⟨a2.toNat, by omega⟩
        simp only [Int.toNat_natCast]
        obtain ⟨wd, h1, h2⟩ := way_ok (p := p) (t := t) c (by omega) (by omega)
        simp only [oneChk, Bool.and_eq_true, decide_eq_true_eq] at h2
        have h3 : wcode (gr n t 10 p) = 0 := h2.1.1.1.1.1.2
        have h4 : alongN n (gr n t 10 p) p = t := h2.1.1.1.1.1.1.2
        have h5 := (wcode_zero h3).1
        rw [place_R _ (n : Int) _ (p : Int) (by omega) (by omega)]
        unfold placeR
        rw [if_pos c, if_pos (by omega), if_pos h3]
        simp only [Option.bind_some, Int.toNat_natCast, h4, if_true]
        rw [known_eq (by omega)]
        rfl
    · rw [if_neg c] at hf
      simp at hf
  · rw [if_neg hf, known_eq (by omega)]
    rfl
end Pure
end Go.Proofs.Ytgnklmhjejbcoaa.K
