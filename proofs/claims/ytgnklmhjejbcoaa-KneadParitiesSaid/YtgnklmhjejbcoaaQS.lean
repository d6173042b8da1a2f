/- Signs of exchanges: the parity of the pairs that change their order. Plain theory, no program in sight. -/
import Derived.Test.YtgnklmhjejbcoaaHF
namespace Go.Proofs.Ytgnklmhjejbcoaa.K
set_option linter.unusedVariables false
set_option linter.unusedSimpArgs false

/-- Whether an odd number of places below m holds more than v. -/
def cntF (f : Nat → Nat) : Nat → Nat → Bool
  | 0, _ => false
  | m + 1, v => xor (cntF f m v) (decide (v < f m))
/-- Whether an odd number of pairs of places below n has changed its order. -/
def parF (f : Nat → Nat) : Nat → Bool
  | 0 => false
  | m + 1 => xor (parF f m) (cntF f m (f m))
theorem cntF_congr {f g : Nat → Nat} : ∀ (m v : Nat), (∀ q, q < m → f q = g q) → cntF f m v = cntF g m v
  | 0, _, _ => rfl
  | m + 1, v, h => by rw [cntF, cntF, cntF_congr m v (fun q hq => h q (by omega)), h m (by omega)]
theorem parF_congr {f g : Nat → Nat} : ∀ (n : Nat), (∀ q, q < n → f q = g q) → parF f n = parF g n
  | 0, _ => rfl
  | m + 1, h => by rw [parF, parF, parF_congr m (fun q hq => h q (by omega)), cntF_congr m _ (fun q hq => h q (by omega)), h m (by omega)]
theorem cntF_id : ∀ (m v : Nat), m ≤ v → cntF (fun x => x) m v = false
  | 0, _, _ => rfl
  | m + 1, v, h => by rw [cntF, cntF_id m v (by omega)]; simp; omega
theorem parF_id : ∀ n, parF (fun x => x) n = false
  | 0 => rfl
  | m + 1 => by rw [parF, parF_id m, cntF_id m m (Nat.le_refl _)]; rfl

/-- Two places exchanged. -/
def sw (a b x : Nat) : Nat := if x = a then b else if x = b then a else x
theorem sw_lt {a b n x : Nat} (ha : a < n) (hb : b < n) (hx : x < n) : sw a b x < n := by unfold sw; split <;> (try split) <;> omega
theorem sw_sw (a b x : Nat) : sw a b (sw a b x) = x := by unfold sw; (repeat' split) <;> omega
def Inj (n : Nat) (f : Nat → Nat) : Prop := ∀ p q, p < n → q < n → f p = f q → p = q
theorem Inj.sw {n : Nat} {f : Nat → Nat} (h : Inj n f) {a b : Nat} (ha : a < n) (hb : b < n) : Inj n (fun x => f (sw a b x)) := fun p q hp hq e => by
  have := h _ _ (sw_lt ha hb hp) (sw_lt ha hb hq) e
  have h2 := congrArg (K.sw a b) this
  rwa [sw_sw, sw_sw] at h2
theorem cntF_adj (f : Nat → Nat) (a v : Nat) : ∀ d, cntF (fun x => f (sw a (a + 1) x)) (a + 2 + d) v = cntF f (a + 2 + d) v
  | 0 => by
    have h1 : cntF (fun x => f (sw a (a + 1) x)) a v = cntF f a v := cntF_congr a v (fun q hq => by show f (sw a (a + 1) q) = f q; congr 1; unfold sw; (repeat' split) <;> omega)
    show xor (xor (cntF (fun x => f (sw a (a + 1) x)) a v) (decide (v < f (sw a (a + 1) a)))) (decide (v < f (sw a (a + 1) (a + 1)))) = xor (xor (cntF f a v) (decide (v < f a))) (decide (v < f (a + 1)))
    rw [h1, show sw a (a + 1) a = a + 1 by simp [sw], show sw a (a + 1) (a + 1) = a by simp [sw]]
    cases cntF f a v <;> cases decide (v < f a) <;> cases decide (v < f (a + 1)) <;> rfl
  | d + 1 => by
    show xor (cntF (fun x => f (sw a (a + 1) x)) (a + 2 + d) v) (decide (v < f (sw a (a + 1) (a + 2 + d)))) = xor (cntF f (a + 2 + d) v) (decide (v < f (a + 2 + d)))
    rw [cntF_adj f a v d, show sw a (a + 1) (a + 2 + d) = a + 2 + d by unfold sw; (repeat' split) <;> omega]
theorem parF_adj (f : Nat → Nat) (a : Nat) (hne : f a ≠ f (a + 1)) : ∀ d, parF (fun x => f (sw a (a + 1) x)) (a + 2 + d) = !parF f (a + 2 + d)
  | 0 => by
    have h1 : ∀ v, cntF (fun x => f (sw a (a + 1) x)) a v = cntF f a v := fun v => cntF_congr a v (fun q hq => by show f (sw a (a + 1) q) = f q; congr 1; unfold sw; (repeat' split) <;> omega)
    have h2 : parF (fun x => f (sw a (a + 1) x)) a = parF f a := parF_congr a (fun q hq => by show f (sw a (a + 1) q) = f q; congr 1; unfold sw; (repeat' split) <;> omega)
    show xor (xor (parF (fun x => f (sw a (a + 1) x)) a) (cntF (fun x => f (sw a (a + 1) x)) a (f (sw a (a + 1) a)))) (xor (cntF (fun x => f (sw a (a + 1) x)) a (f (sw a (a + 1) (a + 1)))) (decide (f (sw a (a + 1) (a + 1)) < f (sw a (a + 1) a)))) = !(xor (xor (parF f a) (cntF f a (f a))) (xor (cntF f a (f (a + 1))) (decide (f (a + 1) < f a))))
    rw [h1, h1, h2, show sw a (a + 1) a = a + 1 by simp [sw], show sw a (a + 1) (a + 1) = a by simp [sw]]
    have h3 : decide (f a < f (a + 1)) = !decide (f (a + 1) < f a) := by
      by_cases h : f a < f (a + 1)
      · have : ¬ f (a + 1) < f a := by omega
        simp [h, this]
      · have : f (a + 1) < f a := by omega
        simp [h, this]
    rw [h3]
    cases parF f a <;> cases cntF f a (f a) <;> cases cntF f a (f (a + 1)) <;> cases decide (f (a + 1) < f a) <;> rfl
  | d + 1 => by
    show xor (parF (fun x => f (sw a (a + 1) x)) (a + 2 + d)) (cntF (fun x => f (sw a (a + 1) x)) (a + 2 + d) (f (sw a (a + 1) (a + 2 + d)))) = !(xor (parF f (a + 2 + d)) (cntF f (a + 2 + d) (f (a + 2 + d))))
    rw [parF_adj f a hne d, cntF_adj, show sw a (a + 1) (a + 2 + d) = a + 2 + d by unfold sw; (repeat' split) <;> omega]
    cases parF f (a + 2 + d) <;> cases cntF f (a + 2 + d) (f (a + 2 + d)) <;> rfl
theorem parF_next {n : Nat} {f : Nat → Nat} (h : Inj n f) (a : Nat) (ha : a + 1 < n) : parF (fun x => f (sw a (a + 1) x)) n = !parF f n := by
  obtain ⟨d, rfl⟩ : ∃ d, n = a + 2 + d := ⟨n - (a + 2), by omega⟩
  exact parF_adj f a (fun e => by have := h a (a + 1) (by omega) (by omega) e; omega) d
theorem sw_conj (a b x : Nat) (hab : a < b) : sw b (b + 1) (sw a b (sw b (b + 1) x)) = sw a (b + 1) x := by unfold sw; (repeat' split) <;> omega
theorem parF_lt {n : Nat} : ∀ (d : Nat) {f : Nat → Nat} (h : Inj n f) (a : Nat), a + 1 + d < n → parF (fun x => f (sw a (a + 1 + d) x)) n = !parF f n
  | 0, f, h, a, ha => parF_next h a ha
  | d + 1, f, h, a, ha => by
    have h1 : Inj n (fun x => f (sw (a + 1 + d) (a + 1 + d + 1) x)) := h.sw (by omega) (by omega)
    have h2 : Inj n (fun x => f (sw (a + 1 + d) (a + 1 + d + 1) (sw a (a + 1 + d) x))) := h1.sw (f := fun x => f (sw (a + 1 + d) (a + 1 + d + 1) x)) (a := a) (b := a + 1 + d) (by omega) (by omega)
    have e1 := parF_next h (a + 1 + d) (by omega)
    have e2 := parF_lt d h1 a (by omega)
    have e3 := parF_next h2 (a + 1 + d) (by omega)
    have e4 : parF (fun x => f (sw a (a + 1 + (d + 1)) x)) n = parF (fun x => f (sw (a + 1 + d) (a + 1 + d + 1) (sw a (a + 1 + d) (sw (a + 1 + d) (a + 1 + d + 1) x)))) n := parF_congr n (fun q _ => by
      show f (sw a (a + 1 + (d + 1)) q) = f (sw (a + 1 + d) (a + 1 + d + 1) (sw a (a + 1 + d) (sw (a + 1 + d) (a + 1 + d + 1) q)))
      rw [sw_conj a (a + 1 + d) q (by omega)]
      rfl)
    rw [e4, e3, e2, e1]
    cases parF f n <;> rfl
theorem sw_comm (a b x : Nat) : sw a b x = sw b a x := by unfold sw; (repeat' split) <;> omega
/-- An exchange of two places turns the sign. -/
theorem parF_sw {n : Nat} {f : Nat → Nat} (h : Inj n f) {a b : Nat} (ha : a < n) (hb : b < n) (hne : a ≠ b) : parF (fun x => f (sw a b x)) n = !parF f n := by
  rcases Nat.lt_or_gt_of_ne hne with hl | hl
  · obtain ⟨d, rfl⟩ : ∃ d, b = a + 1 + d := ⟨b - (a + 1), by omega⟩
    exact parF_lt d h a hb
  · obtain ⟨d, rfl⟩ : ∃ d, a = b + 1 + d := ⟨a - (b + 1), by omega⟩
    have := parF_lt d h b ha
    rw [← this]
    exact parF_congr n (fun q _ => by show f (sw (b + 1 + d) b q) = f (sw b (b + 1 + d) q); rw [sw_comm])

/-- f is made of exchanges: signs multiply at it. -/
structure Good (n : Nat) (f : Nat → Nat) : Prop where
  lt : ∀ p, p < n → f p < n
  inj : Inj n f
  mul : ∀ g, Inj n g → parF (fun x => g (f x)) n = xor (parF g n) (parF f n)
theorem Good.id (n : Nat) : Good n (fun x => x) := ⟨fun _ h => h, fun _ _ _ _ e => e, fun g _ => by rw [parF_id]; cases parF g n <;> rfl⟩
theorem Good.congr {n : Nat} {f f' : Nat → Nat} (h : Good n f) (e : ∀ p, p < n → f p = f' p) : Good n f' :=
  ⟨fun p hp => by rw [← e p hp]; exact h.lt p hp, fun p q hp hq k => h.inj p q hp hq (by rw [e p hp, e q hq]; exact k), fun g hg => by rw [← parF_congr n e, ← h.mul g hg]; exact parF_congr n (fun q hq => by show g (f' q) = g (f q); rw [e q hq])⟩
theorem Good.sw {n : Nat} {f : Nat → Nat} (h : Good n f) {a b : Nat} (ha : a < n) (hb : b < n) (hne : a ≠ b) : Good n (fun x => f (sw a b x)) := by
  refine ⟨fun p hp => h.lt _ (sw_lt ha hb hp), h.inj.sw ha hb, fun g hg => ?_⟩
  have hgf : Inj n (fun x => g (f x)) := fun p q hp hq e => h.inj p q hp hq (hg _ _ (h.lt p hp) (h.lt q hq) e)
  have e1 := parF_sw hgf ha hb hne
  have e2 := parF_sw h.inj ha hb hne
  rw [e1, e2, h.mul g hg]
  cases parF g n <;> cases parF f n <;> rfl

def Sn (sn : List Bool) (p : Nat) : Prop := sn.getD p true = true
/-- How many places have not been seen. -/
def unseen (sn : List Bool) : Nat := sn.countP (fun b => !b)
theorem getD_set_b (sn : List Bool) (p q : Nat) (hp : p < sn.length) : (sn.set p true).getD q true = if p = q then true else sn.getD q true := by
  simp only [List.getD_eq_getElem?_getD, List.getElem?_set]
  split
  · rename_i h; subst h; simp [hp]
  · rfl
theorem Sn_set {sn : List Bool} {p q : Nat} (hp : p < sn.length) : Sn (sn.set p true) q ↔ p = q ∨ Sn sn q := by
  unfold Sn
  rw [getD_set_b sn p q hp]
  by_cases h : p = q <;> simp [h]
theorem unseen_set : ∀ (sn : List Bool) (p : Nat), p < sn.length → ¬ Sn sn p → unseen (sn.set p true) + 1 = unseen sn
  | [], p, h, _ => by simp at h
  | b :: sn, 0, _, hs => by
    have hb : b = false := by simpa [Sn] using hs
    subst hb
    simp [unseen]
  | b :: sn, p + 1, h, hs => by
    have := unseen_set sn p (by simpa using h) (by simpa [Sn] using hs)
    simp only [unseen, List.set_cons_succ, List.countP_cons] at this ⊢
    omega

/-- While a cycle is walked: x0 its start, la the last place, h the exchanges so far. -/
structure Walk (n : Nat) (f : Nat → Nat) (x0 la p : Nat) (sq : List Bool) (h : Nat → Nat) : Prop where
  good : Good n h
  la_lt : la < n
  la_in : Sn sq la
  x0_in : Sn sq x0
  la_f : f la = p
  la_h : h la = x0
  eq : ∀ q, q < n → Sn sq q → q ≠ la → h q = f q
  out : ∀ q, q < n → ¬ Sn sq q → h q = q
  pre : ∀ r, r < n → Sn sq r → r ≠ x0 → ∃ q, q < n ∧ Sn sq q ∧ q ≠ la ∧ f q = r
/-- Between two cycles. -/
structure Done (n : Nat) (f : Nat → Nat) (sn : List Bool) (h : Nat → Nat) : Prop where
  good : Good n h
  eq : ∀ q, q < n → Sn sn q → h q = f q
  out : ∀ q, q < n → ¬ Sn sn q → h q = q
  pre : ∀ r, r < n → Sn sn r → ∃ q, q < n ∧ Sn sn q ∧ f q = r

theorem walk_cyc {n : Nat} {f : Nat → Nat} (hf : ∀ p, p < n → f p < n) (hi : Inj n f) {x0 : Nat} (hx0 : x0 < n) : ∀ (k : Nat) (sq : List Bool) (la p c : Nat) (h : Nat → Nat), sq.length = n → unseen sq < k → p < n → Walk n f x0 la p sq h →
    ∃ s d h', cyc f k sq p c = some (s, d) ∧ s.length = n ∧ c ≤ d ∧ Done n f s h' ∧ (∀ q, Sn sq q → Sn s q) ∧ unseen s + d = unseen sq + c ∧ parF h' n = xor (parF h n) (decide ((d - c) % 2 = 1)) := by
  intro k
  induction k with
  | zero => intro sq la p c h _ hu; omega
  | succ k ih =>
    intro sq la p c h hl hu hp W
    rw [cyc]
    by_cases hs : sq.getD p true = true
    · rw [if_pos hs]
      have hpx : p = x0 := by
        by_cases e : p = x0
        · exact e
        · obtain ⟨q, hq, _, hne, hfq⟩ := W.pre p hp hs e
          exact absurd (hi q la hq W.la_lt (hfq.trans W.la_f.symm)) hne
      refine ⟨sq, c, h, rfl, hl, Nat.le_refl _, ⟨W.good, fun q hq hsq => ?_, W.out, fun r hr hsr => ?_⟩, fun _ hq => hq, rfl, by simp⟩
      · by_cases e : q = la
        · subst e
          rw [W.la_h, W.la_f, hpx]
        · exact W.eq q hq hsq e
      · by_cases e : r = x0
        · exact ⟨la, W.la_lt, W.la_in, by rw [W.la_f, hpx, e]⟩
        · obtain ⟨q, hq, h1, _, h2⟩ := W.pre r hr hsr e
          exact ⟨q, hq, h1, h2⟩
    · rw [if_neg hs]
      have hns : ¬ Sn sq p := hs
      have hlap : la ≠ p := fun e => hns (by rw [← e]; exact W.la_in)
      have hus := unseen_set sq p (by omega) hns
      have hset : ∀ q, Sn (sq.set p true) q ↔ p = q ∨ Sn sq q := fun q => Sn_set (by omega)
      have W' : Walk n f x0 p (f p) (sq.set p true) (fun x => h (sw la p x)) := by
        refine ⟨W.good.sw W.la_lt hp hlap, hp, (hset p).2 (.inl rfl), (hset x0).2 (.inr W.x0_in), rfl, ?_, fun q hq hsq hne => ?_, fun q hq hsq => ?_, fun r hr hsr hne => ?_⟩
        · show h (sw la p p) = x0
          rw [show sw la p p = la by unfold sw; (repeat' split) <;> omega, W.la_h]
        · show h (sw la p q) = f q
          by_cases e : q = la
          · subst e
            rw [show sw q p q = p by simp [sw], W.out p hp hns, W.la_f]
          · rw [show sw la p q = q by unfold sw; (repeat' split) <;> omega]
            rcases (hset q).1 hsq with e' | h'
            · exact absurd e'.symm hne
            · exact W.eq q hq h' e
        · show h (sw la p q) = q
          have hq2 : ¬ (p = q ∨ Sn sq q) := fun h' => hsq ((hset q).2 h')
          have hla : q ≠ la := fun e => hq2 (.inr (by rw [e]; exact W.la_in))
          rw [show sw la p q = q by unfold sw; (repeat' split) <;> omega]
          exact W.out q hq (fun h' => hq2 (.inr h'))
        · rcases (hset r).1 hsr with e' | h'
          · subst e'
            exact ⟨la, W.la_lt, (hset la).2 (.inr W.la_in), hlap, W.la_f⟩
          · obtain ⟨q, hq, h1, _, h2⟩ := W.pre r hr h' hne
            exact ⟨q, hq, (hset q).2 (.inr h1), fun e => hns (by rw [← e]; exact h1), h2⟩
      obtain ⟨s, d, h', e1, e2, e3, e4, e5, e6, e7⟩ := ih (sq.set p true) p (f p) (c + 1) _ (by rw [List.length_set]; exact hl) (by omega) (hf p hp) W'
      refine ⟨s, d, h', e1, e2, by omega, e4, fun q hq => e5 q ((hset q).2 (.inr hq)), by omega, ?_⟩
      rw [e7, parF_sw W.good.inj W.la_lt hp hlap]
      have : decide ((d - c) % 2 = 1) = !decide ((d - (c + 1)) % 2 = 1) := by
        by_cases h1 : (d - c) % 2 = 1
        · have : ¬ (d - (c + 1)) % 2 = 1 := by omega
          simp [h1, this]
        · have : (d - (c + 1)) % 2 = 1 := by omega
          simp [h1, this]
      rw [this]
      cases parF h n <;> cases decide ((d - (c + 1)) % 2 = 1) <;> rfl

theorem unseen_le (sn : List Bool) : unseen sn ≤ sn.length := List.countP_le_length
theorem unseen_zero : ∀ (sn : List Bool), (∀ q, q < sn.length → Sn sn q) → unseen sn = 0
  | [], _ => rfl
  | b :: sn, h => by
    have hb : b = true := by simpa [Sn] using h 0 (by simp)
    subst hb
    have := unseen_zero sn (fun q hq => by simpa [Sn] using h (q + 1) (by simpa using hq))
    simpa [unseen] using this
theorem odd_add (a b : Nat) : decide ((a + b) % 2 = 1) = xor (decide (a % 2 = 1)) (decide (b % 2 = 1)) := by
  by_cases h1 : a % 2 = 1 <;> by_cases h2 : b % 2 = 1
  · have : ¬ (a + b) % 2 = 1 := by omega
    simp [h1, h2, this]
  · have : (a + b) % 2 = 1 := by omega
    simp [h1, h2, this]
  · have : (a + b) % 2 = 1 := by omega
    simp [h1, h2, this]
  · have : ¬ (a + b) % 2 = 1 := by omega
    simp [h1, h2, this]
theorem rnds_ok {n : Nat} {f : Nat → Nat} (hn : n ≤ 1000) (hf : ∀ p, p < n → f p < n) (hi : Inj n f) : ∀ (m i : Nat) (sn : List Bool) (out : List Int) (h : Nat → Nat), i + m = n → sn.length = n → Done n f sn h → (∀ q, q < i → Sn sn q) →
    ∃ res h' k, rnds f m sn i out = some res ∧ Good n h' ∧ (∀ q, q < n → h' q = f q) ∧ res.length = out.length + k ∧ k ≤ unseen sn ∧ (0 < unseen sn → 0 < k) ∧ parF h' n = xor (parF h n) (decide ((unseen sn - k) % 2 = 1)) := by
  intro m
  induction m with
  | zero =>
    intro i sn out h h1 hl D hs
    have hz := unseen_zero sn (fun q hq => hs q (by omega))
    exact ⟨out, h, 0, rfl, D.good, fun q hq => D.eq q hq (hs q (by omega)), rfl, Nat.zero_le _, fun hp => by omega, by rw [hz]; simp⟩
  | succ m ih =>
    intro i sn out h h1 hl D hs
    rw [rnds]
    by_cases hsi : sn.getD i true = true
    · rw [show cyc f 2000 sn i 0 = some (sn, 0) by rw [show (2000 : Nat) = 1999 + 1 from rfl, cyc, if_pos hsi]]
      simp only [Option.bind_some, Nat.lt_irrefl, if_false]
      exact ih (i + 1) sn out h (by omega) hl D (fun q hq => by
        by_cases e : q = i
        · subst e; exact hsi
        · exact hs q (by omega))
    · have hin : i < n := by omega
      have hns : ¬ Sn sn i := hsi
      have hus := unseen_set sn i (by omega) hns
      have hule := unseen_le sn
      have hset : ∀ q, Sn (sn.set i true) q ↔ i = q ∨ Sn sn q := fun q => Sn_set (by omega)
      have W : Walk n f i i (f i) (sn.set i true) h := by
        refine ⟨D.good, hin, (hset i).2 (.inl rfl), (hset i).2 (.inl rfl), rfl, D.out i hin hns, fun q hq hsq hne => ?_, fun q hq hsq => ?_, fun r hr hsr hne => ?_⟩
        · rcases (hset q).1 hsq with e' | h'
          · exact absurd e'.symm hne
          · exact D.eq q hq h'
        · exact D.out q hq (fun h' => hsq ((hset q).2 (.inr h')))
        · rcases (hset r).1 hsr with e' | h'
          · exact absurd e'.symm hne
          · obtain ⟨q, hq, h2, h3⟩ := D.pre r hr h'
            exact ⟨q, hq, (hset q).2 (.inr h2), fun e => hns (by rw [← e]; exact h2), h3⟩
      obtain ⟨s, d, h', e1, e2, e3, e4, e5, e6, e7⟩ := walk_cyc hf hi hin 1999 (sn.set i true) i (f i) 1 h (by rw [List.length_set]; exact hl) (by omega) (hf i hin) W
      rw [show cyc f 2000 sn i 0 = some (s, d) by rw [show (2000 : Nat) = 1999 + 1 from rfl, cyc, if_neg hsi]; exact e1]
      simp only [Option.bind_some]
      rw [if_pos (by omega)]
      obtain ⟨res, h2, k, r1, r2, r3, r4, r5, r6, r7⟩ := ih (i + 1) s (out ++ [(d : Int)]) h' (by omega) e2 e4 (fun q hq => by
        by_cases e : q = i
        · subst e; exact e5 q ((hset q).2 (.inl rfl))
        · exact e5 q ((hset q).2 (.inr (hs q (by omega)))))
      refine ⟨res, h2, k + 1, r1, r2, r3, by rw [r4]; simp; omega, by omega, fun _ => by omega, ?_⟩
      rw [r7, e7]
      have hsum : unseen sn - (k + 1) = (d - 1) + (unseen s - k) := by omega
      rw [hsum, odd_add]
      cases parF h n <;> cases decide ((d - 1) % 2 = 1) <;> cases decide ((unseen s - k) % 2 = 1) <;> rfl
/-- The cycles tell the sign; and signs multiply. -/
theorem rnds_sign {n : Nat} {f : Nat → Nat} (hn : n ≤ 1000) (hf : ∀ p, p < n → f p < n) (hi : Inj n f) : ∃ res, rnds f n (List.replicate n false) 0 [] = some res ∧ res.length ≤ n ∧ (0 < n → 0 < res.length) ∧ Good n f ∧ parF f n = decide ((n - res.length) % 2 = 1) := by
  have hu : unseen (List.replicate n false) = n := by simp [unseen, List.countP_replicate]
  have hnone : ∀ q, q < n → ¬ Sn (List.replicate n false) q := fun q hq h => by simp [Sn, hq] at h
  obtain ⟨res, h', k, r1, r2, r3, r4, r5, r6, r7⟩ := rnds_ok hn hf hi n 0 (List.replicate n false) [] (fun x => x) (by omega) (by simp) ⟨Good.id n, fun q hq h => absurd h (hnone q hq), fun q hq _ => rfl, fun r hr h => absurd h (hnone r hr)⟩ (fun q hq => by omega)
  rw [hu] at r5 r6 r7
  simp only [List.length_nil, Nat.zero_add] at r4
  refine ⟨res, r1, by omega, fun h => by have := r6 h; omega, r2.congr r3, ?_⟩
  rw [← parF_congr n r3, r7, parF_id, r4]
  cases decide ((n - k) % 2 = 1) <;> rfl
end Go.Proofs.Ytgnklmhjejbcoaa.K
