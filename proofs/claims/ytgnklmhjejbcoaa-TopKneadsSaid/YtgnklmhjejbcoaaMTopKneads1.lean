/- Texts of this claim in one file: QB, HG, HS, HD, K5, HF, K11, HC, K12. -/
import Derived.Test.YtgnklmhjejbcoaaMTopKneads0
import Derived.Carry
import Derived.Shelf.Bits.Mul64
import Derived.Shelf.Slices.Reverse
import Derived.Shelf.Sort.Plain
import Derived.Lib.RowBridge

/- What the Lean functions of knead's and the reference's small functions answer, for all lists and numbers that their own guards let in. -/
namespace Go.Proofs.Ytgnklmhjejbcoaa.K
open Go.RowKit Go.Proofs.YtgnklmhjejbcoaaW.PrintWords Go.Proofs.YtgnklmhjejbcoaaW.PrintLast Go.Proofs.YtgnklmhjejbcoaaW.PrintMore
set_option linter.unusedVariables false
set_option linter.unusedSimpArgs false

def lumps (n : Int) : Bool := decide (2 ≤ n ∧ n ≤ 32 ∧ n % 2 = 0)
theorem isLumps_eq (n : Int) : knead_isLumps.f n = some (lumps n) := by
  unfold knead_isLumps.f lumps
  by_cases h : n ≥ 2
  · rw [if_pos h]
    by_cases h2 : n ≤ 32
    · rw [if_pos h2, Int.tmod_eq_emod_of_nonneg (by omega)]
      congr 1
      rw [Bool.eq_iff_iff]
      simp
      omega
    · rw [if_neg h2]; congr 1; symm; simp; omega
  · rw [if_neg h]; congr 1; symm; simp; omega
theorem validate_eq (l : List Int) : knead_Validate.f l = some (if lumps l.length then 0 else 1) := by
  unfold knead_Validate.f
  rw [isLumps_eq]
  simp only [Option.bind_some]
  cases lumps l.length <;> rfl
theorem long_eq (l : List Int) : verditerlaw07_Long.f l = some (decide (100 < l.length)) := by
  unfold verditerlaw07_Long.f
  congr 1
  rw [Bool.eq_iff_iff]; simp; omega
theorem lumps_nat {n : Nat} (h : lumps (n : Int) = true) : 2 ≤ n ∧ n ≤ 32 ∧ n % 2 = 0 := by
  unfold lumps at h
  have := of_decide_eq_true h
  omega
theorem lumps_of {n : Nat} (h : 2 ≤ n ∧ n ≤ 32 ∧ n % 2 = 0) : lumps (n : Int) = true := by
  unfold lumps
  exact decide_eq_true (by omega)

theorem cons_dec {x y : Int} {a b : List Int} (h : x = y) : decide (a = b) = decide (x :: a = y :: b) := by subst h; simp
theorem cons_dec' {x y : Int} {a b : List Int} (h : ¬ x = y) : false = decide (x :: a = y :: b) := by simp [h]
theorem same_l0 (xs ys : List Int) (he : xs.length = ys.length) (hs : xs.length < 9223372036854775807) : ∀ (d k i : Nat), i + d = xs.length → d < k →
    verditerref01_SameInts.l0 k xs ys (i : Int) = some (decide (xs.drop i = ys.drop i)) := by
  intro d
  induction d with
  | zero =>
    intro k i h1 h2
    obtain ⟨k, rfl⟩ : ∃ m, k = m + 1 := ⟨k - 1, by omega⟩
    simp only [verditerref01_SameInts.l0]
    rw [if_neg (by omega), List.drop_eq_nil_of_le (by omega), List.drop_eq_nil_of_le (by omega)]
    rfl
  | succ d ih =>
    intro k i h1 h2
    obtain ⟨k, rfl⟩ : ∃ m, k = m + 1 := ⟨k - 1, by omega⟩
    have hx : i < xs.length := by omega
    have hy : i < ys.length := by omega
    simp only [verditerref01_SameInts.l0]
    rw [if_pos (by omega), if_pos (by omega), if_pos (by omega), rd_nat xs i hx, rd_nat ys i hy, wrap_nat _ (by omega), ih k (i + 1) (by omega) (by omega), List.drop_eq_getElem_cons hx, List.drop_eq_getElem_cons hy]
    by_cases c : xs[i] = ys[i]
    · rw [if_pos c, cons_dec c]
    · rw [if_neg c, ← cons_dec' c]
theorem same_eq (k : Nat) (xs ys : List Int) (hk : xs.length < k) (hs : xs.length < 9223372036854775807) : verditerref01_SameInts.f k xs ys = some (decide (xs = ys)) := by
  unfold verditerref01_SameInts.f
  by_cases he : xs.length = ys.length
  · rw [if_pos (by omega)]
    simpa using same_l0 xs ys he hs xs.length k 0 (by omega) hk
  · rw [if_neg (by omega)]
    congr 1
    symm
    simp
    intro h
    exact he (by rw [h])
theorem equal_l0 (xs ys : List Int) (he : xs.length = ys.length) (hs : xs.length < 9223372036854775807) : ∀ (d k i : Nat), i + d = xs.length → d < k →
    slices_Equal_int_int.l0 k xs ys (xs.length : Int) (i : Int) = some (decide (xs.drop i = ys.drop i)) := by
  intro d
  induction d with
  | zero =>
    intro k i h1 h2
    obtain ⟨k, rfl⟩ : ∃ m, k = m + 1 := ⟨k - 1, by omega⟩
    simp only [slices_Equal_int_int.l0]
    rw [if_neg (by omega), List.drop_eq_nil_of_le (by omega), List.drop_eq_nil_of_le (by omega)]
    rfl
  | succ d ih =>
    intro k i h1 h2
    obtain ⟨k, rfl⟩ : ∃ m, k = m + 1 := ⟨k - 1, by omega⟩
    have hx : i < xs.length := by omega
    have hy : i < ys.length := by omega
    simp only [slices_Equal_int_int.l0]
    rw [if_pos (by omega), if_pos (by omega), if_pos (by omega), if_pos (by omega), rd_nat xs i hx, rd_nat ys i hy, wrap_nat _ (by omega), ih k (i + 1) (by omega) (by omega), List.drop_eq_getElem_cons hx, List.drop_eq_getElem_cons hy]
    by_cases c : xs[i] = ys[i]
    · rw [if_pos c, cons_dec c]
    · rw [if_neg c, ← cons_dec' c]
theorem equal_eq (k : Nat) (xs ys : List Int) (hk : xs.length < k) (hs : xs.length < 9223372036854775807) : slices_Equal_int_int.f k xs ys = some (decide (xs = ys)) := by
  unfold slices_Equal_int_int.f
  by_cases he : xs.length = ys.length
  · rw [if_pos (by omega)]
    simpa using equal_l0 xs ys he hs xs.length k 0 (by omega) hk
  · rw [if_neg (by omega)]
    congr 1
    symm
    simp
    intro h
    exact he (by rw [h])

theorem step_eq {n p k : Nat} (hn : n % 2 = 0) (hs : n ≤ 1000) (hk : k ≤ 1) (hp : p < n) : knead_step.f (n : Int) (p : Int) (k : Int) = some ((stepN n p k : Nat) : Int) := by
  unfold knead_step.f stepN
  have h2 : wrap64 (Int.tdiv (n : Int) 2) = ((n / 2 : Nat) : Int) := by
    rw [Int.tdiv_eq_ediv_of_nonneg (by omega)]
    unfold wrap64
    omega
  rw [h2]
  by_cases c : p < n / 2
  · rw [if_pos (by omega), if_pos c]
    congr 1
    unfold wrap64
    omega
  · rw [if_neg (by omega), if_neg c]
    congr 1
    unfold wrap64
    omega
theorem set_getD (xs : List Int) (i j : Nat) (v : Int) (hi : i < xs.length) : (xs.set i v).getD j 0 = if i = j then v else xs.getD j 0 := by
  rw [List.getD_eq_getElem?_getD, List.getElem?_set]
  split
  · rename_i h
    subst h
    simp [hi]
  · simp [List.getD_eq_getElem?_getD]
end Go.Proofs.Ytgnklmhjejbcoaa.K

/- What knead.Way returns: the word that the search comes upon, in memory of the call's own; older memory stays as it was. -/
namespace Go.Proofs.Ytgnklmhjejbcoaa.K
open Go.RowKit Go.Proofs.YtgnklmhjejbcoaaW.PrintWords Go.Proofs.YtgnklmhjejbcoaaW.PrintLast Go.Proofs.YtgnklmhjejbcoaaW.PrintMore
set_option linter.unusedVariables false
set_option linter.unusedSimpArgs false

/-- The words that have been found, and the places that are still to be looked at. -/
structure WS where
  wd : Nat → Option (List Int)
  op : List Nat
def setW (wd : Nat → Option (List Int)) (q : Nat) (l : List Int) : Nat → Option (List Int) := fun x => if x = q then some l else wd x
/-- One fold of kind k from the place p. -/
def visit (n p k : Nat) (s : WS) : WS :=
  if s.wd (stepN n p k) = none ∧ ((s.wd p).getD []).length < 40 then ⟨setW s.wd (stepN n p k) (((s.wd p).getD []) ++ [(k : Int)]), s.op ++ [stepN n p k]⟩ else s
def visits (n p : Nat) (s : WS) : Nat → WS
  | 0 => s
  | j + 1 => visit n p j (visits n p s j)
def bfs (n : Nat) : Nat → WS → Option (Nat → Option (List Int))
  | 0, _ => none
  | f + 1, s => match s.op with
    | [] => some s.wd
    | p :: op => bfs n f (visits n p ⟨s.wd, op⟩ 2)
def startW (p : Nat) : WS := ⟨fun x => if x = p then some [] else none, [p]⟩

def lits (l : List Nat) : List Int := l.map (fun (i : Nat) => (i : Int))

/-- The search's memory. -/
structure St (w W : World) (M N : Nat) (s : WS) (v : Value) : Prop where
  m : ∃ f, MapV Try.prog 3 W M N f ∧ ∀ p : Nat, p < 1000 → (s.wd p = none → f (.int .i64 p) = none) ∧ (∀ l, s.wd p = some l → ∃ u, f (.int .i64 p) = some u ∧ Kd.R (Kd.int .i64) 3 W w.heap.size (fun k => k ≠ M ∧ some k ≠ v.ownBlock) u l)
  hM : w.heap.size ≤ M
  op : Kd.Q (Kd.int .i64) 3 W w.heap.size (fun k => k ≠ M) v (lits s.op)
  below : Below w.heap.size w W

/-- Numbers below 1000, no more than 40 letters. -/
def Small (n : Nat) (s : WS) : Prop := (∀ p ∈ s.op, p < n) ∧ (∀ p l, s.wd p = some l → l.length ≤ 40)
theorem small_visit {n p k : Nat} {s : WS} (hn : n % 2 = 0) (hk : k ≤ 1) (hp : p < n) (h : Small n s) : Small n (visit n p k s) := by
  unfold visit
  split
  · rename_i hc
    refine ⟨fun q hq => ?_, fun q l hl => ?_⟩
    · rcases List.mem_append.1 hq with hq | hq
      · exact h.1 q hq
      · rw [List.mem_singleton] at hq
        subst hq
        exact step_lt hn hk hp
    · simp only [setW] at hl
      split at hl
      · injection hl with hl
        subst hl
        have := hc.2
        simp only [List.length_append, List.length_singleton]
        omega
      · exact h.2 q l hl
  · exact h

theorem wf_int {i : Nat} (h : i < 1000) : (Lit.int .i64 (i : Int)).wf = true := by simp only [Lit.wf, show IntKind.i64.min = -9223372036854775808 from rfl, show IntKind.i64.max = 9223372036854775807 from rfl, Bool.and_eq_true, decide_eq_true_eq]; omega
theorem key_int (i : Nat) (h : i < 1000) : keyOf Try.prog 3 (.int .i64 (i : Int)) = some (.int .i64 (i : Int)) := Maps.keyOf_int_mk Try.underlying3 (wf_int h)
theorem keyed3 : Maps.Keyed Try.prog 3 := Maps.int_keyed Try.underlying3

theorem putV_int (f : Lit → Option Value) (p q : Nat) (v : Value) (hw : (Lit.int .i64 (q : Int)).wf = true) : putV f (.int .i64 (p : Int)) v (.int .i64 (q : Int)) = if q = p then some v else f (.int .i64 (q : Int)) := by
  by_cases h : q = p
  · subst h
    rw [if_pos rfl]
    simp [putV, WideAt.sameKey_self (a := .int .i64 (q : Int)) (keyed3.key (Maps.keyOf_int_mk Try.underlying3 hw))]
  · rw [if_neg h]
    have : Lit.int .i64 (q : Int) ≠ Lit.int .i64 (p : Int) := fun e => by
      injection e with _ e
      omega
    simp [putV, Maps.sameKey_ne this]
theorem maxLen_big : (1000000 : Nat) < maxLen := by unfold maxLen; omega
theorem St.start {w W1 W2 : World} {p : Nat} {v : Value} (hm : MapV Try.prog 3 W1 w.heap.size 1 (putV (fun _ => none) (.int .i64 (p : Int)) (.slice none 0 0))) (hg : W1.grownBy W2 none) (hr : Kd.R (Kd.int .i64) 3 W2 W1.heap.size (fun _ => True) v [(p : Int)]) (hB : Below w.heap.size w W2) (hlt : w.heap.size < W1.heap.size) :
    St w W2 w.heap.size 1 (startW p) v where
  m := ⟨_, hm.kept hg (by simp), fun q hq => ⟨fun h => by
      rw [putV_int _ _ _ _ (wf_int hq)]
      by_cases e : q = p
      · simp [startW, e] at h
      · rw [if_neg e], fun l h => by
      rw [putV_int _ _ _ _ (wf_int hq)]
      by_cases e : q = p
      · simp [startW, e] at h
        subst h
        exact ⟨_, by rw [if_pos e], Kd.R_nil _ _ _ _ _⟩
      · simp [startW, e] at h⟩⟩
  hM := Nat.le_refl _
  op := Kd.Q_of_R (Kd.R_lower (Kd.R_mono (Kd.R_bound hr) (fun k hk => by have := hk.2.1; omega)) (by omega))
  below := hB

theorem grown_of_below {W W' : World} (h : Below W.heap.size W W') : W.grownBy W' none := ⟨h.os, h.tape, h.output, h.size, fun k hk _ => h.block k hk⟩
/-- New blocks alone, and draws. -/
theorem St.next {w W W' : World} {M N : Nat} {s : WS} {v : Value} (h : St w W M N s v) (hb : Below W.heap.size W W') : St w W' M N s v where
  m := by
    obtain ⟨f, hm, hf⟩ := h.m
    refine ⟨f, hm.kept (grown_of_below hb) (by simp), fun p hp => ⟨(hf p hp).1, fun l hl => ?_⟩⟩
    obtain ⟨u, hu, hr⟩ := (hf p hp).2 l hl
    exact ⟨u, hu, Kd.R_below hr hb⟩
  hM := h.hM
  op := Kd.Q_below h.op hb
  below := below_step h.below hb
theorem St.lt {w W : World} {M N : Nat} {s : WS} {v : Value} (h : St w W M N s v) : M < W.heap.size := by
  obtain ⟨f, hm, _⟩ := h.m
  exact hm.lt
theorem St.look {w W : World} {M N : Nat} {s : WS} {v : Value} (h : St w W M N s v) (q : Nat) (hq : q < 1000) : ∃ u, (Instr.lookup 53 (.map (some M)) (.int .i64 (q : Int)) true).run Try.prog W = .ok (.tuple #[u, .bool (s.wd q).isSome]) W ∧
    (Instr.lookup 53 (.map (some M)) (.int .i64 (q : Int)) false).run Try.prog W = .ok u W ∧ Kd.R (Kd.int .i64) 3 W w.heap.size (fun k => k ≠ M ∧ some k ≠ v.ownBlock) u ((s.wd q).getD []) := by
  obtain ⟨f, hm, hf⟩ := h.m
  have l1 := hm.look_ok keyed3 Try.underlying53 (Try.zeroValue22 W) (key_int q hq)
  have l2 := hm.look keyed3 Try.underlying53 (Try.zeroValue22 W) (key_int q hq)
  obtain ⟨h1, h2⟩ := hf q hq
  cases hw : s.wd q with
  | none =>
    rw [h1 hw] at l1 l2
    exact ⟨_, l1, l2, Kd.R_nil _ _ _ _ _⟩
  | some l =>
    obtain ⟨u, hu, hr⟩ := h2 l hw
    rw [hu] at l1 l2
    exact ⟨u, l1, l2, hr⟩
theorem St.put {w W : World} {M N : Nat} {s : WS} {v : Value} (h : St w W M N s v) (q : Nat) (hq : q < 1000) (hN : N < 1000000) {u : Value} {l : List Int} (hr : Kd.R (Kd.int .i64) 3 W w.heap.size (fun k => k ≠ M ∧ some k ≠ v.ownBlock) u l) :
    ∃ W', (Instr.mapUpdate 53 (.map (some M)) (.int .i64 (q : Int)) u).run Try.prog W = .ok () W' ∧ St w W' M (N + 1) ⟨setW s.wd q l, s.op⟩ v ∧ W.grownBy W' (some M) := by
  obtain ⟨f, hm, hf⟩ := h.m
  obtain ⟨W', hrun, hm', hg⟩ := hm.store keyed3 Try.underlying53 (by have := maxLen_big; omega) (key_int q hq) u
  refine ⟨W', hrun, ⟨⟨_, hm', fun p hp => ?_⟩, h.hM, Kd.Q_grown h.op hg (fun k hk e => by injection e with e; exact hk e), h.below.grown hg (below_size h.below) (fun k e => by injection e with e; subst e; exact h.hM)⟩, hg⟩
  rw [putV_int _ _ _ _ (wf_int hp)]
  by_cases e : p = q
  · simp only [setW, if_pos e]
    refine ⟨fun e => (by cases e), fun l' hl' => ?_⟩
    injection hl' with hl'
    subst hl'
    exact ⟨u, rfl, Kd.R_grown hr hg (fun k hk e => by injection e with e; exact hk.1 e)⟩
  · simp only [setW, if_neg e]
    refine ⟨(hf p hp).1, fun l' hl' => ?_⟩
    obtain ⟨u', hu', hr'⟩ := (hf p hp).2 l' hl'
    exact ⟨u', hu', Kd.R_grown hr' hg (fun k hk e => by injection e with e; exact hk.1 e)⟩
theorem St.push {w W W' : World} {M N : Nat} {s : WS} {v v' : Value} (h : St w W M N s v) (q : Nat) (ho : Kd.Q (Kd.int .i64) 3 W' w.heap.size (fun k => k ≠ M) v' (lits s.op ++ [(q : Int)])) (hB : Below w.heap.size w W') (hg : W.grownBy W' v.ownBlock) (hat : v'.ownBlock = v.ownBlock ∨ ∃ b, v'.ownBlock = some b ∧ W.heap.size ≤ b) :
    St w W' M N ⟨s.wd, s.op ++ [q]⟩ v' where
  m := by
    obtain ⟨f, hm, hf⟩ := h.m
    refine ⟨f, hm.kept hg (fun e => h.op.1 M e.symm rfl), fun p hp => ⟨(hf p hp).1, fun l hl => ?_⟩⟩
    obtain ⟨u, hu, hr⟩ := (hf p hp).2 l hl
    exact ⟨u, hu, Kd.R_after (ok := fun k => k ≠ M) hr hg hat⟩
  hM := h.hM
  op := by
    show Kd.Q _ _ _ _ _ _ (lits (s.op ++ [q]))
    rw [show lits (s.op ++ [q]) = lits s.op ++ [(q : Int)] by simp [lits]]
    exact ho
  below := hB
/-- The first place is taken off. -/
theorem St.pop {w W : World} {M N g o cap : Nat} {wd : Nat → Option (List Int)} {p : Nat} {op : List Nat} {v' : Value} (h : St w W M N ⟨wd, p :: op⟩ (.slice (some ⟨g, o, none⟩) (op.length + 1) cap)) (hv : v' = .slice (if cap = 1 then some ⟨g, o, none⟩ else some ⟨g, o + 1, none⟩) op.length (cap - 1)) : St w W M N ⟨wd, op⟩ v' := by
  have hd := Kd.Q_drop h.op (k := 1) (by simp [lits])
  have he : (Value.slice (if cap = 1 then some (⟨g, o, none⟩ : Addr) else (some (⟨g, o, none⟩ : Addr)).map (·.add (1 * (Kd.int .i64).sz))) (op.length + 1 - 1) (cap - 1)) = v' := by
    rw [hv]
    have : (⟨g, o, none⟩ : Addr).add (1 * (Kd.int .i64).sz) = ⟨g, o + 1, none⟩ := by simp [Kd.int, Kd.scalar, Addr.add]
    simp only [Option.map_some, this, Nat.add_sub_cancel]
  rw [he] at hd
  have hob : v'.ownBlock = (Value.slice (some ⟨g, o, none⟩) (op.length + 1) cap).ownBlock := by
    rw [hv]
    split <;> rfl
  refine ⟨?_, h.hM, ?_, h.below⟩
  · obtain ⟨f, hm, hf⟩ := h.m
    refine ⟨f, hm, fun q hq => ⟨(hf q hq).1, fun l hl => ?_⟩⟩
    obtain ⟨u, hu, hr⟩ := (hf q hq).2 l hl
    exact ⟨u, hu, by rw [hob]; exact hr⟩
  · simpa [lits] using hd

theorem small_visits {n p : Nat} {s : WS} (hn : n % 2 = 0) (hp : p < n) (h : Small n s) : ∀ j, j ≤ 2 → Small n (visits n p s j)
  | 0, _ => h
  | j + 1, hj => small_visit hn (by omega) hp (small_visits hn hp h j (by omega))
theorem visit_some {n p k : Nat} {s : WS} {l : List Int} (h : s.wd (stepN n p k) = some l) : visit n p k s = s := by
  unfold visit
  rw [if_neg (by rw [h]; simp)]
theorem visit_long {n p k : Nat} {s : WS} (h : ¬ ((s.wd p).getD []).length < 40) : visit n p k s = s := by
  unfold visit
  rw [if_neg (fun hc => h hc.2)]
theorem visit_new {n p k : Nat} {s : WS} (h1 : s.wd (stepN n p k) = none) (h2 : ((s.wd p).getD []).length < 40) : visit n p k s = ⟨setW s.wd (stepN n p k) (((s.wd p).getD []) ++ [(k : Int)]), s.op ++ [stepN n p k]⟩ := by
  unfold visit
  rw [if_pos ⟨h1, h2⟩]

set_option maxHeartbeats 8000000 in
set_option maxRecDepth 100000 in
theorem way_main (n p t k : Nat) (wd : Nat → Option (List Int)) (w : World) (hn : n % 2 = 0) (hs : n ≤ 1000) (hp : p < n) (ht : t < n) (hk : k ≤ 100000) (hl : knead_isLumps.f (n : Int) = some true) (h : bfs n k (startW p) = some wd) :
    Calls Try.prog 21 #[.int .i64 n, .int .i64 p, .int .i64 t] w fun e w' => ∃ v0_ : Value, e = .returned (.tuple #[v0_, .bool (wd t).isSome, .int .i64 0]) ∧ Kd.R (Kd.int .i64) 3 w' w.heap.size (fun _ => True) v0_ ((wd t).getD []) ∧ Below w.heap.size w w' := by
  have HT := Aside0.mk hl
  have HH := Aside0.mk h
  clear hl h
  have h1 : ¬ ((p : Int) < 0) := by omega
  have h2 : ¬ ((p : Int) ≥ n) := by omega
  have h3 : ¬ ((t : Int) < 0) := by omega
  have h4 : ¬ ((t : Int) ≥ n) := by omega
  have hmm := @run_makeMap Try.prog
  go_enter Try.func21, Try.ntmps21
  go_wp2_with (first
    | (go_at_call 53; refine (knead_isLumps.calls (n : Int) true _ HT.out).mono ?_; rintro e w' ⟨rfl, ⟨nd, rfl⟩⟩; obtain ⟨wm, hrm, hmv', hgm⟩ : ∃ wm, (Instr.mapUpdate 53 (.map (some w.heap.size)) (.int .i64 (p : Int)) (.slice none 0 0)).run Try.prog ((w.drewN nd).alloc (.map #[] 0)) = .ok () wm ∧ MapV Try.prog 3 wm w.heap.size 1 (putV (fun _ => none) (.int .i64 (p : Int)) (.slice none 0 0)) ∧ ((w.drewN nd).alloc (.map #[] 0)).grownBy wm (some w.heap.size) := (MapV.made Try.prog 3 (w.drewN nd)).store keyed3 Try.underlying53 (by have := maxLen_big; omega) (key_int p (by omega)) (.slice none 0 0); have HMV := Aside0.mk hmv'; have HGM := Aside0.mk hgm; clear hmv' hgm)
    | ((with_reducible refine gate_dst (N := 41) rfl ?_); refine Kd.R_lit (Kd.int .i64) _ 3 ?hg (N := 41) ?hd (xs := ([(p : Int)] : List Int)) (inner := [.int .i64 (p : Int)]) (ok := fun _ => True) (okp := fun _ => True) ?hr ?hp (fun _ hk => hk) trivial (Below.refl _ _) (Nat.le_refl _) (by simp) ?_; (case hd => rfl); (case hg => rfl); (case hr => first | (go_simp; done) | (go_simp; rfl)); (case hp => exact (Reps.one (show Kd.M (Kd.int .i64) _ _ _ (p : Int) [.int .i64 (p : Int)] from rfl) (Reps.none _ _))); intro v5 w5 ho hb hg_ hnew_; have HO5 := Aside0.mk ho; have HB5 := Aside0.mk hb; have HG5 := Aside0.mk hg_; clear ho hb hg_ hnew_)
    | go_in)
  have HS0 : Aside0 (St w w5 w.heap.size 1 (startW p) v5) := Aside0.mk (St.start HMV.out HG5.out HO5.out ((((pw_below_drewN (Below.refl w.heap.size w) nd).alloc (Nat.le_refl _) _).grown HGM.out (by simp) (fun k e => by injection e with e; omega)).trans (HB5.out.mono (by have := HGM.out.size; simp at this; omega))) (by have := HGM.out.size; simp at this; omega))
  clear HMV HGM HO5 HB5 HG5 hrm
  have HSm0 : Aside0 (Small n (startW p) ∧ (startW p).op.length ≤ 1) := Aside0.mk ⟨⟨fun q hq => by simp [startW] at hq; omega, fun q l hl => by
    simp only [startW] at hl
    split at hl
    · injection hl with hl
      subst hl
      simp
    · cases hl⟩, by simp [startW]⟩
  go_loopg [10] k (fun kq v W => ∃ (s : WS) (N : Nat), Aside0 (bfs n kq s = some wd) ∧ Aside0 (kq ≤ k) ∧ Aside0 (N + 2 * kq ≤ 1 + 2 * k) ∧ Aside0 (Small n s ∧ s.op.length ≤ N) ∧ Aside0 (St w W w.heap.size N s v))
  case atStart => exact ⟨startW p, 1, HH, Aside0.mk (Nat.le_refl _), Aside0.mk (by omega), HSm0, HS0⟩
  case round =>
    clear HH HSm0 HS0
    obtain ⟨s, N, HA, HK, HN, HSm, HS⟩ := hrel
    cases gk with
    | zero => exact absurd HA.out (by simp [bfs])
    | succ k1 =>
      obtain ⟨swd, sop⟩ := s
      cases sop with
      | nil =>
        have HW : Aside0 (swd = wd) := Aside0.mk (by have := HA.out; simpa [bfs] using this)
        obtain ⟨A, c, ev, _⟩ := Kd.Q_slice HS.out.op
        simp only [lits, List.map_nil, List.length_nil] at ev
        subst ev
        obtain ⟨u, hl1, hl2, hr⟩ := HS.out.look t (by omega)
        simp only [HW.out] at hl1 hr
        have HR := Aside0.mk hr
        clear hr hl2
        go_wp2
        go_ret3
        exact ⟨_, rfl, Kd.R_mono HR.out (fun _ _ => trivial), HS.out.below⟩
      | cons p' op =>
        have hp' : p' < n := HSm.out.1.1 p' (List.mem_cons_self ..)
        obtain ⟨g, o, cap, ev, _⟩ := Kd.Q_form HS.out.op (by simp [lits])
        rw [show (lits (⟨swd, p' :: op⟩ : WS).op).length = op.length + 1 by simp [lits]] at ev
        subst ev
        have hcap := (Kd.Q_reads' HS.out.op).2.1
        have hx := (Kd.Q_cell (0 : Int) HS.out.op 0 (by omega) (by omega)).1
        have e0 : rdOf (0 : Int) (lits (p' :: op)) 0 = (p' : Int) := by simp [rdOf, lits]
        simp only [Int.toNat_zero, Nat.add_zero] at hx
        rw [e0] at hx
        have HSp := Aside0.mk (St.pop HS.out rfl)
        have HAb : Aside0 (bfs n k1 (visits n p' ⟨swd, op⟩ 2) = some wd) := Aside0.mk (by have := HA.out; simpa [bfs] using this)
        have HSm1 : Aside0 (Small n ⟨swd, op⟩) := Aside0.mk ⟨fun q hq => HSm.out.1.1 q (List.mem_cons_of_mem _ hq), HSm.out.1.2⟩
        have HLn : Aside0 (op.length ≤ N) := Aside0.mk (by have := HSm.out.2; simp only [List.length_cons] at this; omega)
        clear HA HSm HS e0
        have hcl : ¬ cap < 1 := by omega
        by_cases hc1 : cap = 1
        · subst hc1
          simp only [if_true, Nat.sub_self] at HSp
          have HC1 := Aside0.mk hcap
          clear hcap
          go_wp2_with fail
          go_loopw [10, 50] (fun v i W => ∃ (j N' : Nat), i = .int .i64 j ∧ Aside0 (j ≤ 2) ∧ Aside0 (N' ≤ N + j) ∧ Aside0 ((visits n p' ⟨swd, op⟩ j).op.length ≤ N') ∧ Aside0 (St w W w.heap.size N' (visits n p' ⟨swd, op⟩ j) v)) (fun _ i _ => 2 - (intOf i).toNat)
          case atStart => exact ⟨0, N, rfl, Aside0.mk (by omega), Aside0.mk (Nat.le_refl _), HLn, HSp⟩
          case round =>
            clear HSp hx
            obtain ⟨j, N', rfl, Hj, HN', HLj, HSj⟩ := hrel
            have hj := Hj.out
            by_cases hj2 : j < 2
            · have HSmj := Aside0.mk (small_visits hn hp' HSm1.out j (by omega))
              have Hv := Aside0.mk (show visits n p' ⟨swd, op⟩ (j + 1) = visit n p' j (visits n p' ⟨swd, op⟩ j) from rfl)
              obtain ⟨s', hs'⟩ : ∃ s', s' = visits n p' ⟨swd, op⟩ j := ⟨_, rfl⟩
              rw [← hs'] at HSj HSmj Hv HLj
              clear hs'
              have hq := step_lt hn (show j ≤ 1 by omega) hp'
              have CS := Aside0.mk (step_eq hn hs (show j ≤ 1 by omega) hp')
              cases hw : s'.wd (stepN n p' j) with
              | some l =>
                rw [visit_some hw] at Hv
                obtain ⟨q, hq'⟩ : ∃ q, q = stepN n p' j := ⟨_, rfl⟩
                rw [← hq'] at CS hq hw
                have HW := Aside0.mk hw
                clear hq' hw
                go_wp2_with (first
                  | (go_at_call 54; refine (knead_step.calls _ _ _ _ _ CS.out).mono ?_; rintro e w' ⟨rfl, ⟨nd3, rfl⟩⟩; have HSd := Aside0.mk (HSj.out.next (pw_below_drewN (Below.refl _ _) nd3)); obtain ⟨u, l1, _, _⟩ := HSd.out.look q (by omega); rw [HW.out] at l1; simp only [Option.isSome_some] at l1)
                  | go_in)
                go_roundw
                case rel => exact ⟨j + 1, N', by go_num, Aside0.mk (by omega), Aside0.mk (by have := HN'.out; omega), by rw [Hv.out]; exact HLj, by rw [Hv.out]; exact HSd⟩
                case measure => simp [intOf]; omega
              | none =>
                by_cases hlen : ((s'.wd p').getD []).length < 40
                · rw [visit_new hw hlen] at Hv
                  obtain ⟨q, hq'⟩ : ∃ q, q = stepN n p' j := ⟨_, rfl⟩
                  rw [← hq'] at CS hq hw Hv
                  have HW := Aside0.mk hw
                  clear hq' hw
                  obtain ⟨lp, hlp⟩ : ∃ lp, lp = (s'.wd p').getD [] := ⟨_, rfl⟩
                  rw [← hlp] at hlen Hv
                  have HLP := Aside0.mk hlp
                  clear hlp
                  have hop2 : s'.op.length ≤ 300001 := by have := HLj.out; have := HN'.out; have := HN.out; omega
                  go_wp2_with (first
                    | (go_at_call 54; refine (knead_step.calls _ _ _ _ _ CS.out).mono ?_; rintro e w' ⟨rfl, ⟨nd3, rfl⟩⟩; have HSd := Aside0.mk (HSj.out.next (pw_below_drewN (Below.refl _ _) nd3)); obtain ⟨u, l1, _, _⟩ := HSd.out.look q (by omega); rw [HW.out] at l1; simp only [Option.isSome_none] at l1; obtain ⟨u2, _, l2, r2⟩ := HSd.out.look p' (by omega); rw [← HLP.out] at r2; obtain ⟨A2, c2, e2⟩ := Kd.R_slice r2; subst e2; have R2 := Aside0.mk r2; clear r2)
                    | (go_at_call 55; refine (slices_Clone_int_int.calls A2 c2 lp lp _ (Kd.R_reads' R2.out).2.2 (Kd.R_reads' R2.out).2.1 (by unfold slices_Clone_int_int.f; rw [if_pos (by omega)])).mono ?_; rintro e w3 ⟨v3, rfl, hR, hB⟩; have RC := Aside0.mk hR; have BC := Aside0.mk hB; clear hR hB)
                    | ((with_reducible refine gate_builtin (b := .append) (xs := #[.tmp 77, .tmp 79]) rfl ?_); at_builtin; go_loud (refine Kd.R_append (Kd.int .i64) (w0 := wr.drewN nd3) (wr.drewN nd3).heap.size rfl (.tmp 77) (.tmp 79) 22 3 (.int .i64 0) 8 rfl Try.underlying22 info3 rfl (by decide) (by omega) v3 lp (j : Int) [.int .i64 (j : Int)] _ (fun _ => False) rfl rfl rfl (fun _ hk => hk.elim) (fun _ _ => trivial) RC.out BC.out (below_size BC.out) (by omega) ?_); intro v4 w4 ho hb hg hat; have HO4 := Aside0.mk ho; have HB4 := Aside0.mk hb; clear ho hb hg hat; have HSe := Aside0.mk (HSd.out.next HB4.out); obtain ⟨w5', hr5, hst5, hg5⟩ := HSe.out.put q (by omega) (by have := HN'.out; have := HN.out; omega) (Kd.R_lower (Kd.R_mono (Kd.R_bound HO4.out) (fun k hk => by have h7 := hk.2.1; exact ⟨by have := HSd.out.lt; omega, fun e => by have := Kd.Q_lt HSd.out.op k e.symm; omega⟩)) (below_size HSd.out.below)); have HS5 := Aside0.mk hst5; clear hst5 hg5)
                    | ((with_reducible refine gate_builtin (b := .append) (xs := #[.tmp 81, .tmp 83]) rfl ?_); at_builtin; go_loud (refine Kd.Q_append (Kd.int .i64) (w0 := w) w.heap.size rfl (.tmp 81) (.tmp 83) 22 3 (.int .i64 0) 8 rfl Try.underlying22 info3 rfl (by decide) (by omega) _ (lits s'.op) (q : Int) [.int .i64 (q : Int)] (fun k => k ≠ w.heap.size) (fun _ => False) rfl rfl rfl (fun _ hk => hk.elim) (fun k hk e => by have := HS5.out.lt; omega) HS5.out.op HS5.out.below (below_size HS5.out.below) (by simp only [lits, List.length_map]; omega) ?_); intro v6 w6 ho hb hg hat; have HS6 := Aside0.mk (HS5.out.push q ho hb hg hat); clear ho hb hg hat)
                    | go_in)
                  go_roundw
                  case rel => exact ⟨j + 1, N' + 1, by go_num, Aside0.mk (by omega), Aside0.mk (by have := HN'.out; omega), by rw [Hv.out]; exact Aside0.mk (by have := HLj.out; simp only [List.length_append, List.length_singleton]; omega), by rw [Hv.out]; exact HS6⟩
                  case measure => simp [intOf]; omega
                · rw [visit_long hlen] at Hv
                  obtain ⟨q, hq'⟩ : ∃ q, q = stepN n p' j := ⟨_, rfl⟩
                  rw [← hq'] at CS hq hw
                  have HW := Aside0.mk hw
                  clear hq' hw
                  obtain ⟨lp, hlp⟩ : ∃ lp, lp = (s'.wd p').getD [] := ⟨_, rfl⟩
                  rw [← hlp] at hlen
                  have HLP := Aside0.mk hlp
                  clear hlp
                  go_wp2_with (first
                    | (go_at_call 54; refine (knead_step.calls _ _ _ _ _ CS.out).mono ?_; rintro e w' ⟨rfl, ⟨nd3, rfl⟩⟩; have HSd := Aside0.mk (HSj.out.next (pw_below_drewN (Below.refl _ _) nd3)); obtain ⟨u, l1, _, _⟩ := HSd.out.look q (by omega); rw [HW.out] at l1; simp only [Option.isSome_none] at l1; obtain ⟨u2, _, l2, r2⟩ := HSd.out.look p' (by omega); rw [← HLP.out] at r2; obtain ⟨A2, c2, e2⟩ := Kd.R_slice r2; subst e2; clear r2)
                    | go_in)
                  go_roundw
                  case rel => exact ⟨j + 1, N', by go_num, Aside0.mk (by omega), Aside0.mk (by have := HN'.out; omega), by rw [Hv.out]; exact HLj, by rw [Hv.out]; exact HSd⟩
                  case measure => simp [intOf]; omega
            · obtain rfl : j = 2 := by omega
              go_wp2
              go_roundg k1
              case measure => have := HK.out; omega
              case rel => exact ⟨visits n p' ⟨swd, op⟩ 2, N', HAb, Aside0.mk (by have := HK.out; omega), Aside0.mk (by have := HN.out; have := HN'.out; omega), Aside0.mk ⟨small_visits hn hp' HSm1.out 2 (by omega), HLj.out⟩, HSj⟩
        · simp only [if_neg hc1] at HSp
          have HC1 := Aside0.mk hcap
          clear hcap
          go_wp2_with fail
          go_loopw [10, 50] (fun v i W => ∃ (j N' : Nat), i = .int .i64 j ∧ Aside0 (j ≤ 2) ∧ Aside0 (N' ≤ N + j) ∧ Aside0 ((visits n p' ⟨swd, op⟩ j).op.length ≤ N') ∧ Aside0 (St w W w.heap.size N' (visits n p' ⟨swd, op⟩ j) v)) (fun _ i _ => 2 - (intOf i).toNat)
          case atStart => exact ⟨0, N, rfl, Aside0.mk (by omega), Aside0.mk (Nat.le_refl _), HLn, HSp⟩
          case round =>
            clear HSp hx
            obtain ⟨j, N', rfl, Hj, HN', HLj, HSj⟩ := hrel
            have hj := Hj.out
            by_cases hj2 : j < 2
            · have HSmj := Aside0.mk (small_visits hn hp' HSm1.out j (by omega))
              have Hv := Aside0.mk (show visits n p' ⟨swd, op⟩ (j + 1) = visit n p' j (visits n p' ⟨swd, op⟩ j) from rfl)
              obtain ⟨s', hs'⟩ : ∃ s', s' = visits n p' ⟨swd, op⟩ j := ⟨_, rfl⟩
              rw [← hs'] at HSj HSmj Hv HLj
              clear hs'
              have hq := step_lt hn (show j ≤ 1 by omega) hp'
              have CS := Aside0.mk (step_eq hn hs (show j ≤ 1 by omega) hp')
              cases hw : s'.wd (stepN n p' j) with
              | some l =>
                rw [visit_some hw] at Hv
                obtain ⟨q, hq'⟩ : ∃ q, q = stepN n p' j := ⟨_, rfl⟩
                rw [← hq'] at CS hq hw
                have HW := Aside0.mk hw
                clear hq' hw
                go_wp2_with (first
                  | (go_at_call 54; refine (knead_step.calls _ _ _ _ _ CS.out).mono ?_; rintro e w' ⟨rfl, ⟨nd3, rfl⟩⟩; have HSd := Aside0.mk (HSj.out.next (pw_below_drewN (Below.refl _ _) nd3)); obtain ⟨u, l1, _, _⟩ := HSd.out.look q (by omega); rw [HW.out] at l1; simp only [Option.isSome_some] at l1)
                  | go_in)
                go_roundw
                case rel => exact ⟨j + 1, N', by go_num, Aside0.mk (by omega), Aside0.mk (by have := HN'.out; omega), by rw [Hv.out]; exact HLj, by rw [Hv.out]; exact HSd⟩
                case measure => simp [intOf]; omega
              | none =>
                by_cases hlen : ((s'.wd p').getD []).length < 40
                · rw [visit_new hw hlen] at Hv
                  obtain ⟨q, hq'⟩ : ∃ q, q = stepN n p' j := ⟨_, rfl⟩
                  rw [← hq'] at CS hq hw Hv
                  have HW := Aside0.mk hw
                  clear hq' hw
                  obtain ⟨lp, hlp⟩ : ∃ lp, lp = (s'.wd p').getD [] := ⟨_, rfl⟩
                  rw [← hlp] at hlen Hv
                  have HLP := Aside0.mk hlp
                  clear hlp
                  have hop2 : s'.op.length ≤ 300001 := by have := HLj.out; have := HN'.out; have := HN.out; omega
                  go_wp2_with (first
                    | (go_at_call 54; refine (knead_step.calls _ _ _ _ _ CS.out).mono ?_; rintro e w' ⟨rfl, ⟨nd3, rfl⟩⟩; have HSd := Aside0.mk (HSj.out.next (pw_below_drewN (Below.refl _ _) nd3)); obtain ⟨u, l1, _, _⟩ := HSd.out.look q (by omega); rw [HW.out] at l1; simp only [Option.isSome_none] at l1; obtain ⟨u2, _, l2, r2⟩ := HSd.out.look p' (by omega); rw [← HLP.out] at r2; obtain ⟨A2, c2, e2⟩ := Kd.R_slice r2; subst e2; have R2 := Aside0.mk r2; clear r2)
                    | (go_at_call 55; refine (slices_Clone_int_int.calls A2 c2 lp lp _ (Kd.R_reads' R2.out).2.2 (Kd.R_reads' R2.out).2.1 (by unfold slices_Clone_int_int.f; rw [if_pos (by omega)])).mono ?_; rintro e w3 ⟨v3, rfl, hR, hB⟩; have RC := Aside0.mk hR; have BC := Aside0.mk hB; clear hR hB)
                    | ((with_reducible refine gate_builtin (b := .append) (xs := #[.tmp 77, .tmp 79]) rfl ?_); at_builtin; go_loud (refine Kd.R_append (Kd.int .i64) (w0 := wr.drewN nd3) (wr.drewN nd3).heap.size rfl (.tmp 77) (.tmp 79) 22 3 (.int .i64 0) 8 rfl Try.underlying22 info3 rfl (by decide) (by omega) v3 lp (j : Int) [.int .i64 (j : Int)] _ (fun _ => False) rfl rfl rfl (fun _ hk => hk.elim) (fun _ _ => trivial) RC.out BC.out (below_size BC.out) (by omega) ?_); intro v4 w4 ho hb hg hat; have HO4 := Aside0.mk ho; have HB4 := Aside0.mk hb; clear ho hb hg hat; have HSe := Aside0.mk (HSd.out.next HB4.out); obtain ⟨w5', hr5, hst5, hg5⟩ := HSe.out.put q (by omega) (by have := HN'.out; have := HN.out; omega) (Kd.R_lower (Kd.R_mono (Kd.R_bound HO4.out) (fun k hk => by have h7 := hk.2.1; exact ⟨by have := HSd.out.lt; omega, fun e => by have := Kd.Q_lt HSd.out.op k e.symm; omega⟩)) (below_size HSd.out.below)); have HS5 := Aside0.mk hst5; clear hst5 hg5)
                    | ((with_reducible refine gate_builtin (b := .append) (xs := #[.tmp 81, .tmp 83]) rfl ?_); at_builtin; go_loud (refine Kd.Q_append (Kd.int .i64) (w0 := w) w.heap.size rfl (.tmp 81) (.tmp 83) 22 3 (.int .i64 0) 8 rfl Try.underlying22 info3 rfl (by decide) (by omega) _ (lits s'.op) (q : Int) [.int .i64 (q : Int)] (fun k => k ≠ w.heap.size) (fun _ => False) rfl rfl rfl (fun _ hk => hk.elim) (fun k hk e => by have := HS5.out.lt; omega) HS5.out.op HS5.out.below (below_size HS5.out.below) (by simp only [lits, List.length_map]; omega) ?_); intro v6 w6 ho hb hg hat; have HS6 := Aside0.mk (HS5.out.push q ho hb hg hat); clear ho hb hg hat)
                    | go_in)
                  go_roundw
                  case rel => exact ⟨j + 1, N' + 1, by go_num, Aside0.mk (by omega), Aside0.mk (by have := HN'.out; omega), by rw [Hv.out]; exact Aside0.mk (by have := HLj.out; simp only [List.length_append, List.length_singleton]; omega), by rw [Hv.out]; exact HS6⟩
                  case measure => simp [intOf]; omega
                · rw [visit_long hlen] at Hv
                  obtain ⟨q, hq'⟩ : ∃ q, q = stepN n p' j := ⟨_, rfl⟩
                  rw [← hq'] at CS hq hw
                  have HW := Aside0.mk hw
                  clear hq' hw
                  obtain ⟨lp, hlp⟩ : ∃ lp, lp = (s'.wd p').getD [] := ⟨_, rfl⟩
                  rw [← hlp] at hlen
                  have HLP := Aside0.mk hlp
                  clear hlp
                  go_wp2_with (first
                    | (go_at_call 54; refine (knead_step.calls _ _ _ _ _ CS.out).mono ?_; rintro e w' ⟨rfl, ⟨nd3, rfl⟩⟩; have HSd := Aside0.mk (HSj.out.next (pw_below_drewN (Below.refl _ _) nd3)); obtain ⟨u, l1, _, _⟩ := HSd.out.look q (by omega); rw [HW.out] at l1; simp only [Option.isSome_none] at l1; obtain ⟨u2, _, l2, r2⟩ := HSd.out.look p' (by omega); rw [← HLP.out] at r2; obtain ⟨A2, c2, e2⟩ := Kd.R_slice r2; subst e2; clear r2)
                    | go_in)
                  go_roundw
                  case rel => exact ⟨j + 1, N', by go_num, Aside0.mk (by omega), Aside0.mk (by have := HN'.out; omega), by rw [Hv.out]; exact HLj, by rw [Hv.out]; exact HSd⟩
                  case measure => simp [intOf]; omega
            · obtain rfl : j = 2 := by omega
              go_wp2
              go_roundg k1
              case measure => have := HK.out; omega
              case rel => exact ⟨visits n p' ⟨swd, op⟩ 2, N', HAb, Aside0.mk (by have := HK.out; omega), Aside0.mk (by have := HN.out; have := HN'.out; omega), Aside0.mk ⟨small_visits hn hp' HSm1.out 2 (by omega), HLj.out⟩, HSj⟩

def knead_Way.f (a0 a1 a2 : Int) : Option (List Int × Bool × Int) := (knead_isLumps.f a0).bind fun t => if t = true then (if a1 < 0 ∨ a1 ≥ a0 ∨ a2 < 0 ∨ a2 ≥ a0 then some ([], false, 4) else if a0 % 2 = 0 ∧ a0 ≤ 1000 then ((bfs a0.toNat 100000 (startW a1.toNat)).bind fun wd => some ((wd a2.toNat).getD [], (wd a2.toNat).isSome, 0)) else none) else some ([], false, 1)

set_option maxHeartbeats 4000000 in
set_option maxRecDepth 100000 in
theorem knead_Way.calls (a0 a1 a2 : Int) (r1 : List Int) (r2 : Bool) (r3 : Int) (w : World) (h : knead_Way.f a0 a1 a2 = some (r1, r2, r3)) :
    Calls Try.prog 21 #[.int .i64 a0, .int .i64 a1, .int .i64 a2] w fun e w' => ∃ v0_ : Value, e = .returned (.tuple #[v0_, .bool r2, .int .i64 r3]) ∧ Kd.R (Kd.int .i64) 3 w' w.heap.size (fun _ => True) v0_ r1 ∧ Below w.heap.size w w' := by
  unfold knead_Way.f at h
  obtain ⟨t, ht, h⟩ := Option.bind_eq_some_iff.mp h
  have HT := Aside0.mk ht
  by_cases hz : t = true
  · rw [if_pos hz] at h
    subst hz
    by_cases h1 : a1 < 0 ∨ a1 ≥ a0 ∨ a2 < 0 ∨ a2 ≥ a0
    · rw [if_pos h1] at h
      simp only [Option.some.injEq, Prod.mk.injEq] at h
      obtain ⟨rfl, rfl, rfl⟩ := h
      clear ht
      by_cases c1 : a1 < 0
      · clear h1
        go_enter Try.func21, Try.ntmps21
        go_wp2_with (first | (go_at_call 53; refine (knead_isLumps.calls a0 true _ HT.out).mono ?_; rintro e w' ⟨rfl, ⟨nd, rfl⟩⟩) | go_in)
        go_ret3
        exact ⟨_, rfl, Kd.R_nil _ _ _ _ _, by exact pw_below_drewN (Below.refl _ _) _⟩
      · by_cases c2 : a1 ≥ a0
        · clear h1
          go_enter Try.func21, Try.ntmps21
          go_wp2_with (first | (go_at_call 53; refine (knead_isLumps.calls a0 true _ HT.out).mono ?_; rintro e w' ⟨rfl, ⟨nd, rfl⟩⟩) | go_in)
          go_ret3
          exact ⟨_, rfl, Kd.R_nil _ _ _ _ _, by exact pw_below_drewN (Below.refl _ _) _⟩
        · by_cases c3 : a2 < 0
          · clear h1
            go_enter Try.func21, Try.ntmps21
            go_wp2_with (first | (go_at_call 53; refine (knead_isLumps.calls a0 true _ HT.out).mono ?_; rintro e w' ⟨rfl, ⟨nd, rfl⟩⟩) | go_in)
            go_ret3
            exact ⟨_, rfl, Kd.R_nil _ _ _ _ _, by exact pw_below_drewN (Below.refl _ _) _⟩
          · have c4 : a2 ≥ a0 := by omega
            clear h1
            go_enter Try.func21, Try.ntmps21
            go_wp2_with (first | (go_at_call 53; refine (knead_isLumps.calls a0 true _ HT.out).mono ?_; rintro e w' ⟨rfl, ⟨nd, rfl⟩⟩) | go_in)
            go_ret3
            exact ⟨_, rfl, Kd.R_nil _ _ _ _ _, by exact pw_below_drewN (Below.refl _ _) _⟩
    · rw [if_neg h1] at h
      by_cases h2 : a0 % 2 = 0 ∧ a0 ≤ 1000
      · rw [if_pos h2] at h
        obtain ⟨wd, hwd, h⟩ := Option.bind_eq_some_iff.mp h
        simp only [Option.some.injEq, Prod.mk.injEq] at h
        obtain ⟨rfl, rfl, rfl⟩ := h
        obtain ⟨n, rfl⟩ : ∃ n : Nat, a0 = n := ⟨a0.toNat, by omega⟩
        obtain ⟨p, rfl⟩ : ∃ p : Nat, a1 = p := ⟨a1.toNat, by omega⟩
        obtain ⟨q, rfl⟩ : ∃ q : Nat, a2 = q := ⟨a2.toNat, by omega⟩
        simp only [Int.toNat_natCast] at hwd ⊢
        exact way_main n p q 100000 wd w (by omega) (by omega) (by omega) (by omega) (Nat.le_refl _) ht hwd
      · rw [if_neg h2] at h
        cases h
  · rw [if_neg hz] at h
    have hb : t = false := by simpa using hz
    subst hb
    simp only [Option.some.injEq, Prod.mk.injEq] at h
    obtain ⟨rfl, rfl, rfl⟩ := h
    clear ht
    go_enter Try.func21, Try.ntmps21
    go_wp2_with (first | (go_at_call 53; refine (knead_isLumps.calls a0 false _ HT.out).mono ?_; rintro e w' ⟨rfl, ⟨nd, rfl⟩⟩) | go_in)
    go_ret3
    exact ⟨_, rfl, Kd.R_nil _ _ _ _ _, by exact pw_below_drewN (Below.refl _ _) _⟩
end Go.Proofs.Ytgnklmhjejbcoaa.K

/- What slices.Sort and slices.Reverse do to a row of the call's own, and what bits.Mul returns: off the shelf. (The tables lays189, lays212, lays112 are written by the shelf's one command.) -/
namespace Go.Proofs.Ytgnklmhjejbcoaa.K
open Go.Shelf Go.RowKit Go.Sort Go.Lib Go.Proofs.YtgnklmhjejbcoaaW.PrintWords Go.Proofs.YtgnklmhjejbcoaaW.PrintLast Go.Proofs.YtgnklmhjejbcoaaW.PrintMore
set_option linter.unusedVariables false
set_option linter.unusedSimpArgs false
def lays189_ren : Go.Shelf.Ren := ⟨fun | 189 => 92 | 125 => 102 | 257 => 101 | 128 => 115 | 129 => 116 | 294 => 106 | 295 => 107 | 296 => 108 | 297 => 109 | 298 => 110 | 299 => 111 | 216 => 112 | 300 => 113 | 301 => 114 | 328 => 117 | 329 => 118 | 330 => 119 | 331 => 120 | 332 => 121 | 215 => 122 | 343 => 123 | n => n, fun | 28 => 22 | 3 => 3 | 46 => 80 | 0 => 0 | 51 => 87 | 53 => 90 | 4 => 4 | 183 => 95 | 182 => 94 | 131 => 98 | 5 => 5 | 9 => 9 | 218 => 102 | 222 => 106 | 228 => 108 | 229 => 109 | n => n, fun | n => n⟩
theorem lays189 : Go.Proofs.Lays.n189 Try.prog lays189_ren := {
  mixed := by kernel_rfl
  f125 := Try.func102.trans (congrArg some (by kernel_rfl))
  f128 := Try.func115.trans (congrArg some (by kernel_rfl))
  f129 := Try.func116.trans (congrArg some (by kernel_rfl))
  f189 := Try.func92.trans (congrArg some (by kernel_rfl))
  f215 := Try.func122.trans (congrArg some (by kernel_rfl))
  f216 := Try.func112.trans (congrArg some (by kernel_rfl))
  f257 := Try.func101.trans (congrArg some (by kernel_rfl))
  f294 := Try.func106.trans (congrArg some (by kernel_rfl))
  f295 := Try.func107.trans (congrArg some (by kernel_rfl))
  f296 := Try.func108.trans (congrArg some (by kernel_rfl))
  f297 := Try.func109.trans (congrArg some (by kernel_rfl))
  f298 := Try.func110.trans (congrArg some (by kernel_rfl))
  f299 := Try.func111.trans (congrArg some (by kernel_rfl))
  f300 := Try.func113.trans (congrArg some (by kernel_rfl))
  f301 := Try.func114.trans (congrArg some (by kernel_rfl))
  f328 := Try.func117.trans (congrArg some (by kernel_rfl))
  f329 := Try.func118.trans (congrArg some (by kernel_rfl))
  f330 := Try.func119.trans (congrArg some (by kernel_rfl))
  f331 := Try.func120.trans (congrArg some (by kernel_rfl))
  f332 := Try.func121.trans (congrArg some (by kernel_rfl))
  f343 := Try.func123.trans (congrArg some (by kernel_rfl))
  t0 := Try.underlying0
  a0 := Try.isAgg0
  z0 := Try.sizeOf0
  v0 := Try.zeroValue0
  t3 := Try.underlying3
  a3 := Try.isAgg3
  z3 := Try.sizeOf3
  v3 := Try.zeroValue3
  t4 := Try.underlying4
  a4 := Try.isAgg4
  z4 := Try.sizeOf4
  v4 := Try.zeroValue4
  t5 := Try.underlying5
  a5 := Try.isAgg5
  z5 := Try.sizeOf5
  v5 := Try.zeroValue5
  t9 := Try.underlying9
  a9 := Try.isAgg9
  z9 := Try.sizeOf9
  v9 := Try.zeroValue9
  t28 := Try.underlying22
  a28 := Try.isAgg22
  z28 := Try.sizeOf22
  v28 := Try.zeroValue22
  t46 := Try.underlying80
  a46 := Try.isAgg80
  z46 := Try.sizeOf80
  v46 := Try.zeroValue80
  t51 := Try.underlying87
  a51 := Try.isAgg87
  z51 := Try.sizeOf87
  v51 := Try.zeroValue87
  t53 := Try.underlying90
  a53 := Try.isAgg90
  z53 := Try.sizeOf90
  v53 := Try.zeroValue90
  t131 := Try.underlying98
  a131 := Try.isAgg98
  z131 := Try.sizeOf98
  v131 := Try.zeroValue98
  t182 := Try.underlying94
  a182 := Try.isAgg94
  z182 := Try.sizeOf94
  v182 := Try.zeroValue94
  t183 := Try.underlying95
  a183 := Try.isAgg95
  z183 := Try.sizeOf95
  v183 := Try.zeroValue95
  t218 := Try.underlying102
  a218 := Try.isAgg102
  z218 := Try.sizeOf102
  v218 := Try.zeroValue102
  t222 := Try.underlying106
  a222 := Try.isAgg106
  z222 := Try.sizeOf106
  v222 := Try.zeroValue106
  t228 := Try.underlying108
  a228 := Try.isAgg108
  z228 := Try.sizeOf108
  v228 := Try.zeroValue108
  t229 := Try.underlying109
  a229 := Try.isAgg109
  z229 := Try.sizeOf109
  v229 := Try.zeroValue109 }
def lays212_ren : Go.Shelf.Ren := ⟨fun | 212 => 100 | 263 => 104 | 264 => 105 | n => n, fun | 46 => 80 | 51 => 87 | 146 => 88 | 53 => 90 | 148 => 91 | n => n, fun | n => n⟩
theorem lays212 : Go.Proofs.Lays.n212 Try.prog lays212_ren := {
  mixed := by kernel_rfl
  f212 := Try.func100.trans (congrArg some (by kernel_rfl))
  f263 := Try.func104.trans (congrArg some (by kernel_rfl))
  f264 := Try.func105.trans (congrArg some (by kernel_rfl))
  t46 := Try.underlying80
  a46 := Try.isAgg80
  z46 := Try.sizeOf80
  v46 := Try.zeroValue80
  t51 := Try.underlying87
  a51 := Try.isAgg87
  z51 := Try.sizeOf87
  v51 := Try.zeroValue87
  t53 := Try.underlying90
  a53 := Try.isAgg90
  z53 := Try.sizeOf90
  v53 := Try.zeroValue90
  t146 := Try.underlying88
  a146 := Try.isAgg88
  z146 := Try.sizeOf88
  v146 := Try.zeroValue88
  t148 := Try.underlying91
  a148 := Try.isAgg91
  z148 := Try.sizeOf91
  v148 := Try.zeroValue91 }
def lays112_ren : Go.Shelf.Ren := ⟨fun | 112 => 63 | n => n, fun | 28 => 22 | 3 => 3 | 4 => 4 | 0 => 0 | n => n, fun | n => n⟩
theorem lays112 : Go.Proofs.Lays.n112 Try.prog lays112_ren := {
  mixed := by kernel_rfl
  f112 := Try.func63.trans (congrArg some (by kernel_rfl))
  t0 := Try.underlying0
  a0 := Try.isAgg0
  z0 := Try.sizeOf0
  v0 := Try.zeroValue0
  t3 := Try.underlying3
  a3 := Try.isAgg3
  z3 := Try.sizeOf3
  v3 := Try.zeroValue3
  t4 := Try.underlying4
  a4 := Try.isAgg4
  z4 := Try.sizeOf4
  v4 := Try.zeroValue4
  t28 := Try.underlying22
  a28 := Try.isAgg22
  z28 := Try.sizeOf22
  v28 := Try.zeroValue22 }
theorem bits_Mul (x y : Nat) (hx : x < 18446744073709551616) (hy : y < 18446744073709551616) (w : World) :
    Calls Try.prog 100 #[.int .u64 x, .int .u64 y] w fun e w' => e = .returned (.tuple #[.int .u64 ((x * y / 18446744073709551616 : Nat) : Int), .int .u64 ((x * y % 18446744073709551616 : Nat) : Int)]) ∧ w' = w := Any.bits_Mul lays212 x y hx hy w

/-- A row of the call's own whose first cells are written over. -/
theorem R_setCells {base g n cap : Nat} {ok : Nat → Prop} : ∀ (ys pre post : List Int) (w : World) (hl : post.length = ys.length), Kd.R (Kd.int .i64) 3 w base ok (.slice (some ⟨g, 0, none⟩) n cap) (pre ++ post) →
    Kd.R (Kd.int .i64) 3 (w.setCells g pre.length (ys.map (.int .i64))) base ok (.slice (some ⟨g, 0, none⟩) n cap) (pre ++ ys) ∧ w.grownBy (w.setCells g pre.length (ys.map (.int .i64))) (some g)
  | [], pre, post, w, hl, h => by
    have : post = [] := List.eq_nil_of_length_eq_zero hl
    subst this
    exact ⟨h, ⟨rfl, rfl, rfl, Nat.le_refl _, fun _ _ _ => rfl⟩⟩
  | y :: ys, pre, [], w, hl, h => by simp at hl
  | y :: ys, pre, p :: post, w, hl, h => by
    obtain ⟨hn, _, _⟩ := Kd.R_reads' h
    have hp : Kd.R (Kd.int .i64) 3 (w.setCell ⟨g, pre.length, none⟩ (.int .i64 y)) base ok (.slice (some ⟨g, 0, none⟩) n cap) ((pre ++ p :: post).set pre.length y) ∧ w.grownBy (w.setCell ⟨g, pre.length, none⟩ (.int .i64 y)) (some g) := by
      subst hn
      have hp := Kd.R_put h (pre.length : Int) y
      rw [Int.toNat_natCast] at hp
      exact hp
    obtain ⟨h1, h2⟩ := hp
    have he : (pre ++ p :: post).set pre.length y = (pre ++ [y]) ++ post := by simp
    rw [he] at h1
    have ih := R_setCells ys (pre ++ [y]) post (w.setCell ⟨g, pre.length, none⟩ (.int .i64 y)) (by simpa using hl) h1
    simp only [List.length_append, List.length_singleton, List.append_assoc, List.singleton_append] at ih
    refine ⟨ih.1, ?_⟩
    have h3 := ih.2
    exact ⟨h3.os.trans h2.os, h3.tape.trans h2.tape, h3.output.trans h2.output, Nat.le_trans h2.size h3.size, fun k hk hne => (h3.block k (Nat.lt_of_lt_of_le hk h2.size) hne).trans (h2.block k hk hne)⟩

theorem R_holds {base g n cap : Nat} {ok : Nat → Prop} {xs : List Int} {w : World} (h : Kd.R (Kd.int .i64) 3 w base ok (.slice (some ⟨g, 0, none⟩) n cap) xs) : Holds (Value.int .i64) w g 0 xs.toArray := by
  intro j hj
  obtain ⟨hn, _, _⟩ := Kd.R_reads' h
  subst hn
  have hj' : j < xs.length := by simpa using hj
  have := Kd.R_cell (d := (0 : Int)) h (j : Int) (by omega) (by omega)
  rw [Int.toNat_natCast] at this
  refine ⟨?_, by simpa using this.2⟩
  have h1 := this.1
  rw [Nat.zero_add, h1]
  have e1 : rdOf (0 : Int) xs (j : Int) = xs[j] := by simp [rdOf, hj']
  rw [e1]
  simp [hj']

theorem R_block0 {base : Nat} {ok : Nat → Prop} {A : Option Addr} {n cap : Nat} {xs : List Int} {w : World} (h : Kd.R (Kd.int .i64) 3 w base ok (.slice A n cap) xs) : A = none ∨ ∃ g, A = some ⟨g, 0, none⟩ := by
  obtain ⟨_, inner, ho, _⟩ := h
  rcases ho.2 with ⟨hv, _⟩ | ⟨g, cap', cur, hv, _⟩
  · injection hv with ha _ _
    exact .inl ha
  · injection hv with ha _ _
    exact .inr ⟨g, ha⟩

theorem R_block1 {base : Nat} {ok : Nat → Prop} {A : Option Addr} {n cap : Nat} {xs : List Int} {w : World} (h : Kd.R (Kd.int .i64) 3 w base ok (.slice A n cap) xs) (hn : 0 < n) : ∃ g, A = some ⟨g, 0, none⟩ := by
  obtain ⟨_, inner, ho, _⟩ := h
  rcases ho.2 with ⟨hv, _⟩ | ⟨g, cap', cur, hv, _⟩
  · injection hv with _ ha _
    omega
  · injection hv with ha _ _
    exact ⟨g, ha⟩

theorem grown_refl (w : World) (row : Option Nat) : w.grownBy w row := ⟨rfl, rfl, rfl, Nat.le_refl _, fun _ _ _ => rfl⟩

theorem reverse_R {base cap : Nat} {ok : Nat → Prop} {A : Option Addr} {xs : List Int} {w : World} (h : Kd.R (Kd.int .i64) 3 w base ok (.slice A xs.length cap) xs) (hsz : xs.length ≤ 9223372036854775807) :
    Calls Try.prog 63 #[.slice A xs.length cap] w fun e w' => e = .returned (.tuple #[]) ∧ Kd.R (Kd.int .i64) 3 w' base ok (.slice A xs.length cap) xs.reverse ∧ w.grownBy w' (Value.slice A xs.length cap).ownBlock := by
  rcases R_block0 h with rfl | ⟨g, rfl⟩
  · have hx : xs = [] := by
      obtain ⟨_, inner, ho, hr⟩ := h
      rcases ho.2 with ⟨hv, h2⟩ | ⟨g, cap', cur, hv, _⟩
      · injection hv with _ ha _
        exact List.eq_nil_of_length_eq_zero ha
      · injection hv with ha _ _
        cases ha
    subst hx
    refine (Any.slices_Reverse_int_empty lays112 none cap w).mono ?_
    rintro e w' ⟨rfl, rfl⟩
    exact ⟨rfl, h, grown_refl _ _⟩
  · refine (Any.slices_Reverse_int lays112 g 0 cap xs w (R_holds h) hsz).mono ?_
    rintro e w' ⟨rfl, q, rfl⟩
    rw [Lib.putRow_eq_setCells _ w g 0 xs.toArray xs.reverse q (R_holds h) (by simp)]
    obtain ⟨h1, h2⟩ := R_setCells xs.reverse [] xs (w.drewN q) (by simp) (Kd.R_drewN h q)
    exact ⟨rfl, h1, h2.os, h2.tape, h2.output, h2.size, h2.block⟩

def sortL (xs : List Int) : List Int := xs.mergeSort fun x y => decide (x ≤ y)
theorem sortL_length (xs : List Int) : (sortL xs).length = xs.length := List.length_mergeSort _

theorem sort_R {base cap : Nat} {ok : Nat → Prop} {A : Option Addr} {xs : List Int} {w : World} (h : Kd.R (Kd.int .i64) 3 w base ok (.slice A xs.length cap) xs) (hsz : xs.length < 4611686018427387904) (h0 : 0 < xs.length) :
    Calls Try.prog 92 #[.slice A xs.length cap] w fun e w' => e = .returned (.tuple #[]) ∧ Kd.R (Kd.int .i64) 3 w' base ok (.slice A xs.length cap) (sortL xs) ∧ w.grownBy w' (Value.slice A xs.length cap).ownBlock := by
  rcases R_block0 h with rfl | ⟨g, rfl⟩
  · exfalso
    obtain ⟨_, inner, ho, hr⟩ := h
    rcases ho.2 with ⟨hv, h2⟩ | ⟨g, cap', cur, hv, _⟩
    · injection hv with _ ha _
      omega
    · injection hv with ha _ _
      cases ha
  · have hg : g < w.heap.size := Kd.R_lt h g rfl
    refine (Any.slices_Sort_int lays189 g 0 cap xs w (R_holds h) hg hsz).mono ?_
    rintro e w' ⟨rfl, q, os, rfl⟩
    have hp := Lib.putRow_eq_setCells (Value.int .i64) w g 0 xs.toArray (sortL xs) q (R_holds h) (by simp [sortL_length])
    unfold sortL at hp
    rw [hp]
    obtain ⟨h1, h2⟩ := R_setCells (sortL xs) [] xs (w.drewN q) (sortL_length xs).symm (Kd.R_drewN h q)
    unfold sortL at h1 h2
    have hgr : (((w.drewN q).setCells g 0 ((xs.mergeSort fun x y => decide (x ≤ y)).map (.int .i64)))).grownBy (grow ((w.drewN q).setCells g 0 ((xs.mergeSort fun x y => decide (x ≤ y)).map (.int .i64))) os) none := ⟨rfl, rfl, rfl, by simp [grow], fun k hk _ => by simp [grow, Array.getElem?_append, hk]⟩
    refine ⟨rfl, Kd.R_grown h1 hgr (fun _ _ e => by cases e), ?_⟩
    exact ⟨h2.os, h2.tape, h2.output, Nat.le_trans h2.size hgr.size, fun k hk hne => (hgr.block k (Nat.lt_of_lt_of_le hk h2.size) (by simp)).trans (h2.block k hk hne)⟩
end Go.Proofs.Ytgnklmhjejbcoaa.K

/- What knead.Bring returns: the digits of a place, written in twos, in memory of the call's own, or nil and the error; older memory stays as it was. -/
namespace Go.Proofs.Ytgnklmhjejbcoaa.K
open Go.RowKit Go.Proofs.YtgnklmhjejbcoaaW.PrintWords Go.Proofs.YtgnklmhjejbcoaaW.PrintLast Go.Proofs.YtgnklmhjejbcoaaW.PrintMore
set_option linter.unusedVariables false
set_option linter.unusedSimpArgs false

/-- The digits of a number, the last one first. -/
def lowF : Nat → Nat → List Int
  | 0, _ => []
  | f + 1, n => if n = 0 then [] else ((n % 2 : Nat) : Int) :: lowF f (n / 2)
theorem lowF_zero (f : Nat) : lowF f 0 = [] := by cases f <;> rfl
theorem lowF_pos (f n : Nat) (h : 0 < n) : lowF (f + 1) n = ((n % 2 : Nat) : Int) :: lowF f (n / 2) := by rw [lowF, if_neg (by omega)]
theorem lowF_length : ∀ (f n : Nat), (lowF f n).length ≤ f
  | 0, n => Nat.le_refl _
  | f + 1, n => by
    rw [lowF]
    split
    · simp
    · have := lowF_length f (n / 2)
      simp only [List.length_cons]
      omega

def knead_Bring.f (a0 a1 : Int) : Option (List Int × Int) := (knead_isLumps.f a0).bind fun t => if t = true then (if a1 < 0 ∨ a1 ≥ a0 then some ([], 4) else if a1 < 1024 then some ((lowF 10 a1.toNat).reverse, 0) else none) else some ([], 1)

set_option maxHeartbeats 4000000 in
set_option maxRecDepth 100000 in
theorem knead_Bring.calls (a0 a1 : Int) (r1 : List Int) (r2 : Int) (w : World) (h : knead_Bring.f a0 a1 = some (r1, r2)) :
    Calls Try.prog 28 #[.int .i64 a0, .int .i64 a1] w fun e w' => ∃ v0_ : Value, e = .returned (.tuple #[v0_, .int .i64 r2]) ∧ Kd.R (Kd.int .i64) 3 w' w.heap.size (fun _ => True) v0_ r1 ∧ Below w.heap.size w w' := by
  unfold knead_Bring.f at h
  obtain ⟨t, ht, h⟩ := Option.bind_eq_some_iff.mp h
  have HT := Aside0.mk ht
  clear ht
  by_cases hz : t = true
  · rw [if_pos hz] at h
    subst hz
    by_cases h1 : a1 < 0
    · rw [if_pos (.inl h1)] at h
      simp only [Option.some.injEq, Prod.mk.injEq] at h
      obtain ⟨rfl, rfl⟩ := h
      go_enter Try.func28, Try.ntmps28
      go_wp2_with (first | (go_at_call 53; refine (knead_isLumps.calls a0 true _ HT.out).mono ?_; rintro e w' ⟨rfl, ⟨nd, rfl⟩⟩) | go_in)
      go_ret2
      exact ⟨_, rfl, Kd.R_nil _ _ _ _ _, by exact pw_below_drewN (Below.refl _ _) _⟩
    · by_cases h2 : a1 ≥ a0
      · rw [if_pos (.inr h2)] at h
        simp only [Option.some.injEq, Prod.mk.injEq] at h
        obtain ⟨rfl, rfl⟩ := h
        go_enter Try.func28, Try.ntmps28
        go_wp2_with (first | (go_at_call 53; refine (knead_isLumps.calls a0 true _ HT.out).mono ?_; rintro e w' ⟨rfl, ⟨nd, rfl⟩⟩) | go_in)
        go_ret2
        exact ⟨_, rfl, Kd.R_nil _ _ _ _ _, by exact pw_below_drewN (Below.refl _ _) _⟩
      · rw [if_neg (by omega)] at h
        by_cases h3 : a1 < 1024
        · rw [if_pos h3] at h
          simp only [Option.some.injEq, Prod.mk.injEq] at h
          obtain ⟨rfl, rfl⟩ := h
          obtain ⟨m, rfl⟩ : ∃ m : Nat, a1 = m := ⟨a1.toNat, by omega⟩
          rw [Int.toNat_natCast]
          have hm : m < 2 ^ 10 := by omega
          have hw2 := Aside0.mk hm
          clear hm
          go_enter Try.func28, Try.ntmps28
          go_wp2_with (first | (go_at_call 53; refine (knead_isLumps.calls a0 true _ HT.out).mono ?_; rintro e w' ⟨rfl, ⟨nd, rfl⟩⟩) | go_in)
          go_loopw [6, 7] (fun v i wr => ∃ (f n : Nat) (ds : List Int), i = .int .i64 n ∧ Aside0 (n ≤ 1024) ∧ Aside0 (n < 2 ^ f ∧ ds.length + f = 10 ∧ ds ++ lowF f n = lowF 10 m) ∧ Aside0 (Kd.R (Kd.int .i64) 3 wr w.heap.size (fun _ => True) v ds) ∧ Aside0 (Below w.heap.size w wr)) (fun _ i _ => (intOf i).toNat)
          case atStart => exact ⟨10, m, [], rfl, Aside0.mk (by have := hw2.out; omega), Aside0.mk ⟨hw2.out, rfl, rfl⟩, Aside0.mk (Kd.R_nil _ _ _ _ _), Aside0.mk (by exact pw_below_drewN (Below.refl _ _) _)⟩
          case round =>
            obtain ⟨f, n, ds, rfl, Hn, HF, HO, HB⟩ := hrel
            have hn := Hn.out
            obtain ⟨Av, cv, ev⟩ := Kd.R_slice HO.out
            subst ev
            by_cases hp : 0 < n
            · obtain ⟨f, rfl⟩ : ∃ g, f = g + 1 := by
                cases f with
                | zero => have := HF.out.1; omega
                | succ g => exact ⟨g, rfl⟩
              have hq1 : Int.tmod (n : Int) 2 = ((n % 2 : Nat) : Int) := by rw [Int.tmod_eq_emod_of_nonneg (by omega)]; omega
              have hq2 : Int.tdiv (n : Int) 2 = ((n / 2 : Nat) : Int) := by rw [Int.tdiv_eq_ediv_of_nonneg (by omega)]; omega
              have hdl : ds.length ≤ 10 := by have := HF.out.2.1; omega
              have hnn : (0 : Int) ≤ (n : Int) / 2 := by omega
              clear h hq1 hq2
              have HG := HF.out.2.2
              rw [lowF_pos f n hp] at HG
              have HS := Aside0.mk (show n / 2 < 2 ^ f ∧ (ds ++ [((n : Int) % 2)]).length + f = 10 ∧ (ds ++ [((n : Int) % 2)]) ++ lowF f (n / 2) = lowF 10 m by
                refine ⟨?_, ?_, ?_⟩
                · have := HF.out.1
                  rw [Nat.pow_succ] at this
                  omega
                · have := HF.out.2.1
                  simp only [List.length_append, List.length_singleton]
                  omega
                · rw [← HG]
                  simp)
              clear HG
              go_wp2_with (first | ((with_reducible refine gate_builtin (b := .append) (xs := #[.tmp 23, .tmp 26]) rfl ?_); at_builtin; refine Kd.R_append (Kd.int .i64) (w0 := w) w.heap.size rfl (.tmp 23) (.tmp 26) 22 3 (.int .i64 0) 8 rfl Try.underlying22 info3 rfl (by decide) (by omega) _ ds ((n : Int) % 2) [.int .i64 ((n : Int) % 2)] _ (fun _ => False) rfl rfl rfl (fun _ hk => hk.elim) (fun _ _ => trivial) HO.out HB.out (below_size HB.out) (by omega) ?_; intro v2 w2 ho hb hg hat; have HO2 := Aside0.mk ho; have HB2 := Aside0.mk hb; clear ho hb hg hat))
              go_roundw
              case rel => exact ⟨f, n / 2, _, by simp, Aside0.mk (by omega), HS, HO2, HB2⟩
              case measure => simp [intOf]; omega
            · obtain rfl : n = 0 := by omega
              have HE : Aside0 (ds = lowF 10 m) := Aside0.mk (by have := HF.out.2.2; rw [lowF_zero, List.append_nil] at this; exact this)
              have hdl : ds.length ≤ 10 := by rw [HE.out]; exact lowF_length _ _
              have HV := Aside0.mk (reverse_R HO.out (by omega))
              go_wp2_with fail
              refine HV.out.mono ?_
              rintro e w2 ⟨rfl, hR, hg⟩
              have HR2 := Aside0.mk hR
              have HB2 := Aside0.mk (HB.out.grown hg (below_size HB.out) (fun k e => Kd.R_base HO.out k e))
              clear hR hg
              go_wp2
              go_ret2
              exact ⟨_, rfl, by rw [← HE.out]; simpa using HR2.out, HB2.out⟩
        · rw [if_neg h3] at h
          cases h
  · rw [if_neg hz] at h
    have hb : t = false := by simpa using hz
    subst hb
    simp only [Option.some.injEq, Prod.mk.injEq] at h
    obtain ⟨rfl, rfl⟩ := h
    go_enter Try.func28, Try.ntmps28
    go_wp2_with (first | (go_at_call 53; refine (knead_isLumps.calls a0 false _ HT.out).mono ?_; rintro e w' ⟨rfl, ⟨nd, rfl⟩⟩) | go_in)
    go_ret2
    exact ⟨_, rfl, Kd.R_nil _ _ _ _ _, by exact pw_below_drewN (Below.refl _ _) _⟩
end Go.Proofs.Ytgnklmhjejbcoaa.K

/- DERIVED by wip/pr.py: for each Go function named below a Lean function with the same answers, and that a call of it comes to these answers, for all arguments and memories, where the Lean function has an answer. -/
namespace Go.Proofs.Ytgnklmhjejbcoaa.K
open Go.RowKit Go.Proofs.YtgnklmhjejbcoaaW.PrintWords Go.Proofs.YtgnklmhjejbcoaaW.PrintLast Go.Proofs.YtgnklmhjejbcoaaW.PrintMore
attribute [local go_sem] max2_int min2_int max_two min_two max_three min_three max_four min_four   -- for this text's walks alone
set_option linter.unusedVariables false
set_option linter.unusedSimpArgs false

/-! ### knead_kinded: function 68 -/
def knead_kinded.f (a0 : Int) (a1 : Int) : Option (Int) := (knead_isLumps.f a0).bind fun t151 => (if t151 = true then (if a1 = 0 then (some 0) else (if a1 = 1 then (some 0) else (some 1))) else (some 1))
set_option maxHeartbeats 8000000 in
set_option maxRecDepth 100000 in
theorem knead_kinded.calls (a0 : Int) (a1 : Int) (r : Int) (w : World) (h : knead_kinded.f a0 a1 = some r) :
    Calls Try.prog 68 #[.int .i64 a0, .int .i64 a1] w fun e w' => e = .returned (.int .i64 r) ∧ Drawn0 w w' := by
  have H : ((knead_isLumps.f a0).bind fun t151 => (if t151 = true then (if a1 = 0 then (some 0) else (if a1 = 1 then (some 0) else (some 1))) else (some 1))) = some r := h
  clear h
  replace H := Option.bind_eq_some_iff.mp H
  obtain ⟨t151, A30, H⟩ := H
  replace H : (if t151 = true then (if a1 = 0 then (some 0) else (if a1 = 1 then (some 0) else (some 1))) else (some 1)) = some r := H
  have A3 := Aside0.mk A30
  clear A30
  by_cases c4 : t151 = true
  · subst c4
    have H1 : (if a1 = 0 then (some 0) else (if a1 = 1 then (some 0) else (some 1))) = some r := by rw [if_pos rfl] at H; exact H
    clear H
    have H := H1
    clear H1
    by_cases c5 : a1 = 0
    · rw [if_pos c5] at H
      have c5b0 : (a1 == 0) = true := beq_iff_eq.mpr c5
      have c5b1 : (a1 != 0) = false := bne_eq_false_iff_eq.mpr c5
      clear c5
      obtain rfl := Option.some.inj H
      go_enter Try.func68, Try.ntmps68
      go_wp2_with (first | ((with_reducible refine gate_callee (f := 53) rfl ?_); refine goesL_ (some 6) rfl rfl Try.func53 (by kernel_rfl) rfl #[.int .i64 a0] rfl (by (try simp only [List.map_toArray, List.map_cons, List.map_nil]); first | done | rfl | (simp only [List.length_drop, List.length_take]; rfl)) ?_; (with_reducible refine (knead_isLumps.calls a0 true _ A3.out).mono ?_); rintro e w' ⟨rfl, ⟨nd, rfl⟩⟩; refine ⟨_, rfl, ?_⟩))
      go_ret
      exact ⟨by first | rfl | (simp; done) | (simp [*]; done), by repeat (first | exact Drawn0.refl _ | apply Drawn0.step)⟩
    · rw [if_neg c5] at H
      have c5b0 : (a1 == 0) = false := beq_eq_false_iff_ne.mpr c5
      have c5b1 : (a1 != 0) = true := bne_iff_ne.mpr c5
      by_cases c6 : a1 = 1
      · rw [if_pos c6] at H
        have c6b0 : (a1 == 1) = true := beq_iff_eq.mpr c6
        have c6b1 : (a1 != 1) = false := bne_eq_false_iff_eq.mpr c6
        clear c6
        obtain rfl := Option.some.inj H
        go_enter Try.func68, Try.ntmps68
        go_wp2_with (first | ((with_reducible refine gate_callee (f := 53) rfl ?_); refine goesL_ (some 6) rfl rfl Try.func53 (by kernel_rfl) rfl #[.int .i64 a0] rfl (by (try simp only [List.map_toArray, List.map_cons, List.map_nil]); first | done | rfl | (simp only [List.length_drop, List.length_take]; rfl)) ?_; (with_reducible refine (knead_isLumps.calls a0 true _ A3.out).mono ?_); rintro e w' ⟨rfl, ⟨nd, rfl⟩⟩; refine ⟨_, rfl, ?_⟩))
        go_ret
        exact ⟨by first | rfl | (simp; done) | (simp [*]; done), by repeat (first | exact Drawn0.refl _ | apply Drawn0.step)⟩
      · rw [if_neg c6] at H
        have c6b0 : (a1 == 1) = false := beq_eq_false_iff_ne.mpr c6
        have c6b1 : (a1 != 1) = true := bne_iff_ne.mpr c6
        obtain rfl := Option.some.inj H
        go_enter Try.func68, Try.ntmps68
        go_wp2_with (first | ((with_reducible refine gate_callee (f := 53) rfl ?_); refine goesL_ (some 6) rfl rfl Try.func53 (by kernel_rfl) rfl #[.int .i64 a0] rfl (by (try simp only [List.map_toArray, List.map_cons, List.map_nil]); first | done | rfl | (simp only [List.length_drop, List.length_take]; rfl)) ?_; (with_reducible refine (knead_isLumps.calls a0 true _ A3.out).mono ?_); rintro e w' ⟨rfl, ⟨nd, rfl⟩⟩; refine ⟨_, rfl, ?_⟩))
        go_ret
        exact ⟨by first | rfl | (simp; done) | (simp [*]; done), by repeat (first | exact Drawn0.refl _ | apply Drawn0.step)⟩
  · replace c4 := Bool.eq_false_iff.mpr c4
    subst c4
    have H1 : (some 1) = some r := by rw [if_neg (show ¬ (false = true) by decide)] at H; exact H
    clear H
    have H := H1
    clear H1
    obtain rfl := Option.some.inj H
    go_enter Try.func68, Try.ntmps68
    go_wp2_with (first | ((with_reducible refine gate_callee (f := 53) rfl ?_); refine goesL_ (some 6) rfl rfl Try.func53 (by kernel_rfl) rfl #[.int .i64 a0] rfl (by (try simp only [List.map_toArray, List.map_cons, List.map_nil]); first | done | rfl | (simp only [List.length_drop, List.length_take]; rfl)) ?_; (with_reducible refine (knead_isLumps.calls a0 false _ A3.out).mono ?_); rintro e w' ⟨rfl, ⟨nd, rfl⟩⟩; refine ⟨_, rfl, ?_⟩))
    go_ret
    exact ⟨by first | rfl | (simp; done) | (simp [*]; done), by repeat (first | exact Drawn0.refl _ | apply Drawn0.step)⟩

end Go.Proofs.Ytgnklmhjejbcoaa.K

/- What knead.rounds returns for the two functions that are handed nx it: the lengths of the cycles, sorted, in memory of the call's own; older memory stays as it was. -/
namespace Go.Proofs.Ytgnklmhjejbcoaa.K
open Go.RowKit Go.Proofs.YtgnklmhjejbcoaaW.PrintWords Go.Proofs.YtgnklmhjejbcoaaW.PrintLast Go.Proofs.YtgnklmhjejbcoaaW.PrintMore
set_option linter.unusedVariables false
set_option linter.unusedSimpArgs false

/-- One cycle walked: what has been seen behind it, and its length. -/
def cyc (nx : Nat → Nat) : Nat → List Bool → Nat → Nat → Option (List Bool × Nat)
  | 0, _, _, _ => none
  | f + 1, sn, p, c => if sn.getD p true = true then some (sn, c) else cyc nx f (sn.set p true) (nx p) (c + 1)
/-- The cycles from the place i on, m places. -/
def rnds (nx : Nat → Nat) : Nat → List Bool → Nat → List Int → Option (List Int)
  | 0, _, _, out => some out
  | m + 1, sn, i, out => (cyc nx 2000 sn i 0).bind fun r => rnds nx m r.1 (i + 1) (if 0 < r.2 then out ++ [(r.2 : Int)] else out)
theorem info4 : (Try.prog.info? 4).map (fun i => (i.zero, i.size, i.bytes)) = some (some (.bool false), 1, 1) := by kernel_rfl
theorem cyc_len (nx : Nat → Nat) : ∀ (f : Nat) (sn : List Bool) (p c : Nat) (s : List Bool) (d : Nat), cyc nx f sn p c = some (s, d) → s.length = sn.length
  | 0, _, _, _, _, _, h => by simp [cyc] at h
  | f + 1, sn, p, c, s, d, h => by
    rw [cyc] at h
    split at h
    · simp only [Option.some.injEq, Prod.mk.injEq] at h
      rw [h.1]
    · have := cyc_len nx f _ _ _ s d h
      rw [List.length_set] at this
      exact this
theorem R_blockd {α : Type} {d : Kd α} {e base n cap : Nat} {ok : Nat → Prop} {A : Option Addr} {xs : List α} {w : World} (h : Kd.R d e w base ok (.slice A n cap) xs) (hn : 0 < n) : ∃ g, A = some ⟨g, 0, none⟩ := by
  obtain ⟨_, inner, ho, _⟩ := h
  rcases ho.2 with ⟨hv, _⟩ | ⟨g, cap', cur, hv, _⟩
  · injection hv with _ ha _
    omega
  · injection hv with ha _ _
    exact ⟨g, ha⟩
theorem sn_get (sn : List Bool) (p : Nat) (h : p < sn.length) : rdOf false sn (p : Int) = sn.getD p true := by
  simp [rdOf, h]

set_option maxHeartbeats 8000000 in
set_option maxRecDepth 100000 in
theorem rounds73 (n : Nat) (hn : n ≤ 1000) (nx : Nat → Nat) (hto : ∀ p, p < n → nx p < n) (res : List Int) (hres : 0 < res.length) (B1 B2 : Nat) (w : World)
    (hc : ∀ W p, Below w.heap.size w W → p < n → Calls Try.prog 73 #[.int .i64 (p : Int), .pointer (some ⟨B1, 0, none⟩), .pointer (some ⟨B2, 0, none⟩)] W fun e W' => e = .returned (.int .i64 (nx p : Int)) ∧ Drawn0 W W')
    (h : rnds nx n (List.replicate n false) 0 [] = some res) :
    Calls Try.prog 72 #[.int .i64 n, .func (.func 73) #[] #[.pointer (some ⟨B1, 0, none⟩), .pointer (some ⟨B2, 0, none⟩)]] w fun e w' => ∃ v0_ : Value, e = .returned (v0_) ∧ Kd.R (Kd.int .i64) 3 w' w.heap.size (fun _ => True) v0_ (sortL res) ∧ Below w.heap.size w w' := by
  have HC := Aside0.mk hc
  have HH := Aside0.mk h
  have HT := Aside0.mk hto
  clear hc h hto
  go_enter Try.func72, Try.ntmps72
  go_wp2_with (first
    | ((with_reducible refine gate_dst (N := 11) rfl ?_); refine Kd.R_make Kd.bool w.heap.size 4 rfl (N := 11) rfl 73 _ _ rfl (n : Int) rfl rfl Try.underlying73 (.bool false) 1 info4 rfl (by decide) (by omega) false (ok := fun _ => True) (okp := fun _ => True) rfl (fun _ hk => hk) trivial (by omega) (by simp; omega) (Below.refl w.heap.size w) (Nat.le_refl _) ?_; intro v1 w5 ho hb hg_ hnew_; clear hg_ hnew_; rw [Int.toNat_natCast] at ho; have HO := Aside0.mk ho; have HB := Aside0.mk hb; clear ho hb; obtain ⟨A1, c1, e1⟩ := Kd.R_slice HO.out; subst e1; simp only [List.length_replicate] at HO))
  have HS0 : Aside0 ((List.replicate n false).length = n) := Aside0.mk (by simp)
  go_loopw [5, 13] (fun v i W => ∃ (m : Nat) (sn : List Bool) (out : List Int), i = .int .i64 m ∧ Aside0 (m ≤ n ∧ sn.length = n ∧ out.length ≤ m ∧ rnds nx (n - m) sn m out = some res) ∧ Aside0 (Kd.R (Kd.int .i64) 3 W w.heap.size (fun _ => True) v out) ∧ Aside0 (Kd.R Kd.bool 4 W w.heap.size (fun _ => True) (.slice A1 n c1) sn) ∧ Aside0 (Below w.heap.size w W)) (fun _ i _ => n - (intOf i).toNat)
  case atStart => exact ⟨0, _, [], rfl, Aside0.mk ⟨Nat.zero_le _, HS0.out, Nat.le_refl _, HH.out⟩, Aside0.mk (Kd.R_nil _ _ _ _ _), HO, HB⟩
  case round =>
    clear HH HO HB HS0
    obtain ⟨m, sn, out, rfl, HA, HO, HSn, HB⟩ := hrel
    by_cases hm : m < n
    · obtain ⟨g, rfl⟩ := R_blockd HSn.out (by omega)
      obtain ⟨s', d', hcyc, hrest⟩ : ∃ s' d', cyc nx 2000 sn m 0 = some (s', d') ∧ rnds nx (n - (m + 1)) s' (m + 1) (if 0 < d' then out ++ [(d' : Int)] else out) = some res := by
        have h := HA.out.2.2.2
        rw [show n - m = (n - (m + 1)) + 1 by omega, rnds] at h
        obtain ⟨r, h1, h2⟩ := Option.bind_eq_some_iff.mp h
        exact ⟨r.1, r.2, h1, h2⟩
      have HCy := Aside0.mk hcyc
      have HRe := Aside0.mk hrest
      have HLs := Aside0.mk (cyc_len nx _ _ _ _ _ _ hcyc)
      clear hcyc hrest
      obtain ⟨Av, cv, ev⟩ := Kd.R_slice HO.out
      subst ev
      go_wp2_with fail
      go_loopg [8, 9] 2000 (fun kq c p W => ∃ (cn pn : Nat) (sq : List Bool), c = .int .i64 cn ∧ p = .int .i64 pn ∧ Aside0 (pn < n ∧ sq.length = n ∧ cn + kq ≤ 2000 ∧ cyc nx kq sq pn cn = some (s', d')) ∧ Aside0 (Kd.R (Kd.int .i64) 3 W w.heap.size (fun _ => True) (.slice Av out.length cv) out) ∧ Aside0 (Kd.R Kd.bool 4 W w.heap.size (fun _ => True) (.slice (some ⟨g, 0, none⟩) n c1) sq) ∧ Aside0 (Below w.heap.size w W))
      case atStart => exact ⟨0, m, sn, rfl, rfl, Aside0.mk ⟨hm, HA.out.2.1, Nat.le_refl _, HCy.out⟩, HO, HSn, HB⟩
      case round =>
        clear HO HSn HB HCy
        obtain ⟨cn, pn, sq, rfl, rfl, HQ, HO, HSn, HB⟩ := hrel
        cases gk with
        | zero => exact absurd HQ.out.2.2.2 (by simp [cyc])
        | succ k1 =>
          have hpn := HQ.out.1
          have hcell := Kd.R_celln false HSn.out (pn : Int) (by omega) (by omega)
          rw [Int.toNat_natCast, sn_get sq pn (by have := HQ.out.2.1; omega)] at hcell
          obtain ⟨hc1, hf1⟩ := hcell
          cases hsq : sq.getD pn true with
          | true =>
            have HQ2 : Aside0 (sq = s' ∧ cn = d') := Aside0.mk (by have := HQ.out.2.2.2; rw [cyc, if_pos hsq] at this; simpa using this)
            rw [hsq] at hc1
            rw [HQ2.out.1] at HSn
            have HAo := HA.out
            by_cases hd : 0 < d'
            · have hd2 : d' ≤ 2000 := by have := HQ.out.2.2.1; have := HQ2.out.2; omega
              rw [if_pos hd] at HRe
              have hcd : cn = d' := HQ2.out.2
              subst hcd
              have hol := HA.out.2.2.1
              have hml := HA.out.1
              go_wp2_with (first | ((with_reducible refine gate_builtin (b := .append) (xs := #[.tmp 32, .tmp 34]) rfl ?_); at_builtin; go_loud (refine Kd.R_append (Kd.int .i64) (w0 := w) w.heap.size rfl (.tmp 32) (.tmp 34) 22 3 (.int .i64 0) 8 rfl Try.underlying22 info3 rfl (by decide) (by omega) _ out (cn : Int) [.int .i64 (cn : Int)] (fun _ => True) (fun _ => False) rfl rfl rfl (fun _ hk => hk.elim) (fun _ _ => trivial) HO.out HB.out (below_size HB.out) (by omega) ?_); intro v2 w2 ho hb hg hat; have HO2 := Aside0.mk ho; have HB2 := Aside0.mk hb; have HS2 := Aside0.mk (Kd.R_over HSn.out HO.out (by simp [Kd.bool, Kd.scalar]) hg); clear ho hb hg hat))
              go_roundw
              case rel => exact ⟨m + 1, s', _, by go_num, Aside0.mk ⟨by omega, by rw [HLs.out]; exact HAo.2.1, by simp; omega, HRe.out⟩, HO2, HS2, HB2⟩
              case measure => simp [intOf]; omega
            · rw [if_neg hd] at HRe
              obtain rfl : d' = 0 := by omega
              have hcd : cn = 0 := HQ2.out.2
              subst hcd
              go_wp2_with fail
              go_roundw
              case rel => exact ⟨m + 1, s', out, by go_num, Aside0.mk ⟨by omega, by rw [HLs.out]; exact HAo.2.1, by have := HAo.2.2.1; omega, HRe.out⟩, HO, HSn, HB⟩
              case measure => simp [intOf]; omega
          | false =>
            have HQ2 : Aside0 (cyc nx k1 (sq.set pn true) (nx pn) (cn + 1) = some (s', d')) := Aside0.mk (by have := HQ.out.2.2.2; rw [cyc, if_neg (by rw [hsq]; simp)] at this; exact this)
            rw [hsq] at hc1
            have hcn : cn ≤ 2000 := by have := HQ.out.2.2.1; omega
            have hnx := HT.out pn hpn
            have hp1 := Kd.R_putn HSn.out (pn : Int) true
            rw [Int.toNat_natCast] at hp1
            have HP1 := Aside0.mk hp1
            have hgr : ∀ L, Kd.R Kd.bool 4 wr w.heap.size (fun _ => True) (.slice (some ⟨g, 0, none⟩) L c1) sq → wr.grownBy (wr.setCell ⟨g, pn, none⟩ (.bool true)) (some g) := fun L hL => by
              have hn' := (Kd.R_reads' hL).1
              subst hn'
              have := (Kd.R_put hL (pn : Int) true).2
              rw [Int.toNat_natCast] at this
              exact this
            have HG1 := Aside0.mk (hgr n HSn.out)
            have HO1 := Aside0.mk (Kd.R_over HO.out HSn.out (by simp [Kd.int, Kd.scalar]) HG1.out)
            have HB1 := Aside0.mk (HB.out.grown HG1.out (below_size HB.out) (fun k e => Kd.R_base HSn.out k e))
            clear hp1 hgr
            go_wp2_with (first
              | (go_at_call 73; refine (HC.out _ pn HB1.out hpn).mono ?_; rintro e w' ⟨rfl, ⟨nd, rfl⟩⟩)
              | fail)
            go_roundg k1
            case measure => have := HQ.out.2.2.1; omega
            case rel => exact ⟨cn + 1, nx pn, _, by go_num, rfl, Aside0.mk ⟨hnx, by rw [List.length_set]; exact HQ.out.2.1, by have := HQ.out.2.2.1; omega, HQ2.out⟩, Aside0.mk (Kd.R_drewN HO1.out _), Aside0.mk (Kd.R_drewN HP1.out _), Aside0.mk (by exact pw_below_drewN HB1.out _)⟩
    · obtain rfl : m = n := by have := HA.out.1; omega
      have HE : Aside0 (out = res) := Aside0.mk (by have := HA.out.2.2.2; simpa [rnds] using this)
      rw [HE.out] at HO
      obtain ⟨Av, cv, ev⟩ := Kd.R_slice HO.out
      subst ev
      have HV := Aside0.mk (sort_R HO.out (by have := HA.out.2.2.1; rw [HE.out] at this; omega) hres)
      go_wp2_with fail
      refine HV.out.mono ?_
      rintro e w2 ⟨rfl, hR, hg⟩
      have HR2 := Aside0.mk hR
      have HB2 := Aside0.mk (HB.out.grown hg (below_size HB.out) (fun k e => Kd.R_base HO.out k e))
      clear hR hg
      go_wp2
      go_ret
      exact ⟨_, rfl, by have := HR2.out; simpa [sortL_length] using this, HB2.out⟩

set_option maxHeartbeats 8000000 in
set_option maxRecDepth 100000 in
theorem rounds89 (n : Nat) (hn : n ≤ 1000) (nx : Nat → Nat) (hto : ∀ p, p < n → nx p < n) (res : List Int) (hres : 0 < res.length) (B1 : Nat) (w : World)
    (hc : ∀ W p, Below w.heap.size w W → p < n → Calls Try.prog 89 #[.int .i64 (p : Int), .pointer (some ⟨B1, 0, none⟩)] W fun e W' => e = .returned (.int .i64 (nx p : Int)) ∧ Drawn0 W W')
    (h : rnds nx n (List.replicate n false) 0 [] = some res) :
    Calls Try.prog 72 #[.int .i64 n, .func (.func 89) #[] #[.pointer (some ⟨B1, 0, none⟩)]] w fun e w' => ∃ v0_ : Value, e = .returned (v0_) ∧ Kd.R (Kd.int .i64) 3 w' w.heap.size (fun _ => True) v0_ (sortL res) ∧ Below w.heap.size w w' := by
  have HC := Aside0.mk hc
  have HH := Aside0.mk h
  have HT := Aside0.mk hto
  clear hc h hto
  go_enter Try.func72, Try.ntmps72
  go_wp2_with (first
    | ((with_reducible refine gate_dst (N := 11) rfl ?_); refine Kd.R_make Kd.bool w.heap.size 4 rfl (N := 11) rfl 73 _ _ rfl (n : Int) rfl rfl Try.underlying73 (.bool false) 1 info4 rfl (by decide) (by omega) false (ok := fun _ => True) (okp := fun _ => True) rfl (fun _ hk => hk) trivial (by omega) (by simp; omega) (Below.refl w.heap.size w) (Nat.le_refl _) ?_; intro v1 w5 ho hb hg_ hnew_; clear hg_ hnew_; rw [Int.toNat_natCast] at ho; have HO := Aside0.mk ho; have HB := Aside0.mk hb; clear ho hb; obtain ⟨A1, c1, e1⟩ := Kd.R_slice HO.out; subst e1; simp only [List.length_replicate] at HO))
  have HS0 : Aside0 ((List.replicate n false).length = n) := Aside0.mk (by simp)
  go_loopw [5, 13] (fun v i W => ∃ (m : Nat) (sn : List Bool) (out : List Int), i = .int .i64 m ∧ Aside0 (m ≤ n ∧ sn.length = n ∧ out.length ≤ m ∧ rnds nx (n - m) sn m out = some res) ∧ Aside0 (Kd.R (Kd.int .i64) 3 W w.heap.size (fun _ => True) v out) ∧ Aside0 (Kd.R Kd.bool 4 W w.heap.size (fun _ => True) (.slice A1 n c1) sn) ∧ Aside0 (Below w.heap.size w W)) (fun _ i _ => n - (intOf i).toNat)
  case atStart => exact ⟨0, _, [], rfl, Aside0.mk ⟨Nat.zero_le _, HS0.out, Nat.le_refl _, HH.out⟩, Aside0.mk (Kd.R_nil _ _ _ _ _), HO, HB⟩
  case round =>
    clear HH HO HB HS0
    obtain ⟨m, sn, out, rfl, HA, HO, HSn, HB⟩ := hrel
    by_cases hm : m < n
    · obtain ⟨g, rfl⟩ := R_blockd HSn.out (by omega)
      obtain ⟨s', d', hcyc, hrest⟩ : ∃ s' d', cyc nx 2000 sn m 0 = some (s', d') ∧ rnds nx (n - (m + 1)) s' (m + 1) (if 0 < d' then out ++ [(d' : Int)] else out) = some res := by
        have h := HA.out.2.2.2
        rw [show n - m = (n - (m + 1)) + 1 by omega, rnds] at h
        obtain ⟨r, h1, h2⟩ := Option.bind_eq_some_iff.mp h
        exact ⟨r.1, r.2, h1, h2⟩
      have HCy := Aside0.mk hcyc
      have HRe := Aside0.mk hrest
      have HLs := Aside0.mk (cyc_len nx _ _ _ _ _ _ hcyc)
      clear hcyc hrest
      obtain ⟨Av, cv, ev⟩ := Kd.R_slice HO.out
      subst ev
      go_wp2_with fail
      go_loopg [8, 9] 2000 (fun kq c p W => ∃ (cn pn : Nat) (sq : List Bool), c = .int .i64 cn ∧ p = .int .i64 pn ∧ Aside0 (pn < n ∧ sq.length = n ∧ cn + kq ≤ 2000 ∧ cyc nx kq sq pn cn = some (s', d')) ∧ Aside0 (Kd.R (Kd.int .i64) 3 W w.heap.size (fun _ => True) (.slice Av out.length cv) out) ∧ Aside0 (Kd.R Kd.bool 4 W w.heap.size (fun _ => True) (.slice (some ⟨g, 0, none⟩) n c1) sq) ∧ Aside0 (Below w.heap.size w W))
      case atStart => exact ⟨0, m, sn, rfl, rfl, Aside0.mk ⟨hm, HA.out.2.1, Nat.le_refl _, HCy.out⟩, HO, HSn, HB⟩
      case round =>
        clear HO HSn HB HCy
        obtain ⟨cn, pn, sq, rfl, rfl, HQ, HO, HSn, HB⟩ := hrel
        cases gk with
        | zero => exact absurd HQ.out.2.2.2 (by simp [cyc])
        | succ k1 =>
          have hpn := HQ.out.1
          have hcell := Kd.R_celln false HSn.out (pn : Int) (by omega) (by omega)
          rw [Int.toNat_natCast, sn_get sq pn (by have := HQ.out.2.1; omega)] at hcell
          obtain ⟨hc1, hf1⟩ := hcell
          cases hsq : sq.getD pn true with
          | true =>
            have HQ2 : Aside0 (sq = s' ∧ cn = d') := Aside0.mk (by have := HQ.out.2.2.2; rw [cyc, if_pos hsq] at this; simpa using this)
            rw [hsq] at hc1
            rw [HQ2.out.1] at HSn
            have HAo := HA.out
            by_cases hd : 0 < d'
            · have hd2 : d' ≤ 2000 := by have := HQ.out.2.2.1; have := HQ2.out.2; omega
              rw [if_pos hd] at HRe
              have hcd : cn = d' := HQ2.out.2
              subst hcd
              have hol := HA.out.2.2.1
              have hml := HA.out.1
              go_wp2_with (first | ((with_reducible refine gate_builtin (b := .append) (xs := #[.tmp 32, .tmp 34]) rfl ?_); at_builtin; go_loud (refine Kd.R_append (Kd.int .i64) (w0 := w) w.heap.size rfl (.tmp 32) (.tmp 34) 22 3 (.int .i64 0) 8 rfl Try.underlying22 info3 rfl (by decide) (by omega) _ out (cn : Int) [.int .i64 (cn : Int)] (fun _ => True) (fun _ => False) rfl rfl rfl (fun _ hk => hk.elim) (fun _ _ => trivial) HO.out HB.out (below_size HB.out) (by omega) ?_); intro v2 w2 ho hb hg hat; have HO2 := Aside0.mk ho; have HB2 := Aside0.mk hb; have HS2 := Aside0.mk (Kd.R_over HSn.out HO.out (by simp [Kd.bool, Kd.scalar]) hg); clear ho hb hg hat))
              go_roundw
              case rel => exact ⟨m + 1, s', _, by go_num, Aside0.mk ⟨by omega, by rw [HLs.out]; exact HAo.2.1, by simp; omega, HRe.out⟩, HO2, HS2, HB2⟩
              case measure => simp [intOf]; omega
            · rw [if_neg hd] at HRe
              obtain rfl : d' = 0 := by omega
              have hcd : cn = 0 := HQ2.out.2
              subst hcd
              go_wp2_with fail
              go_roundw
              case rel => exact ⟨m + 1, s', out, by go_num, Aside0.mk ⟨by omega, by rw [HLs.out]; exact HAo.2.1, by have := HAo.2.2.1; omega, HRe.out⟩, HO, HSn, HB⟩
              case measure => simp [intOf]; omega
          | false =>
            have HQ2 : Aside0 (cyc nx k1 (sq.set pn true) (nx pn) (cn + 1) = some (s', d')) := Aside0.mk (by have := HQ.out.2.2.2; rw [cyc, if_neg (by rw [hsq]; simp)] at this; exact this)
            rw [hsq] at hc1
            have hcn : cn ≤ 2000 := by have := HQ.out.2.2.1; omega
            have hnx := HT.out pn hpn
            have hp1 := Kd.R_putn HSn.out (pn : Int) true
            rw [Int.toNat_natCast] at hp1
            have HP1 := Aside0.mk hp1
            have hgr : ∀ L, Kd.R Kd.bool 4 wr w.heap.size (fun _ => True) (.slice (some ⟨g, 0, none⟩) L c1) sq → wr.grownBy (wr.setCell ⟨g, pn, none⟩ (.bool true)) (some g) := fun L hL => by
              have hn' := (Kd.R_reads' hL).1
              subst hn'
              have := (Kd.R_put hL (pn : Int) true).2
              rw [Int.toNat_natCast] at this
              exact this
            have HG1 := Aside0.mk (hgr n HSn.out)
            have HO1 := Aside0.mk (Kd.R_over HO.out HSn.out (by simp [Kd.int, Kd.scalar]) HG1.out)
            have HB1 := Aside0.mk (HB.out.grown HG1.out (below_size HB.out) (fun k e => Kd.R_base HSn.out k e))
            clear hp1 hgr
            go_wp2_with (first
              | (go_at_call 89; refine (HC.out _ pn HB1.out hpn).mono ?_; rintro e w' ⟨rfl, ⟨nd, rfl⟩⟩)
              | fail)
            go_roundg k1
            case measure => have := HQ.out.2.2.1; omega
            case rel => exact ⟨cn + 1, nx pn, _, by go_num, rfl, Aside0.mk ⟨hnx, by rw [List.length_set]; exact HQ.out.2.1, by have := HQ.out.2.2.1; omega, HQ2.out⟩, Aside0.mk (Kd.R_drewN HO1.out _), Aside0.mk (Kd.R_drewN HP1.out _), Aside0.mk (by exact pw_below_drewN HB1.out _)⟩
    · obtain rfl : m = n := by have := HA.out.1; omega
      have HE : Aside0 (out = res) := Aside0.mk (by have := HA.out.2.2.2; simpa [rnds] using this)
      rw [HE.out] at HO
      obtain ⟨Av, cv, ev⟩ := Kd.R_slice HO.out
      subst ev
      have HV := Aside0.mk (sort_R HO.out (by have := HA.out.2.2.1; rw [HE.out] at this; omega) hres)
      go_wp2_with fail
      refine HV.out.mono ?_
      rintro e w2 ⟨rfl, hR, hg⟩
      have HR2 := Aside0.mk hR
      have HB2 := Aside0.mk (HB.out.grown hg (below_size HB.out) (fun k e => Kd.R_base HO.out k e))
      clear hR hg
      go_wp2
      go_ret
      exact ⟨_, rfl, by have := HR2.out; simpa [sortL_length] using this, HB2.out⟩

set_option maxRecDepth 100000 in
theorem close73 (n p kind B1 B2 : Nat) (hn : n % 2 = 0) (hs : n ≤ 1000) (hk : kind ≤ 1) (hp : p < n) (W : World) (h1 : W.cell? ⟨B1, 0, none⟩ = some (.int .i64 (n : Int))) (h2 : W.cell? ⟨B2, 0, none⟩ = some (.int .i64 (kind : Int))) :
    Calls Try.prog 73 #[.int .i64 (p : Int), .pointer (some ⟨B1, 0, none⟩), .pointer (some ⟨B2, 0, none⟩)] W fun e W' => e = .returned (.int .i64 ((stepN n p kind : Nat) : Int)) ∧ Drawn0 W W' := by
  have CS := Aside0.mk (step_eq hn hs hk hp)
  go_enter Try.func73, Try.ntmps73
  go_wp2_with (first | (go_at_call 54; refine (knead_step.calls _ _ _ _ _ CS.out).mono ?_; rintro e w' ⟨rfl, ⟨nd, rfl⟩⟩) | go_in)
  go_ret
  exact ⟨rfl, by first | exact ⟨nd, rfl⟩ | exact ⟨_, rfl⟩⟩

def knead_Rounds.f (a0 a1 : Int) : Option (List Int × Int) := (knead_kinded.f a0 a1).bind fun t => if t = 0 then (if 0 ≤ a0 ∧ a0 ≤ 1000 ∧ a0 % 2 = 0 ∧ (a1 = 0 ∨ a1 = 1) then ((rnds (fun p => stepN a0.toNat p a1.toNat) a0.toNat (List.replicate a0.toNat false) 0 []).bind fun out => if 0 < out.length then some (sortL out, 0) else none) else none) else some ([], t)

set_option maxHeartbeats 2000000 in
set_option maxRecDepth 100000 in
theorem knead_Rounds.calls (a0 a1 : Int) (r1 : List Int) (r2 : Int) (w : World) (h : knead_Rounds.f a0 a1 = some (r1, r2)) :
    Calls Try.prog 33 #[.int .i64 a0, .int .i64 a1] w fun e w' => ∃ v0_ : Value, e = .returned (.tuple #[v0_, .int .i64 r2]) ∧ Kd.R (Kd.int .i64) 3 w' w.heap.size (fun _ => True) v0_ r1 ∧ Below w.heap.size w w' := by
  unfold knead_Rounds.f at h
  obtain ⟨t, ht, h⟩ := Option.bind_eq_some_iff.mp h
  have HT := Aside0.mk ht
  clear ht
  by_cases hz : t = 0
  · rw [if_pos hz] at h
    subst hz
    by_cases hg : 0 ≤ a0 ∧ a0 ≤ 1000 ∧ a0 % 2 = 0 ∧ (a1 = 0 ∨ a1 = 1)
    · rw [if_pos hg] at h
      obtain ⟨out, ho, h⟩ := Option.bind_eq_some_iff.mp h
      by_cases hl : 0 < out.length
      · rw [if_pos hl] at h
        simp only [Option.some.injEq, Prod.mk.injEq] at h
        obtain ⟨rfl, rfl⟩ := h
        obtain ⟨n, rfl⟩ : ∃ n : Nat, a0 = n := ⟨a0.toNat, by omega⟩
        obtain ⟨kd, rfl⟩ : ∃ n : Nat, a1 = n := ⟨a1.toNat, by omega⟩
        simp only [Int.toNat_natCast] at ho
        have HO := Aside0.mk ho
        have HG := Aside0.mk hg
        clear ho hg
        go_enter Try.func33, Try.ntmps33
        go_wp2_with (first
          | (go_at_call 68; refine (knead_kinded.calls (n : Int) (kd : Int) 0 _ HT.out).mono ?_; rintro e w' ⟨rfl, ⟨nd, rfl⟩⟩)
          | fail)
        obtain ⟨W1, hW1⟩ : ∃ W1, ((w.alloc (Obj.cells #[Value.int IntKind.i64 (n : Int)] 3)).alloc (Obj.cells #[Value.int IntKind.i64 (kd : Int)] 3)).drewN nd = W1 := ⟨_, rfl⟩
        have hb1 : W1.heap[w.heap.size]? = some (.cells #[.int .i64 (n : Int)] 3 (0, 0)) := by
          rw [← hW1]
          exact (Below.heap_alloc (w.alloc (Obj.cells #[Value.int IntKind.i64 (n : Int)] 3)) (Obj.cells #[Value.int IntKind.i64 (kd : Int)] 3) w.heap.size (by simp)).trans (by simpa using heap_alloc_new w (Obj.cells #[Value.int IntKind.i64 (n : Int)] 3))
        have hb2 : W1.heap[w.heap.size + 1]? = some (.cells #[.int .i64 (kd : Int)] 3 (0, 0)) := by
          rw [← hW1]
          have := heap_alloc_new (w.alloc (Obj.cells #[Value.int IntKind.i64 (n : Int)] 3)) (Obj.cells #[Value.int IntKind.i64 (kd : Int)] 3)
          rw [World.size_alloc] at this
          exact this
        have hB1 : Below w.heap.size w W1 := by
          rw [← hW1]
          exact pw_below_drewN (below_alloc (below_alloc (Below.refl _ _) _) _) _
        have hBs : w.heap.size + 2 ≤ W1.heap.size := by rw [← hW1]; simp [World.drewN]
        rw [hW1]
        have hg := HG.out
        have c1 : W1.cell? ⟨w.heap.size, 0, none⟩ = some (.int .i64 (n : Int)) := blk_cell hb1 0
        have c2 : W1.cell? ⟨w.heap.size + 1, 0, none⟩ = some (.int .i64 (kd : Int)) := blk_cell hb2 0
        refine (rounds73 n (by omega) (fun p => stepN n p kd) (fun p hp => step_lt (by omega) (by omega) hp) out hl w.heap.size (w.heap.size + 1) W1 (fun W p hb hp => close73 n p kd w.heap.size (w.heap.size + 1) (by omega) (by omega) (by omega) hp W ((hb.cell (p := ⟨w.heap.size, 0, none⟩) (show w.heap.size < W1.heap.size by omega)).trans c1) ((hb.cell (p := ⟨w.heap.size + 1, 0, none⟩) (show w.heap.size + 1 < W1.heap.size by omega)).trans c2)) HO.out).mono ?_
        rintro e w2 ⟨v2, rfl, hR, hB⟩
        have HR2 := Aside0.mk (Kd.R_lower hR (show w.heap.size ≤ W1.heap.size by omega))
        have HB2 := Aside0.mk (below_step hB1 hB)
        clear hR hB
        go_wp2
        go_ret2
        exact ⟨_, rfl, HR2.out, HB2.out⟩
      · rw [if_neg hl] at h
        cases h
    · rw [if_neg hg] at h
      cases h
  · rw [if_neg hz] at h
    have hb : (t != 0) = true := bne_iff_ne.mpr hz
    simp only [Option.some.injEq, Prod.mk.injEq] at h
    obtain ⟨rfl, rfl⟩ := h
    go_enter Try.func33, Try.ntmps33
    go_wp2_with (first | (go_at_call 68; refine (knead_kinded.calls a0 a1 t _ HT.out).mono ?_; rintro e w' ⟨rfl, ⟨nd, rfl⟩⟩) | go_in)
    go_ret2
    exact ⟨_, rfl, Kd.R_nil _ _ _ _ _, by repeat (first | exact Below.refl _ _ | (with_reducible first | apply below_alloc | apply pw_below_drewN))⟩
end Go.Proofs.Ytgnklmhjejbcoaa.K

/- DERIVED by wip/pr.py: for each Go function named below a Lean function with the same answers, and that a call of it comes to these answers, for all arguments and memories, where the Lean function has an answer. -/
namespace Go.Proofs.Ytgnklmhjejbcoaa.K
open Go.RowKit Go.Proofs.YtgnklmhjejbcoaaW.PrintWords Go.Proofs.YtgnklmhjejbcoaaW.PrintLast Go.Proofs.YtgnklmhjejbcoaaW.PrintMore
attribute [local go_sem] max2_int min2_int max_two min_two max_three min_three max_four min_four   -- for this text's walks alone
set_option linter.unusedVariables false
set_option linter.unusedSimpArgs false

/-! ### knead_folded: function 71 -/
def knead_folded.l0 : Nat → List Int → List Int → Int → Int → Option (List Int)
  | 0, _, _, _, _ => none
  | k + 1, x5, x10, x11, x12 => if x12 < x11 then (if 0 ≤ x12 then (if x12 < (x10.length : Int) then ((knead_fold.f x5 (rd x10 x12)).bind fun t121 => (knead_folded.l0 k t121 x10 x11 (wrap64 (x12 + 1)))) else (none)) else (none)) else (some x5)
def knead_folded.f (k : Nat) (l0 : List Int) (l1 : List Int) : Option (List Int) := (slices_Clone_int_int.f l0).bind fun t117 => (knead_folded.l0 k t117 l1 (l1.length : Int) 0)
theorem knead_folded.mono_l : ∀ k, (∀ y0 y1 y2 y3, LeO (knead_folded.l0 k y0 y1 y2 y3) (knead_folded.l0 (k + 1) y0 y1 y2 y3))
  | 0 => fun _ _ _ _ r h => by simp [knead_folded.l0] at h
  | k + 1 => by
    have ih0 := knead_folded.mono_l k
    · intro y0 y1 y2 y3
      unfold knead_folded.l0
      repeat' first
      | (with_reducible exact ih0 _ _ _ _)
      | (with_reducible exact LeO.refl _)
      | (with_reducible exact LeO.none _)
      | (with_reducible refine LeO.ite ?_ ?_)
      | (with_reducible refine LeO.bind ?_ (fun _ => ?_))
      | exact ih0 _ _ _ _
      | exact LeO.none _
      | refine LeO.ite ?_ ?_
      | refine LeO.bind ?_ (fun _ => ?_)
theorem knead_folded.mono : ∀ a0 a1 k, LeO (knead_folded.f k a0 a1) (knead_folded.f (k + 1) a0 a1) := by
  intro a0 a1 k
  have ih0 := knead_folded.mono_l k
  unfold knead_folded.f
  repeat' first
      | (with_reducible exact ih0 _ _ _ _)
      | (with_reducible exact LeO.refl _)
      | (with_reducible exact LeO.none _)
      | (with_reducible refine LeO.ite ?_ ?_)
      | (with_reducible refine LeO.bind ?_ (fun _ => ?_))
      | exact ih0 _ _ _ _
      | exact LeO.none _
      | refine LeO.ite ?_ ?_
      | refine LeO.bind ?_ (fun _ => ?_)
set_option maxHeartbeats 8000000 in
set_option maxRecDepth 100000 in
theorem knead_folded.calls (k : Nat) (A0 : Option Addr) (c0 : Nat) (l0 : List Int) (A1 : Option Addr) (c1 : Nat) (l1 : List Int) (r : List Int) (w : World) (hr0 : Kd.C (Kd.int .i64) w A0 l0.length l0) (hc0 : l0.length ≤ c0) (hr1 : Kd.C (Kd.int .i64) w A1 l1.length l1) (hc1 : l1.length ≤ c1) (h : knead_folded.f k l0 l1 = some r) :
    Calls Try.prog 71 #[.slice A0 l0.length c0, .slice A1 l1.length c1] w fun e w' => ∃ v0_ : Value, e = .returned (v0_) ∧ Kd.R (Kd.int .i64) 3 w' w.heap.size (fun _ => True) v0_ r ∧ Below w.heap.size w w' := by
  have HR0 := Aside0.mk hr0
  have HC0 := Aside0.mk hc0
  clear hr0 hc0
  have HR1 := Aside0.mk hr1
  have HC1 := Aside0.mk hc1
  clear hr1 hc1
  have HB := Aside0.mk (Below.refl w.heap.size w)
  have H : ((slices_Clone_int_int.f l0).bind fun t117 => (knead_folded.l0 k t117 l1 (l1.length : Int) 0)) = some r := h
  clear h
  replace H := Option.bind_eq_some_iff.mp H
  obtain ⟨t117, A30, H⟩ := H
  replace H : (knead_folded.l0 k t117 l1 (l1.length : Int) 0) = some r := H
  have A3 := Aside0.mk A30
  clear A30
  have H' := Aside0.mk H
  clear H
  go_enter Try.func71, Try.ntmps71
  go_wp2_with (first | ((with_reducible refine gate_callee (f := 55) rfl ?_); refine goesL_ (some 9) rfl rfl Try.func55 (by kernel_rfl) rfl #[.slice A0 l0.length c0] rfl (by (try simp only [List.map_toArray, List.map_cons, List.map_nil]); first | done | rfl | (simp only [List.length_drop, List.length_take]; rfl)) ?_; (with_reducible refine (slices_Clone_int_int.calls _ _ l0 t117 _ ?side1 ?side2 A3.out).mono ?_); (case side1 => repeat (first | exact HR0.out | (with_reducible refine Kd.C_alloc ?_ _) | (with_reducible refine Kd.C_drewN ?_ _) | (with_reducible refine Kd.C_drew ?_))); (case side2 => exact HC0.out); rintro e w4 ⟨v118, rfl, ho0, hb⟩; refine ⟨_, rfl, ?_⟩; have n0_ := Aside0.mk (Kd.R_lower ho0 (below_size (by repeat (first | (with_reducible first | exact HB.out | apply below_alloc | apply pw_below_drewN | apply below_drew1) | exact HB.out)))); have n1_ := Aside0.mk (below_step (by repeat (first | (with_reducible first | exact HB.out | apply below_alloc | apply pw_below_drewN | apply below_drew1) | exact HB.out)) hb); clear HB; have HO119 := n0_; have HB := n1_; clear n0_ n1_; (try clear hb); (try clear hb2); (try clear hk); (try clear hi); (try clear ho0)))
  go_loopg [5, 12] k (fun kq v5 v12 w' => ∃ (x5_1 : List Int) (x12_1 : Int), v12 = .int .i64 x12_1 ∧ Aside0 (knead_folded.l0 kq x5_1 l1 (l1.length : Int) x12_1 = some r) ∧ Aside0 (kq ≤ k) ∧ Aside0 (Kd.R (Kd.int .i64) 3 w' w.heap.size (fun _ => True) v5 x5_1) ∧ Aside0 (Below w.heap.size w w'))
  case atStart => exact ⟨(t117), (0), (by first | rfl | (simp; done) | (simp [*]; done)), H', ⟨Nat.le_refl _⟩, ⟨by (with_reducible repeat (first | apply Kd.R_alloc | apply Kd.R_drewN | apply Kd.R_drew)); exact HO119.out⟩, ⟨by repeat (first | (with_reducible first | exact HB.out | apply below_alloc | apply pw_below_drewN | apply below_drew1) | exact HB.out)⟩⟩
  case round =>
    clear H'
    try clear c1
    try clear p2
    obtain ⟨x5_1, x12_1, rfl, HA, HK1, HO_5, HB⟩ := hrel
    cases gk with
    | zero => exact absurd HA.out (by simp [knead_folded.l0])
    | succ k1 =>
      have H := HA.out
      clear HA
      simp only [knead_folded.l0] at H
      by_cases c5 : x12_1 < (l1.length : Int)
      · rw [if_pos c5] at H
        have c5b0 : decide (x12_1 < (l1.length : Int)) = true := decide_eq_true c5
        clear c5
        by_cases c6 : 0 ≤ x12_1
        · rw [if_pos c6] at H
          have c6b0 : decide (0 ≤ x12_1) = true := decide_eq_true c6
          clear c6
          by_cases c7 : x12_1 < (l1.length : Int)
          · rw [if_pos c7] at H
            have c7b0 : decide (x12_1 < (l1.length : Int)) = true := decide_eq_true c7
            clear c7
            replace H := Option.bind_eq_some_iff.mp H
            obtain ⟨t121, A80, H⟩ := H
            replace H : (knead_folded.l0 k1 t121 l1 (l1.length : Int) (wrap64 (x12_1 + 1))) = some r := H
            have A8 := Aside0.mk A80
            clear A80
            have H' := Aside0.mk H
            clear H
            have p120 : 0 ≤ (x12_1 : Int) := of_decide_eq_true (by first | (with_reducible assumption) | assumption)
            have q120 : x12_1 < (l1.length : Int) := of_decide_eq_true (by first | (with_reducible assumption) | assumption)
            obtain ⟨ad120, e120, hx120_0⟩ := Kd.at_int HR1.out x12_1 p120 q120
            cases e120
            replace hx120_0 := (HB.out.cell (World.block_lt_of_cell? w _ hx120_0)).trans hx120_0
            replace p120 := eq_true p120
            replace q120 := eq_true q120
            obtain ⟨Ao9, co9, eo9⟩ := Kd.R_slice HO_5.out
            subst eo9
            go_wp2_with (first | ((with_reducible refine gate_callee (f := 79) rfl ?_); refine goesL_ (some 18) rfl rfl Try.func79 (by kernel_rfl) rfl #[.slice Ao9 x5_1.length co9, .int .i64 (rd l1 x12_1)] rfl (by (try simp only [List.map_toArray, List.map_cons, List.map_nil]); first | done | rfl | (simp only [List.length_drop, List.length_take]; rfl)) ?_; (with_reducible refine (knead_fold.calls _ _ x5_1 (rd l1 x12_1) t121 _ ?side1 ?side2 A8.out).mono ?_); (case side1 => repeat (first | exact (Kd.R_reads' HO_5.out).2.2 | (with_reducible refine Kd.C_alloc ?_ _) | (with_reducible refine Kd.C_drewN ?_ _) | (with_reducible refine Kd.C_drew ?_))); (case side2 => exact (Kd.R_reads' HO_5.out).2.1); rintro e w10 ⟨v122, rfl, ho0, hb⟩; refine ⟨_, rfl, ?_⟩; have n0_ := Aside0.mk (Kd.R_elder' (by (with_reducible repeat (first | apply Kd.R_alloc | apply Kd.R_drewN | apply Kd.R_drew)); exact HO_5.out) (Kd.R_base ho0) hb); have n1_ := Aside0.mk (Kd.R_lower (Kd.R_new' ho0 (Kd.R_lt (by (with_reducible repeat (first | apply Kd.R_alloc | apply Kd.R_drewN | apply Kd.R_drew)); exact HO_5.out))) (below_size (by repeat (first | (with_reducible first | exact HB.out | apply below_alloc | apply pw_below_drewN | apply below_drew1) | exact HB.out)))); have n2_ := Aside0.mk (below_step (by repeat (first | (with_reducible first | exact HB.out | apply below_alloc | apply pw_below_drewN | apply below_drew1) | exact HB.out)) hb); clear HO_5; clear HB; have HO_5 := n0_; have HO123 := n1_; have HB := n2_; clear n0_ n1_ n2_; (try clear hb); (try clear hb2); (try clear hk); (try clear hi); (try clear ho0)))
            go_roundg k1
            case measure => have := HK1.out; omega
            case rel => exact ⟨(t121), (wrap64 (x12_1 + 1)), (by first | rfl | (simp; done) | (simp [*]; done)), H', ⟨by have := HK1.out; omega⟩, ⟨by (with_reducible repeat (first | apply Kd.R_alloc | apply Kd.R_drewN | apply Kd.R_drew)); exact Kd.R_mono HO123.out (fun _ hk => trivial)⟩, ⟨by repeat (first | (with_reducible first | exact HB.out | apply below_alloc | apply pw_below_drewN | apply below_drew1) | exact HB.out)⟩⟩
          · rw [if_neg c7] at H
            exact absurd H (by simp)
        · rw [if_neg c6] at H
          exact absurd H (by simp)
      · rw [if_neg c5] at H
        have c5b0 : decide (x12_1 < (l1.length : Int)) = false := decide_eq_false c5
        clear c5
        obtain rfl := Option.some.inj H
        go_wp2
        go_ret
        exact ⟨_, by first | rfl | (simp [errW_none, errW_some] <;> rfl) | (simp [*, errW_none, errW_some] <;> rfl), by (with_reducible repeat (first | apply Kd.R_alloc | apply Kd.R_drewN | apply Kd.R_drew)); exact HO_5.out, by repeat (first | (with_reducible first | exact HB.out | apply below_alloc | apply pw_below_drewN | apply below_drew1) | exact HB.out)⟩

end Go.Proofs.Ytgnklmhjejbcoaa.K

/- What knead.worded returns, for all slices: 3 for more than 40 numbers, else 1 if one is neither 0 nor 1, else 0; memory stays as it was. -/
namespace Go.Proofs.Ytgnklmhjejbcoaa.K
open Go.RowKit Go.Proofs.YtgnklmhjejbcoaaW.PrintWords Go.Proofs.YtgnklmhjejbcoaaW.PrintLast Go.Proofs.YtgnklmhjejbcoaaW.PrintMore
set_option linter.unusedVariables false
set_option linter.unusedSimpArgs false

/-- Not a kind of fold. -/
def badK (x : Int) : Bool := !(x == 0) && !(x == 1)

theorem badK_calls (x : Int) (w : World) : Calls Try.prog 86 #[.int .i64 x] w fun e w' => e = .returned (.bool (badK x)) ∧ w = w' := by
  by_cases h0 : x = 0
  · subst h0
    go_enter Try.func86, Try.ntmps86
    go_wp2
    go_ret
    exact ⟨rfl, rfl⟩
  · have b0 : badK x = !(x == 1) := by simp [badK, h0]
    have c0 : (x != 0) = true := bne_iff_ne.mpr h0
    have B0 := Aside0.mk b0
    clear b0 h0
    go_enter Try.func86, Try.ntmps86
    go_wp2
    go_ret
    exact ⟨by rw [B0.out]; rfl, rfl⟩

def Found (l : List Int) (w : World) (e : Ending) (w' : World) : Prop := ∃ j : Int, e = .returned (.int .i64 j) ∧ decide (0 ≤ j) = l.any badK ∧ w = w'

set_option maxHeartbeats 1000000 in
set_option maxRecDepth 100000 in
theorem indexFunc_calls (A0 : Option Addr) (c0 : Nat) (l0 : List Int) (w : World) (hr0 : Kd.C (Kd.int .i64) w A0 l0.length l0) :
    Calls Try.prog 98 #[.slice A0 l0.length c0, .func (.func 86) #[] #[]] w (Found l0 w) := by
  have hm := hr0.2.1
  have HR0 := Aside0.mk hr0
  clear hr0
  go_enter Try.func98, Try.ntmps98
  go_wp2
  go_loop [8] (fun i => ∃ n : Nat, n ≤ l0.length ∧ i = .int .i64 n ∧ Aside0 ((l0.take n).any badK = false)) (fun i => l0.length - (intOf i).toNat)
  case atStart => exact ⟨0, Nat.zero_le _, rfl, ⟨by simp⟩⟩
  case round =>
    obtain ⟨n, hn, rfl, HA⟩ := hrel
    by_cases hlt : n < l0.length
    · obtain ⟨ad, e, hx⟩ := Kd.at_int HR0.out (n : Int) (by omega) (by omega)
      cases e
      rw [Int.toNat_natCast] at hx
      have HX := Aside0.mk (rd_nat l0 n hlt)
      by_cases hb : badK (rd l0 n) = true
      · have hc : ∀ w, Calls Try.prog 86 #[.int .i64 (rd l0 n)] w fun e w' => e = .returned (.bool true) ∧ w = w' := fun w => by rw [← hb]; exact badK_calls _ w
        have HC := Aside0.mk hc
        have HB := Aside0.mk hb
        clear hc hb
        go_wp2_with (go_at_call 86; refine (HC.out _).mono ?_; rintro e w' ⟨rfl, rfl⟩)
        go_ret
        refine ⟨_, rfl, ?_, rfl⟩
        have h1 : l0.any badK = true := List.any_eq_true.2 ⟨l0[n], List.getElem_mem hlt, by rw [← HX.out]; exact HB.out⟩
        rw [h1]
        simp
      · have hb' : badK (rd l0 n) = false := by simpa using hb
        have hc : ∀ w, Calls Try.prog 86 #[.int .i64 (rd l0 n)] w fun e w' => e = .returned (.bool false) ∧ w = w' := fun w => by rw [← hb']; exact badK_calls _ w
        have HC := Aside0.mk hc
        have HB := Aside0.mk hb'
        clear hc hb hb'
        go_wp2_with (go_at_call 86; refine (HC.out _).mono ?_; rintro e w' ⟨rfl, rfl⟩)
        go_round
        case rel => exact ⟨n + 1, by omega, by go_num, ⟨by rw [List.take_succ_eq_append_getElem hlt, List.any_append, HA.out, ← HX.out]; simp [HB.out]⟩⟩
        case measure => simp [intOf]; omega
    · go_wp2
      go_ret
      refine ⟨_, rfl, ?_, rfl⟩
      have h1 := HA.out
      rw [List.take_of_length_le (by omega)] at h1
      rw [h1]
      rfl

theorem containsFunc_calls (A0 : Option Addr) (c0 : Nat) (l0 : List Int) (w : World) (hr0 : Kd.C (Kd.int .i64) w A0 l0.length l0) :
    Calls Try.prog 85 #[.slice A0 l0.length c0, .func (.func 86) #[] #[]] w fun e w' => e = .returned (.bool (l0.any badK)) ∧ w = w' := by
  have H := Aside0.mk (indexFunc_calls A0 c0 l0 w hr0)
  clear hr0
  go_enter Try.func85, Try.ntmps85
  go_wp2_with fail
  refine H.out.mono ?_
  rintro e w' ⟨j, rfl, hj, rfl⟩
  have HJ := Aside0.mk hj
  clear hj
  go_wp2
  go_ret
  exact ⟨by rw [← HJ.out]; rfl, rfl⟩

def knead_worded.f (l0 : List Int) : Option Int := some (if 40 < l0.length then 3 else if l0.any badK then 1 else 0)

theorem knead_worded.calls (A0 : Option Addr) (c0 : Nat) (l0 : List Int) (r : Int) (w : World) (hr0 : Kd.C (Kd.int .i64) w A0 l0.length l0) (hc0 : l0.length ≤ c0) (h : knead_worded.f l0 = some r) :
    Calls Try.prog 56 #[.slice A0 l0.length c0] w fun e w' => e = .returned (.int .i64 r) ∧ Drawn0 w w' := by
  obtain rfl := Option.some.inj h
  have hm := hr0.2.1
  by_cases h1 : 40 < l0.length
  · rw [if_pos h1]
    clear hr0
    go_enter Try.func56, Try.ntmps56
    go_wp2
    go_ret
    exact ⟨rfl, Drawn0.refl _⟩
  · rw [if_neg h1]
    by_cases h2 : l0.any badK = true
    · rw [if_pos h2]
      have H := containsFunc_calls A0 c0 l0 w hr0
      rw [h2] at H
      have H' := Aside0.mk H
      clear H hr0 h2
      go_enter Try.func56, Try.ntmps56
      go_wp2_with fail
      refine H'.out.mono ?_
      rintro e w' ⟨rfl, rfl⟩
      go_wp2
      go_ret
      exact ⟨rfl, Drawn0.refl _⟩
    · rw [if_neg h2]
      have H := containsFunc_calls A0 c0 l0 w hr0
      rw [Bool.eq_false_iff.2 h2] at H
      have H' := Aside0.mk H
      clear H hr0 h2
      go_enter Try.func56, Try.ntmps56
      go_wp2_with fail
      refine H'.out.mono ?_
      rintro e w' ⟨rfl, rfl⟩
      go_wp2
      go_ret
      exact ⟨rfl, Drawn0.refl _⟩
end Go.Proofs.Ytgnklmhjejbcoaa.K

/- DERIVED by wip/pr.py: for each Go function named below a Lean function with the same answers, and that a call of it comes to these answers, for all arguments and memories, where the Lean function has an answer. -/
namespace Go.Proofs.Ytgnklmhjejbcoaa.K
open Go.RowKit Go.Proofs.YtgnklmhjejbcoaaW.PrintWords Go.Proofs.YtgnklmhjejbcoaaW.PrintLast Go.Proofs.YtgnklmhjejbcoaaW.PrintMore
attribute [local go_sem] max2_int min2_int max_two min_two max_three min_three max_four min_four   -- for this text's walks alone
set_option linter.unusedVariables false
set_option linter.unusedSimpArgs false

/-! ### knead_asked: function 87 -/
def knead_asked.f (a0 : Int) (l1 : List Int) : Option (Int) := (knead_isLumps.f a0).bind fun t124 => (if t124 = true then ((knead_worded.f l1).bind fun t125 => (some t125)) else (some 1))
set_option maxHeartbeats 8000000 in
set_option maxRecDepth 100000 in
theorem knead_asked.calls (a0 : Int) (A1 : Option Addr) (c1 : Nat) (l1 : List Int) (r : Int) (w : World) (hr1 : Kd.C (Kd.int .i64) w A1 l1.length l1) (hc1 : l1.length ≤ c1) (h : knead_asked.f a0 l1 = some r) :
    Calls Try.prog 87 #[.int .i64 a0, .slice A1 l1.length c1] w fun e w' => e = .returned (.int .i64 r) ∧ Drawn0 w w' := by
  have HR1 := Aside0.mk hr1
  have HC1 := Aside0.mk hc1
  clear hr1 hc1
  have H : ((knead_isLumps.f a0).bind fun t124 => (if t124 = true then ((knead_worded.f l1).bind fun t125 => (some t125)) else (some 1))) = some r := h
  clear h
  replace H := Option.bind_eq_some_iff.mp H
  obtain ⟨t124, A30, H⟩ := H
  replace H : (if t124 = true then ((knead_worded.f l1).bind fun t125 => (some t125)) else (some 1)) = some r := H
  have A3 := Aside0.mk A30
  clear A30
  by_cases c4 : t124 = true
  · subst c4
    have H1 : ((knead_worded.f l1).bind fun t125 => (some t125)) = some r := by rw [if_pos rfl] at H; exact H
    clear H
    have H := H1
    clear H1
    replace H := Option.bind_eq_some_iff.mp H
    obtain ⟨t125, A50, H⟩ := H
    replace H : (some t125) = some r := H
    have A5 := Aside0.mk A50
    clear A50
    obtain rfl := Option.some.inj H
    go_enter Try.func87, Try.ntmps87
    go_wp2_with (first | ((with_reducible refine gate_callee (f := 53) rfl ?_); refine goesL_ (some 6) rfl rfl Try.func53 (by kernel_rfl) rfl #[.int .i64 a0] rfl (by (try simp only [List.map_toArray, List.map_cons, List.map_nil]); first | done | rfl | (simp only [List.length_drop, List.length_take]; rfl)) ?_; (with_reducible refine (knead_isLumps.calls a0 true _ A3.out).mono ?_); rintro e w' ⟨rfl, ⟨nd, rfl⟩⟩; refine ⟨_, rfl, ?_⟩) | ((with_reducible refine gate_callee (f := 56) rfl ?_); refine goesL_ (some 9) rfl rfl Try.func56 (by kernel_rfl) rfl #[.slice A1 l1.length c1] rfl (by (try simp only [List.map_toArray, List.map_cons, List.map_nil]); first | done | rfl | (simp only [List.length_drop, List.length_take]; rfl)) ?_; (with_reducible refine (knead_worded.calls _ _ l1 t125 _ ?side1 ?side2 A5.out).mono ?_); (case side1 => repeat (first | exact HR1.out | (with_reducible refine Kd.C_alloc ?_ _) | (with_reducible refine Kd.C_drewN ?_ _) | (with_reducible refine Kd.C_drew ?_))); (case side2 => exact HC1.out); rintro e w' ⟨rfl, ⟨nd, rfl⟩⟩; refine ⟨_, rfl, ?_⟩))
    go_ret
    exact ⟨by first | rfl | (simp; done) | (simp [*]; done), by repeat (first | exact Drawn0.refl _ | apply Drawn0.step)⟩
  · replace c4 := Bool.eq_false_iff.mpr c4
    subst c4
    have H1 : (some 1) = some r := by rw [if_neg (show ¬ (false = true) by decide)] at H; exact H
    clear H
    have H := H1
    clear H1
    obtain rfl := Option.some.inj H
    go_enter Try.func87, Try.ntmps87
    go_wp2_with (first | ((with_reducible refine gate_callee (f := 53) rfl ?_); refine goesL_ (some 6) rfl rfl Try.func53 (by kernel_rfl) rfl #[.int .i64 a0] rfl (by (try simp only [List.map_toArray, List.map_cons, List.map_nil]); first | done | rfl | (simp only [List.length_drop, List.length_take]; rfl)) ?_; (with_reducible refine (knead_isLumps.calls a0 false _ A3.out).mono ?_); rintro e w' ⟨rfl, ⟨nd, rfl⟩⟩; refine ⟨_, rfl, ?_⟩))
    go_ret
    exact ⟨by first | rfl | (simp; done) | (simp [*]; done), by repeat (first | exact Drawn0.refl _ | apply Drawn0.step)⟩

end Go.Proofs.Ytgnklmhjejbcoaa.K
