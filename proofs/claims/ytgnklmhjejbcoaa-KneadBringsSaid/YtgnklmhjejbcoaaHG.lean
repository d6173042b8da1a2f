/- What knead.Way returns: the word that the search comes upon, in memory of the call's own; older memory stays as it was. -/
import Derived.Test.YtgnklmhjejbcoaaHM
import Derived.Test.YtgnklmhjejbcoaaHA
import Derived.Test.YtgnklmhjejbcoaaQB
import Derived.Carry
import Derived.Test.YtgnklmhjejbcoaaK1
import Derived.Test.YtgnklmhjejbcoaaK2
namespace Go.Proofs.Ytgnklmhjejbcoaa.K
open Go.RowKit Go.Proofs.YtgnklmhjejbcoaaW.PrintWords Go.Proofs.YtgnklmhjejbcoaaW.PrintLast Go.Proofs.YtgnklmhjejbcoaaW.PrintMore
set_option linter.unusedVariables false
set_option linter.unusedSimpArgs false

/-- The words that have been found, and the places that are still to be looked at. -/
structure WS where
  wd : Nat → Option (List Int)
  op : List Nat
def setW (wd : Nat → Option (List Int)) (q : Nat) (l : List Int) : Nat → Option (List Int) := fun x => if x = q then some l else wd x
/-- One fold of kind k from the place p. -/
def visit (n p k : Nat) (s : WS) : WS :=
  if s.wd (stepN n p k) = none ∧ ((s.wd p).getD []).length < 40 then ⟨setW s.wd (stepN n p k) (((s.wd p).getD []) ++ [(k : Int)]), s.op ++ [stepN n p k]⟩ else s
def visits (n p : Nat) (s : WS) : Nat → WS
  | 0 => s
  | j + 1 => visit n p j (visits n p s j)
def bfs (n : Nat) : Nat → WS → Option (Nat → Option (List Int))
  | 0, _ => none
  | f + 1, s => match s.op with
    | [] => some s.wd
    | p :: op => bfs n f (visits n p ⟨s.wd, op⟩ 2)
def startW (p : Nat) : WS := ⟨fun x => if x = p then some [] else none, [p]⟩

def lits (l : List Nat) : List Int := l.map (fun (i : Nat) => (i : Int))

/-- The search's memory. -/
structure St (w W : World) (M N : Nat) (s : WS) (v : Value) : Prop where
  m : ∃ f, MapV Try.prog 3 W M N f ∧ ∀ p : Nat, p < 1000 → (s.wd p = none → f (.int .i64 p) = none) ∧ (∀ l, s.wd p = some l → ∃ u, f (.int .i64 p) = some u ∧ Kd.R (Kd.int .i64) 3 W w.heap.size (fun k => k ≠ M ∧ some k ≠ v.ownBlock) u l)
  hM : w.heap.size ≤ M
  op : Kd.Q (Kd.int .i64) 3 W w.heap.size (fun k => k ≠ M) v (lits s.op)
  below : Below w.heap.size w W

/-- Numbers below 1000, no more than 40 letters. -/
def Small (n : Nat) (s : WS) : Prop := (∀ p ∈ s.op, p < n) ∧ (∀ p l, s.wd p = some l → l.length ≤ 40)
theorem small_visit {n p k : Nat} {s : WS} (hn : n % 2 = 0) (hk : k ≤ 1) (hp : p < n) (h : Small n s) : Small n (visit n p k s) := by
  unfold visit
  split
  · rename_i hc
    refine ⟨fun q hq => ?_, fun q l hl => ?_⟩
    · rcases List.mem_append.1 hq with hq | hq
      · exact h.1 q hq
      · rw [List.mem_singleton] at hq
        subst hq
        exact step_lt hn hk hp
    · simp only [setW] at hl
      split at hl
      · injection hl with hl
        subst hl
        have := hc.2
        simp only [List.length_append, List.length_singleton]
        omega
      · exact h.2 q l hl
  · exact h

theorem wf_int {i : Nat} (h : i < 1000) : (Lit.int .i64 (i : Int)).wf = true := by simp only [Lit.wf, show IntKind.i64.min = -9223372036854775808 from rfl, show IntKind.i64.max = 9223372036854775807 from rfl, Bool.and_eq_true, decide_eq_true_eq]; omega
theorem key_int (i : Nat) (h : i < 1000) : keyOf Try.prog 3 (.int .i64 (i : Int)) = some (.int .i64 (i : Int)) := Maps.keyOf_int_mk Try.underlying3 (wf_int h)
theorem keyed3 : Maps.Keyed Try.prog 3 := Maps.int_keyed Try.underlying3

theorem putV_int (f : Lit → Option Value) (p q : Nat) (v : Value) (hw : (Lit.int .i64 (q : Int)).wf = true) : putV f (.int .i64 (p : Int)) v (.int .i64 (q : Int)) = if q = p then some v else f (.int .i64 (q : Int)) := by
  by_cases h : q = p
  · subst h
    rw [if_pos rfl]
    simp [putV, WideAt.sameKey_self (a := .int .i64 (q : Int)) (keyed3.key (Maps.keyOf_int_mk Try.underlying3 hw))]
  · rw [if_neg h]
    have : Lit.int .i64 (q : Int) ≠ Lit.int .i64 (p : Int) := fun e => by
      injection e with _ e
      omega
    simp [putV, Maps.sameKey_ne this]
theorem maxLen_big : (1000000 : Nat) < maxLen := by unfold maxLen; omega
theorem St.start {w W1 W2 : World} {p : Nat} {v : Value} (hm : MapV Try.prog 3 W1 w.heap.size 1 (putV (fun _ => none) (.int .i64 (p : Int)) (.slice none 0 0))) (hg : W1.grownBy W2 none) (hr : Kd.R (Kd.int .i64) 3 W2 W1.heap.size (fun _ => True) v [(p : Int)]) (hB : Below w.heap.size w W2) (hlt : w.heap.size < W1.heap.size) :
    St w W2 w.heap.size 1 (startW p) v where
  m := ⟨_, hm.kept hg (by simp), fun q hq => ⟨fun h => by
      rw [putV_int _ _ _ _ (wf_int hq)]
      by_cases e : q = p
      · simp [startW, e] at h
      · rw [if_neg e], fun l h => by
      rw [putV_int _ _ _ _ (wf_int hq)]
      by_cases e : q = p
      · simp [startW, e] at h
        subst h
        exact ⟨_, by rw [if_pos e], Kd.R_nil _ _ _ _ _⟩
      · simp [startW, e] at h⟩⟩
  hM := Nat.le_refl _
  op := Kd.Q_of_R (Kd.R_lower (Kd.R_mono (Kd.R_bound hr) (fun k hk => by have := hk.2.1; omega)) (by omega))
  below := hB

theorem grown_of_below {W W' : World} (h : Below W.heap.size W W') : W.grownBy W' none := ⟨h.os, h.tape, h.output, h.size, fun k hk _ => h.block k hk⟩
/-- New blocks alone, and draws. -/
theorem St.next {w W W' : World} {M N : Nat} {s : WS} {v : Value} (h : St w W M N s v) (hb : Below W.heap.size W W') : St w W' M N s v where
  m := by
    obtain ⟨f, hm, hf⟩ := h.m
    refine ⟨f, hm.kept (grown_of_below hb) (by simp), fun p hp => ⟨(hf p hp).1, fun l hl => ?_⟩⟩
    obtain ⟨u, hu, hr⟩ := (hf p hp).2 l hl
    exact ⟨u, hu, Kd.R_below hr hb⟩
  hM := h.hM
  op := Kd.Q_below h.op hb
  below := below_step h.below hb
theorem St.lt {w W : World} {M N : Nat} {s : WS} {v : Value} (h : St w W M N s v) : M < W.heap.size := by
  obtain ⟨f, hm, _⟩ := h.m
  exact hm.lt
theorem St.look {w W : World} {M N : Nat} {s : WS} {v : Value} (h : St w W M N s v) (q : Nat) (hq : q < 1000) : ∃ u, (Instr.lookup 53 (.map (some M)) (.int .i64 (q : Int)) true).run Try.prog W = .ok (.tuple #[u, .bool (s.wd q).isSome]) W ∧
    (Instr.lookup 53 (.map (some M)) (.int .i64 (q : Int)) false).run Try.prog W = .ok u W ∧ Kd.R (Kd.int .i64) 3 W w.heap.size (fun k => k ≠ M ∧ some k ≠ v.ownBlock) u ((s.wd q).getD []) := by
  obtain ⟨f, hm, hf⟩ := h.m
  have l1 := hm.look_ok keyed3 Try.underlying53 (Try.zeroValue22 W) (key_int q hq)
  have l2 := hm.look keyed3 Try.underlying53 (Try.zeroValue22 W) (key_int q hq)
  obtain ⟨h1, h2⟩ := hf q hq
  cases hw : s.wd q with
  | none =>
    rw [h1 hw] at l1 l2
    exact ⟨_, l1, l2, Kd.R_nil _ _ _ _ _⟩
  | some l =>
    obtain ⟨u, hu, hr⟩ := h2 l hw
    rw [hu] at l1 l2
    exact ⟨u, l1, l2, hr⟩
theorem St.put {w W : World} {M N : Nat} {s : WS} {v : Value} (h : St w W M N s v) (q : Nat) (hq : q < 1000) (hN : N < 1000000) {u : Value} {l : List Int} (hr : Kd.R (Kd.int .i64) 3 W w.heap.size (fun k => k ≠ M ∧ some k ≠ v.ownBlock) u l) :
    ∃ W', (Instr.mapUpdate 53 (.map (some M)) (.int .i64 (q : Int)) u).run Try.prog W = .ok () W' ∧ St w W' M (N + 1) ⟨setW s.wd q l, s.op⟩ v ∧ W.grownBy W' (some M) := by
  obtain ⟨f, hm, hf⟩ := h.m
  obtain ⟨W', hrun, hm', hg⟩ := hm.store keyed3 Try.underlying53 (by have := maxLen_big; omega) (key_int q hq) u
  refine ⟨W', hrun, ⟨⟨_, hm', fun p hp => ?_⟩, h.hM, Kd.Q_grown h.op hg (fun k hk e => by injection e with e; exact hk e), h.below.grown hg (below_size h.below) (fun k e => by injection e with e; subst e; exact h.hM)⟩, hg⟩
  rw [putV_int _ _ _ _ (wf_int hp)]
  by_cases e : p = q
  · simp only [setW, if_pos e]
    refine ⟨fun e => (by cases e), fun l' hl' => ?_⟩
    injection hl' with hl'
    subst hl'
    exact ⟨u, rfl, Kd.R_grown hr hg (fun k hk e => by injection e with e; exact hk.1 e)⟩
  · simp only [setW, if_neg e]
    refine ⟨(hf p hp).1, fun l' hl' => ?_⟩
    obtain ⟨u', hu', hr'⟩ := (hf p hp).2 l' hl'
    exact ⟨u', hu', Kd.R_grown hr' hg (fun k hk e => by injection e with e; exact hk.1 e)⟩
theorem St.push {w W W' : World} {M N : Nat} {s : WS} {v v' : Value} (h : St w W M N s v) (q : Nat) (ho : Kd.Q (Kd.int .i64) 3 W' w.heap.size (fun k => k ≠ M) v' (lits s.op ++ [(q : Int)])) (hB : Below w.heap.size w W') (hg : W.grownBy W' v.ownBlock) (hat : v'.ownBlock = v.ownBlock ∨ ∃ b, v'.ownBlock = some b ∧ W.heap.size ≤ b) :
    St w W' M N ⟨s.wd, s.op ++ [q]⟩ v' where
  m := by
    obtain ⟨f, hm, hf⟩ := h.m
    refine ⟨f, hm.kept hg (fun e => h.op.1 M e.symm rfl), fun p hp => ⟨(hf p hp).1, fun l hl => ?_⟩⟩
    obtain ⟨u, hu, hr⟩ := (hf p hp).2 l hl
    exact ⟨u, hu, Kd.R_after (ok := fun k => k ≠ M) hr hg hat⟩
  hM := h.hM
  op := by
    show Kd.Q _ _ _ _ _ _ (lits (s.op ++ [q]))
    rw [show lits (s.op ++ [q]) = lits s.op ++ [(q : Int)] by simp [lits]]
    exact ho
  below := hB
/-- The first place is taken off. -/
theorem St.pop {w W : World} {M N g o cap : Nat} {wd : Nat → Option (List Int)} {p : Nat} {op : List Nat} {v' : Value} (h : St w W M N ⟨wd, p :: op⟩ (.slice (some ⟨g, o, none⟩) (op.length + 1) cap)) (hv : v' = .slice (if cap = 1 then some ⟨g, o, none⟩ else some ⟨g, o + 1, none⟩) op.length (cap - 1)) : St w W M N ⟨wd, op⟩ v' := by
  have hd := Kd.Q_drop h.op (k := 1) (by simp [lits])
  have he : (Value.slice (if cap = 1 then some (⟨g, o, none⟩ : Addr) else (some (⟨g, o, none⟩ : Addr)).map (·.add (1 * (Kd.int .i64).sz))) (op.length + 1 - 1) (cap - 1)) = v' := by
    rw [hv]
    have : (⟨g, o, none⟩ : Addr).add (1 * (Kd.int .i64).sz) = ⟨g, o + 1, none⟩ := by simp [Kd.int, Kd.scalar, Addr.add]
    simp only [Option.map_some, this, Nat.add_sub_cancel]
  rw [he] at hd
  have hob : v'.ownBlock = (Value.slice (some ⟨g, o, none⟩) (op.length + 1) cap).ownBlock := by
    rw [hv]
    split <;> rfl
  refine ⟨?_, h.hM, ?_, h.below⟩
  · obtain ⟨f, hm, hf⟩ := h.m
    refine ⟨f, hm, fun q hq => ⟨(hf q hq).1, fun l hl => ?_⟩⟩
    obtain ⟨u, hu, hr⟩ := (hf q hq).2 l hl
    exact ⟨u, hu, by rw [hob]; exact hr⟩
  · simpa [lits] using hd

theorem small_visits {n p : Nat} {s : WS} (hn : n % 2 = 0) (hp : p < n) (h : Small n s) : ∀ j, j ≤ 2 → Small n (visits n p s j)
  | 0, _ => h
  | j + 1, hj => small_visit hn (by omega) hp (small_visits hn hp h j (by omega))
theorem visit_some {n p k : Nat} {s : WS} {l : List Int} (h : s.wd (stepN n p k) = some l) : visit n p k s = s := by
  unfold visit
  rw [if_neg (by rw [h]; simp)]
theorem visit_long {n p k : Nat} {s : WS} (h : ¬ ((s.wd p).getD []).length < 40) : visit n p k s = s := by
  unfold visit
  rw [if_neg (fun hc => h hc.2)]
theorem visit_new {n p k : Nat} {s : WS} (h1 : s.wd (stepN n p k) = none) (h2 : ((s.wd p).getD []).length < 40) : visit n p k s = ⟨setW s.wd (stepN n p k) (((s.wd p).getD []) ++ [(k : Int)]), s.op ++ [stepN n p k]⟩ := by
  unfold visit
  rw [if_pos ⟨h1, h2⟩]

set_option maxHeartbeats 8000000 in
set_option maxRecDepth 100000 in
theorem way_main (n p t k : Nat) (wd : Nat → Option (List Int)) (w : World) (hn : n % 2 = 0) (hs : n ≤ 1000) (hp : p < n) (ht : t < n) (hk : k ≤ 100000) (hl : knead_isLumps.f (n : Int) = some true) (h : bfs n k (startW p) = some wd) :
    Calls Try.prog 21 #[.int .i64 n, .int .i64 p, .int .i64 t] w fun e w' => ∃ v0_ : Value, e = .returned (.tuple #[v0_, .bool (wd t).isSome, .int .i64 0]) ∧ Kd.R (Kd.int .i64) 3 w' w.heap.size (fun _ => True) v0_ ((wd t).getD []) ∧ Below w.heap.size w w' := by
  have HT := Aside0.mk hl
  have HH := Aside0.mk h
  clear hl h
  have h1 : ¬ ((p : Int) < 0) := by omega
  have h2 : ¬ ((p : Int) ≥ n) := by omega
  have h3 : ¬ ((t : Int) < 0) := by omega
  have h4 : ¬ ((t : Int) ≥ n) := by omega
  have hmm := @run_makeMap Try.prog
  go_enter Try.func21, Try.ntmps21
  go_wp2_with (first
    | (go_at_call 53; refine (knead_isLumps.calls (n : Int) true _ HT.out).mono ?_; rintro e w' ⟨rfl, ⟨nd, rfl⟩⟩; obtain ⟨wm, hrm, hmv', hgm⟩ : ∃ wm, (Instr.mapUpdate 53 (.map (some w.heap.size)) (.int .i64 (p : Int)) (.slice none 0 0)).run Try.prog ((w.drewN nd).alloc (.map #[] 0)) = .ok () wm ∧ MapV Try.prog 3 wm w.heap.size 1 (putV (fun _ => none) (.int .i64 (p : Int)) (.slice none 0 0)) ∧ ((w.drewN nd).alloc (.map #[] 0)).grownBy wm (some w.heap.size) := (MapV.made Try.prog 3 (w.drewN nd)).store keyed3 Try.underlying53 (by have := maxLen_big; omega) (key_int p (by omega)) (.slice none 0 0); have HMV := Aside0.mk hmv'; have HGM := Aside0.mk hgm; clear hmv' hgm)
    | ((with_reducible refine gate_dst (N := 41) rfl ?_); refine Kd.R_lit (Kd.int .i64) _ 3 ?hg (N := 41) ?hd (xs := ([(p : Int)] : List Int)) (inner := [.int .i64 (p : Int)]) (ok := fun _ => True) (okp := fun _ => True) ?hr ?hp (fun _ hk => hk) trivial (Below.refl _ _) (Nat.le_refl _) (by simp) ?_; (case hd => rfl); (case hg => rfl); (case hr => first | (go_simp; done) | (go_simp; rfl)); (case hp => exact (Reps.one (show Kd.M (Kd.int .i64) _ _ _ (p : Int) [.int .i64 (p : Int)] from rfl) (Reps.none _ _))); intro v5 w5 ho hb hg_ hnew_; have HO5 := Aside0.mk ho; have HB5 := Aside0.mk hb; have HG5 := Aside0.mk hg_; clear ho hb hg_ hnew_)
    | go_in)
  have HS0 : Aside0 (St w w5 w.heap.size 1 (startW p) v5) := Aside0.mk (St.start HMV.out HG5.out HO5.out ((((pw_below_drewN (Below.refl w.heap.size w) nd).alloc (Nat.le_refl _) _).grown HGM.out (by simp) (fun k e => by injection e with e; omega)).trans (HB5.out.mono (by have := HGM.out.size; simp at this; omega))) (by have := HGM.out.size; simp at this; omega))
  clear HMV HGM HO5 HB5 HG5 hrm
  have HSm0 : Aside0 (Small n (startW p) ∧ (startW p).op.length ≤ 1) := Aside0.mk ⟨⟨fun q hq => by simp [startW] at hq; omega, fun q l hl => by
    simp only [startW] at hl
    split at hl
    · injection hl with hl
      subst hl
      simp
    · cases hl⟩, by simp [startW]⟩
  go_loopg [10] k (fun kq v W => ∃ (s : WS) (N : Nat), Aside0 (bfs n kq s = some wd) ∧ Aside0 (kq ≤ k) ∧ Aside0 (N + 2 * kq ≤ 1 + 2 * k) ∧ Aside0 (Small n s ∧ s.op.length ≤ N) ∧ Aside0 (St w W w.heap.size N s v))
  case atStart => exact ⟨startW p, 1, HH, Aside0.mk (Nat.le_refl _), Aside0.mk (by omega), HSm0, HS0⟩
  case round =>
    clear HH HSm0 HS0
    obtain ⟨s, N, HA, HK, HN, HSm, HS⟩ := hrel
    cases gk with
    | zero => exact absurd HA.out (by simp [bfs])
    | succ k1 =>
      obtain ⟨swd, sop⟩ := s
      cases sop with
      | nil =>
        have HW : Aside0 (swd = wd) := Aside0.mk (by have := HA.out; simpa [bfs] using this)
        obtain ⟨A, c, ev, _⟩ := Kd.Q_slice HS.out.op
        simp only [lits, List.map_nil, List.length_nil] at ev
        subst ev
        obtain ⟨u, hl1, hl2, hr⟩ := HS.out.look t (by omega)
        simp only [HW.out] at hl1 hr
        have HR := Aside0.mk hr
        clear hr hl2
        go_wp2
        go_ret3
        exact ⟨_, rfl, Kd.R_mono HR.out (fun _ _ => trivial), HS.out.below⟩
      | cons p' op =>
        have hp' : p' < n := HSm.out.1.1 p' (List.mem_cons_self ..)
        obtain ⟨g, o, cap, ev, _⟩ := Kd.Q_form HS.out.op (by simp [lits])
        rw [show (lits (⟨swd, p' :: op⟩ : WS).op).length = op.length + 1 by simp [lits]] at ev
        subst ev
        have hcap := (Kd.Q_reads' HS.out.op).2.1
        have hx := (Kd.Q_cell (0 : Int) HS.out.op 0 (by omega) (by omega)).1
        have e0 : rdOf (0 : Int) (lits (p' :: op)) 0 = (p' : Int) := by simp [rdOf, lits]
        simp only [Int.toNat_zero, Nat.add_zero] at hx
        rw [e0] at hx
        have HSp := Aside0.mk (St.pop HS.out rfl)
        have HAb : Aside0 (bfs n k1 (visits n p' ⟨swd, op⟩ 2) = some wd) := Aside0.mk (by have := HA.out; simpa [bfs] using this)
        have HSm1 : Aside0 (Small n ⟨swd, op⟩) := Aside0.mk ⟨fun q hq => HSm.out.1.1 q (List.mem_cons_of_mem _ hq), HSm.out.1.2⟩
        have HLn : Aside0 (op.length ≤ N) := Aside0.mk (by have := HSm.out.2; simp only [List.length_cons] at this; omega)
        clear HA HSm HS e0
        have hcl : ¬ cap < 1 := by omega
        by_cases hc1 : cap = 1
        · subst hc1
          simp only [if_true, Nat.sub_self] at HSp
          have HC1 := Aside0.mk hcap
          clear hcap
          go_wp2_with fail
          go_loopw [10, 50] (fun v i W => ∃ (j N' : Nat), i = .int .i64 j ∧ Aside0 (j ≤ 2) ∧ Aside0 (N' ≤ N + j) ∧ Aside0 ((visits n p' ⟨swd, op⟩ j).op.length ≤ N') ∧ Aside0 (St w W w.heap.size N' (visits n p' ⟨swd, op⟩ j) v)) (fun _ i _ => 2 - (intOf i).toNat)
          case atStart => exact ⟨0, N, rfl, Aside0.mk (by omega), Aside0.mk (Nat.le_refl _), HLn, HSp⟩
          case round =>
            clear HSp hx
            obtain ⟨j, N', rfl, Hj, HN', HLj, HSj⟩ := hrel
            have hj := Hj.out
            by_cases hj2 : j < 2
            · have HSmj := Aside0.mk (small_visits hn hp' HSm1.out j (by omega))
              have Hv := Aside0.mk (show visits n p' ⟨swd, op⟩ (j + 1) = visit n p' j (visits n p' ⟨swd, op⟩ j) from rfl)
              obtain ⟨s', hs'⟩ : ∃ s', s' = visits n p' ⟨swd, op⟩ j := ⟨_, rfl⟩
              rw [← hs'] at HSj HSmj Hv HLj
              clear hs'
              have hq := step_lt hn (show j ≤ 1 by omega) hp'
              have CS := Aside0.mk (step_eq hn hs (show j ≤ 1 by omega) hp')
              cases hw : s'.wd (stepN n p' j) with
              | some l =>
                rw [visit_some hw] at Hv
                obtain ⟨q, hq'⟩ : ∃ q, q = stepN n p' j := ⟨_, rfl⟩
                rw [← hq'] at CS hq hw
                have HW := Aside0.mk hw
                clear hq' hw
                go_wp2_with (first
                  | (go_at_call 54; refine (knead_step.calls _ _ _ _ _ CS.out).mono ?_; rintro e w' ⟨rfl, ⟨nd3, rfl⟩⟩; have HSd := Aside0.mk (HSj.out.next (pw_below_drewN (Below.refl _ _) nd3)); obtain ⟨u, l1, _, _⟩ := HSd.out.look q (by omega); rw [HW.out] at l1; simp only [Option.isSome_some] at l1)
                  | go_in)
                go_roundw
                case rel => exact ⟨j + 1, N', by go_num, Aside0.mk (by omega), Aside0.mk (by have := HN'.out; omega), by rw [Hv.out]; exact HLj, by rw [Hv.out]; exact HSd⟩
                case measure => simp [intOf]; omega
              | none =>
                by_cases hlen : ((s'.wd p').getD []).length < 40
                · rw [visit_new hw hlen] at Hv
                  obtain ⟨q, hq'⟩ : ∃ q, q = stepN n p' j := ⟨_, rfl⟩
                  rw [← hq'] at CS hq hw Hv
                  have HW := Aside0.mk hw
                  clear hq' hw
                  obtain ⟨lp, hlp⟩ : ∃ lp, lp = (s'.wd p').getD [] := ⟨_, rfl⟩
                  rw [← hlp] at hlen Hv
                  have HLP := Aside0.mk hlp
                  clear hlp
                  have hop2 : s'.op.length ≤ 300001 := by have := HLj.out; have := HN'.out; have := HN.out; omega
                  go_wp2_with (first
                    | (go_at_call 54; refine (knead_step.calls _ _ _ _ _ CS.out).mono ?_; rintro e w' ⟨rfl, ⟨nd3, rfl⟩⟩; have HSd := Aside0.mk (HSj.out.next (pw_below_drewN (Below.refl _ _) nd3)); obtain ⟨u, l1, _, _⟩ := HSd.out.look q (by omega); rw [HW.out] at l1; simp only [Option.isSome_none] at l1; obtain ⟨u2, _, l2, r2⟩ := HSd.out.look p' (by omega); rw [← HLP.out] at r2; obtain ⟨A2, c2, e2⟩ := Kd.R_slice r2; subst e2; have R2 := Aside0.mk r2; clear r2)
                    | (go_at_call 55; refine (slices_Clone_int_int.calls A2 c2 lp lp _ (Kd.R_reads' R2.out).2.2 (Kd.R_reads' R2.out).2.1 (by unfold slices_Clone_int_int.f; rw [if_pos (by omega)])).mono ?_; rintro e w3 ⟨v3, rfl, hR, hB⟩; have RC := Aside0.mk hR; have BC := Aside0.mk hB; clear hR hB)
                    | ((with_reducible refine gate_builtin (b := .append) (xs := #[.tmp 77, .tmp 79]) rfl ?_); at_builtin; go_loud (refine Kd.R_append (Kd.int .i64) (w0 := wr.drewN nd3) (wr.drewN nd3).heap.size rfl (.tmp 77) (.tmp 79) 22 3 (.int .i64 0) 8 rfl Try.underlying22 info3 rfl (by decide) (by omega) v3 lp (j : Int) [.int .i64 (j : Int)] _ (fun _ => False) rfl rfl rfl (fun _ hk => hk.elim) (fun _ _ => trivial) RC.out BC.out (below_size BC.out) (by omega) ?_); intro v4 w4 ho hb hg hat; have HO4 := Aside0.mk ho; have HB4 := Aside0.mk hb; clear ho hb hg hat; have HSe := Aside0.mk (HSd.out.next HB4.out); obtain ⟨w5', hr5, hst5, hg5⟩ := HSe.out.put q (by omega) (by have := HN'.out; have := HN.out; omega) (Kd.R_lower (Kd.R_mono (Kd.R_bound HO4.out) (fun k hk => by have h7 := hk.2.1; exact ⟨by have := HSd.out.lt; omega, fun e => by have := Kd.Q_lt HSd.out.op k e.symm; omega⟩)) (below_size HSd.out.below)); have HS5 := Aside0.mk hst5; clear hst5 hg5)
                    | ((with_reducible refine gate_builtin (b := .append) (xs := #[.tmp 81, .tmp 83]) rfl ?_); at_builtin; go_loud (refine Kd.Q_append (Kd.int .i64) (w0 := w) w.heap.size rfl (.tmp 81) (.tmp 83) 22 3 (.int .i64 0) 8 rfl Try.underlying22 info3 rfl (by decide) (by omega) _ (lits s'.op) (q : Int) [.int .i64 (q : Int)] (fun k => k ≠ w.heap.size) (fun _ => False) rfl rfl rfl (fun _ hk => hk.elim) (fun k hk e => by have := HS5.out.lt; omega) HS5.out.op HS5.out.below (below_size HS5.out.below) (by simp only [lits, List.length_map]; omega) ?_); intro v6 w6 ho hb hg hat; have HS6 := Aside0.mk (HS5.out.push q ho hb hg hat); clear ho hb hg hat)
                    | go_in)
                  go_roundw
                  case rel => exact ⟨j + 1, N' + 1, by go_num, Aside0.mk (by omega), Aside0.mk (by have := HN'.out; omega), by rw [Hv.out]; exact Aside0.mk (by have := HLj.out; simp only [List.length_append, List.length_singleton]; omega), by rw [Hv.out]; exact HS6⟩
                  case measure => simp [intOf]; omega
                · rw [visit_long hlen] at Hv
                  obtain ⟨q, hq'⟩ : ∃ q, q = stepN n p' j := ⟨_, rfl⟩
                  rw [← hq'] at CS hq hw
                  have HW := Aside0.mk hw
                  clear hq' hw
                  obtain ⟨lp, hlp⟩ : ∃ lp, lp = (s'.wd p').getD [] := ⟨_, rfl⟩
                  rw [← hlp] at hlen
                  have HLP := Aside0.mk hlp
                  clear hlp
                  go_wp2_with (first
                    | (go_at_call 54; refine (knead_step.calls _ _ _ _ _ CS.out).mono ?_; rintro e w' ⟨rfl, ⟨nd3, rfl⟩⟩; have HSd := Aside0.mk (HSj.out.next (pw_below_drewN (Below.refl _ _) nd3)); obtain ⟨u, l1, _, _⟩ := HSd.out.look q (by omega); rw [HW.out] at l1; simp only [Option.isSome_none] at l1; obtain ⟨u2, _, l2, r2⟩ := HSd.out.look p' (by omega); rw [← HLP.out] at r2; obtain ⟨A2, c2, e2⟩ := Kd.R_slice r2; subst e2; clear r2)
                    | go_in)
                  go_roundw
                  case rel => exact ⟨j + 1, N', by go_num, Aside0.mk (by omega), Aside0.mk (by have := HN'.out; omega), by rw [Hv.out]; exact HLj, by rw [Hv.out]; exact HSd⟩
                  case measure => simp [intOf]; omega
            · obtain rfl : j = 2 := by omega
              go_wp2
              go_roundg k1
              case measure => have := HK.out; omega
              case rel => exact ⟨visits n p' ⟨swd, op⟩ 2, N', HAb, Aside0.mk (by have := HK.out; omega), Aside0.mk (by have := HN.out; have := HN'.out; omega), Aside0.mk ⟨small_visits hn hp' HSm1.out 2 (by omega), HLj.out⟩, HSj⟩
        · simp only [if_neg hc1] at HSp
          have HC1 := Aside0.mk hcap
          clear hcap
          go_wp2_with fail
          go_loopw [10, 50] (fun v i W => ∃ (j N' : Nat), i = .int .i64 j ∧ Aside0 (j ≤ 2) ∧ Aside0 (N' ≤ N + j) ∧ Aside0 ((visits n p' ⟨swd, op⟩ j).op.length ≤ N') ∧ Aside0 (St w W w.heap.size N' (visits n p' ⟨swd, op⟩ j) v)) (fun _ i _ => 2 - (intOf i).toNat)
          case atStart => exact ⟨0, N, rfl, Aside0.mk (by omega), Aside0.mk (Nat.le_refl _), HLn, HSp⟩
          case round =>
            clear HSp hx
            obtain ⟨j, N', rfl, Hj, HN', HLj, HSj⟩ := hrel
            have hj := Hj.out
            by_cases hj2 : j < 2
            · have HSmj := Aside0.mk (small_visits hn hp' HSm1.out j (by omega))
              have Hv := Aside0.mk (show visits n p' ⟨swd, op⟩ (j + 1) = visit n p' j (visits n p' ⟨swd, op⟩ j) from rfl)
              obtain ⟨s', hs'⟩ : ∃ s', s' = visits n p' ⟨swd, op⟩ j := ⟨_, rfl⟩
              rw [← hs'] at HSj HSmj Hv HLj
              clear hs'
              have hq := step_lt hn (show j ≤ 1 by omega) hp'
              have CS := Aside0.mk (step_eq hn hs (show j ≤ 1 by omega) hp')
              cases hw : s'.wd (stepN n p' j) with
              | some l =>
                rw [visit_some hw] at Hv
                obtain ⟨q, hq'⟩ : ∃ q, q = stepN n p' j := ⟨_, rfl⟩
                rw [← hq'] at CS hq hw
                have HW := Aside0.mk hw
                clear hq' hw
                go_wp2_with (first
                  | (go_at_call 54; refine (knead_step.calls _ _ _ _ _ CS.out).mono ?_; rintro e w' ⟨rfl, ⟨nd3, rfl⟩⟩; have HSd := Aside0.mk (HSj.out.next (pw_below_drewN (Below.refl _ _) nd3)); obtain ⟨u, l1, _, _⟩ := HSd.out.look q (by omega); rw [HW.out] at l1; simp only [Option.isSome_some] at l1)
                  | go_in)
                go_roundw
                case rel => exact ⟨j + 1, N', by go_num, Aside0.mk (by omega), Aside0.mk (by have := HN'.out; omega), by rw [Hv.out]; exact HLj, by rw [Hv.out]; exact HSd⟩
                case measure => simp [intOf]; omega
              | none =>
                by_cases hlen : ((s'.wd p').getD []).length < 40
                · rw [visit_new hw hlen] at Hv
                  obtain ⟨q, hq'⟩ : ∃ q, q = stepN n p' j := ⟨_, rfl⟩
                  rw [← hq'] at CS hq hw Hv
                  have HW := Aside0.mk hw
                  clear hq' hw
                  obtain ⟨lp, hlp⟩ : ∃ lp, lp = (s'.wd p').getD [] := ⟨_, rfl⟩
                  rw [← hlp] at hlen Hv
                  have HLP := Aside0.mk hlp
                  clear hlp
                  have hop2 : s'.op.length ≤ 300001 := by have := HLj.out; have := HN'.out; have := HN.out; omega
                  go_wp2_with (first
                    | (go_at_call 54; refine (knead_step.calls _ _ _ _ _ CS.out).mono ?_; rintro e w' ⟨rfl, ⟨nd3, rfl⟩⟩; have HSd := Aside0.mk (HSj.out.next (pw_below_drewN (Below.refl _ _) nd3)); obtain ⟨u, l1, _, _⟩ := HSd.out.look q (by omega); rw [HW.out] at l1; simp only [Option.isSome_none] at l1; obtain ⟨u2, _, l2, r2⟩ := HSd.out.look p' (by omega); rw [← HLP.out] at r2; obtain ⟨A2, c2, e2⟩ := Kd.R_slice r2; subst e2; have R2 := Aside0.mk r2; clear r2)
                    | (go_at_call 55; refine (slices_Clone_int_int.calls A2 c2 lp lp _ (Kd.R_reads' R2.out).2.2 (Kd.R_reads' R2.out).2.1 (by unfold slices_Clone_int_int.f; rw [if_pos (by omega)])).mono ?_; rintro e w3 ⟨v3, rfl, hR, hB⟩; have RC := Aside0.mk hR; have BC := Aside0.mk hB; clear hR hB)
                    | ((with_reducible refine gate_builtin (b := .append) (xs := #[.tmp 77, .tmp 79]) rfl ?_); at_builtin; go_loud (refine Kd.R_append (Kd.int .i64) (w0 := wr.drewN nd3) (wr.drewN nd3).heap.size rfl (.tmp 77) (.tmp 79) 22 3 (.int .i64 0) 8 rfl Try.underlying22 info3 rfl (by decide) (by omega) v3 lp (j : Int) [.int .i64 (j : Int)] _ (fun _ => False) rfl rfl rfl (fun _ hk => hk.elim) (fun _ _ => trivial) RC.out BC.out (below_size BC.out) (by omega) ?_); intro v4 w4 ho hb hg hat; have HO4 := Aside0.mk ho; have HB4 := Aside0.mk hb; clear ho hb hg hat; have HSe := Aside0.mk (HSd.out.next HB4.out); obtain ⟨w5', hr5, hst5, hg5⟩ := HSe.out.put q (by omega) (by have := HN'.out; have := HN.out; omega) (Kd.R_lower (Kd.R_mono (Kd.R_bound HO4.out) (fun k hk => by have h7 := hk.2.1; exact ⟨by have := HSd.out.lt; omega, fun e => by have := Kd.Q_lt HSd.out.op k e.symm; omega⟩)) (below_size HSd.out.below)); have HS5 := Aside0.mk hst5; clear hst5 hg5)
                    | ((with_reducible refine gate_builtin (b := .append) (xs := #[.tmp 81, .tmp 83]) rfl ?_); at_builtin; go_loud (refine Kd.Q_append (Kd.int .i64) (w0 := w) w.heap.size rfl (.tmp 81) (.tmp 83) 22 3 (.int .i64 0) 8 rfl Try.underlying22 info3 rfl (by decide) (by omega) _ (lits s'.op) (q : Int) [.int .i64 (q : Int)] (fun k => k ≠ w.heap.size) (fun _ => False) rfl rfl rfl (fun _ hk => hk.elim) (fun k hk e => by have := HS5.out.lt; omega) HS5.out.op HS5.out.below (below_size HS5.out.below) (by simp only [lits, List.length_map]; omega) ?_); intro v6 w6 ho hb hg hat; have HS6 := Aside0.mk (HS5.out.push q ho hb hg hat); clear ho hb hg hat)
                    | go_in)
                  go_roundw
                  case rel => exact ⟨j + 1, N' + 1, by go_num, Aside0.mk (by omega), Aside0.mk (by have := HN'.out; omega), by rw [Hv.out]; exact Aside0.mk (by have := HLj.out; simp only [List.length_append, List.length_singleton]; omega), by rw [Hv.out]; exact HS6⟩
                  case measure => simp [intOf]; omega
                · rw [visit_long hlen] at Hv
                  obtain ⟨q, hq'⟩ : ∃ q, q = stepN n p' j := ⟨_, rfl⟩
                  rw [← hq'] at CS hq hw
                  have HW := Aside0.mk hw
                  clear hq' hw
                  obtain ⟨lp, hlp⟩ : ∃ lp, lp = (s'.wd p').getD [] := ⟨_, rfl⟩
                  rw [← hlp] at hlen
                  have HLP := Aside0.mk hlp
                  clear hlp
                  go_wp2_with (first
                    | (go_at_call 54; refine (knead_step.calls _ _ _ _ _ CS.out).mono ?_; rintro e w' ⟨rfl, ⟨nd3, rfl⟩⟩; have HSd := Aside0.mk (HSj.out.next (pw_below_drewN (Below.refl _ _) nd3)); obtain ⟨u, l1, _, _⟩ := HSd.out.look q (by omega); rw [HW.out] at l1; simp only [Option.isSome_none] at l1; obtain ⟨u2, _, l2, r2⟩ := HSd.out.look p' (by omega); rw [← HLP.out] at r2; obtain ⟨A2, c2, e2⟩ := Kd.R_slice r2; subst e2; clear r2)
                    | go_in)
                  go_roundw
                  case rel => exact ⟨j + 1, N', by go_num, Aside0.mk (by omega), Aside0.mk (by have := HN'.out; omega), by rw [Hv.out]; exact HLj, by rw [Hv.out]; exact HSd⟩
                  case measure => simp [intOf]; omega
            · obtain rfl : j = 2 := by omega
              go_wp2
              go_roundg k1
              case measure => have := HK.out; omega
              case rel => exact ⟨visits n p' ⟨swd, op⟩ 2, N', HAb, Aside0.mk (by have := HK.out; omega), Aside0.mk (by have := HN.out; have := HN'.out; omega), Aside0.mk ⟨small_visits hn hp' HSm1.out 2 (by omega), HLj.out⟩, HSj⟩

def knead_Way.f (a0 a1 a2 : Int) : Option (List Int × Bool × Int) := (knead_isLumps.f a0).bind fun t => if t = true then (if a1 < 0 ∨ a1 ≥ a0 ∨ a2 < 0 ∨ a2 ≥ a0 then some ([], false, 4) else if a0 % 2 = 0 ∧ a0 ≤ 1000 then ((bfs a0.toNat 100000 (startW a1.toNat)).bind fun wd => some ((wd a2.toNat).getD [], (wd a2.toNat).isSome, 0)) else none) else some ([], false, 1)

set_option maxHeartbeats 4000000 in
set_option maxRecDepth 100000 in
theorem knead_Way.calls (a0 a1 a2 : Int) (r1 : List Int) (r2 : Bool) (r3 : Int) (w : World) (h : knead_Way.f a0 a1 a2 = some (r1, r2, r3)) :
    Calls Try.prog 21 #[.int .i64 a0, .int .i64 a1, .int .i64 a2] w fun e w' => ∃ v0_ : Value, e = .returned (.tuple #[v0_, .bool r2, .int .i64 r3]) ∧ Kd.R (Kd.int .i64) 3 w' w.heap.size (fun _ => True) v0_ r1 ∧ Below w.heap.size w w' := by
  unfold knead_Way.f at h
  obtain ⟨t, ht, h⟩ := Option.bind_eq_some_iff.mp h
  have HT := Aside0.mk ht
  by_cases hz : t = true
  · rw [if_pos hz] at h
    subst hz
    by_cases h1 : a1 < 0 ∨ a1 ≥ a0 ∨ a2 < 0 ∨ a2 ≥ a0
    · rw [if_pos h1] at h
      simp only [Option.some.injEq, Prod.mk.injEq] at h
      obtain ⟨rfl, rfl, rfl⟩ := h
      clear ht
      by_cases c1 : a1 < 0
      · clear h1
        go_enter Try.func21, Try.ntmps21
        go_wp2_with (first | (go_at_call 53; refine (knead_isLumps.calls a0 true _ HT.out).mono ?_; rintro e w' ⟨rfl, ⟨nd, rfl⟩⟩) | go_in)
        go_ret3
        exact ⟨_, rfl, Kd.R_nil _ _ _ _ _, by exact pw_below_drewN (Below.refl _ _) _⟩
      · by_cases c2 : a1 ≥ a0
        · clear h1
          go_enter Try.func21, Try.ntmps21
          go_wp2_with (first | (go_at_call 53; refine (knead_isLumps.calls a0 true _ HT.out).mono ?_; rintro e w' ⟨rfl, ⟨nd, rfl⟩⟩) | go_in)
          go_ret3
          exact ⟨_, rfl, Kd.R_nil _ _ _ _ _, by exact pw_below_drewN (Below.refl _ _) _⟩
        · by_cases c3 : a2 < 0
          · clear h1
            go_enter Try.func21, Try.ntmps21
            go_wp2_with (first | (go_at_call 53; refine (knead_isLumps.calls a0 true _ HT.out).mono ?_; rintro e w' ⟨rfl, ⟨nd, rfl⟩⟩) | go_in)
            go_ret3
            exact ⟨_, rfl, Kd.R_nil _ _ _ _ _, by exact pw_below_drewN (Below.refl _ _) _⟩
          · have c4 : a2 ≥ a0 := by omega
            clear h1
            go_enter Try.func21, Try.ntmps21
            go_wp2_with (first | (go_at_call 53; refine (knead_isLumps.calls a0 true _ HT.out).mono ?_; rintro e w' ⟨rfl, ⟨nd, rfl⟩⟩) | go_in)
            go_ret3
            exact ⟨_, rfl, Kd.R_nil _ _ _ _ _, by exact pw_below_drewN (Below.refl _ _) _⟩
    · rw [if_neg h1] at h
      by_cases h2 : a0 % 2 = 0 ∧ a0 ≤ 1000
      · rw [if_pos h2] at h
        obtain ⟨wd, hwd, h⟩ := Option.bind_eq_some_iff.mp h
        simp only [Option.some.injEq, Prod.mk.injEq] at h
        obtain ⟨rfl, rfl, rfl⟩ := h
        obtain ⟨n, rfl⟩ : ∃ n : Nat, a0 = n := ⟨a0.toNat, by omega⟩
        obtain ⟨p, rfl⟩ : ∃ p : Nat, a1 = p := ⟨a1.toNat, by omega⟩
        obtain ⟨q, rfl⟩ : ∃ q : Nat, a2 = q := ⟨a2.toNat, by omega⟩
        simp only [Int.toNat_natCast] at hwd ⊢
        exact way_main n p q 100000 wd w (by omega) (by omega) (by omega) (by omega) (Nat.le_refl _) ht hwd
      · rw [if_neg h2] at h
        cases h
  · rw [if_neg hz] at h
    have hb : t = false := by simpa using hz
    subst hb
    simp only [Option.some.injEq, Prod.mk.injEq] at h
    obtain ⟨rfl, rfl, rfl⟩ := h
    clear ht
    go_enter Try.func21, Try.ntmps21
    go_wp2_with (first | (go_at_call 53; refine (knead_isLumps.calls a0 false _ HT.out).mono ?_; rintro e w' ⟨rfl, ⟨nd, rfl⟩⟩) | go_in)
    go_ret3
    exact ⟨_, rfl, Kd.R_nil _ _ _ _ _, by exact pw_below_drewN (Below.refl _ _) _⟩
end Go.Proofs.Ytgnklmhjejbcoaa.K
