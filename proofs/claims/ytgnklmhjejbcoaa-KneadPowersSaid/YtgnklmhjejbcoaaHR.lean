/- What slices.Repeat and knead.Power return: the word so many times, in memory of the call's own; older memory stays as it was. -/
import Derived.Test.YtgnklmhjejbcoaaHS
import Derived.Test.YtgnklmhjejbcoaaHC
import Derived.Deep.RegionLaw
import Derived.Shelf.Spec.SlicesInsert
namespace Go.Proofs.Ytgnklmhjejbcoaa.K
open Go.RowKit Go.Proofs.YtgnklmhjejbcoaaW.PrintWords Go.Proofs.YtgnklmhjejbcoaaW.PrintLast Go.Proofs.YtgnklmhjejbcoaaW.PrintMore
set_option linter.unusedVariables false
set_option linter.unusedSimpArgs false

/-- A row of the call's own of which some cells are written over. -/
theorem R_setPart {base g n cap : Nat} {ok : Nat → Prop} : ∀ (ys pre mid post : List Int) (w : World) (hl : mid.length = ys.length), Kd.R (Kd.int .i64) 3 w base ok (.slice (some ⟨g, 0, none⟩) n cap) (pre ++ (mid ++ post)) →
    Kd.R (Kd.int .i64) 3 (w.setCells g pre.length (ys.map (.int .i64))) base ok (.slice (some ⟨g, 0, none⟩) n cap) (pre ++ (ys ++ post)) ∧ w.grownBy (w.setCells g pre.length (ys.map (.int .i64))) (some g)
  | [], pre, mid, post, w, hl, h => by
    have : mid = [] := List.eq_nil_of_length_eq_zero hl
    subst this
    exact ⟨h, ⟨rfl, rfl, rfl, Nat.le_refl _, fun _ _ _ => rfl⟩⟩
  | y :: ys, pre, [], post, w, hl, h => by simp at hl
  | y :: ys, pre, p :: mid, post, w, hl, h => by
    obtain ⟨hn, _, _⟩ := Kd.R_reads' h
    have hp : Kd.R (Kd.int .i64) 3 (w.setCell ⟨g, pre.length, none⟩ (.int .i64 y)) base ok (.slice (some ⟨g, 0, none⟩) n cap) ((pre ++ (p :: mid ++ post)).set pre.length y) ∧ w.grownBy (w.setCell ⟨g, pre.length, none⟩ (.int .i64 y)) (some g) := by
      subst hn
      have hp := Kd.R_put h (pre.length : Int) y
      rw [Int.toNat_natCast] at hp
      exact hp
    obtain ⟨h1, h2⟩ := hp
    have he : (pre ++ (p :: mid ++ post)).set pre.length y = (pre ++ [y]) ++ (mid ++ post) := by simp
    rw [he] at h1
    have ih := R_setPart ys (pre ++ [y]) mid post (w.setCell ⟨g, pre.length, none⟩ (.int .i64 y)) (by simpa using hl) h1
    simp only [List.length_append, List.length_singleton, List.append_assoc, List.singleton_append] at ih
    refine ⟨ih.1, ?_⟩
    have h3 := ih.2
    exact ⟨h3.os.trans h2.os, h3.tape.trans h2.tape, h3.output.trans h2.output, Nat.le_trans h2.size h3.size, fun k hk hne => (h3.block k (Nat.lt_of_lt_of_le hk h2.size) hne).trans (h2.block k hk hne)⟩

/-- A list so many times. -/
def repL (l : List Int) (k : Nat) : List Int := (List.replicate k l).flatten
theorem repL_length (l : List Int) (k : Nat) : (repL l k).length = k * l.length := by simp [repL, Nat.mul_comm]
theorem repL_add (l : List Int) (a b : Nat) : repL l (a + b) = repL l a ++ repL l b := by simp [repL, ← List.replicate_append_replicate]
theorem repL_take (l : List Int) (a b : Nat) (h : b ≤ a) : (repL l a).take (b * l.length) = repL l b := by
  obtain ⟨c, rfl⟩ := Nat.exists_eq_add_of_le h
  rw [repL_add, List.take_append_of_le_length (by rw [repL_length]; exact Nat.le_refl _), ← repL_length, List.take_length]

/-- The row when q times the word are laid. -/
def repRow (l : List Int) (k q : Nat) : List Int := repL l q ++ List.replicate ((k - q) * l.length) 0
theorem repRow_length (l : List Int) {k q : Nat} (h : q ≤ k) : (repRow l k q).length = k * l.length := by
  rw [repRow, List.length_append, repL_length, List.length_replicate, ← Nat.add_mul, Nat.add_sub_cancel' h]
theorem repRow_take (l : List Int) (k q b : Nat) (h : b ≤ q) : (repRow l k q).take (b * l.length) = repL l b := by
  rw [repRow, List.take_append_of_le_length (by rw [repL_length]; exact Nat.mul_le_mul_right _ h), repL_take l q b h]
theorem repRow_step (l : List Int) {k q b : Nat} (h : q + b ≤ k) : repL l q ++ (repL l b ++ List.replicate ((k - (q + b)) * l.length) 0) = repRow l k (q + b) := by
  rw [repRow, repL_add, List.append_assoc]
theorem repRow_split (l : List Int) {k q b : Nat} (h : q + b ≤ k) : repRow l k q = repL l q ++ (List.replicate (b * l.length) 0 ++ List.replicate ((k - (q + b)) * l.length) 0) := by
  rw [repRow, ← List.replicate_append_replicate.symm]
  congr 2
  rw [← Nat.add_mul]
  congr 1
  omega

theorem rep_first_n (l : List Int) (k : Nat) : min l.length (List.replicate (k * l.length) (0 : Int)).length = min 1 k * l.length := by
  rw [List.length_replicate]
  rcases Nat.eq_zero_or_pos k with rfl | hk
  · simp
  · rw [Nat.min_eq_left (show 1 ≤ k from hk), Nat.one_mul]
    exact Nat.min_eq_left (Nat.le_mul_of_pos_left _ hk)
theorem rep_first (l : List Int) (k : Nat) : l.take (min l.length (List.replicate (k * l.length) (0 : Int)).length) ++ (List.replicate (k * l.length) (0 : Int)).drop (min l.length (List.replicate (k * l.length) (0 : Int)).length) = repRow l k (min 1 k) := by
  rw [rep_first_n]
  rcases Nat.eq_zero_or_pos k with rfl | hk
  · simp [repRow, repL]
  · rw [Nat.min_eq_left (show 1 ≤ k from hk), Nat.one_mul, List.take_length, repRow, List.drop_replicate, Nat.sub_mul, Nat.one_mul]
    simp [repL]

set_option maxHeartbeats 4000000 in
set_option maxRecDepth 100000 in
theorem repeat_calls (A0 : Option Addr) (c0 : Nat) (l0 : List Int) (k : Nat) (w : World) (hr0 : Kd.C (Kd.int .i64) w A0 l0.length l0) (hl : l0.length ≤ 4096) (hk : k ≤ 4096) (hlk : k * l0.length ≤ 4096) :
    Calls Try.prog 91 #[.slice A0 l0.length c0, .int .i64 k] w fun e w' => ∃ v0_ : Value, e = .returned (v0_) ∧ Kd.R (Kd.int .i64) 3 w' w.heap.size (fun _ => True) v0_ (repL l0 k) ∧ Below w.heap.size w w' := by
  have HR0 := Aside0.mk hr0
  clear hr0
  have h0 : ¬ ((k : Int) < 0) := by omega
  have w1 : IntKind.u64.wrap (l0.length : Int) = (l0.length : Int) := by rw [IntKind.wrap_u64]; omega
  have w2 : IntKind.u64.wrap (k : Int) = (k : Int) := by rw [IntKind.wrap_u64]; omega
  have hmul : l0.length * k = k * l0.length := Nat.mul_comm _ _
  have hlo : l0.length * k % 18446744073709551616 = k * l0.length := by omega
  have hhi : l0.length * k / 18446744073709551616 = 0 := by omega
  have HM := Aside0.mk (bits_Mul l0.length k (by omega) (by omega) w)
  rw [hlo, hhi] at HM
  have HE := Aside0.mk (rep_first l0 k)
  have HE2 := Aside0.mk (rep_first_n l0 k)
  obtain ⟨N, hN⟩ : ∃ N, N = k * l0.length := ⟨_, rfl⟩
  rw [← hN] at HM hlk HE HE2
  have HN := Aside0.mk hN
  clear hN hmul hlo hhi
  have w3 : IntKind.i64.wrap (N : Int) = (N : Int) := by rw [IntKind.wrap_i64]; omega
  have h1 : ¬ ((9223372036854775807 : Int) < (N : Int)) := by omega
  go_enter Try.func91, Try.ntmps91
  go_wp2_with (first | (go_at_call 100; refine HM.out.mono ?_; rintro e w' ⟨rfl, rfl⟩) | ((with_reducible refine gate_dst (N := 30) rfl ?_); refine Kd.R_make (Kd.int .i64) _ 3 rfl (N := 30) rfl 22 _ _ rfl (N : Int) rfl rfl Try.underlying22 (.int .i64 0) 8 info3 rfl (by decide) (by omega) 0 (ok := fun _ => True) (okp := fun _ => True) rfl (fun _ hk => hk) trivial (by omega) (by simp; omega) (Below.refl w'.heap.size w') (Nat.le_refl _) ?_; intro v1 w5 ho hb hg_ hnew_; clear hg_ hnew_; have HO := Aside0.mk ho; have HB := Aside0.mk hb; clear ho hb; obtain ⟨A1, c1, e1⟩ := Kd.R_slice HO.out; subst e1; simp only [Int.toNat_natCast, List.length_replicate] at HO) | ((with_reducible refine gate_builtin (b := .copy) (xs := #[.tmp 31, .tmp 32]) rfl ?_); go_loud (refine Kd.R_copy (0 : Int) (w0 := w') w'.heap.size rfl (.tmp 31) (.tmp 32) 22 22 3 rfl Try.underlying22 (by kernel_rfl) (.slice A1 N c1) (List.replicate N 0) l0 _ _ _ (fun _ => True) rfl rfl HO.out (Kd.C_below HR0.out HB.out) HB.out (below_size HB.out) ?_); intro w6 ho hb hg; rw [HE.out] at ho; have HO1 : Aside0 (Kd.R (Kd.int .i64) 3 w6 w'.heap.size (fun _ => True) (.slice A1 N c1) (repRow l0 k (min 1 k))) := Aside0.mk ho; have HB1 := Aside0.mk hb; clear ho hb hg; rw [HE2.out]))
  clear HE HE2 HO HB HM HR0
  go_loopw [8] (fun i wr => ∃ q n : Nat, Aside0 (q ≤ k ∧ (0 < k → 1 ≤ q)) ∧ Aside0 (n = q * l0.length) ∧ i = .int .i64 n ∧ Aside0 (Kd.R (Kd.int .i64) 3 wr w'.heap.size (fun _ => True) (.slice A1 N c1) (repRow l0 k q)) ∧ Aside0 (Below w'.heap.size w' wr)) (fun i _ => N - (intOf i).toNat)
  case atStart => exact ⟨min 1 k, _, Aside0.mk ⟨Nat.min_le_right _ _, fun h => by omega⟩, Aside0.mk rfl, rfl, HO1, HB1⟩
  case round =>
    obtain ⟨q, n, HQ, Hn, rfl, HOr, HBr⟩ := hrel
    have hnN : n ≤ N := by rw [Hn.out, HN.out]; exact Nat.mul_le_mul_right _ HQ.out.1
    by_cases hlt : n < N
    · have hq : q < k := by
        refine Nat.lt_of_le_of_ne HQ.out.1 (fun e => ?_)
        subst e
        have := Hn.out
        have := HN.out
        omega
      have hl0 : 0 < l0.length := by
        rcases Nat.eq_zero_or_pos l0.length with e | e
        · have := HN.out
          rw [e] at this
          omega
        · exact e
      obtain ⟨b, hb⟩ : ∃ b, b = min q (k - q) := ⟨_, rfl⟩
      obtain ⟨m, hm⟩ : ∃ m, m = b * l0.length := ⟨_, rfl⟩
      have hq1 := HQ.out.2 (by omega)
      have hb1 : 1 ≤ b := by omega
      have hm1 : 1 ≤ m := by rw [hm]; exact Nat.le_trans hl0 (Nat.le_mul_of_pos_left _ hb1)
      have hkq : (k - q) * l0.length = N - n := by rw [Nat.sub_mul, ← HN.out, ← Hn.out]
      obtain ⟨hNl', hNc, hC'⟩ := Kd.R_reads' HOr.out
      have hNl := Aside0.mk hNl'
      have hC := Aside0.mk hC'
      clear hNl' hC'
      have hcn : ¬ c1 = n := by omega
      have hnc : n ≤ c1 := by omega
      have hmm : m = min n (N - n) := by
        rw [hm, hb, ← hkq, Hn.out]
        exact (Nat.mul_min_mul_right _ _ _).symm
      obtain ⟨cs, hcs⟩ : ∃ cs, cs = repL l0 b := ⟨_, rfl⟩
      have hcl : cs.length = m := by rw [hcs, repL_length, hm]
      have htake : (repRow l0 k q).take m = cs := by rw [hm, hcs]; exact repRow_take l0 k q b (by omega)
      obtain ⟨g, rfl⟩ := R_block1 HOr.out (by omega)
      have HRun : Aside0 ((Builtin.copy_ #[22, 22] 3 #[.slice (some ⟨g, n, none⟩) (N - n) (c1 - n), .slice (some ⟨g, 0, none⟩) n c1]).run Try.prog wr.drew = .ok (goInt m) (wr.drew.setCells g n (cs.map (.int .i64)))) := by
        have h := run_copy_cells (P := Try.prog) wr.drew 22 22 3 3 g n (N - n) (c1 - n) ⟨g, 0, none⟩ n c1 (cs.map (.int .i64)) Try.underlying22 (by kernel_rfl) (by rw [List.length_map, hcl]; exact hmm) ?_ ?_ ?_ ?_
        · rw [List.length_map, hcl] at h
          exact Aside0.mk h
        · intro j v hv
          rw [List.getElem?_map, Option.map_eq_some_iff] at hv
          obtain ⟨x, hx, rfl⟩ := hv
          have hj : j < m := by rw [← hcl]; exact (List.getElem?_eq_some_iff.1 hx).1
          have hjn : j < N := by omega
          have h2 := (Kd.R_celln (0 : Int) HOr.out (j : Int) (by omega) (by omega)).1
          rw [Int.toNat_natCast] at h2
          have hx2 : (repRow l0 k q)[j]? = some x := by
            rw [← htake, List.getElem?_take, if_pos hj] at hx
            exact hx
          have e1 : rdOf (0 : Int) (repRow l0 k q) (j : Int) = x := by simp [rdOf, hx2]
          rw [e1] at h2
          have e2 : Addr.add ⟨g, 0, none⟩ j = ⟨g, j, none⟩ := by unfold Addr.add; split <;> simp_all
          rw [e2]
          exact h2
        · intro j hj
          rw [List.length_map, hcl] at hj
          have h2 := (Kd.R_celln (0 : Int) HOr.out ((n + j : Nat) : Int) (by omega) (by omega)).1
          rw [Int.toNat_natCast] at h2
          show (wr.cell? _).isSome = true
          rw [h2]
          rfl
        · intro j hj
          rw [List.length_map, hcl] at hj
          have h2 := (Kd.R_celln (0 : Int) HOr.out ((n + j : Nat) : Int) (by omega) (by omega)).2
          rw [Int.toNat_natCast] at h2
          exact h2
        · intro v hv
          obtain ⟨x, _, rfl⟩ := List.mem_map.1 hv
          rfl
      have HNew : Aside0 (Kd.R (Kd.int .i64) 3 (wr.drew.setCells g n (cs.map (.int .i64))) w'.heap.size (fun _ => True) (.slice (some ⟨g, 0, none⟩) N c1) (repRow l0 k (q + b)) ∧ Below w'.heap.size w' (wr.drew.setCells g n (cs.map (.int .i64)))) := by
        have hX : Kd.R (Kd.int .i64) 3 wr.drew w'.heap.size (fun _ => True) (.slice (some ⟨g, 0, none⟩) N c1) (repL l0 q ++ (List.replicate m 0 ++ List.replicate ((k - (q + b)) * l0.length) 0)) := by
          rw [hm, ← repRow_split l0 (by omega)]
          exact Kd.R_drewN HOr.out 1
        have hY := R_setPart cs (repL l0 q) (List.replicate m 0) (List.replicate ((k - (q + b)) * l0.length) 0) wr.drew (by rw [List.length_replicate, hcl]) hX
        rw [repL_length, ← Hn.out, hcs, repRow_step l0 (by omega)] at hY
        have hg : w'.heap.size ≤ g := Kd.R_base HOr.out g rfl
        rw [← hcs] at hY
        exact Aside0.mk ⟨hY.1, (pw_below_drewN HBr.out 1).grown hY.2 (below_size (pw_below_drewN HBr.out 1)) (fun k' e => by cases e; exact hg)⟩
      have hw3 : IntKind.i64.wrap ((n : Int) + (m : Int)) = ((n + m : Nat) : Int) := by rw [IntKind.wrap_i64]; omega
      have hn2 : ¬ ((N : Int) < (n : Int)) := by omega
      have Hm := Aside0.mk (show n + m = (q + b) * l0.length by rw [Nat.add_mul, ← Hn.out, hm])
      have Hqb := Aside0.mk (show q + b ≤ k ∧ m ≤ N - n by omega)
      clear hm hb hcs htake hmm hcl hkq hl0 hq1
      go_wp2_with fail
      go_region_law (refine step_copy_runI rfl (.tmp 41) (.tmp 44) 22 22 rfl (.slice (some ⟨g, n, none⟩) (N - n) (c1 - n)) (.slice (some ⟨g, 0, none⟩) n c1) (by simp [Act.eval, Act.put]) (by simp [Act.eval, Act.put]) HRun.out ?_)
      all_goals go_wp2
      all_goals simp [Act.put]
      all_goals go_roundw
      case rel => exact ⟨q + b, Aside0.mk ⟨Hqb.out.1, fun _ => by omega⟩, n + m, Hm, by simp, Aside0.mk HNew.out.1, Aside0.mk HNew.out.2⟩
      case measure =>
        have := Hqb.out.2
        simp [intOf]
        omega
    · obtain rfl : n = N := by omega
      have HF : Aside0 (repRow l0 k q = repL l0 k) := by
        rcases Nat.eq_zero_or_pos l0.length with e | e
        · have e2 := List.eq_nil_of_length_eq_zero e
          subst e2
          exact Aside0.mk (by simp [repRow, repL])
        · have e2 : k = q := Nat.eq_of_mul_eq_mul_right e (HN.out.symm.trans Hn.out)
          subst e2
          exact Aside0.mk (by simp [repRow])
      rw [HF.out] at HOr
      go_wp2
      go_ret
      exact ⟨_, rfl, HOr.out, HBr.out⟩

theorem worded_small {l : List Int} (h : knead_worded.f l = some 0) : l.length ≤ 40 := by
  unfold knead_worded.f at h
  injection h with h
  split at h
  · cases h
  · omega

def knead_Power.f (l0 : List Int) (a1 : Int) : Option (List Int × Int) := (knead_worded.f l0).bind fun t => if t = 0 then (if a1 < 0 ∨ 40 < a1 then some ([], 1) else if 40 < a1 * l0.length then some ([], 3) else some (repL l0 a1.toNat, 0)) else some ([], t)

set_option maxHeartbeats 2000000 in
set_option maxRecDepth 100000 in
theorem knead_Power.calls (A0 : Option Addr) (c0 : Nat) (l0 : List Int) (a1 : Int) (r1 : List Int) (r2 : Int) (w : World) (hr0 : Kd.C (Kd.int .i64) w A0 l0.length l0) (hc0 : l0.length ≤ c0) (h : knead_Power.f l0 a1 = some (r1, r2)) :
    Calls Try.prog 65 #[.slice A0 l0.length c0, .int .i64 a1] w fun e w' => ∃ v0_ : Value, e = .returned (.tuple #[v0_, .int .i64 r2]) ∧ Kd.R (Kd.int .i64) 3 w' w.heap.size (fun _ => True) v0_ r1 ∧ Below w.heap.size w w' := by
  have HR0 := Aside0.mk hr0
  have HC0 := Aside0.mk hc0
  clear hr0 hc0
  unfold knead_Power.f at h
  obtain ⟨t, ht, h⟩ := Option.bind_eq_some_iff.mp h
  have HT := Aside0.mk ht
  clear ht
  by_cases hz : t = 0
  · rw [if_pos hz] at h
    subst hz
    have hl := worded_small HT.out
    by_cases h1 : a1 < 0
    · rw [if_pos (.inl h1)] at h
      simp only [Option.some.injEq, Prod.mk.injEq] at h
      obtain ⟨rfl, rfl⟩ := h
      go_enter Try.func65, Try.ntmps65
      go_wp2_with (first | (go_at_call 56; refine (knead_worded.calls _ _ l0 0 _ HR0.out HC0.out HT.out).mono ?_; rintro e w' ⟨rfl, ⟨nd, rfl⟩⟩) | go_in)
      go_ret2
      exact ⟨_, rfl, Kd.R_nil _ _ _ _ _, by exact pw_below_drewN (Below.refl _ _) _⟩
    · by_cases h2 : 40 < a1
      · rw [if_pos (.inr h2)] at h
        simp only [Option.some.injEq, Prod.mk.injEq] at h
        obtain ⟨rfl, rfl⟩ := h
        go_enter Try.func65, Try.ntmps65
        go_wp2_with (first | (go_at_call 56; refine (knead_worded.calls _ _ l0 0 _ HR0.out HC0.out HT.out).mono ?_; rintro e w' ⟨rfl, ⟨nd, rfl⟩⟩) | go_in)
        go_ret2
        exact ⟨_, rfl, Kd.R_nil _ _ _ _ _, by exact pw_below_drewN (Below.refl _ _) _⟩
      · rw [if_neg (by omega)] at h
        obtain ⟨k, rfl⟩ : ∃ k : Nat, a1 = k := ⟨a1.toNat, by omega⟩
        rw [Int.toNat_natCast] at h
        have hb : k * l0.length ≤ 40 * 40 := Nat.mul_le_mul (by omega) hl
        have hw3 : IntKind.i64.wrap ((k : Int) * (l0.length : Int)) = (k : Int) * (l0.length : Int) := by rw [← Int.natCast_mul, IntKind.wrap_i64]; omega
        by_cases h3 : 40 < (k : Int) * l0.length
        · rw [if_pos h3] at h
          simp only [Option.some.injEq, Prod.mk.injEq] at h
          obtain ⟨rfl, rfl⟩ := h
          clear hb
          go_enter Try.func65, Try.ntmps65
          go_wp2_with (first | (go_at_call 56; refine (knead_worded.calls _ _ l0 0 _ HR0.out HC0.out HT.out).mono ?_; rintro e w' ⟨rfl, ⟨nd, rfl⟩⟩) | go_in)
          go_ret2
          exact ⟨_, rfl, Kd.R_nil _ _ _ _ _, by exact pw_below_drewN (Below.refl _ _) _⟩
        · rw [if_neg h3] at h
          simp only [Option.some.injEq, Prod.mk.injEq] at h
          obtain ⟨rfl, rfl⟩ := h
          have hb2 := Aside0.mk hb
          clear hb
          go_enter Try.func65, Try.ntmps65
          go_wp2_with (first | (go_at_call 56; refine (knead_worded.calls _ _ l0 0 _ HR0.out HC0.out HT.out).mono ?_; rintro e w' ⟨rfl, ⟨nd, rfl⟩⟩) | (go_at_call 91; refine (repeat_calls _ _ l0 k _ (Kd.C_drewN HR0.out _) (by omega) (by omega) (by have := hb2.out; omega)).mono ?_; rintro e w' ⟨v, rfl, hR, hB⟩; have HO := Aside0.mk hR; have HB := Aside0.mk hB; clear hR hB) | go_in)
          go_ret2
          exact ⟨_, rfl, Kd.R_lower HO.out (Nat.le_refl _), below_step (pw_below_drewN (Below.refl _ _) _) HB.out⟩
  · rw [if_neg hz] at h
    have hb : (t != 0) = true := bne_iff_ne.mpr hz
    simp only [Option.some.injEq, Prod.mk.injEq] at h
    obtain ⟨rfl, rfl⟩ := h
    go_enter Try.func65, Try.ntmps65
    go_wp2_with (first | (go_at_call 56; refine (knead_worded.calls _ _ l0 t _ HR0.out HC0.out HT.out).mono ?_; rintro e w' ⟨rfl, ⟨nd, rfl⟩⟩) | go_in)
    go_ret2
    exact ⟨_, rfl, Kd.R_nil _ _ _ _ _, by exact pw_below_drewN (Below.refl _ _) _⟩
end Go.Proofs.Ytgnklmhjejbcoaa.K
