/- What slices.Clone, knead.cut and knead.fold return, for all slices of fewer than 2^44 elements and all kinds: a slice of the call's own; older memory stays as it was. -/
import Derived.Test.YtgnklmhjejbcoaaK7
import Derived.Test.YtgnklmhjejbcoaaK8
import Derived.Lib.SliceRun
import Derived.WalkSpells
import Derived.StillTailTactics
import Derived.IntWalk
import Derived.Lib.Hide
namespace Go.Proofs.Ytgnklmhjejbcoaa.K
open Go.RowKit Go.Proofs.YtgnklmhjejbcoaaW.PrintWords Go.Proofs.YtgnklmhjejbcoaaW.PrintLast Go.Proofs.YtgnklmhjejbcoaaW.PrintMore
set_option linter.unusedVariables false
set_option linter.unusedSimpArgs false

def slices_Clone_int_int.f (l0 : List Int) : Option (List Int) := if l0.length < 17592186044416 then some l0 else none

set_option maxHeartbeats 1000000 in
theorem slices_Clone_int_int.calls (A0 : Option Addr) (c0 : Nat) (l0 : List Int) (r : List Int) (w : World) (hr0 : Kd.C (Kd.int .i64) w A0 l0.length l0) (hc0 : l0.length ≤ c0) (h : slices_Clone_int_int.f l0 = some r) :
    Calls Try.prog 55 #[.slice A0 l0.length c0] w fun e w' => ∃ v0_ : Value, e = .returned (v0_) ∧ Kd.R (Kd.int .i64) 3 w' w.heap.size (fun _ => True) v0_ r ∧ Below w.heap.size w w' := by
  have hlt : l0.length < 17592186044416 := by
    unfold slices_Clone_int_int.f at h
    split at h
    · assumption
    · cases h
  obtain rfl : l0 = r := by simpa [slices_Clone_int_int.f, hlt] using h
  clear h
  have q22 : ∀ (w : World) (a : Option Addr) (n c n' c' : Nat), (binOp .eql 22 (.slice a n c) (.slice none n' c')).run Try.prog w = .ok (.bool a.isNone) w := fun w a n c n' c' => Lib.run_eql_slice_nil w _ _ a n c n' c' Try.underlying22
  cases A0 with
  | none =>
    obtain rfl : l0 = [] := by
      rcases Nat.eq_zero_or_pos l0.length with h0 | h0
      · exact List.length_eq_zero_iff.1 h0
      · obtain ⟨ad, he, _⟩ := hr0.2.2 h0
        cases he
    go_enter Try.func55, Try.ntmps55
    go_wp2
    go_ret
    exact ⟨_, rfl, Kd.R_nil _ _ _ _ _, Below.refl _ _⟩
  | some ad =>
    have HR0 := Aside0.mk hr0
    clear hr0
    go_enter Try.func55, Try.ntmps55
    have HB := Aside0.mk (Below.refl w.heap.size w)
    go_wp2_with (first | ((with_reducible refine gate_dst (N := 5) rfl ?_); refine Kd.R_lit (Kd.int .i64) (w0 := w) w.heap.size 3 ?hg (N := 5) ?hd (xs := ([] : List Int)) (inner := []) (ok := fun _ => True) (okp := fun _ => True) ?hr ?hp (fun _ hk => hk) trivial (Below.refl _ _) (Nat.le_refl _) (by simp) ?_; (case hd => rfl); (case hg => rfl); (case hr => first | (go_simp; done) | (go_simp; rfl)); (case hp => exact (Reps.none _ _)); intro v1 w1 ho1 hb1 hg_ hnew_; clear hg_ hnew_; have HO1 := Aside0.mk ho1; clear HB; have HB := Aside0.mk hb1; clear ho1 hb1) | ((with_reducible refine gate_builtin (b := .append) (xs := #[.tmp 5, .tmp 6]) rfl ?_); at_builtin; refine Kd.R_append_rows (Kd.int .i64) (w0 := w) w.heap.size rfl (.tmp 5) (.tmp 6) 22 3 (.int .i64 0) 8 rfl Try.underlying22 info3 rfl (by decide) (by omega) v1 [] l0 _ _ _ (fun _ => True) (fun _ => False) rfl rfl ?aO ?aR (fun _ _ h => h) (fun _ h => h.elim) ?aF ?aB ?aS ?aL ?_; (case aR => exact (Kd.C_below HR0.out HB.out)); (case aB => exact HB.out); (case aF => exact (fun _ _ => trivial)); (case aO => exact HO1.out); (case aS => exact (below_size HB.out)); (case aL => simp; omega); intro v2 w2 ho hb hg hat; rw [List.nil_append] at ho; have HO2 := Aside0.mk ho; have HB2 := Aside0.mk hb; clear ho hb hg hat))
    go_ret
    exact ⟨_, rfl, HO2.out, HB2.out⟩
set_option maxRecDepth 100000 in
set_option maxHeartbeats 1000000 in
theorem cut_calls (A0 : Option Addr) (c0 : Nat) (l0 : List Int) (w : World) (hr0 : Kd.C (Kd.int .i64) w A0 l0.length l0) (hc0 : l0.length ≤ c0) :
    Calls Try.prog 94 #[.slice A0 l0.length c0] w fun e w' => ∃ A1 A2, e = .returned (.agg #[.slice A1 (l0.length / 2) (l0.length / 2), .slice A2 (l0.length / 2) (l0.length / 2)]) ∧
      Kd.C (Kd.int .i64) w' A1 (l0.length / 2) (l0.take (l0.length / 2)) ∧ Kd.C (Kd.int .i64) w' A2 (l0.length / 2) ((l0.drop (l0.length / 2)).take (l0.length / 2)) ∧ Below w.heap.size w w' := by
  have hm := hr0.2.1
  have HR0 := Aside0.mk hr0
  clear hr0
  have h1 : (0:Int) ≤ (l0.length : Int) / 2 := by omega
  have h2 : (l0.length : Int) / 2 ≤ 4611686018427387904 := by omega
  have h3 : 2 * ((l0.length : Int) / 2) ≤ (c0 : Int) := by omega
  have h4 : ((l0.length : Int) / 2) ≤ (c0 : Int) := by omega
  have h5 : ((l0.length : Int) / 2) ≤ max ((l0.length : Int) / 2) 0 := by omega
  have h6 : IntKind.i64.wrap (2 * ((l0.length : Int) / 2)) = 2 * ((l0.length : Int) / 2) := IntWalk.i64_in _ (by omega)
  have h7 : ((l0.length : Int) / 2) ≤ 2 * ((l0.length : Int) / 2) := by omega
  by_cases h0 : l0.length / 2 = 0
  · have h8 : (2 * ((l0.length : Int) / 2)).toNat = ((l0.length : Int) / 2).toNat := by omega
    have h9 : ((l0.length : Int) / 2).toNat = 0 := by omega
    have H0 := Lib.hid h0
    have HR1 : Kd.C (Kd.int .i64) w A0 0 (l0.take 0) := Kd.C_take HR0.out (Nat.zero_le _)
    go_enter Try.func94, Try.ntmps94
    go_wp2_with fail
    go_still_tail 12, (by kernel_rfl)
    change wpList Try.prog _ _ _ _ (World.drew (w.alloc _))
    go_wp2
    refine bodyPost_ret (v := .agg #[.slice A0 0 0, .slice A0 0 0]) (by simp [results, Try.results94, go_sem]; done) rfl ?_
    have hb : Below w.heap.size w ((w.alloc (Obj.cells #[Value.slice A0 0 0, Value.slice A0 0 0] 75)).drew) := below_drew (below_alloc (Below.refl _ _) _)
    rw [h0]
    exact ⟨A0, A0, rfl, Kd.C_below HR1 hb, Kd.C_below HR1 hb, hb⟩
  · have h8 : ¬ (2 * ((l0.length : Int) / 2)).toNat = ((l0.length : Int) / 2).toNat := by omega
    have h9 : ((l0.length : Int) / 2).toNat = l0.length / 2 := by omega
    have h10 : (2 * ((l0.length : Int) / 2)).toNat = 2 * (l0.length / 2) := by omega
    have h11 : 2 * (l0.length / 2) - l0.length / 2 = l0.length / 2 := by omega
    have h12 : ¬ 2 * (l0.length / 2) = l0.length / 2 := by omega
    have hc1 : Kd.C (Kd.int .i64) w A0 (l0.length / 2) (l0.take (l0.length / 2)) := by
      have := Kd.C_take HR0.out (m := l0.length / 2) (by omega)
      rwa [List.length_take, Nat.min_eq_left (by omega)] at this
    have hc2 : Kd.C (Kd.int .i64) w (A0.map (fun x => x.add (l0.length / 2))) (l0.length / 2) ((l0.drop (l0.length / 2)).take (l0.length / 2)) := by
      have h1 := Kd.C_drop HR0.out (m := l0.length / 2) (c := l0.length) (by omega) (Nat.le_refl _)
      rw [if_neg (by omega)] at h1
      have h2 := Kd.C_take h1 (m := l0.length / 2) (by rw [List.length_drop]; omega)
      rw [List.length_take, List.length_drop, Nat.min_eq_left (by omega)] at h2
      rw [show (Kd.int .i64).sz = 1 from rfl, Nat.mul_one] at h2
      exact h2
    have HC1 := Aside0.mk hc1
    have HC2 := Aside0.mk hc2
    clear hc1 hc2
    go_enter Try.func94, Try.ntmps94
    go_wp2_with fail
    go_still_tail 12, (by kernel_rfl)
    change wpList Try.prog _ _ _ _ (World.drew (w.alloc _))
    go_wp2
    refine bodyPost_ret (v := .agg #[.slice A0 (l0.length / 2) (l0.length / 2), .slice (A0.map (fun x => x.add (l0.length / 2))) (l0.length / 2) (l0.length / 2)]) (by simp [results, Try.results94, go_sem]; done) rfl ?_
    have hb : ∀ o, Below w.heap.size w ((w.alloc o).drew) := fun o => below_drew (below_alloc (Below.refl _ _) _)
    exact ⟨_, _, rfl, Kd.C_below HC1.out (hb _), Kd.C_below HC2.out (hb _), hb _⟩

/-- One list laid into another: the first one's numbers first. -/
def riffle : List Int → List Int → List Int
  | x :: xs, y :: ys => x :: y :: riffle xs ys
  | _, _ => []
def foldL (kind : Int) (l : List Int) : List Int :=
  if kind = 1 then riffle ((l.drop (l.length / 2)).take (l.length / 2)) (l.take (l.length / 2)) else riffle (l.take (l.length / 2)) ((l.drop (l.length / 2)).take (l.length / 2))
theorem riffle_length : ∀ (xs ys : List Int), xs.length = ys.length → (riffle xs ys).length = 2 * xs.length
  | [], [], _ => rfl
  | x :: xs, y :: ys, h => by
    have := riffle_length xs ys (by simpa using h)
    simp only [riffle, List.length_cons, this]
    omega
  | [], y :: ys, h => by simp at h
  | x :: xs, [], h => by simp at h
theorem rd_nat (xs : List Int) (i : Nat) (h : i < xs.length) : rd xs (i : Int) = xs[i] := by
  unfold rd
  rw [Int.toNat_natCast, List.getD_eq_getElem?_getD, List.getElem?_eq_getElem h]
  rfl
theorem wrap_nat (i : Nat) (h : i < 9223372036854775807) : wrap64 ((i : Int) + 1) = ((i + 1 : Nat) : Int) := by
  unfold wrap64
  omega
theorem halves_out_l0 (xs ys : List Int) (he : xs.length = ys.length) (hs : 2 * xs.length < 17592186044416) : ∀ (d k i : Nat) (acc : List Int), i + d = xs.length → d < k → acc.length = 2 * i →
    knead_halves_out.l0 k acc xs (xs.length : Int) (i : Int) xs ys = some (acc ++ riffle (xs.drop i) (ys.drop i)) := by
  intro d
  induction d with
  | zero =>
    intro k i acc h1 h2 h3
    obtain ⟨k, rfl⟩ : ∃ m, k = m + 1 := ⟨k - 1, by omega⟩
    simp only [knead_halves_out.l0]
    rw [if_neg (by omega), List.drop_eq_nil_of_le (by omega)]
    simp [riffle]
  | succ d ih =>
    intro k i acc h1 h2 h3
    obtain ⟨k, rfl⟩ : ∃ m, k = m + 1 := ⟨k - 1, by omega⟩
    have hx : i < xs.length := by omega
    have hy : i < ys.length := by omega
    simp only [knead_halves_out.l0]
    rw [if_pos (by omega), if_pos (by omega), if_pos (by omega), if_pos (by omega)]
    simp only [Option.bind_some]
    rw [if_pos (by simp; omega), wrap_nat _ (by omega), rd_nat xs i hx, rd_nat ys i hy, ih k (i + 1) _ (by omega) (by omega) (by simp; omega),
      List.drop_eq_getElem_cons hx, List.drop_eq_getElem_cons hy]
    simp [riffle]
theorem halves_out_f (xs ys : List Int) (he : xs.length = ys.length) (hs : 2 * xs.length < 17592186044416) : knead_halves_out.f (xs.length + 1) xs ys = some (riffle xs ys) := by
  unfold knead_halves_out.f
  have := halves_out_l0 xs ys he hs xs.length (xs.length + 1) 0 [] (by omega) (by omega) rfl
  simpa using this

def knead_fold.f (l0 : List Int) (a1 : Int) : Option (List Int) := if l0.length < 17592186044416 then some (foldL a1 l0) else none

set_option maxHeartbeats 1000000 in
set_option maxRecDepth 100000 in
theorem knead_fold.calls (A0 : Option Addr) (c0 : Nat) (l0 : List Int) (a1 : Int) (r : List Int) (w : World) (hr0 : Kd.C (Kd.int .i64) w A0 l0.length l0) (hc0 : l0.length ≤ c0) (h : knead_fold.f l0 a1 = some r) :
    Calls Try.prog 79 #[.slice A0 l0.length c0, .int .i64 a1] w fun e w' => ∃ v0_ : Value, e = .returned (v0_) ∧ Kd.R (Kd.int .i64) 3 w' w.heap.size (fun _ => True) v0_ r ∧ Below w.heap.size w w' := by
  have hlt : l0.length < 17592186044416 := by
    unfold knead_fold.f at h
    split at h
    · assumption
    · cases h
  obtain rfl : foldL a1 l0 = r := by simpa [knead_fold.f, hlt] using h
  clear h
  have hl1 : (l0.take (l0.length / 2)).length = l0.length / 2 := by rw [List.length_take]; omega
  have hl2 : ((l0.drop (l0.length / 2)).take (l0.length / 2)).length = l0.length / 2 := by rw [List.length_take, List.length_drop]; omega
  have ho1 := halves_out_f (l0.take (l0.length / 2)) ((l0.drop (l0.length / 2)).take (l0.length / 2)) (by omega) (by omega)
  have ho2 := halves_out_f ((l0.drop (l0.length / 2)).take (l0.length / 2)) (l0.take (l0.length / 2)) (by omega) (by omega)
  have HC0 := cut_calls A0 c0 l0 w hr0 hc0
  unfold foldL
  generalize l0.take (l0.length / 2) = xs at *
  generalize (l0.drop (l0.length / 2)).take (l0.length / 2) = ys at *
  have HC : Calls Try.prog 94 #[.slice A0 l0.length c0] w fun e w' => ∃ A1 A2, e = .returned (.agg #[.slice A1 xs.length xs.length, .slice A2 ys.length ys.length]) ∧
      Kd.C (Kd.int .i64) w' A1 xs.length xs ∧ Kd.C (Kd.int .i64) w' A2 ys.length ys ∧ Below w.heap.size w w' := by
    rw [hl1, hl2]
    exact HC0
  have hi1 : knead_halves_in.f (ys.length + 1) xs ys = some (riffle ys xs) := by unfold knead_halves_in.f; rw [ho2]; rfl
  have H3 := Lib.hid ho1
  have H4 := Lib.hid hi1
  have H5 := Lib.hid HC
  clear hl1 hl2 ho1 ho2 hi1 HC HC0 hr0
  by_cases hk : a1 = 1
  · rw [if_pos hk]
    have hb : (a1 == 1) = true := beq_iff_eq.mpr hk
    clear hk
    go_enter Try.func79, Try.ntmps79
    go_wp2_with fail
    refine H5.out.mono ?_
    rintro e w1 ⟨A1, A2, rfl, hC1, hC2, hB⟩
    go_wp2_with fail
    refine (knead_halves_in.calls (ys.length + 1) A1 xs.length xs A2 ys.length ys (riffle ys xs) _ (Kd.C_alloc hC1 _) (Nat.le_refl _) (Kd.C_alloc hC2 _) (Nat.le_refl _) H4.out).mono ?_
    rintro e w2 ⟨v, rfl, hR, hB2⟩
    go_wp2
    go_ret
    exact ⟨_, rfl, Kd.R_lower hR (below_size (below_alloc hB _)), below_step (below_alloc hB _) hB2⟩
  · rw [if_neg hk]
    have hb : (a1 == 1) = false := beq_eq_false_iff_ne.mpr hk
    clear hk
    go_enter Try.func79, Try.ntmps79
    go_wp2_with fail
    refine H5.out.mono ?_
    rintro e w1 ⟨A1, A2, rfl, hC1, hC2, hB⟩
    go_wp2_with fail
    refine (knead_halves_out.calls (xs.length + 1) A1 xs.length xs A2 ys.length ys (riffle xs ys) _ (Kd.C_alloc hC1 _) (Nat.le_refl _) (Kd.C_alloc hC2 _) (Nat.le_refl _) H3.out).mono ?_
    rintro e w2 ⟨v, rfl, hR, hB2⟩
    go_wp2
    go_ret
    exact ⟨_, rfl, Kd.R_lower hR (below_size (below_alloc hB _)), below_step (below_alloc hB _) hB2⟩

end Go.Proofs.Ytgnklmhjejbcoaa.K
