/- What slices.Grow of nil, slices.Concat of two slices and knead.unfold return, for all slices of fewer than 2^43 elements: a slice of the call's own; older memory stays as it was. -/
import Derived.Test.YtgnklmhjejbcoaaHA
namespace Go.Proofs.Ytgnklmhjejbcoaa.K
open Go.RowKit Go.Proofs.YtgnklmhjejbcoaaW.PrintWords Go.Proofs.YtgnklmhjejbcoaaW.PrintLast Go.Proofs.YtgnklmhjejbcoaaW.PrintMore
set_option linter.unusedVariables false
set_option linter.unusedSimpArgs false

set_option maxHeartbeats 1000000 in
set_option maxRecDepth 100000 in
theorem grow_nil (a1 : Int) (w : World) (h0 : 0 ≤ a1) (h1 : a1 < 17592186044416) :
    Calls Try.prog 103 #[.slice none 0 0, .int .i64 a1] w fun e w' => ∃ v0_ : Value, e = .returned (v0_) ∧ Kd.R (Kd.int .i64) 3 w' w.heap.size (fun _ => True) v0_ [] ∧ Below w.heap.size w w' := by
  have hn : ¬ a1 < 0 := by omega
  have hB := Aside0.mk (Below.refl w.heap.size w)
  by_cases hz : 0 < a1
  · go_enter Try.func103, Try.ntmps103
    go_wp2_with (first | ((with_reducible refine gate_builtin (b := .append) (xs := #[.tmp 20, .tmp 21]) rfl ?_); at_builtin; refine Kd.R_append_zeros (Kd.int .i64) (w0 := w) w.heap.size rfl (.tmp 20) (.tmp 21) 22 3 3 (.int .i64 0) 8 rfl Try.underlying22 Try.underlying3 info3 rfl (by decide) (by omega) (.slice none 0 0) [] (0 : Int) a1 (fun _ => True) rfl rfl ?aZ (fun _ _ => trivial) (Kd.R_nil _ _ _ _ _) h0 hB.out (Nat.le_refl _) (by simp; omega) ?_; (case aZ => exact rfl); intro v1 w1 ho hb hg hat; have HO1 := Aside0.mk ho; have HB1 := Aside0.mk hb; clear ho hb hg hat; obtain ⟨Ao, co, eo⟩ := Kd.R_slice HO1.out; subst eo))
    go_ret
    have := Kd.R_take HO1.out (m := 0) (Nat.zero_le _)
    exact ⟨_, rfl, this, HB1.out⟩
  · go_enter Try.func103, Try.ntmps103
    go_wp2
    go_ret
    exact ⟨_, rfl, Kd.R_nil _ _ _ _ _, Below.refl _ _⟩

set_option maxHeartbeats 2000000 in
set_option maxRecDepth 100000 in
theorem concat2 (b c0 : Nat) (A1 : Option Addr) (c1 : Nat) (xs : List Int) (A2 : Option Addr) (c2 : Nat) (ys : List Int) (w : World)
    (hc0 : w.cell? ⟨b, 0, none⟩ = some (.slice A1 xs.length c1)) (hc1 : w.cell? ⟨b, 1, none⟩ = some (.slice A2 ys.length c2))
    (hr1 : Kd.C (Kd.int .i64) w A1 xs.length xs) (hr2 : Kd.C (Kd.int .i64) w A2 ys.length ys) (hl : xs.length + ys.length < 17592186044416) :
    Calls Try.prog 97 #[.slice (some ⟨b, 0, none⟩) 2 c0] w fun e w' => ∃ v0_ : Value, e = .returned (v0_) ∧ Kd.R (Kd.int .i64) 3 w' w.heap.size (fun _ => True) v0_ (xs ++ ys) ∧ Below w.heap.size w w' := by
  have hbl : b < w.heap.size := World.block_lt_of_cell? w _ hc0
  have HR1 := Aside0.mk hr1
  have HR2 := Aside0.mk hr2
  clear hr1 hr2
  go_enter Try.func97, Try.ntmps97
  go_wp2
  go_loop [3, 11] (fun s i => (i = .int .i64 0 ∧ s = .int .i64 0) ∨ (i = .int .i64 1 ∧ s = .int .i64 xs.length) ∨ (i = .int .i64 2 ∧ s = .int .i64 (xs.length + ys.length))) (fun _ i => 2 - (intOf i).toNat)
  case atStart => exact .inl ⟨rfl, rfl⟩
  case round =>
    rcases hrel with ⟨rfl, rfl⟩ | ⟨rfl, rfl⟩ | ⟨rfl, rfl⟩
    · go_wp2
      go_round
      case rel => exact .inr (.inl ⟨rfl, rfl⟩)
      case measure => simp [intOf]
    · have hn : ¬ ((xs.length : Int) + ys.length < 0) := by omega
      go_wp2
      go_round
      case rel => exact .inr (.inr ⟨rfl, rfl⟩)
      case measure => simp [intOf]
    · go_wp2_with fail
      refine (grow_nil (xs.length + ys.length) w (by omega) (by omega)).mono ?_
      rintro e w1 ⟨v, rfl, hR, hB⟩
      have HO := Aside0.mk hR
      have HB := Aside0.mk hB
      clear hR hB
      go_wp2
      go_loopw [6, 27] (fun v i wr => ∃ zs : List Int, Aside0 (Kd.R (Kd.int .i64) 3 wr w.heap.size (fun _ => True) v zs) ∧ Aside0 (Below w.heap.size w wr) ∧ ((i = .int .i64 0 ∧ zs = []) ∨ (i = .int .i64 1 ∧ zs = xs) ∨ (i = .int .i64 2 ∧ zs = xs ++ ys))) (fun _ i _ => 2 - (intOf i).toNat)
      case atStart => exact ⟨[], HO, HB, .inl ⟨rfl, rfl⟩⟩
      case round =>
        obtain ⟨zs, HOr, HBr, h⟩ := hrel
        have d0 : wr.cell? ⟨b, 0, none⟩ = some (.slice A1 xs.length c1) := (HBr.out.cell hbl).trans hc0
        have d1 : wr.cell? ⟨b, 1, none⟩ = some (.slice A2 ys.length c2) := (HBr.out.cell (p := ⟨b, 1, none⟩) hbl).trans hc1
        clear hc0 hc1
        rcases h with ⟨rfl, rfl⟩ | ⟨rfl, rfl⟩ | ⟨rfl, rfl⟩
        · go_wp2_with (first | ((with_reducible refine gate_builtin (b := .append) (xs := #[.tmp 31, .tmp 32]) rfl ?_); at_builtin; refine Kd.R_append_rows (Kd.int .i64) (w0 := w) w.heap.size rfl (.tmp 31) (.tmp 32) 22 3 (.int .i64 0) 8 rfl Try.underlying22 info3 rfl (by decide) (by omega) u6 [] xs _ _ _ (fun _ => True) (fun _ => False) rfl rfl HOr.out (Kd.C_below HR1.out HBr.out) (fun _ _ h => h) (fun _ h => h.elim) (fun _ _ => trivial) HBr.out (below_size HBr.out) (by first | omega | (simp; omega)) ?_; intro v2 w2 ho hb hg hat; have HO2 := Aside0.mk ho; have HB2 := Aside0.mk hb; clear ho hb hg hat))
          go_roundw
          case rel => exact ⟨_, HO2, HB2, .inr (.inl ⟨rfl, rfl⟩)⟩
          case measure => simp [intOf]
        · go_wp2_with (first | ((with_reducible refine gate_builtin (b := .append) (xs := #[.tmp 31, .tmp 32]) rfl ?_); at_builtin; refine Kd.R_append_rows (Kd.int .i64) (w0 := w) w.heap.size rfl (.tmp 31) (.tmp 32) 22 3 (.int .i64 0) 8 rfl Try.underlying22 info3 rfl (by decide) (by omega) u6 zs ys _ _ _ (fun _ => True) (fun _ => False) rfl rfl HOr.out (Kd.C_below HR2.out HBr.out) (fun _ _ h => h) (fun _ h => h.elim) (fun _ _ => trivial) HBr.out (below_size HBr.out) (by first | omega | (simp; omega)) ?_; intro v2 w2 ho hb hg hat; have HO2 := Aside0.mk ho; have HB2 := Aside0.mk hb; clear ho hb hg hat))
          go_roundw
          case rel => exact ⟨_, HO2, HB2, .inr (.inr ⟨rfl, rfl⟩)⟩
          case measure => simp [intOf]
        · go_wp2
          go_ret
          exact ⟨_, rfl, HOr.out, HBr.out⟩

/-- Every other number of a list, from the first (0) or the second (1) one on. -/
def pickP : Nat → List Int → List Int
  | _, [] => []
  | 0, x :: xs => x :: pickP 1 xs
  | _ + 1, _ :: xs => pickP 0 xs
theorem pickP_snoc (x : Int) : ∀ (l : List Int) (p : Nat), p ≤ 1 → pickP p (l ++ [x]) = if (p + l.length) % 2 = 0 then pickP p l ++ [x] else pickP p l
  | [], 0, _ => by simp [pickP]
  | [], 1, _ => by simp [pickP]
  | y :: l, 0, _ => by
    have h := pickP_snoc x l 1 (by omega)
    simp only [List.cons_append, pickP, h, List.length_cons]
    by_cases c : (1 + l.length) % 2 = 0
    · rw [if_pos c, if_pos (by omega)]
    · rw [if_neg c, if_neg (by omega)]
  | y :: l, 1, _ => by
    have h := pickP_snoc x l 0 (by omega)
    simp only [List.cons_append, pickP, h, List.length_cons]
    by_cases c : (0 + l.length) % 2 = 0
    · rw [if_pos c, if_pos (by omega)]
    · rw [if_neg c, if_neg (by omega)]
  | _, n + 2, h => by omega
theorem pickP_le (l : List Int) : ∀ p, (pickP p l).length ≤ l.length := by
  induction l with
  | nil => intro p; simp [pickP]
  | cons x l ih =>
    intro p
    cases p with
    | zero => simp only [pickP, List.length_cons]; have := ih 1; omega
    | succ p => simp only [pickP, List.length_cons]; have := ih 0; omega
theorem pickP_take (l : List Int) (i p : Nat) (hi : i < l.length) (hp : p ≤ 1) : pickP p (l.take (i + 1)) = if (p + i) % 2 = 0 then pickP p (l.take i) ++ [l[i]] else pickP p (l.take i) := by
  rw [List.take_succ_eq_append_getElem hi, pickP_snoc _ _ _ hp, List.length_take, Nat.min_eq_left (by omega)]

/-- Two rows of the call's own, held by a variable of two cells. -/
structure Parts (w wr : World) (B : Nat) (v0 v1 : Value) (xs ys : List Int) : Prop where
  blk : wr.heap[B]? = some (.cells #[v0, v1] 78 (0, 0))
  hB : w.heap.size ≤ B
  r0 : Kd.R (Kd.int .i64) 3 wr w.heap.size (fun k => k ≠ B ∧ some k ≠ v1.ownBlock) v0 xs
  r1 : Kd.R (Kd.int .i64) 3 wr w.heap.size (fun k => k ≠ B ∧ some k ≠ v0.ownBlock) v1 ys
  below : Below w.heap.size w wr
theorem Parts.fresh0 {w wr : World} {B : Nat} {v0 v1 : Value} {xs ys : List Int} (h : Parts w wr B v0 v1 xs ys) : ∀ k, wr.heap.size ≤ k → k ≠ B ∧ some k ≠ v1.ownBlock := fun k hk => ⟨fun e => by have := blk_lt h.blk; omega, fun e => by have := Kd.R_lt h.r1 k e.symm; omega⟩
theorem Parts.fresh1 {w wr : World} {B : Nat} {v0 v1 : Value} {xs ys : List Int} (h : Parts w wr B v0 v1 xs ys) : ∀ k, wr.heap.size ≤ k → k ≠ B ∧ some k ≠ v0.ownBlock := fun k hk => ⟨fun e => by have := blk_lt h.blk; omega, fun e => by have := Kd.R_lt h.r0 k e.symm; omega⟩
theorem Parts.ne0 {w wr : World} {B : Nat} {v0 v1 : Value} {xs ys : List Int} (h : Parts w wr B v0 v1 xs ys) : some B ≠ v0.ownBlock := Kd.R_away h.r0 (fun _ hk => hk.1)
theorem Parts.ne1 {w wr : World} {B : Nat} {v0 v1 : Value} {xs ys : List Int} (h : Parts w wr B v0 v1 xs ys) : some B ≠ v1.ownBlock := Kd.R_away h.r1 (fun _ hk => hk.1)
theorem Parts.grown0 {w wr w1 : World} {B : Nat} {v0 v1 : Value} {xs ys : List Int} (h : Parts w wr B v0 v1 xs ys) (hg : wr.grownBy w1 v0.ownBlock) : w1.heap[B]? = some (.cells #[v0, v1] 78 (0, 0)) := blk_grown h.blk hg h.ne0
theorem Parts.grown1 {w wr w1 : World} {B : Nat} {v0 v1 : Value} {xs ys : List Int} (h : Parts w wr B v0 v1 xs ys) (hg : wr.grownBy w1 v1.ownBlock) : w1.heap[B]? = some (.cells #[v0, v1] 78 (0, 0)) := blk_grown h.blk hg h.ne1
theorem Parts.step0 {w wr w1 : World} {B : Nat} {v0 v1 u : Value} {xs ys zs : List Int} (h : Parts w wr B v0 v1 xs ys) (ho : Kd.R (Kd.int .i64) 3 w1 w.heap.size (fun k => k ≠ B ∧ some k ≠ v1.ownBlock) u zs)
    (hb : Below w.heap.size w w1) (hg : wr.grownBy w1 v0.ownBlock) (hat : u.ownBlock = v0.ownBlock ∨ ∃ b, u.ownBlock = some b ∧ wr.heap.size ≤ b) : Parts w (w1.setCell ⟨B, 0, none⟩ u) B u v1 zs ys where
  blk := blk_put (h.grown0 hg) 0 u rfl
  hB := h.hB
  r0 := Kd.R_far (p := ⟨B, 0, none⟩) ho (fun _ hk => hk.1) u
  r1 := Kd.R_far (p := ⟨B, 0, none⟩) (Kd.R_after (ok := fun k => k ≠ B) h.r1 hg hat) (fun _ hk => hk.1) u
  below := hb.setCell (p := ⟨B, 0, none⟩) h.hB _
theorem Parts.step1 {w wr w1 : World} {B : Nat} {v0 v1 u : Value} {xs ys zs : List Int} (h : Parts w wr B v0 v1 xs ys) (ho : Kd.R (Kd.int .i64) 3 w1 w.heap.size (fun k => k ≠ B ∧ some k ≠ v0.ownBlock) u zs)
    (hb : Below w.heap.size w w1) (hg : wr.grownBy w1 v1.ownBlock) (hat : u.ownBlock = v1.ownBlock ∨ ∃ b, u.ownBlock = some b ∧ wr.heap.size ≤ b) : Parts w (w1.setCell ⟨B, 1, none⟩ u) B v0 u xs zs where
  blk := blk_put (h.grown1 hg) 1 u rfl
  hB := h.hB
  r0 := Kd.R_far (p := ⟨B, 1, none⟩) (Kd.R_after (ok := fun k => k ≠ B) h.r0 hg hat) (fun _ hk => hk.1) u
  r1 := Kd.R_far (p := ⟨B, 1, none⟩) ho (fun _ hk => hk.1) u
  below := hb.setCell (p := ⟨B, 1, none⟩) h.hB _

def unfoldL (kind : Int) (l : List Int) : List Int := if kind = 1 then pickP 1 l ++ pickP 0 l else pickP 0 l ++ pickP 1 l
def knead_unfold.f (l0 : List Int) (a1 : Int) : Option (List Int) := if l0.length < 8796093022208 ∧ (a1 = 0 ∨ a1 = 1) then some (unfoldL a1 l0) else none

set_option maxHeartbeats 4000000 in
set_option maxRecDepth 100000 in
theorem knead_unfold.calls (A0 : Option Addr) (c0 : Nat) (l0 : List Int) (a1 : Int) (r : List Int) (w : World) (hr0 : Kd.C (Kd.int .i64) w A0 l0.length l0) (hc0 : l0.length ≤ c0) (h : knead_unfold.f l0 a1 = some r) :
    Calls Try.prog 80 #[.slice A0 l0.length c0, .int .i64 a1] w fun e w' => ∃ v0_ : Value, e = .returned (v0_) ∧ Kd.R (Kd.int .i64) 3 w' w.heap.size (fun _ => True) v0_ r ∧ Below w.heap.size w w' := by
  have hlt : l0.length < 8796093022208 ∧ (a1 = 0 ∨ a1 = 1) := by
    unfold knead_unfold.f at h
    split at h
    · assumption
    · cases h
  obtain rfl : unfoldL a1 l0 = r := by simpa [knead_unfold.f, hlt] using h
  clear h
  obtain ⟨hlt, hk⟩ := hlt
  have HR0 := Aside0.mk hr0
  clear hr0
  obtain ⟨q, hq, hq1⟩ : ∃ q : Nat, (q : Int) = a1 ∧ q ≤ 1 := ⟨a1.toNat, by omega, by omega⟩
  have hu : unfoldL a1 l0 = pickP q l0 ++ pickP (1 - q) l0 := by
    unfold unfoldL
    rcases hk with rfl | rfl
    · obtain rfl : q = 0 := by omega
      rfl
    · obtain rfl : q = 1 := by omega
      rfl
  rw [hu]
  subst hq
  clear hu hk
  go_enter Try.func80, Try.ntmps80
  go_wp2
  go_loopw [10] (fun i wr => ∃ (n : Nat) (v0 v1 : Value), n ≤ l0.length ∧ i = .int .i64 n ∧ Aside0 (Parts w wr w.heap.size v0 v1 (pickP q (l0.take n)) (pickP (1 - q) (l0.take n)))) (fun i _ => l0.length - (intOf i).toNat)
  case atStart => exact ⟨0, .slice none 0 0, .slice none 0 0, Nat.zero_le _, rfl, ⟨by simpa using heap_alloc_new w _, Nat.le_refl _, by simpa [pickP] using Kd.R_nil _ _ _ _ _, by simpa [pickP] using Kd.R_nil _ _ _ _ _, (Below.refl _ _).alloc (Nat.le_refl _) _⟩⟩
  case round =>
    obtain ⟨n, v0, v1, hn, rfl, HP⟩ := hrel
    have b0 := blk_cell HP.out.blk 0
    have b1 := blk_cell HP.out.blk 1
    have hq0 : (0 : Int) ≤ (n : Int) + (q : Int) := by omega
    have hq2 : (n : Int) + (q : Int) ≤ 9223372036854775807 := by omega
    have hl0 := pickP_le (l0.take n) q
    have hl1 := pickP_le (l0.take n) (1 - q)
    have hlt2 : (l0.take n).length ≤ n := List.length_take_le _ _
    have HL0 := Aside0.mk (show (pickP q (l0.take n)).length ≤ n by omega)
    have HL1 := Aside0.mk (show (pickP (1 - q) (l0.take n)).length ≤ n by omega)
    clear hl0 hl1 hlt2
    by_cases hlt3 : n < l0.length
    · obtain ⟨ad, e, hx⟩ := Kd.at_int (Kd.C_below HR0.out HP.out.below) (n : Int) (by omega) (by omega)
      have HT0 := Aside0.mk (pickP_take l0 n q hlt3 hq1)
      have HT1 := Aside0.mk (pickP_take l0 n (1 - q) hlt3 (by omega))
      have HX := Aside0.mk (rd_nat l0 n hlt3)
      cases e
      rw [Int.toNat_natCast] at hx
      obtain ⟨A3, c3, e3⟩ := Kd.R_slice HP.out.r0
      obtain ⟨A4, c4, e4⟩ := Kd.R_slice HP.out.r1
      subst e3
      subst e4
      by_cases hc : (q + n) % 2 = 0
      · have hm : ((n : Int) + (q : Int)) % 2 = 0 := by omega
        have HT2 : Aside0 (pickP q (l0.take (n + 1)) = pickP q (l0.take n) ++ [rd l0 (n : Int)] ∧ pickP (1 - q) (l0.take (n + 1)) = pickP (1 - q) (l0.take n)) := ⟨by rw [HT0.out, if_pos hc, HX.out], by rw [HT1.out, if_neg (by omega)]⟩
        clear hc
        go_wp2_with (first | ((with_reducible refine gate_builtin (b := .append) (xs := #[.tmp 24, .tmp 26]) rfl ?_); at_builtin; refine Kd.R_append (Kd.int .i64) (w0 := w) w.heap.size rfl (.tmp 24) (.tmp 26) 22 3 (.int .i64 0) 8 rfl Try.underlying22 info3 rfl (by decide) (by omega) _ _ (rd l0 (n : Int)) [.int .i64 (rd l0 (n : Int))] _ (fun _ => False) rfl rfl rfl (fun _ hk => hk.elim) HP.out.fresh0 HP.out.r0 HP.out.below (below_size HP.out.below) (by have := HL0.out; omega) ?_; intro v2 w2 ho hb hg hat; have HP2 := Aside0.mk (HP.out.step0 ho hb hg hat); have e0 := blk_cell (HP.out.grown0 hg) 0; have e1 := blk_frozen (HP.out.grown0 hg) 0; obtain ⟨Ao, co, eo⟩ := Kd.R_slice ho; subst eo; clear ho hb hg hat))
        go_roundw
        case rel => exact ⟨n + 1, _, _, by omega, by go_num, by rw [HT2.out.1, HT2.out.2]; have h3 := HP2; simp only [List.length_append, List.length_singleton] at h3; exact h3⟩
        case measure => simp [intOf]; omega
      · have hm : ((n : Int) + (q : Int)) % 2 = 1 := by omega
        have HT2 : Aside0 (pickP q (l0.take (n + 1)) = pickP q (l0.take n) ∧ pickP (1 - q) (l0.take (n + 1)) = pickP (1 - q) (l0.take n) ++ [rd l0 (n : Int)]) := ⟨by rw [HT0.out, if_neg hc], by rw [HT1.out, if_pos (by omega), HX.out]⟩
        clear hc
        go_wp2_with (first | ((with_reducible refine gate_builtin (b := .append) (xs := #[.tmp 24, .tmp 26]) rfl ?_); at_builtin; refine Kd.R_append (Kd.int .i64) (w0 := w) w.heap.size rfl (.tmp 24) (.tmp 26) 22 3 (.int .i64 0) 8 rfl Try.underlying22 info3 rfl (by decide) (by omega) _ _ (rd l0 (n : Int)) [.int .i64 (rd l0 (n : Int))] _ (fun _ => False) rfl rfl rfl (fun _ hk => hk.elim) HP.out.fresh1 HP.out.r1 HP.out.below (below_size HP.out.below) (by have := HL1.out; omega) ?_; intro v2 w2 ho hb hg hat; have HP2 := Aside0.mk (HP.out.step1 ho hb hg hat); have e0 := blk_cell (HP.out.grown1 hg) 1; have e1 := blk_frozen (HP.out.grown1 hg) 1; obtain ⟨Ao, co, eo⟩ := Kd.R_slice ho; subst eo; clear ho hb hg hat))
        go_roundw
        case rel => exact ⟨n + 1, _, _, by omega, by go_num, by rw [HT2.out.1, HT2.out.2]; have h3 := HP2; simp only [List.length_append, List.length_singleton] at h3; exact h3⟩
        case measure => simp [intOf]; omega
    · obtain rfl : n = l0.length := by omega
      rw [List.take_length] at HP
      obtain ⟨A3, c3, e3⟩ := Kd.R_slice HP.out.r0
      obtain ⟨A4, c4, e4⟩ := Kd.R_slice HP.out.r1
      subst e3
      subst e4
      clear hn hlt3
      go_wp2_with fail
      have n0 := blk_new wr (Obj.cells #[Value.slice A3 (pickP q l0).length c3, Value.slice A4 (pickP (1 - q) l0).length c4] 22)
      have hle := pickP_le l0 q
      have hle1 := pickP_le l0 (1 - q)
      refine (concat2 wr.heap.size 2 A3 c3 (pickP q l0) A4 c4 (pickP (1 - q) l0) _ (blk_cell n0 0) (blk_cell n0 1) (Kd.C_alloc (Kd.R_reads' HP.out.r0).2.2 _) (Kd.C_alloc (Kd.R_reads' HP.out.r1).2.2 _) (by omega)).mono ?_
      rintro e w2 ⟨v, rfl, hR, hB2⟩
      clear n0 hle hle1 b0 b1
      go_wp2
      go_ret
      exact ⟨_, rfl, Kd.R_lower hR (below_size (below_alloc HP.out.below _)), below_step (below_alloc HP.out.below _) hB2⟩
end Go.Proofs.Ytgnklmhjejbcoaa.K
