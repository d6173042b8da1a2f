/- What knead.Unfold returns ('for _, k := range slices.Backward(word)'): the dough with the word undone, in memory of the call's own, or nil and the error; older memory stays as it was. -/
import Derived.RangeFuncNested
import Derived.RangeFuncBound
import Derived.RangeFuncCalls
import Derived.RangeFuncLeaves
import Derived.RangeFuncBox
import Derived.Shelf.Abstract
import Derived.Shelf.RegionOpen
import Derived.WalkKit
import Derived.OwnWalkIn
import Derived.TacticsInMore
import Derived.LoopNIn
import Derived.LoopIn
import Derived.Test.YtgnklmhjejbcoaaHU
import Derived.Test.YtgnklmhjejbcoaaHC
import Derived.Test.YtgnklmhjejbcoaaQA
import Derived.Test.YtgnklmhjejbcoaaK2
namespace Go.Proofs.Ytgnklmhjejbcoaa.K
open Go.RowKit Go.Shelf Go.Proofs.YtgnklmhjejbcoaaW.PrintWords Go.Proofs.YtgnklmhjejbcoaaW.PrintLast Go.Proofs.YtgnklmhjejbcoaaW.PrintMore
set_option linter.unusedVariables false
set_option linter.unusedSimpArgs false
attribute [local go_sem] Oper.semAt_some

def bit (b : Bool) : Int := if b then 1 else 0
def bits (bs : List Bool) : List Int := bs.map bit
/-- What has come when k places are left. -/
def came (bs : List Bool) (k : Nat) : List (Nat × Bool) := (List.range (bs.length - k)).map (fun j => (bs.length - 1 - j, bs.getD (bs.length - 1 - j) false))
theorem came_succ (bs : List Bool) (m : Nat) (h : m < bs.length) : came bs m = came bs (m + 1) ++ [(m, bs.getD m false)] := by
  unfold came
  rw [show bs.length - m = (bs.length - (m + 1)) + 1 by omega, List.range_succ, List.map_append]
  simp only [List.map_cons, List.map_nil]
  rw [show bs.length - 1 - (bs.length - (m + 1)) = m by omega]
theorem came_length (bs : List Bool) (k : Nat) : (came bs k).length = bs.length - k := by simp [came]

/-- What a round keeps: what lay below n, and the cell of the box B. -/
def KpB (n B : Nat) (W W' : World) : Prop := Below n W W' ∧ ∀ v, W.cell? ⟨B, 0, none⟩ = some v → W'.cell? ⟨B, 0, none⟩ = some v
theorem KpB.trans {n B : Nat} {W1 W2 W3 : World} (h : KpB n B W1 W2) (k : KpB n B W2 W3) : KpB n B W1 W3 := ⟨h.1.trans k.1, fun v hv => k.2 v (h.2 v hv)⟩

set_option maxRecDepth 100000 in
set_option maxHeartbeats 4000000 in
/-- slices.Backward's closure: the places from the last one to the first one, for every body that keeps what lay below n and the closure's box. -/
theorem backward1_in (F : Fence) (n : Nat) (h99 : F.fn 99) (hro : F.round = none) (hn : 1 ≤ n) (l Bs : Nat) (A : Option Addr) (cap : Nat) (bs : List Bool) (hlen : bs.length ≤ 1000) (w0 : World) (hC : Kd.C (Kd.int .i64) w0 A bs.length (bits bs)) (J Jx : List (Nat × Bool) → World → Prop)
    (hY : ∀ pre x W, J pre W → pre.length < bs.length → YieldAt F (n - 1) Try.prog l #[.int .i64 (x.1 : Int), .int .i64 (bit x.2)] W fun e W' =>
      (e = .returned (.bool true) ∧ J (pre ++ [x]) W' ∧ KpB w0.heap.size Bs W W') ∨ (e = .returned (.bool false) ∧ Jx (pre ++ [x]) W'))
    (W : World) (hb0 : Below w0.heap.size w0 W) (hBs : W.cell? ⟨Bs, 0, none⟩ = some (.slice A bs.length cap)) (h0 : J [] W) :
    CallsIn F n Try.prog 99 #[.func (.yield l) #[] #[], .pointer (some ⟨Bs, 0, none⟩)] W fun e W' => (∃ v, e = .returned v) ∧
      ((∃ ys, ys = came bs 0 ∧ J ys W') ∨ (∃ pre, (∃ k, pre = came bs k) ∧ Jx pre W')) := by
  have HC := Aside0.mk hC
  clear hC
  refine callsIn_of_wp Try.func99 rfl h99 ?_ hro
  simp only [Try.ntmps99, List.size_toArray, List.length_cons, List.length_nil, Nat.reduceAdd, Nat.reduceSub, Array.replicate_succ, Array.replicate_zero, List.push_toArray, List.append_toArray, List.nil_append, List.cons_append]
  gi_wp2
  gi_loopw [3] (fun i wr => ∃ k : Nat, k ≤ bs.length ∧ i = .int .i64 ((k : Int) - 1) ∧ Aside0 (J (came bs k) wr) ∧ Aside0 (KpB w0.heap.size Bs W wr))
    (fun i _ => (intOf i + 1).toNat)
  case atStart => exact ⟨bs.length, Nat.le_refl _, rfl, Aside0.mk (by simpa [came] using h0), Aside0.mk ⟨Below.refl _ _, fun _ h => h⟩⟩
  case round =>
    obtain ⟨k, hk, rfl, HJ, HK⟩ := hrel
    have hbx := HK.out.2 _ hBs
    clear hBs
    cases k with
    | zero =>
      gi_wp2
      go_end0
      exact ⟨⟨_, rfl⟩, .inl ⟨_, rfl, HJ.out⟩⟩
    | succ m =>
      have hm : ((m + 1 : Nat) : Int) - 1 = (m : Int) := by omega
      rw [hm]
      obtain ⟨ad, e, hx⟩ := Kd.at_int (Kd.C_below HC.out (hb0.trans HK.out.1)) (m : Int) (by omega) (by omega)
      have hv : rd (bits bs) (m : Int) = bit (bs.getD m false) := by
        rw [rd_nat _ _ (by simp [bits]; omega)]
        simp [bits, show m < bs.length by omega]
      rw [hv] at hx
      cases e
      rw [Int.toNat_natCast] at hx
      have HS := Aside0.mk (came_succ bs m (by omega))
      obtain ⟨b, hb⟩ : ∃ b, b = bs.getD m false := ⟨_, rfl⟩
      rw [← hb] at hx HS
      clear hv hb
      obtain ⟨fn, tmps, assign, body, hy, hR⟩ := hY _ (m, b) wr HJ.out (by rw [came_length]; omega)
      dsimp only at hy
      gi_wp2
      refine hR.mono ?_
      rintro e W3 (⟨rfl, hJ3, hk3⟩ | ⟨rfl, hJx3⟩)
      · -- the round goes on
        have HJ3 := Aside0.mk hJ3
        have HK3 := Aside0.mk hk3
        clear hJ3 hk3
        gi_wp2
        go_roundw
        case rel => exact ⟨m, by omega, rfl, Aside0.mk (by rw [HS.out]; exact HJ3.out), Aside0.mk (HK.out.trans HK3.out)⟩
        case measure => simp [intOf]
      · gi_wp2
        refine bodyPost_ret (results_none rfl _ _ _) rfl ?_
        exact ⟨⟨_, rfl⟩, .inr ⟨_, ⟨m, HS.out.symm⟩, hJx3⟩⟩

set_option maxRecDepth 100000 in
set_option maxHeartbeats 1000000 in
/-- slices.Backward(s): the slice value is boxed; the function value captures the box. -/
theorem backward_in (F : Fence) (n : Nat) (h88 : F.fn 88) (hro : F.round = none) (a : Option Addr) (len cap : Nat) (w : World) :
    CallsIn F n Try.prog 88 #[.slice a len cap] w fun e w' => e = .returned (.func (.func 99) #[] #[.pointer (some ⟨w.heap.size, 0, none⟩)]) ∧ w' = w.alloc (.cells #[.slice a len cap] 22) := by
  refine callsIn_of_wp Try.func88 rfl h88 ?_ hro
  simp only [Try.ntmps88, List.size_toArray, List.length_cons, List.length_nil, Nat.reduceAdd, Nat.reduceSub, Array.replicate_succ, Array.replicate_zero, List.push_toArray, List.append_toArray, List.nil_append, List.cons_append]
  gi_wp2
  go_ret
  exact ⟨rfl, rfl⟩

/-- slices.Backward(s), as the law of the range over a function asks it. -/
theorem backward_stops (F : Fence) (n : Nat) (h99 : F.fn 99) (hro : F.round = none) (hn : 1 ≤ n) (Bs : Nat) (A : Option Addr) (cap : Nat) (bs : List Bool) (hlen : bs.length ≤ 1000) (w0 : World) (hC : Kd.C (Kd.int .i64) w0 A bs.length (bits bs)) (w : World) (hBs : Bs < w.heap.size) (hb0 : Below w0.heap.size w0 w)
    (hc : w.cell? ⟨Bs, 0, none⟩ = some (.slice A bs.length cap)) :
    SeqStopsK F n Try.prog 99 #[.pointer (some ⟨Bs, 0, none⟩)] (fun x : Nat × Bool => #[Value.int .i64 (x.1 : Int), Value.int .i64 (bit x.2)]) (KpB w0.heap.size Bs) (fun ys => ys = came bs 0) (fun pre => ∃ k, pre = came bs k) bs.length w := fun l J Jx W hW _ _ hY h0 => by
  have hc' := (hW.cell (p := ⟨Bs, 0, none⟩) hBs).trans hc
  exact backward1_in F n h99 hro hn l Bs A cap bs hlen w0 hC J Jx hY W (hb0.trans (hW.mono hb0.size)) hc' h0

/-- A dough after the rounds that have come. -/
def und (pre : List (Nat × Bool)) (l : List Int) : List Int := pre.foldl (fun l x => unfoldL (bit x.2) l) l
theorem und_snoc (pre : List (Nat × Bool)) (x : Nat × Bool) (l : List Int) : und (pre ++ [x]) l = unfoldL (bit x.2) (und pre l) := by simp [und]
theorem unfoldL_len (k : Int) (l : List Int) : (unfoldL k l).length = l.length := unfoldL_length k l
theorem und_length : ∀ (pre : List (Nat × Bool)) (l : List Int), (und pre l).length = l.length
  | [], l => rfl
  | x :: pre, l => by
    show (und pre (unfoldL (bit x.2) l)).length = _
    rw [und_length pre, unfoldL_len]
theorem bit_01 (b : Bool) : bit b = 0 ∨ bit b = 1 := by cases b <;> simp [bit]

/-- What holds between two rounds: the cell B of the variable 'out' holds a row of the call's own. -/
def Inv (w : World) (B : Nat) (l : List Int) (pre : List (Nat × Bool)) (W : World) : Prop :=
  (∃ v, Boxed W B 22 v ∧ Kd.R (Kd.int .i64) 3 W w.heap.size (fun k => k ≠ B) v (und pre l)) ∧ Below w.heap.size w W

theorem R_turn {W W' : World} {base : Nat} {ok : Nat → Prop} {v : Value} {xs : List Int} {row : Option Nat} (h : Kd.R (Kd.int .i64) 3 W base ok v xs) (hg : W.grownBy W' row) (hr : ∀ r, row = some r → ∃ o : Obj, W.heap[r]? = some o ∧ o.isCells = false) : Kd.R (Kd.int .i64) 3 W' base ok v xs :=
  Kd.R_mono (Kd.R_move (Kd.R_bound h) (fun k hk => hg.block k hk.2.2.1 (fun e => by
    obtain ⟨_, _, _, q, _, cells, hc⟩ := hk
    obtain ⟨o, ho, hn⟩ := hr k e.symm
    rw [hc] at ho
    injection ho with ho
    subst ho
    simp [Obj.isCells] at hn))) (fun _ hk => hk.1)
theorem inv_own (w : World) (B : Nat) (l : List Int) (S : Nat) (hS : w.heap.size ≤ S) : OwnFrom S (Inv w B l) := by
  rintro pre W W' row ⟨⟨v, hb, hR⟩, hB⟩ hg hr
  refine ⟨⟨v, hb.kept hg (fun e => ?_), R_turn hR hg (fun r e => (hr r e).2)⟩, hB.grown hg hB.size (fun k e => by have := (hr k e).1; omega)⟩
  obtain ⟨_, o, ho, hn⟩ := hr B e.symm
  have hb' : W.heap[B]? = some (.cells #[v] 22 (0, 0)) := hb
  rw [hb'] at ho
  injection ho with ho
  subst ho
  simp [Obj.isCells] at hn

set_option maxRecDepth 100000 in
set_option maxHeartbeats 4000000 in
theorem unfold_main (A0 : Option Addr) (c0 : Nat) (l0 : List Int) (A1 : Option Addr) (c1 : Nat) (bs : List Bool) (w : World) (hr0 : Kd.C (Kd.int .i64) w A0 l0.length l0) (hc0 : l0.length ≤ c0) (hr1 : Kd.C (Kd.int .i64) w A1 bs.length (bits bs)) (hc1 : bs.length ≤ c1)
    (hl : l0.length ≤ 1000) (hbl : bs.length ≤ 1000) (hv : knead_Validate.f l0 = some 0) (hw : knead_worded.f (bits bs) = some 0) :
    CallsIn Fence.wide 4 Try.prog 58 #[.slice A0 l0.length c0, .slice A1 bs.length c1] w fun e w' => ∃ v0_ : Value, e = .returned (.tuple #[v0_, .int .i64 0]) ∧ Kd.R (Kd.int .i64) 3 w' w.heap.size (fun _ => True) v0_ (und (came bs 0) l0) ∧ Below w.heap.size w w' := by
  have hbb : (bits bs).length = bs.length := by simp [bits]
  have hcl : slices_Clone_int_int.f l0 = some l0 := by unfold slices_Clone_int_int.f; rw [if_pos (by omega)]
  have CV := Aside0.mk (fun w' h => knead_Validate.calls A0 c0 l0 0 w' h hc0 hv)
  have CW := Aside0.mk (fun w' (h : Kd.C (Kd.int .i64) w' A1 bs.length (bits bs)) => knead_worded.calls A1 c1 (bits bs) 0 w' (by rw [hbb]; exact h) (by rw [hbb]; exact hc1) hw)
  rw [hbb] at CW
  have CC := Aside0.mk (fun w' h => slices_Clone_int_int.calls A0 c0 l0 l0 w' h hc0 hcl)
  have HR0 := Aside0.mk hr0
  have HR1 := Aside0.mk hr1
  have h1 : (1 : Nat) ≤ 4 := by omega
  clear hr0 hr1 hv hw hcl hbb
  refine callsIn_of_wp_marks Try.func58 rfl trivial ?_ rfl
  simp only [Try.ntmps58, List.size_toArray, List.length_cons, List.length_nil, Nat.reduceAdd, Nat.reduceSub, Array.replicate_succ, Array.replicate_zero, List.push_toArray, List.append_toArray, List.nil_append, List.cons_append]
  gi_wp2_with (first
    | (refine ⟨trivial, ?_⟩; gi_at_call 45; refine (callsIn_wide.2 (CV.out _ HR0.out)).mono ?_; rintro e w' ⟨rfl, ⟨nd, rfl⟩⟩)
    | (refine ⟨trivial, ?_⟩; gi_at_call 56; refine (callsIn_wide.2 (CW.out _ (Kd.C_drewN HR1.out _))).mono ?_; rintro e w' ⟨rfl, ⟨nd2, rfl⟩⟩)
    | (refine ⟨trivial, ?_⟩; gi_at_call 55; refine (callsIn_wide.2 (CC.out _ (Kd.C_drewN HR0.out _))).mono ?_; rintro e w1 ⟨v1, rfl, hR, hB⟩; have HO := Aside0.mk hR; have HB := Aside0.mk hB; clear hR hB; obtain ⟨Ax, cx, ex⟩ := Kd.R_slice HO.out; subst ex)
    | (refine ⟨trivial, ?_⟩; gi_at_call 88; refine (backward_in Fence.wide 3 trivial rfl _ _ _ _).mono ?_; rintro e w2 ⟨rfl, rfl⟩))
  have hw1 : Below w.heap.size w w1 := below_step (pw_below_drewN (Below.refl _ _) _) HB.out
  have hRl := Kd.R_lower HO.out (Nat.le_refl w.heap.size)
  have hsz : w.heap.size ≤ w1.heap.size := below_size hw1
  have hB2 : Below w.heap.size w ((w1.alloc (.cells #[.slice Ax l0.length cx] 22)).alloc (.cells #[.slice A1 bs.length c1] 22)) := below_alloc (below_alloc hw1 _) _
  have bO := (Boxed.new w1 22 (.slice Ax l0.length cx)).alloc (.cells #[.slice A1 bs.length c1] 22)
  have bN := Boxed.new (w1.alloc (.cells #[.slice Ax l0.length cx] 22)) 22 (.slice A1 bs.length c1)
  rw [World.size_alloc] at bN
  have hI0 : Inv w w1.heap.size l0 [] ((w1.alloc (.cells #[.slice Ax l0.length cx] 22)).alloc (.cells #[.slice A1 bs.length c1] 22)) :=
    ⟨⟨_, bO, Kd.R_alloc (Kd.R_alloc (Kd.R_mono (Kd.R_bound hRl) (fun k hk => by have := hk.2.2.1; omega)) _) _⟩, hB2⟩
  obtain ⟨W2, hW2⟩ : ∃ W2, (w1.alloc (.cells #[.slice Ax l0.length cx] 22)).alloc (.cells #[.slice A1 bs.length c1] 22) = W2 := ⟨_, rfl⟩
  have hs2 : W2.heap.size = w1.heap.size + 2 := by rw [← hW2]; simp
  rw [hW2] at bO bN hI0 hB2 ⊢
  clear hRl
  refine wpIn_rangeFunc_ownG rfl h1 (gf := 99) (lb := #[.pointer (some ⟨w1.heap.size + 1, 0, none⟩)]) rfl trivial (enters_of Try.func99 (by kernel_rfl) rfl)
    (backward_stops Fence.wide 3 trivial rfl (by omega) (w1.heap.size + 1) A1 c1 bs hbl w HR1.out W2 (by omega) hB2 bN.cell)
    (fun h k => KpB.trans h k) (fun W l o o' hl h hc hw => ⟨belowK_b (w := W2) (by omega) W l o o' hl h hc hw, fun v hv => cell_kept hv (grownBy_putObj' W l o') (fun r e => by cases e; exact ⟨o, h, hc⟩)⟩) (Below.refl _ _) (fun _ => rfl)
    (Inv w w1.heap.size l0) (fun _ _ _ => False) (inv_own w w1.heap.size l0 W2.heap.size (by omega)) (fun _ _ _ _ _ hs _ _ => hs) hI0
    (fun x => { tmps := #[.slice A0 l0.length c0, .slice A1 bs.length c1, undef, undef, .slice none 0 0, .int .i64 0, .int .i64 0, .int .i64 0, .pointer (some ⟨w1.heap.size, 0, none⟩), undef, .int .i64 (bit x.2), .slice A0 l0.length c0,
      .int .i64 0, .int .i64 0, .bool false, undef, .slice A1 bs.length c1, .int .i64 0, .int .i64 0, .bool false, undef, .slice A0 l0.length c0, .slice Ax l0.length cx, .slice A1 bs.length c1,
      .func (.func 99) #[] #[.pointer (some ⟨w1.heap.size + 1, 0, none⟩)], .int .i64 (x.1 : Int), .int .i64 (bit x.2), undef, undef, undef, undef], defers := [] }) ?assign ?body ?done ?stop
  case assign =>
    intro l x W K hK
    gi_wp2
    exact hK
  case body =>
    rintro l pre x W ⟨⟨v, hb, hR⟩, hB⟩ _
    obtain ⟨Av, cv, rfl⟩ := Kd.R_slice hR
    have hc := hb.cell
    have hul := und_length pre l0
    have CU := Aside0.mk (knead_unfold.calls Av cv (und pre l0) (bit x.2) (unfoldL (bit x.2) (und pre l0)) W (Kd.R_reads' hR).2.2 (Kd.R_reads' hR).2.1 (by unfold knead_unfold.f; rw [if_pos ⟨by omega, bit_01 _⟩]))
    rw [hul] at CU hc
    have HRv := Aside0.mk hR
    have HBv := Aside0.mk hB
    clear hR hB
    gi_wp2_with (refine ⟨trivial, ?_⟩; gi_at_call 80; refine (CallsIn.inRound l (callsIn_wide.2 CU.out)).mono ?_; rintro e w3 ⟨v3, rfl, hR3, hB3⟩; have hb3 : Boxed w3 w1.heap.size 22 _ := (hB3.block _ hb.lt).trans hb; have hc3 := hb3.cell; have hf3 := hb3.frozen; have HR3 := Aside0.mk hR3; have HB3 := Aside0.mk hB3; clear hR3 hB3 hc; obtain ⟨A3, c3, e3⟩ := Kd.R_slice HR3.out; subst e3)
    have hWs := below_size HB3.out
    refine ⟨((KeepsOthers.of_grownBy (row := none) ⟨HB3.out.os, HB3.out.tape, HB3.out.output, HB3.out.size, fun k hk _ => HB3.out.block k hk⟩ (fun _ _ e _ => by cases e)).trans (KeepsOthers.setCell _ _ _)).from _, ⟨?_, ?_⟩, ⟨⟨_, hb3.set _, ?_⟩, ?_⟩⟩
    · exact (HB3.out.mono HBv.out.size).setCell (p := ⟨w1.heap.size, 0, none⟩) hsz _
    · intro v' hv'
      have hlt : w1.heap.size + 1 < W.heap.size := World.block_lt_of_cell? W _ hv'
      exact (World.cell?_setCell_other w3 ⟨w1.heap.size, 0, none⟩ ⟨w1.heap.size + 1, 0, none⟩ _ (by simp)).trans ((HB3.out.cell (p := ⟨w1.heap.size + 1, 0, none⟩) hlt).trans hv')
    · rw [und_snoc]
      exact Kd.R_far (p := ⟨w1.heap.size, 0, none⟩) (Kd.R_lower (Kd.R_mono (ok' := fun k => k ≠ w1.heap.size) (Kd.R_bound HR3.out) (fun k hk => by have := hk.2.1; have := hb.lt; omega)) HBv.out.size) (fun _ hk => hk) _
    · exact (below_step HBv.out HB3.out).setCell (p := ⟨w1.heap.size, 0, none⟩) hsz _
  case done =>
    rintro D ys W hD rfl ⟨⟨v, hb, hR⟩, hB⟩ hK
    have hc := hb.cell
    obtain ⟨Ay, cy, ey⟩ := Kd.R_slice hR
    subst ey
    have HRy := Aside0.mk hR
    have HBy := Aside0.mk hB
    clear hR hB
    gi_wp2
    refine ⟨by simp, .inl ⟨_, _, rfl, run_takeDeferred hK, ?_⟩⟩
    refine ⟨_, results_tmp2 rfl _ _ _, ⟨_, rfl, ?_, ?_⟩⟩
    · exact R_turn (Kd.R_mono HRy.out (fun _ _ => trivial)) (grownBy_putObj' W D (.deferred none)) (fun r e => by cases e; exact ⟨_, hK, rfl⟩)
    · exact HBy.out.trans (belowK_b (w := w) (Nat.le_refl _) W D _ _ (by omega) hK rfl rfl)
  case stop =>
    rintro D c pre W _ _ h _
    exact h.elim

theorem came_all (bs : List Bool) : (came bs 0).map Prod.snd = bs.reverse := by
  apply List.ext_getElem
  · simp [came]
  · intro i h1 h2
    have hi : i < bs.length := by simpa [came] using h1
    simp [came, show bs.length - 1 - i < bs.length by omega]
theorem und_snd : ∀ (pre : List (Nat × Bool)) (l : List Int), und pre l = ((pre.map Prod.snd).map bit).foldl (fun l k => unfoldL k l) l
  | [], _ => rfl
  | x :: pre, l => by
    show und pre (unfoldL (bit x.2) l) = _
    rw [und_snd pre]
    rfl
theorem und_all (bs : List Bool) (l : List Int) : und (came bs 0) l = unfoldsL (bits bs) l := by
  rw [und_snd, came_all, List.map_reverse, List.foldl_reverse]
  rfl
theorem kinds_bits {w : List Int} (h : ∀ x ∈ w, x = 0 ∨ x = 1) : ∃ bs : List Bool, w = bits bs := by
  refine ⟨w.map (fun x => decide (x = 1)), ?_⟩
  unfold bits
  rw [List.map_map]
  symm
  rw [List.map_congr_left (g := id) (fun x hx => ?_)]
  · exact List.map_id w
  · rcases h x hx with rfl | rfl <;> simp [bit]

def knead_Unfold.f (l0 l1 : List Int) : Option (List Int × Int) := (knead_Validate.f l0).bind fun t => if t = 0 then ((knead_worded.f l1).bind fun u => if u = 0 then (if l0.length ≤ 1000 then some (unfoldsL l1 l0, 0) else none) else some ([], u)) else some ([], t)

theorem worded_bits {l : List Int} (h : knead_worded.f l = some 0) : l.length ≤ 40 ∧ ∃ bs : List Bool, l = bits bs := by
  unfold knead_worded.f at h
  injection h with h
  split at h
  · cases h
  · split at h
    · cases h
    · rename_i h1 h2
      refine ⟨by omega, kinds_bits fun x hx => ?_⟩
      have h3 : l.any badK = false := by simpa using h2
      rw [List.any_eq_false] at h3
      have h4 := h3 x hx
      unfold badK at h4
      by_cases h0 : x = 0
      · exact .inl h0
      · by_cases h1 : x = 1
        · exact .inr h1
        · simp [h0, h1] at h4

set_option maxHeartbeats 2000000 in
set_option maxRecDepth 100000 in
theorem knead_Unfold.calls (A0 : Option Addr) (c0 : Nat) (l0 : List Int) (A1 : Option Addr) (c1 : Nat) (l1 : List Int) (r1 : List Int) (r2 : Int) (w : World) (hr0 : Kd.C (Kd.int .i64) w A0 l0.length l0) (hc0 : l0.length ≤ c0) (hr1 : Kd.C (Kd.int .i64) w A1 l1.length l1) (hc1 : l1.length ≤ c1) (h : knead_Unfold.f l0 l1 = some (r1, r2)) :
    Calls Try.prog 58 #[.slice A0 l0.length c0, .slice A1 l1.length c1] w fun e w' => ∃ v0_ : Value, e = .returned (.tuple #[v0_, .int .i64 r2]) ∧ Kd.R (Kd.int .i64) 3 w' w.heap.size (fun _ => True) v0_ r1 ∧ Below w.heap.size w w' := by
  unfold knead_Unfold.f at h
  obtain ⟨t, ht, h⟩ := Option.bind_eq_some_iff.mp h
  by_cases hz : t = 0
  · rw [if_pos hz] at h
    subst hz
    obtain ⟨u, hu, h⟩ := Option.bind_eq_some_iff.mp h
    by_cases hz2 : u = 0
    · rw [if_pos hz2] at h
      subst hz2
      by_cases hl : l0.length ≤ 1000
      · rw [if_pos hl] at h
        simp only [Option.some.injEq, Prod.mk.injEq] at h
        obtain ⟨rfl, rfl⟩ := h
        obtain ⟨hl1, bs, rfl⟩ := worded_bits hu
        have hbb : (bits bs).length = bs.length := by simp [bits]
        rw [hbb] at hr1 hc1 hl1 ⊢
        rw [← und_all]
        exact (callsIn_wide (n := 4)).1 (unfold_main A0 c0 l0 A1 c1 bs w hr0 hc0 hr1 hc1 hl (by omega) ht hu)
      · rw [if_neg hl] at h
        cases h
    · rw [if_neg hz2] at h
      simp only [Option.some.injEq, Prod.mk.injEq] at h
      obtain ⟨rfl, rfl⟩ := h
      have hb : (u != 0) = true := bne_iff_ne.mpr hz2
      have HR0 := Aside0.mk hr0
      have HR1 := Aside0.mk hr1
      have HT := Aside0.mk ht
      have HU := Aside0.mk hu
      clear hr0 hr1 ht hu
      go_enter Try.func58, Try.ntmps58
      go_wp2_with (first | (go_at_call 45; refine (knead_Validate.calls _ _ l0 0 _ HR0.out hc0 HT.out).mono ?_; rintro e w' ⟨rfl, ⟨nd, rfl⟩⟩) | (go_at_call 56; refine (knead_worded.calls _ _ l1 u _ (Kd.C_drewN HR1.out _) hc1 HU.out).mono ?_; rintro e w' ⟨rfl, ⟨nd, rfl⟩⟩) | go_in)
      go_ret2
      exact ⟨_, rfl, Kd.R_nil _ _ _ _ _, by repeat (first | exact Below.refl _ _ | apply pw_below_drewN)⟩
  · rw [if_neg hz] at h
    simp only [Option.some.injEq, Prod.mk.injEq] at h
    obtain ⟨rfl, rfl⟩ := h
    have hb : (t != 0) = true := bne_iff_ne.mpr hz
    have HR0 := Aside0.mk hr0
    have HT := Aside0.mk ht
    clear hr0 ht
    go_enter Try.func58, Try.ntmps58
    go_wp2_with (first | (go_at_call 45; refine (knead_Validate.calls _ _ l0 t _ HR0.out hc0 HT.out).mono ?_; rintro e w' ⟨rfl, ⟨nd, rfl⟩⟩) | go_in)
    go_ret2
    exact ⟨_, rfl, Kd.R_nil _ _ _ _ _, by exact pw_below_drewN (Below.refl _ _) _⟩
end Go.Proofs.Ytgnklmhjejbcoaa.K
