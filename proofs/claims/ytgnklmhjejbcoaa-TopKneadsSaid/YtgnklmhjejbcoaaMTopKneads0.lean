/- Texts of this claim in one file: HM, K0, K1, K2, HA, HU, QA, K10, K4, K6, K9. -/
import Derived.Maps.Keyed
import Derived.Maps.Own
import Derived.Maps.OwnOps
import Derived.Maps.OwnSet
import Derived.Maps.Views
import Derived.WalkKit
import Derived.Test.YtgnklmhjejbcoaaProg
import Derived.Below
import Derived.Deep.Draws
import Derived.Deep.AppendLies
import Derived.Maps.AppendAt
import Derived.OwnWalk
import Derived.Laws.BytesArg
import Derived.Laws.MakeOwn
import Derived.Laws.OwnMore
import Derived.Deep.OwnRows
import Derived.Tactics
import Derived.Lib.ConvBytes
import Derived.Laws.Slices
import Derived.KernelRfl
import Derived.RowKit3
import Derived.Deep.LoopGhost
import Derived.Deep.QuietTactic
import Derived.BigQuiet
import Derived.WideLaws
import Derived.Deep.DeepCutAuto
import Derived.Deep.CutBlock
import Derived.Deep.RegionHeld3
import Derived.Laws.Rows
import Derived.Lib.AppendStr
import Derived.ArgAppend
import Derived.Laws.IdiomCopy
import Derived.OrdersHeld
import Derived.Laws.BitsLemmas
import Derived.RowKit
import Derived.Test.YtgnklmhjejbcoaaWWords
import Derived.Test.YtgnklmhjejbcoaaWLast
import Derived.Test.YtgnklmhjejbcoaaWTab
import Derived.Test.YtgnklmhjejbcoaaWFour
import Derived.Test.YtgnklmhjejbcoaaWQPut
import Derived.Test.YtgnklmhjejbcoaaWApart
import Derived.Test.YtgnklmhjejbcoaaWArr
import Derived.Test.YtgnklmhjejbcoaaWZeros
import Derived.Test.YtgnklmhjejbcoaaWFoot
import Derived.Test.YtgnklmhjejbcoaaWKept
import Derived.Test.YtgnklmhjejbcoaaWShare
import Derived.Test.YtgnklmhjejbcoaaWN
import Derived.Test.YtgnklmhjejbcoaaWFootNe
import Derived.Test.YtgnklmhjejbcoaaWAt
import Derived.Test.YtgnklmhjejbcoaaWEqStruct
import Derived.Test.YtgnklmhjejbcoaaWRepsOne
import Derived.Test.YtgnklmhjejbcoaaWInv
import Derived.Test.YtgnklmhjejbcoaaWInvWords
import Derived.Test.YtgnklmhjejbcoaaWGuard
import Derived.Test.YtgnklmhjejbcoaaWNEv
import Derived.Test.YtgnklmhjejbcoaaWMore
import Derived.Lib.SliceRun
import Derived.WalkSpells
import Derived.StillTailTactics
import Derived.IntWalk
import Derived.Lib.Hide

/- A map of the call's own, by its exact values: what stands at which key. Over any program, key type and element type. -/
namespace Go.Proofs.Ytgnklmhjejbcoaa.K
open Go.RowKit Go.Maps
set_option linter.unusedVariables false
set_option linter.unusedSimpArgs false

/-- An element reads as itself. -/
def keepV (v : Value) : Option (DataW Value × List MemPlace) := some (.held v, [])

/-- Block b is a map of at most n entries; at the key kl stands f kl. -/
def MapV (P : Program) (k : TypeId) (w : World) (b n : Nat) (f : Lit → Option Value) : Prop :=
  ∃ D : DataW Value, w.ownsMap P k keepV b n D ∧ ∀ kl, WideAt.IsKeyLit kl → Maps.has D kl = (f kl).isSome ∧ ∀ zd, D.atKey kl zd = (match f kl with | some v => .held v | none => zd)

variable {P : Program} {k t e : TypeId} {w : World} {b n : Nat} {f : Lit → Option Value}

theorem MapV.made (P : Program) (k : TypeId) (w : World) : MapV P k (w.alloc (.map #[] 0)) w.heap.size 0 (fun _ => none) :=
  ⟨_, World.ownsMap_made w P k keepV, fun kl _ => ⟨rfl, fun _ => rfl⟩⟩
theorem MapV.lt (h : MapV P k w b n f) : b < w.heap.size := by
  obtain ⟨D, h, _⟩ := h
  exact h.lt
theorem MapV.isMapBlock (h : MapV P k w b n f) : ∃ es clock, w.heap[b]? = some (.map es clock) := by
  obtain ⟨D, ⟨es, clock, hb, _⟩, _⟩ := h
  exact ⟨es, clock, hb⟩
theorem MapV.mono (h : MapV P k w b n f) {n' : Nat} (hn : n ≤ n') : MapV P k w b n' f := by
  obtain ⟨D, h, hf⟩ := h
  exact ⟨D, h.mono hn, hf⟩
theorem MapV.kept {w' : World} {row : Option Nat} (h : MapV P k w b n f) (hg : w.grownBy w' row) (hne : some b ≠ row) : MapV P k w' b n f := by
  obtain ⟨D, h, hf⟩ := h
  exact ⟨D, h.kept hg hne, hf⟩
theorem MapV.look_ok (h : MapV P k w b n f) (K : Keyed P k) (ht : P.underlying t = some (.map k e)) {z : Value} (hz : (zeroValue e).run P w = .ok z w) {key : Value} {kl : Lit} (hkey : keyOf P k key = some kl) :
    (Instr.lookup t (.map (some b)) key true).run P w = .ok (.tuple #[(f kl).getD z, .bool (f kl).isSome]) w := by
  obtain ⟨D, h, hf⟩ := h
  obtain ⟨v, ps, hrun, hv⟩ := h.look_ok K ht hz (zd := .held z) (zp := []) rfl hkey
  obtain ⟨h1, h2⟩ := hf kl (K.key hkey)
  have hv' : DataW.held v = D.atKey kl (.held z) := by
    simp only [keepV, Option.some.injEq, Prod.mk.injEq] at hv
    exact hv.1
  rw [h2] at hv'
  rw [hrun, h1]
  cases hfk : f kl with
  | none => rw [hfk] at hv'; injection hv' with hv'; rw [hv']; rfl
  | some u => rw [hfk] at hv'; injection hv' with hv'; rw [hv']; rfl
theorem MapV.look (h : MapV P k w b n f) (K : Keyed P k) (ht : P.underlying t = some (.map k e)) {z : Value} (hz : (zeroValue e).run P w = .ok z w) {key : Value} {kl : Lit} (hkey : keyOf P k key = some kl) :
    (Instr.lookup t (.map (some b)) key false).run P w = .ok ((f kl).getD z) w := by
  obtain ⟨D, h, hf⟩ := h
  obtain ⟨v, ps, hrun, hv⟩ := h.lookup K ht hz (zd := .held z) (zp := []) rfl hkey
  obtain ⟨h1, h2⟩ := hf kl (K.key hkey)
  have hv' : DataW.held v = D.atKey kl (.held z) := by
    simp only [keepV, Option.some.injEq, Prod.mk.injEq] at hv
    exact hv.1
  rw [h2] at hv'
  rw [hrun]
  cases hfk : f kl with
  | none => rw [hfk] at hv'; injection hv' with hv'; rw [hv']; rfl
  | some u => rw [hfk] at hv'; injection hv' with hv'; rw [hv']; rfl
/-- The map with one more value. -/
def putV (f : Lit → Option Value) (kl : Lit) (v : Value) : Lit → Option Value := fun x => if x.sameKey kl = true then some v else f x
theorem MapV.store (h : MapV P k w b n f) (K : Keyed P k) (ht : P.underlying t = some (.map k e)) (hn : n < maxLen) {key : Value} {kl : Lit} (hkey : keyOf P k key = some kl) (val : Value) :
    ∃ w', (Instr.mapUpdate t (.map (some b)) key val).run P w = .ok () w' ∧ MapV P k w' b (n + 1) (putV f kl val) ∧ w.grownBy w' (some b) := by
  obtain ⟨D, h, hf⟩ := h
  obtain ⟨w', hrun, h', hg⟩ := h.update K ht hn (val := val) (d := .held val) (ps := []) hkey rfl
  refine ⟨w', hrun, ⟨_, h', fun x hx => ?_⟩, hg⟩
  by_cases hxk : x = kl
  · subst hxk
    have e1 : putV f x val x = some val := by simp [putV, WideAt.sameKey_self hx]
    rw [e1]
    exact ⟨has_put_same (h.isMap) hx _, fun zd => atKey_put_same (h.isMap) hx _ _⟩
  · have e1 : putV f kl val x = f x := by simp [putV, sameKey_ne hxk]
    rw [e1]
    obtain ⟨h1, h2⟩ := hf x hx
    exact ⟨by rw [has_put_other hxk]; exact h1, fun zd => by rw [atKey_put_other hxk]; exact h2 zd⟩
end Go.Proofs.Ytgnklmhjejbcoaa.K

/- DERIVED by wip/pr.py: for each Go function named below a Lean function with the same answers, and that a call of it comes to these answers, for all arguments and memories, where the Lean function has an answer. -/
namespace Go.Proofs.Ytgnklmhjejbcoaa.K
open Go.RowKit Go.Proofs.YtgnklmhjejbcoaaW.PrintWords Go.Proofs.YtgnklmhjejbcoaaW.PrintLast Go.Proofs.YtgnklmhjejbcoaaW.PrintMore
attribute [local go_sem] max2_int min2_int max_two min_two max_three min_three max_four min_four   -- for this text's walks alone
set_option linter.unusedVariables false
set_option linter.unusedSimpArgs false



def errW : Option Int → Value
  | none => .nilIface
  | some c => .iface 0 (.int .i64 c)
theorem errW_none : errW none = .nilIface := rfl
theorem errW_some (c : Int) : errW (some c) = .iface 0 (.int .i64 c) := rfl

theorem info3 : (Try.prog.info? 3).map (fun i => (i.zero, i.size, i.bytes)) = some (some (.int .i64 0), 1, 8) := by kernel_rfl
-- the values' own types
def rd_L1 (xs : List (List Int)) (i : Int) : (List Int) := xs.getD i.toNat ([] : List Int)
theorem at_L1 {w : World} {A : Option Addr} {n : Nat} {xs : List (List Int)} (h : Kd.C (Kd.slice 3 (Kd.int .i64)) w A n xs) (i : Int) (h0 : 0 ≤ i) (h1 : i < n) : ∃ ad A0 c0, A = some ad ∧ w.cell? (ad.add i.toNat) = some (.slice A0 (rd_L1 xs i).length c0) ∧ (rd_L1 xs i).length ≤ c0 ∧ (Kd.int .i64).C w A0 (rd_L1 xs i).length (rd_L1 xs i) := by
  obtain ⟨ad, c, e, _, hK, hc0⟩ := Kd.C_get h ([] : List Int) i h0 h1
  have hc : ∀ j u, c[j]? = some u → w.cell? (ad.add (i.toNat * 1 + j)) = some u := hc0
  obtain ⟨A0, c0, rfl, l0, g0⟩ := hK
  exact ⟨ad, A0, c0, e, by have hq := hc 0 _ rfl; rwa [Nat.mul_one, Nat.add_zero] at hq, l0, g0⟩

end Go.Proofs.Ytgnklmhjejbcoaa.K

/- DERIVED by wip/pr.py: for each Go function named below a Lean function with the same answers, and that a call of it comes to these answers, for all arguments and memories, where the Lean function has an answer. -/
namespace Go.Proofs.Ytgnklmhjejbcoaa.K
open Go.RowKit Go.Proofs.YtgnklmhjejbcoaaW.PrintWords Go.Proofs.YtgnklmhjejbcoaaW.PrintLast Go.Proofs.YtgnklmhjejbcoaaW.PrintMore
attribute [local go_sem] max2_int min2_int max_two min_two max_three min_three max_four min_four   -- for this text's walks alone
set_option linter.unusedVariables false
set_option linter.unusedSimpArgs false

/-! ### knead_halves_out: function 95 -/
def knead_halves_out.l0 : Nat → List Int → List Int → Int → Int → List Int → List Int → Option (List Int)
  | 0, _, _, _, _, _, _ => none
  | k + 1, x3, x7, x8, x9, x102000, x102001 => if x9 < x8 then (if 0 ≤ x9 then (if x9 < (x7.length : Int) then (if x9 < (x102001.length : Int) then ((some (([rd x7 x9, rd x102001 x9] : List Int) : List Int)).bind fun y104 => (if x3.length + y104.length < 17592186044416 then (knead_halves_out.l0 k (x3 ++ y104) x7 x8 (wrap64 (x9 + 1)) x102000 x102001) else (none))) else (none)) else (none)) else (none)) else (some x3)
def knead_halves_out.f (k : Nat) (l0_0 : List Int) (l0_1 : List Int) : Option (List Int) := knead_halves_out.l0 k ([] : List Int) l0_0 (l0_0.length : Int) 0 l0_0 l0_1
theorem knead_halves_out.mono_l : ∀ k, (∀ y0 y1 y2 y3 y4 y5, LeO (knead_halves_out.l0 k y0 y1 y2 y3 y4 y5) (knead_halves_out.l0 (k + 1) y0 y1 y2 y3 y4 y5))
  | 0 => fun _ _ _ _ _ _ r h => by simp [knead_halves_out.l0] at h
  | k + 1 => by
    have ih0 := knead_halves_out.mono_l k
    · intro y0 y1 y2 y3 y4 y5
      unfold knead_halves_out.l0
      repeat' first
      | (with_reducible exact ih0 _ _ _ _ _ _)
      | (with_reducible exact LeO.refl _)
      | (with_reducible exact LeO.none _)
      | (with_reducible refine LeO.ite ?_ ?_)
      | (with_reducible refine LeO.bind ?_ (fun _ => ?_))
      | exact ih0 _ _ _ _ _ _
      | exact LeO.none _
      | refine LeO.ite ?_ ?_
      | refine LeO.bind ?_ (fun _ => ?_)
theorem knead_halves_out.mono : ∀ a0 a1 k, LeO (knead_halves_out.f k a0 a1) (knead_halves_out.f (k + 1) a0 a1) := by
  intro a0 a1 k
  have ih0 := knead_halves_out.mono_l k
  unfold knead_halves_out.f
  repeat' first
      | (with_reducible exact ih0 _ _ _ _ _ _)
      | (with_reducible exact LeO.refl _)
      | (with_reducible exact LeO.none _)
      | (with_reducible refine LeO.ite ?_ ?_)
      | (with_reducible refine LeO.bind ?_ (fun _ => ?_))
      | exact ih0 _ _ _ _ _ _
      | exact LeO.none _
      | refine LeO.ite ?_ ?_
      | refine LeO.bind ?_ (fun _ => ?_)
set_option maxHeartbeats 8000000 in
set_option maxRecDepth 100000 in
theorem knead_halves_out.calls (k : Nat) (A0_0 : Option Addr) (c0_0 : Nat) (l0_0 : List Int) (A0_1 : Option Addr) (c0_1 : Nat) (l0_1 : List Int) (r : List Int) (w : World) (hr0_0 : Kd.C (Kd.int .i64) w A0_0 l0_0.length l0_0) (hc0_0 : l0_0.length ≤ c0_0) (hr0_1 : Kd.C (Kd.int .i64) w A0_1 l0_1.length l0_1) (hc0_1 : l0_1.length ≤ c0_1) (h : knead_halves_out.f k l0_0 l0_1 = some r) :
    Calls Try.prog 95 #[.agg #[.slice A0_0 l0_0.length c0_0, .slice A0_1 l0_1.length c0_1]] w fun e w' => ∃ v0_ : Value, e = .returned (v0_) ∧ Kd.R (Kd.int .i64) 3 w' w.heap.size (fun _ => True) v0_ r ∧ Below w.heap.size w w' := by
  have hu75 := Try.underlying75
  have HR0_0 := Aside0.mk hr0_0
  have HC0_0 := Aside0.mk hc0_0
  clear hr0_0 hc0_0
  have HR0_1 := Aside0.mk hr0_1
  have HC0_1 := Aside0.mk hc0_1
  clear hr0_1 hc0_1
  have HB := Aside0.mk (Below.refl w.heap.size w)
  have H : (knead_halves_out.l0 k ([] : List Int) l0_0 (l0_0.length : Int) 0 l0_0 l0_1) = some r := h
  clear h
  have H' := Aside0.mk H
  clear H
  go_enter Try.func95, Try.ntmps95
  go_wp2_with (first | ((with_reducible refine gate_dst (N := 1) rfl ?_); refine box_event ?hg (N := 1) ?hd (cs := #[.slice A0_0 l0_0.length c0_0, .slice A0_1 l0_1.length c0_1]) (t := 75) ?hr ?_; (case hd => rfl); (case hg => rfl); (case hr => first | (go_simp; done) | (go_simp; rfl)); intro gb101 hg w2 hbox hb; have n0_ := Aside0.mk (below_step (by repeat (first | (with_reducible first | exact HB.out | apply below_alloc | apply pw_below_drewN | apply below_drew1) | exact HB.out)) hb); have n1_ := Aside0.mk (hbox); have n2_ := Aside0.mk ((by rw [hg]; exact (below_size (by repeat (first | (with_reducible first | exact HB.out | apply below_alloc | apply pw_below_drewN | apply below_drew1) | exact HB.out))) : w.heap.size ≤ gb101)); have n3_ := Aside0.mk ((by rw [hg]; exact (below_size (by repeat (first | (with_reducible first | exact HB.out | apply below_alloc | apply pw_below_drewN | apply below_drew1) | exact HB.out))) : w.heap.size ≤ gb101)); clear HB; have HB := n0_; have BK101 := n1_; have GW101 := n2_; have GE101 := n3_; clear n0_ n1_ n2_ n3_; clear hb hbox hg; have hcz3_0 : w2.cell? ⟨gb101, 0, none⟩ = some (.slice A0_0 l0_0.length c0_0) := (blk_cell BK101.out 0).trans rfl; have hcz3_1 : w2.cell? ⟨gb101, 1, none⟩ = some (.slice A0_1 l0_1.length c0_1) := (blk_cell BK101.out 1).trans rfl; have hfz3_0 := blk_frozen BK101.out 0; have hfz3_1 := blk_frozen BK101.out 1))
  go_loopg [3, 9] k (fun kq v3 v9 w' => ∃ (x3_1 : List Int) (x9_1 : Int), v9 = .int .i64 x9_1 ∧ Aside0 (knead_halves_out.l0 kq x3_1 l0_0 (l0_0.length : Int) x9_1 l0_0 l0_1 = some r) ∧ Aside0 (kq ≤ k) ∧ Aside0 (Kd.R (Kd.int .i64) 3 w' w.heap.size (fun _ => True) v3 x3_1) ∧ Aside0 (w'.heap[gb101]? = some (.cells #[(.slice A0_0 l0_0.length c0_0), (.slice A0_1 l0_1.length c0_1)] 75 (0, 0))) ∧ Aside0 (Below w.heap.size w w'))
  case atStart => exact ⟨(([] : List Int)), (0), (by first | rfl | (simp; done) | (simp [*]; done)), H', ⟨Nat.le_refl _⟩, ⟨by first | exact Kd.R_nil _ _ _ _ _ | exact Kd.N_nil _ _ _ _ _ | exact Kd.V_nil _ _ _ _ _ | exact Kd.Q_nil _ _ _ _ _ | exact Kd.S_nil _ _ _ _ _⟩, ⟨by (with_reducible repeat (first | refine blk_drewN ?_ _ | refine blk_drew ?_ | refine blk_alloc ?_ _)); exact BK101.out⟩, ⟨by repeat (first | (with_reducible first | exact HB.out | apply below_alloc | apply pw_below_drewN | apply below_drew1 | refine below_set ?_ GE101.out) | exact HB.out)⟩⟩
  case round =>
    clear H'
    try clear p2
    try clear hcz3_0
    try clear hcz3_1
    try clear hfz3_0
    try clear hfz3_1
    obtain ⟨x3_1, x9_1, rfl, HA, HK1, HO_3, BK101, HB⟩ := hrel
    cases gk with
    | zero => exact absurd HA.out (by simp [knead_halves_out.l0])
    | succ k1 =>
      have H := HA.out
      clear HA
      simp only [knead_halves_out.l0] at H
      by_cases c4 : x9_1 < (l0_0.length : Int)
      · rw [if_pos c4] at H
        have c4b0 : decide (x9_1 < (l0_0.length : Int)) = true := decide_eq_true c4
        clear c4
        by_cases c5 : 0 ≤ x9_1
        · rw [if_pos c5] at H
          have c5b0 : decide (0 ≤ x9_1) = true := decide_eq_true c5
          clear c5
          by_cases c6 : x9_1 < (l0_0.length : Int)
          · rw [if_pos c6] at H
            have c6b0 : decide (x9_1 < (l0_0.length : Int)) = true := decide_eq_true c6
            clear c6
            by_cases c7 : x9_1 < (l0_1.length : Int)
            · rw [if_pos c7] at H
              have c7b0 : decide (x9_1 < (l0_1.length : Int)) = true := decide_eq_true c7
              clear c7
              obtain ⟨y104, hy104⟩ : ∃ y_ : List Int, y_ = (([rd l0_0 x9_1, rd l0_1 x9_1] : List Int)) := ⟨_, rfl⟩
              replace H : (if x3_1.length + y104.length < 17592186044416 then (knead_halves_out.l0 k1 (x3_1 ++ y104) l0_0 (l0_0.length : Int) (wrap64 (x9_1 + 1)) l0_0 l0_1) else (none)) = some r := by first | (rw [hy104]; with_reducible exact H) | (have H2_ := (Option.bind_some _ _).symm.trans H; rw [hy104]; with_reducible exact H2_) | (have H2_ := (Option.bind_some _ _).symm.trans H; with_reducible exact H2_) | with_reducible exact H | (rw [hy104]; exact H) | exact H
              have Ny104 := Aside0.mk hy104
              clear hy104
              by_cases c8 : x3_1.length + y104.length < 17592186044416
              · rw [if_pos c8] at H
                have LMc8 := Aside0.mk c8
                clear c8
                obtain ⟨y107, hy107⟩ : ∃ y_ : List Int, y_ = (x3_1 ++ y104) := ⟨_, rfl⟩
                replace H : (knead_halves_out.l0 k1 y107 l0_0 (l0_0.length : Int) (wrap64 (x9_1 + 1)) l0_0 l0_1) = some r := by first | (rw [hy107]; with_reducible exact H) | (have H2_ := (Option.bind_some _ _).symm.trans H; rw [hy107]; with_reducible exact H2_) | (have H2_ := (Option.bind_some _ _).symm.trans H; with_reducible exact H2_) | with_reducible exact H | (rw [hy107]; exact H) | exact H
                have Ny107 := Aside0.mk hy107
                clear hy107
                have H' := Aside0.mk H
                clear H
                have p102 : 0 ≤ (x9_1 : Int) := of_decide_eq_true (by first | (with_reducible assumption) | assumption)
                have q102 : x9_1 < (l0_0.length : Int) := of_decide_eq_true (by first | (with_reducible assumption) | assumption)
                obtain ⟨ad102, e102, hx102_0⟩ := Kd.at_int HR0_0.out x9_1 p102 q102
                cases e102
                replace hx102_0 := (HB.out.cell (World.block_lt_of_cell? w _ hx102_0)).trans hx102_0
                replace p102 := eq_true p102
                replace q102 := eq_true q102
                have hcz9_0 : wr.cell? ⟨gb101, 0, none⟩ = some (.slice (some ad102) l0_0.length c0_0) := (blk_cell BK101.out 0).trans rfl
                have hcz9_1 : wr.cell? ⟨gb101, 1, none⟩ = some (.slice A0_1 l0_1.length c0_1) := (blk_cell BK101.out 1).trans rfl
                have hfz9_0 := blk_frozen BK101.out 0
                have hfz9_1 := blk_frozen BK101.out 1
                have p103 : 0 ≤ (x9_1 : Int) := of_decide_eq_true (by first | (with_reducible assumption) | assumption)
                have q103 : x9_1 < (l0_1.length : Int) := of_decide_eq_true (by first | (with_reducible assumption) | assumption)
                obtain ⟨ad103, e103, hx103_0⟩ := Kd.at_int HR0_1.out x9_1 p103 q103
                cases e103
                replace hx103_0 := (HB.out.cell (World.block_lt_of_cell? w _ hx103_0)).trans hx103_0
                replace p103 := eq_true p103
                replace q103 := eq_true q103
                go_wp2_with (first | ((with_reducible refine gate_dst (N := 21) rfl ?_); refine Kd.R_lit (Kd.int .i64) _ 3 ?hg (N := 21) ?hd (xs := ([rd l0_0 x9_1, rd l0_1 x9_1] : List Int)) (inner := [.int .i64 (rd l0_0 x9_1), .int .i64 (rd l0_1 x9_1)]) (ok := fun _ => True) (okp := fun _ => True) ?hr ?hp (fun _ hk => hk) trivial (Below.refl _ _) (Nat.le_refl _) (by simp) ?_; (case hd => rfl); (case hg => rfl); (case hr => first | (go_simp; done) | (go_simp; rfl)); (case hp => exact (Reps.one (show Kd.M (Kd.int .i64) _ _ _ (rd l0_0 x9_1) [.int .i64 (rd l0_0 x9_1)] from rfl) (Reps.one (show Kd.M (Kd.int .i64) _ _ _ (rd l0_1 x9_1) [.int .i64 (rd l0_1 x9_1)] from rfl) (Reps.none _ _)))); intro v105 w10 ho11 hb hg_ hnew_; clear hg_ hnew_; (first | rw [← Ny104.out] at ho11 | (simp only [Int.reduceToNat] at ho11; rw [← Ny104.out] at ho11)); have n0_ := Aside0.mk (Kd.R_elder' (by (with_reducible repeat (first | apply Kd.R_alloc | apply Kd.R_drewN | apply Kd.R_drew)); exact HO_3.out) (Kd.R_base ho11) hb); have n1_ := Aside0.mk (Kd.R_lower (Kd.R_new' ho11 (Kd.R_lt (by (with_reducible repeat (first | apply Kd.R_alloc | apply Kd.R_drewN | apply Kd.R_drew)); exact HO_3.out))) (below_size (by repeat (first | (with_reducible first | exact HB.out | apply below_alloc | apply pw_below_drewN | apply below_drew1 | refine below_set ?_ GE101.out) | exact HB.out)))); have n2_ := Aside0.mk (blk_below (g := gb101) (o := .cells #[.slice (some ad102) l0_0.length c0_0, .slice (some ad103) l0_1.length c0_1] 75 (0, 0)) (by (with_reducible repeat (first | refine blk_drewN ?_ _ | refine blk_drew ?_ | refine blk_alloc ?_ _)); exact BK101.out) hb); have n3_ := Aside0.mk (below_step (by repeat (first | (with_reducible first | exact HB.out | apply below_alloc | apply pw_below_drewN | apply below_drew1 | refine below_set ?_ GE101.out) | exact HB.out)) hb); clear HO_3; clear BK101; clear HB; have HO_3 := n0_; have HO106 := n1_; have BK101 := n2_; have HB := n3_; clear n0_ n1_ n2_ n3_; clear hb ho11; obtain ⟨Ao13, co13, eo13⟩ := Kd.R_slice HO106.out; subst eo13) | ((with_reducible refine gate_builtin (b := .append) (xs := #[.tmp 14, .tmp 21]) rfl ?_); at_builtin; refine Kd.R_append_rows (Kd.int .i64) (w0 := w) w.heap.size rfl (.tmp 14) (.tmp 21) 22 3 (.int .i64 0) 8 rfl Try.underlying22 info3 rfl (by decide) (by omega) u3 x3_1 y104 _ _ _ (fun k_ => some k_ ≠ (.slice Ao13 y104.length co13 : Value).ownBlock) (fun _ => False) rfl rfl ?aO ?aR (fun _ _ h => h) (fun _ h => h.elim) ?aF ?aB ?aS ?aL ?_; (case aR => repeat (first | exact (Kd.R_reads' HO106.out).2.2 | (with_reducible refine Kd.C_alloc ?_ _) | (with_reducible refine Kd.C_drewN ?_ _) | (with_reducible refine Kd.C_drew ?_))); (case aB => exact (by repeat (first | (with_reducible first | exact HB.out | apply below_alloc | apply pw_below_drewN | apply below_drew1 | refine below_set ?_ GE101.out) | exact HB.out))); (case aF => exact (fun k_ hk => Kd.fresh' (Kd.R_lt (by (with_reducible repeat (first | apply Kd.R_alloc | apply Kd.R_drewN | apply Kd.R_drew)); exact HO106.out)) k_ hk)); (case aO => exact (by (with_reducible repeat (first | apply Kd.R_alloc | apply Kd.R_drewN | apply Kd.R_drew)); exact Kd.R_mono HO_3.out (fun _ hk => hk.2))); (case aS => exact (below_size (by repeat (first | (with_reducible first | exact HB.out | apply below_alloc | apply pw_below_drewN | apply below_drew1 | refine below_set ?_ GE101.out) | exact HB.out)))); (case aL => have := LMc8.out; omega); intro v108 w12 ho hb hg hat; rw [← Ny107.out] at ho; have n0_ := Aside0.mk (blk_grown (g := gb101) (o := .cells #[.slice (some ad102) l0_0.length c0_0, .slice (some ad103) l0_1.length c0_1] 75 (0, 0)) (by (with_reducible repeat (first | refine blk_drewN ?_ _ | refine blk_drew ?_ | refine blk_alloc ?_ _)); exact BK101.out) hg (Kd.R_ne HO_3.out BK101.out (by decide))); have n1_ := Aside0.mk (Kd.R_after (ok := (fun _ => True)) (by (with_reducible repeat (first | apply Kd.R_alloc | apply Kd.R_drewN | apply Kd.R_drew)); exact HO106.out) hg hat); have n2_ := Aside0.mk (hb); have n3_ := Aside0.mk (ho); clear BK101; clear HO106; clear HB; clear HO_3; have BK101 := n0_; have HO106 := n1_; have HB := n2_; have HO109 := n3_; clear n0_ n1_ n2_ n3_; clear ho hb hg hat))
                go_roundg k1
                case measure => have := HK1.out; omega
                case rel => exact ⟨(y107), (wrap64 (x9_1 + 1)), (by first | rfl | (simp; done) | (simp [*]; done)), H', ⟨by have := HK1.out; omega⟩, ⟨by (with_reducible repeat (first | apply Kd.R_alloc | apply Kd.R_drewN | apply Kd.R_drew)); exact Kd.R_mono HO109.out (fun _ hk => trivial)⟩, ⟨by (with_reducible repeat (first | refine blk_drewN ?_ _ | refine blk_drew ?_ | refine blk_alloc ?_ _)); exact BK101.out⟩, ⟨by repeat (first | (with_reducible first | exact HB.out | apply below_alloc | apply pw_below_drewN | apply below_drew1 | refine below_set ?_ GE101.out) | exact HB.out)⟩⟩
              · rw [if_neg c8] at H
                exact absurd H (by simp)
            · rw [if_neg c7] at H
              exact absurd H (by simp)
          · rw [if_neg c6] at H
            exact absurd H (by simp)
        · rw [if_neg c5] at H
          exact absurd H (by simp)
      · rw [if_neg c4] at H
        have c4b0 : decide (x9_1 < (l0_0.length : Int)) = false := decide_eq_false c4
        clear c4
        obtain rfl := Option.some.inj H
        go_wp2
        go_ret
        exact ⟨_, by first | rfl | (simp [errW_none, errW_some] <;> rfl) | (simp [*, errW_none, errW_some] <;> rfl), by (with_reducible repeat (first | apply Kd.R_alloc | apply Kd.R_drewN | apply Kd.R_drew)); exact HO_3.out, by repeat (first | (with_reducible first | exact HB.out | apply below_alloc | apply pw_below_drewN | apply below_drew1 | refine below_set ?_ GE101.out) | exact HB.out)⟩

end Go.Proofs.Ytgnklmhjejbcoaa.K

/- DERIVED by wip/pr.py: for each Go function named below a Lean function with the same answers, and that a call of it comes to these answers, for all arguments and memories, where the Lean function has an answer. -/
namespace Go.Proofs.Ytgnklmhjejbcoaa.K
open Go.RowKit Go.Proofs.YtgnklmhjejbcoaaW.PrintWords Go.Proofs.YtgnklmhjejbcoaaW.PrintLast Go.Proofs.YtgnklmhjejbcoaaW.PrintMore
attribute [local go_sem] max2_int min2_int max_two min_two max_three min_three max_four min_four   -- for this text's walks alone
set_option linter.unusedVariables false
set_option linter.unusedSimpArgs false

/-! ### knead_halves_in: function 96 -/
def knead_halves_in.f (k : Nat) (l0_0 : List Int) (l0_1 : List Int) : Option (List Int) := (knead_halves_out.f k l0_1 l0_0).bind fun t111 => (some t111)
theorem knead_halves_in.mono : ∀ a0 a1 k, LeO (knead_halves_in.f k a0 a1) (knead_halves_in.f (k + 1) a0 a1) := by
  intro a0 a1 k
  unfold knead_halves_in.f
  repeat' first
      | (with_reducible exact knead_halves_out.mono _ _ _)
      | (with_reducible exact LeO.refl _)
      | (with_reducible exact LeO.none _)
      | (with_reducible refine LeO.ite ?_ ?_)
      | (with_reducible refine LeO.bind ?_ (fun _ => ?_))
      | exact knead_halves_out.mono _ _ _
      | exact LeO.none _
      | refine LeO.ite ?_ ?_
      | refine LeO.bind ?_ (fun _ => ?_)
set_option maxHeartbeats 8000000 in
set_option maxRecDepth 100000 in
theorem knead_halves_in.calls (k : Nat) (A0_0 : Option Addr) (c0_0 : Nat) (l0_0 : List Int) (A0_1 : Option Addr) (c0_1 : Nat) (l0_1 : List Int) (r : List Int) (w : World) (hr0_0 : Kd.C (Kd.int .i64) w A0_0 l0_0.length l0_0) (hc0_0 : l0_0.length ≤ c0_0) (hr0_1 : Kd.C (Kd.int .i64) w A0_1 l0_1.length l0_1) (hc0_1 : l0_1.length ≤ c0_1) (h : knead_halves_in.f k l0_0 l0_1 = some r) :
    Calls Try.prog 96 #[.agg #[.slice A0_0 l0_0.length c0_0, .slice A0_1 l0_1.length c0_1]] w fun e w' => ∃ v0_ : Value, e = .returned (v0_) ∧ Kd.R (Kd.int .i64) 3 w' w.heap.size (fun _ => True) v0_ r ∧ Below w.heap.size w w' := by
  have hu75 := Try.underlying75
  have HR0_0 := Aside0.mk hr0_0
  have HC0_0 := Aside0.mk hc0_0
  clear hr0_0 hc0_0
  have HR0_1 := Aside0.mk hr0_1
  have HC0_1 := Aside0.mk hc0_1
  clear hr0_1 hc0_1
  have HB := Aside0.mk (Below.refl w.heap.size w)
  have H : ((knead_halves_out.f k l0_1 l0_0).bind fun t111 => (some t111)) = some r := h
  clear h
  replace H := Option.bind_eq_some_iff.mp H
  obtain ⟨t111, A20, H⟩ := H
  replace H : (some t111) = some r := H
  have A2 := Aside0.mk A20
  clear A20
  obtain rfl := Option.some.inj H
  go_enter Try.func96, Try.ntmps96
  go_wp2_with (first | ((with_reducible refine gate_dst (N := 1) rfl ?_); refine box_event ?hg (N := 1) ?hd (cs := #[.slice A0_0 l0_0.length c0_0, .slice A0_1 l0_1.length c0_1]) (t := 75) ?hr ?_; (case hd => rfl); (case hg => rfl); (case hr => first | (go_simp; done) | (go_simp; rfl)); intro gb110 hg w3 hbox hb; have n0_ := Aside0.mk (below_step (by repeat (first | (with_reducible first | exact HB.out | apply below_alloc | apply pw_below_drewN | apply below_drew1) | exact HB.out)) hb); have n1_ := Aside0.mk (hbox); have n2_ := Aside0.mk ((by rw [hg]; exact (below_size (by repeat (first | (with_reducible first | exact HB.out | apply below_alloc | apply pw_below_drewN | apply below_drew1) | exact HB.out))) : w.heap.size ≤ gb110)); have n3_ := Aside0.mk ((by rw [hg]; exact (below_size (by repeat (first | (with_reducible first | exact HB.out | apply below_alloc | apply pw_below_drewN | apply below_drew1) | exact HB.out))) : w.heap.size ≤ gb110)); clear HB; have HB := n0_; have BK110 := n1_; have GW110 := n2_; have GE110 := n3_; clear n0_ n1_ n2_ n3_; clear hb hbox hg; have hcz4_0 : w3.cell? ⟨gb110, 0, none⟩ = some (.slice A0_0 l0_0.length c0_0) := (blk_cell BK110.out 0).trans rfl; have hcz4_1 : w3.cell? ⟨gb110, 1, none⟩ = some (.slice A0_1 l0_1.length c0_1) := (blk_cell BK110.out 1).trans rfl; have hfz4_0 := blk_frozen BK110.out 0; have hfz4_1 := blk_frozen BK110.out 1) | ((with_reducible refine gate_callee (f := 95) rfl ?_); refine goesL_ (some 8) rfl rfl Try.func95 (by kernel_rfl) rfl #[.agg #[.slice A0_1 l0_1.length c0_1, .slice A0_0 l0_0.length c0_0]] rfl (by (try simp only [List.map_toArray, List.map_cons, List.map_nil]); first | done | rfl | (simp only [List.length_drop, List.length_take]; rfl)) ?_; (with_reducible refine (knead_halves_out.calls k _ _ l0_1 _ _ l0_0 t111 _ ?side1 ?side2 ?side3 ?side4 A2.out).mono ?_); (case side1 => repeat (first | exact (Kd.C_below HR0_1.out HB.out) | (with_reducible refine Kd.C_alloc ?_ _) | (with_reducible refine Kd.C_drewN ?_ _) | (with_reducible refine Kd.C_drew ?_))); (case side2 => exact HC0_1.out); (case side3 => repeat (first | exact (Kd.C_below HR0_0.out HB.out) | (with_reducible refine Kd.C_alloc ?_ _) | (with_reducible refine Kd.C_drewN ?_ _) | (with_reducible refine Kd.C_drew ?_))); (case side4 => exact HC0_0.out); rintro e w5 ⟨v112, rfl, ho0, hb⟩; refine ⟨_, rfl, ?_⟩; have n0_ := Aside0.mk (Kd.R_lower ho0 (below_size (by repeat (first | (with_reducible first | exact HB.out | apply below_alloc | apply pw_below_drewN | apply below_drew1 | refine below_set ?_ GE110.out) | exact HB.out)))); have n1_ := Aside0.mk (blk_below (g := gb110) (o := .cells #[.slice A0_0 l0_0.length c0_0, .slice A0_1 l0_1.length c0_1] 75 (0, 0)) (by (with_reducible repeat (first | refine blk_drewN ?_ _ | refine blk_drew ?_ | refine blk_alloc ?_ _)); exact BK110.out) hb); have n2_ := Aside0.mk (below_step (by repeat (first | (with_reducible first | exact HB.out | apply below_alloc | apply pw_below_drewN | apply below_drew1 | refine below_set ?_ GE110.out) | exact HB.out)) hb); clear BK110; clear HB; have HO113 := n0_; have BK110 := n1_; have HB := n2_; clear n0_ n1_ n2_; (try clear hb); (try clear hb2); (try clear hk); (try clear hi); (try clear ho0)))
  go_ret
  exact ⟨_, by first | rfl | (simp [errW_none, errW_some] <;> rfl) | (simp [*, errW_none, errW_some] <;> rfl), by (with_reducible repeat (first | apply Kd.R_alloc | apply Kd.R_drewN | apply Kd.R_drew)); exact HO113.out, by repeat (first | (with_reducible first | exact HB.out | apply below_alloc | apply pw_below_drewN | apply below_drew1 | refine below_set ?_ GE110.out) | exact HB.out)⟩

end Go.Proofs.Ytgnklmhjejbcoaa.K

/- What slices.Clone, knead.cut and knead.fold return, for all slices of fewer than 2^44 elements and all kinds: a slice of the call's own; older memory stays as it was. -/
namespace Go.Proofs.Ytgnklmhjejbcoaa.K
open Go.RowKit Go.Proofs.YtgnklmhjejbcoaaW.PrintWords Go.Proofs.YtgnklmhjejbcoaaW.PrintLast Go.Proofs.YtgnklmhjejbcoaaW.PrintMore
set_option linter.unusedVariables false
set_option linter.unusedSimpArgs false

def slices_Clone_int_int.f (l0 : List Int) : Option (List Int) := if l0.length < 17592186044416 then some l0 else none

set_option maxHeartbeats 1000000 in
theorem slices_Clone_int_int.calls (A0 : Option Addr) (c0 : Nat) (l0 : List Int) (r : List Int) (w : World) (hr0 : Kd.C (Kd.int .i64) w A0 l0.length l0) (hc0 : l0.length ≤ c0) (h : slices_Clone_int_int.f l0 = some r) :
    Calls Try.prog 55 #[.slice A0 l0.length c0] w fun e w' => ∃ v0_ : Value, e = .returned (v0_) ∧ Kd.R (Kd.int .i64) 3 w' w.heap.size (fun _ => True) v0_ r ∧ Below w.heap.size w w' := by
  have hlt : l0.length < 17592186044416 := by
    unfold slices_Clone_int_int.f at h
    split at h
    · assumption
    · cases h
  obtain rfl : l0 = r := by simpa [slices_Clone_int_int.f, hlt] using h
  clear h
  have q22 : ∀ (w : World) (a : Option Addr) (n c n' c' : Nat), (binOp .eql 22 (.slice a n c) (.slice none n' c')).run Try.prog w = .ok (.bool a.isNone) w := fun w a n c n' c' => Lib.run_eql_slice_nil w _ _ a n c n' c' Try.underlying22
  cases A0 with
  | none =>
    obtain rfl : l0 = [] := by
      rcases Nat.eq_zero_or_pos l0.length with h0 | h0
      · exact List.length_eq_zero_iff.1 h0
      · obtain ⟨ad, he, _⟩ := hr0.2.2 h0
        cases he
    go_enter Try.func55, Try.ntmps55
    go_wp2
    go_ret
    exact ⟨_, rfl, Kd.R_nil _ _ _ _ _, Below.refl _ _⟩
  | some ad =>
    have HR0 := Aside0.mk hr0
    clear hr0
    go_enter Try.func55, Try.ntmps55
    have HB := Aside0.mk (Below.refl w.heap.size w)
    go_wp2_with (first | ((with_reducible refine gate_dst (N := 5) rfl ?_); refine Kd.R_lit (Kd.int .i64) (w0 := w) w.heap.size 3 ?hg (N := 5) ?hd (xs := ([] : List Int)) (inner := []) (ok := fun _ => True) (okp := fun _ => True) ?hr ?hp (fun _ hk => hk) trivial (Below.refl _ _) (Nat.le_refl _) (by simp) ?_; (case hd => rfl); (case hg => rfl); (case hr => first | (go_simp; done) | (go_simp; rfl)); (case hp => exact (Reps.none _ _)); intro v1 w1 ho1 hb1 hg_ hnew_; clear hg_ hnew_; have HO1 := Aside0.mk ho1; clear HB; have HB := Aside0.mk hb1; clear ho1 hb1) | ((with_reducible refine gate_builtin (b := .append) (xs := #[.tmp 5, .tmp 6]) rfl ?_); at_builtin; refine Kd.R_append_rows (Kd.int .i64) (w0 := w) w.heap.size rfl (.tmp 5) (.tmp 6) 22 3 (.int .i64 0) 8 rfl Try.underlying22 info3 rfl (by decide) (by omega) v1 [] l0 _ _ _ (fun _ => True) (fun _ => False) rfl rfl ?aO ?aR (fun _ _ h => h) (fun _ h => h.elim) ?aF ?aB ?aS ?aL ?_; (case aR => exact (Kd.C_below HR0.out HB.out)); (case aB => exact HB.out); (case aF => exact (fun _ _ => trivial)); (case aO => exact HO1.out); (case aS => exact (below_size HB.out)); (case aL => simp; omega); intro v2 w2 ho hb hg hat; rw [List.nil_append] at ho; have HO2 := Aside0.mk ho; have HB2 := Aside0.mk hb; clear ho hb hg hat))
    go_ret
    exact ⟨_, rfl, HO2.out, HB2.out⟩
set_option maxRecDepth 100000 in
set_option maxHeartbeats 1000000 in
theorem cut_calls (A0 : Option Addr) (c0 : Nat) (l0 : List Int) (w : World) (hr0 : Kd.C (Kd.int .i64) w A0 l0.length l0) (hc0 : l0.length ≤ c0) :
    Calls Try.prog 94 #[.slice A0 l0.length c0] w fun e w' => ∃ A1 A2, e = .returned (.agg #[.slice A1 (l0.length / 2) (l0.length / 2), .slice A2 (l0.length / 2) (l0.length / 2)]) ∧
      Kd.C (Kd.int .i64) w' A1 (l0.length / 2) (l0.take (l0.length / 2)) ∧ Kd.C (Kd.int .i64) w' A2 (l0.length / 2) ((l0.drop (l0.length / 2)).take (l0.length / 2)) ∧ Below w.heap.size w w' := by
  have hm := hr0.2.1
  have HR0 := Aside0.mk hr0
  clear hr0
  have h1 : (0:Int) ≤ (l0.length : Int) / 2 := by omega
  have h2 : (l0.length : Int) / 2 ≤ 4611686018427387904 := by omega
  have h3 : 2 * ((l0.length : Int) / 2) ≤ (c0 : Int) := by omega
  have h4 : ((l0.length : Int) / 2) ≤ (c0 : Int) := by omega
  have h5 : ((l0.length : Int) / 2) ≤ max ((l0.length : Int) / 2) 0 := by omega
  have h6 : IntKind.i64.wrap (2 * ((l0.length : Int) / 2)) = 2 * ((l0.length : Int) / 2) := IntWalk.i64_in _ (by omega)
  have h7 : ((l0.length : Int) / 2) ≤ 2 * ((l0.length : Int) / 2) := by omega
  by_cases h0 : l0.length / 2 = 0
  · have h8 : (2 * ((l0.length : Int) / 2)).toNat = ((l0.length : Int) / 2).toNat := by omega
    have h9 : ((l0.length : Int) / 2).toNat = 0 := by omega
    have H0 := Lib.hid h0
    have HR1 : Kd.C (Kd.int .i64) w A0 0 (l0.take 0) := Kd.C_take HR0.out (Nat.zero_le _)
    go_enter Try.func94, Try.ntmps94
    go_wp2_with fail
    go_still_tail 12, (by kernel_rfl)
    change wpList Try.prog _ _ _ _ (World.drew (w.alloc _))
    go_wp2
    refine bodyPost_ret (v := .agg #[.slice A0 0 0, .slice A0 0 0]) (by simp [results, Try.results94, go_sem]; done) rfl ?_
    have hb : Below w.heap.size w ((w.alloc (Obj.cells #[Value.slice A0 0 0, Value.slice A0 0 0] 75)).drew) := below_drew (below_alloc (Below.refl _ _) _)
    rw [h0]
    exact ⟨A0, A0, rfl, Kd.C_below HR1 hb, Kd.C_below HR1 hb, hb⟩
  · have h8 : ¬ (2 * ((l0.length : Int) / 2)).toNat = ((l0.length : Int) / 2).toNat := by omega
    have h9 : ((l0.length : Int) / 2).toNat = l0.length / 2 := by omega
    have h10 : (2 * ((l0.length : Int) / 2)).toNat = 2 * (l0.length / 2) := by omega
    have h11 : 2 * (l0.length / 2) - l0.length / 2 = l0.length / 2 := by omega
    have h12 : ¬ 2 * (l0.length / 2) = l0.length / 2 := by omega
    have hc1 : Kd.C (Kd.int .i64) w A0 (l0.length / 2) (l0.take (l0.length / 2)) := by
      have := Kd.C_take HR0.out (m := l0.length / 2) (by omega)
      rwa [List.length_take, Nat.min_eq_left (by omega)] at this
    have hc2 : Kd.C (Kd.int .i64) w (A0.map (fun x => x.add (l0.length / 2))) (l0.length / 2) ((l0.drop (l0.length / 2)).take (l0.length / 2)) := by
      have h1 := Kd.C_drop HR0.out (m := l0.length / 2) (c := l0.length) (by omega) (Nat.le_refl _)
      rw [if_neg (by omega)] at h1
      have h2 := Kd.C_take h1 (m := l0.length / 2) (by rw [List.length_drop]; omega)
      rw [List.length_take, List.length_drop, Nat.min_eq_left (by omega)] at h2
      rw [show (Kd.int .i64).sz = 1 from rfl, Nat.mul_one] at h2
      exact h2
    have HC1 := Aside0.mk hc1
    have HC2 := Aside0.mk hc2
    clear hc1 hc2
    go_enter Try.func94, Try.ntmps94
    go_wp2_with fail
    go_still_tail 12, (by kernel_rfl)
    change wpList Try.prog _ _ _ _ (World.drew (w.alloc _))
    go_wp2
    refine bodyPost_ret (v := .agg #[.slice A0 (l0.length / 2) (l0.length / 2), .slice (A0.map (fun x => x.add (l0.length / 2))) (l0.length / 2) (l0.length / 2)]) (by simp [results, Try.results94, go_sem]; done) rfl ?_
    have hb : ∀ o, Below w.heap.size w ((w.alloc o).drew) := fun o => below_drew (below_alloc (Below.refl _ _) _)
    exact ⟨_, _, rfl, Kd.C_below HC1.out (hb _), Kd.C_below HC2.out (hb _), hb _⟩

/-- One list laid into another: the first one's numbers first. -/
def riffle : List Int → List Int → List Int
  | x :: xs, y :: ys => x :: y :: riffle xs ys
  | _, _ => []
def foldL (kind : Int) (l : List Int) : List Int :=
  if kind = 1 then riffle ((l.drop (l.length / 2)).take (l.length / 2)) (l.take (l.length / 2)) else riffle (l.take (l.length / 2)) ((l.drop (l.length / 2)).take (l.length / 2))
theorem riffle_length : ∀ (xs ys : List Int), xs.length = ys.length → (riffle xs ys).length = 2 * xs.length
  | [], [], _ => rfl
  | x :: xs, y :: ys, h => by
    have := riffle_length xs ys (by simpa using h)
    simp only [riffle, List.length_cons, this]
    omega
  | [], y :: ys, h => by simp at h
  | x :: xs, [], h => by simp at h
theorem rd_nat (xs : List Int) (i : Nat) (h : i < xs.length) : rd xs (i : Int) = xs[i] := by
  unfold rd
  rw [Int.toNat_natCast, List.getD_eq_getElem?_getD, List.getElem?_eq_getElem h]
  rfl
theorem wrap_nat (i : Nat) (h : i < 9223372036854775807) : wrap64 ((i : Int) + 1) = ((i + 1 : Nat) : Int) := by
  unfold wrap64
  omega
theorem halves_out_l0 (xs ys : List Int) (he : xs.length = ys.length) (hs : 2 * xs.length < 17592186044416) : ∀ (d k i : Nat) (acc : List Int), i + d = xs.length → d < k → acc.length = 2 * i →
    knead_halves_out.l0 k acc xs (xs.length : Int) (i : Int) xs ys = some (acc ++ riffle (xs.drop i) (ys.drop i)) := by
  intro d
  induction d with
  | zero =>
    intro k i acc h1 h2 h3
    obtain ⟨k, rfl⟩ : ∃ m, k = m + 1 := ⟨k - 1, by omega⟩
    simp only [knead_halves_out.l0]
    rw [if_neg (by omega), List.drop_eq_nil_of_le (by omega)]
    simp [riffle]
  | succ d ih =>
    intro k i acc h1 h2 h3
    obtain ⟨k, rfl⟩ : ∃ m, k = m + 1 := ⟨k - 1, by omega⟩
    have hx : i < xs.length := by omega
    have hy : i < ys.length := by omega
    simp only [knead_halves_out.l0]
    rw [if_pos (by omega), if_pos (by omega), if_pos (by omega), if_pos (by omega)]
    simp only [Option.bind_some]
    rw [if_pos (by simp; omega), wrap_nat _ (by omega), rd_nat xs i hx, rd_nat ys i hy, ih k (i + 1) _ (by omega) (by omega) (by simp; omega),
      List.drop_eq_getElem_cons hx, List.drop_eq_getElem_cons hy]
    simp [riffle]
theorem halves_out_f (xs ys : List Int) (he : xs.length = ys.length) (hs : 2 * xs.length < 17592186044416) : knead_halves_out.f (xs.length + 1) xs ys = some (riffle xs ys) := by
  unfold knead_halves_out.f
  have := halves_out_l0 xs ys he hs xs.length (xs.length + 1) 0 [] (by omega) (by omega) rfl
  simpa using this

def knead_fold.f (l0 : List Int) (a1 : Int) : Option (List Int) := if l0.length < 17592186044416 then some (foldL a1 l0) else none

set_option maxHeartbeats 1000000 in
set_option maxRecDepth 100000 in
theorem knead_fold.calls (A0 : Option Addr) (c0 : Nat) (l0 : List Int) (a1 : Int) (r : List Int) (w : World) (hr0 : Kd.C (Kd.int .i64) w A0 l0.length l0) (hc0 : l0.length ≤ c0) (h : knead_fold.f l0 a1 = some r) :
    Calls Try.prog 79 #[.slice A0 l0.length c0, .int .i64 a1] w fun e w' => ∃ v0_ : Value, e = .returned (v0_) ∧ Kd.R (Kd.int .i64) 3 w' w.heap.size (fun _ => True) v0_ r ∧ Below w.heap.size w w' := by
  have hlt : l0.length < 17592186044416 := by
    unfold knead_fold.f at h
    split at h
    · assumption
    · cases h
  obtain rfl : foldL a1 l0 = r := by simpa [knead_fold.f, hlt] using h
  clear h
  have hl1 : (l0.take (l0.length / 2)).length = l0.length / 2 := by rw [List.length_take]; omega
  have hl2 : ((l0.drop (l0.length / 2)).take (l0.length / 2)).length = l0.length / 2 := by rw [List.length_take, List.length_drop]; omega
  have ho1 := halves_out_f (l0.take (l0.length / 2)) ((l0.drop (l0.length / 2)).take (l0.length / 2)) (by omega) (by omega)
  have ho2 := halves_out_f ((l0.drop (l0.length / 2)).take (l0.length / 2)) (l0.take (l0.length / 2)) (by omega) (by omega)
  have HC0 := cut_calls A0 c0 l0 w hr0 hc0
  unfold foldL
  generalize l0.take (l0.length / 2) = xs at *
  generalize (l0.drop (l0.length / 2)).take (l0.length / 2) = ys at *
  have HC : Calls Try.prog 94 #[.slice A0 l0.length c0] w fun e w' => ∃ A1 A2, e = .returned (.agg #[.slice A1 xs.length xs.length, .slice A2 ys.length ys.length]) ∧
      Kd.C (Kd.int .i64) w' A1 xs.length xs ∧ Kd.C (Kd.int .i64) w' A2 ys.length ys ∧ Below w.heap.size w w' := by
    rw [hl1, hl2]
    exact HC0
  have hi1 : knead_halves_in.f (ys.length + 1) xs ys = some (riffle ys xs) := by unfold knead_halves_in.f; rw [ho2]; rfl
  have H3 := Lib.hid ho1
  have H4 := Lib.hid hi1
  have H5 := Lib.hid HC
  clear hl1 hl2 ho1 ho2 hi1 HC HC0 hr0
  by_cases hk : a1 = 1
  · rw [if_pos hk]
    have hb : (a1 == 1) = true := beq_iff_eq.mpr hk
    clear hk
    go_enter Try.func79, Try.ntmps79
    go_wp2_with fail
    refine H5.out.mono ?_
    rintro e w1 ⟨A1, A2, rfl, hC1, hC2, hB⟩
    go_wp2_with fail
    refine (knead_halves_in.calls (ys.length + 1) A1 xs.length xs A2 ys.length ys (riffle ys xs) _ (Kd.C_alloc hC1 _) (Nat.le_refl _) (Kd.C_alloc hC2 _) (Nat.le_refl _) H4.out).mono ?_
    rintro e w2 ⟨v, rfl, hR, hB2⟩
    go_wp2
    go_ret
    exact ⟨_, rfl, Kd.R_lower hR (below_size (below_alloc hB _)), below_step (below_alloc hB _) hB2⟩
  · rw [if_neg hk]
    have hb : (a1 == 1) = false := beq_eq_false_iff_ne.mpr hk
    clear hk
    go_enter Try.func79, Try.ntmps79
    go_wp2_with fail
    refine H5.out.mono ?_
    rintro e w1 ⟨A1, A2, rfl, hC1, hC2, hB⟩
    go_wp2_with fail
    refine (knead_halves_out.calls (xs.length + 1) A1 xs.length xs A2 ys.length ys (riffle xs ys) _ (Kd.C_alloc hC1 _) (Nat.le_refl _) (Kd.C_alloc hC2 _) (Nat.le_refl _) H3.out).mono ?_
    rintro e w2 ⟨v, rfl, hR, hB2⟩
    go_wp2
    go_ret
    exact ⟨_, rfl, Kd.R_lower hR (below_size (below_alloc hB _)), below_step (below_alloc hB _) hB2⟩

end Go.Proofs.Ytgnklmhjejbcoaa.K

/- What slices.Grow of nil, slices.Concat of two slices and knead.unfold return, for all slices of fewer than 2^43 elements: a slice of the call's own; older memory stays as it was. -/
namespace Go.Proofs.Ytgnklmhjejbcoaa.K
open Go.RowKit Go.Proofs.YtgnklmhjejbcoaaW.PrintWords Go.Proofs.YtgnklmhjejbcoaaW.PrintLast Go.Proofs.YtgnklmhjejbcoaaW.PrintMore
set_option linter.unusedVariables false
set_option linter.unusedSimpArgs false

set_option maxHeartbeats 1000000 in
set_option maxRecDepth 100000 in
theorem grow_nil (a1 : Int) (w : World) (h0 : 0 ≤ a1) (h1 : a1 < 17592186044416) :
    Calls Try.prog 103 #[.slice none 0 0, .int .i64 a1] w fun e w' => ∃ v0_ : Value, e = .returned (v0_) ∧ Kd.R (Kd.int .i64) 3 w' w.heap.size (fun _ => True) v0_ [] ∧ Below w.heap.size w w' := by
  have hn : ¬ a1 < 0 := by omega
  have hB := Aside0.mk (Below.refl w.heap.size w)
  by_cases hz : 0 < a1
  · go_enter Try.func103, Try.ntmps103
    go_wp2_with (first | ((with_reducible refine gate_builtin (b := .append) (xs := #[.tmp 20, .tmp 21]) rfl ?_); at_builtin; refine Kd.R_append_zeros (Kd.int .i64) (w0 := w) w.heap.size rfl (.tmp 20) (.tmp 21) 22 3 3 (.int .i64 0) 8 rfl Try.underlying22 Try.underlying3 info3 rfl (by decide) (by omega) (.slice none 0 0) [] (0 : Int) a1 (fun _ => True) rfl rfl ?aZ (fun _ _ => trivial) (Kd.R_nil _ _ _ _ _) h0 hB.out (Nat.le_refl _) (by simp; omega) ?_; (case aZ => exact rfl); intro v1 w1 ho hb hg hat; have HO1 := Aside0.mk ho; have HB1 := Aside0.mk hb; clear ho hb hg hat; obtain ⟨Ao, co, eo⟩ := Kd.R_slice HO1.out; subst eo))
    go_ret
    have := Kd.R_take HO1.out (m := 0) (Nat.zero_le _)
    exact ⟨_, rfl, this, HB1.out⟩
  · go_enter Try.func103, Try.ntmps103
    go_wp2
    go_ret
    exact ⟨_, rfl, Kd.R_nil _ _ _ _ _, Below.refl _ _⟩

set_option maxHeartbeats 2000000 in
set_option maxRecDepth 100000 in
theorem concat2 (b c0 : Nat) (A1 : Option Addr) (c1 : Nat) (xs : List Int) (A2 : Option Addr) (c2 : Nat) (ys : List Int) (w : World)
    (hc0 : w.cell? ⟨b, 0, none⟩ = some (.slice A1 xs.length c1)) (hc1 : w.cell? ⟨b, 1, none⟩ = some (.slice A2 ys.length c2))
    (hr1 : Kd.C (Kd.int .i64) w A1 xs.length xs) (hr2 : Kd.C (Kd.int .i64) w A2 ys.length ys) (hl : xs.length + ys.length < 17592186044416) :
    Calls Try.prog 97 #[.slice (some ⟨b, 0, none⟩) 2 c0] w fun e w' => ∃ v0_ : Value, e = .returned (v0_) ∧ Kd.R (Kd.int .i64) 3 w' w.heap.size (fun _ => True) v0_ (xs ++ ys) ∧ Below w.heap.size w w' := by
  have hbl : b < w.heap.size := World.block_lt_of_cell? w _ hc0
  have HR1 := Aside0.mk hr1
  have HR2 := Aside0.mk hr2
  clear hr1 hr2
  go_enter Try.func97, Try.ntmps97
  go_wp2
  go_loop [3, 11] (fun s i => (i = .int .i64 0 ∧ s = .int .i64 0) ∨ (i = .int .i64 1 ∧ s = .int .i64 xs.length) ∨ (i = .int .i64 2 ∧ s = .int .i64 (xs.length + ys.length))) (fun _ i => 2 - (intOf i).toNat)
  case atStart => exact .inl ⟨rfl, rfl⟩
  case round =>
    rcases hrel with ⟨rfl, rfl⟩ | ⟨rfl, rfl⟩ | ⟨rfl, rfl⟩
    · go_wp2
      go_round
      case rel => exact .inr (.inl ⟨rfl, rfl⟩)
      case measure => simp [intOf]
    · have hn : ¬ ((xs.length : Int) + ys.length < 0) := by omega
      go_wp2
      go_round
      case rel => exact .inr (.inr ⟨rfl, rfl⟩)
      case measure => simp [intOf]
    · go_wp2_with fail
      refine (grow_nil (xs.length + ys.length) w (by omega) (by omega)).mono ?_
      rintro e w1 ⟨v, rfl, hR, hB⟩
      have HO := Aside0.mk hR
      have HB := Aside0.mk hB
      clear hR hB
      go_wp2
      go_loopw [6, 27] (fun v i wr => ∃ zs : List Int, Aside0 (Kd.R (Kd.int .i64) 3 wr w.heap.size (fun _ => True) v zs) ∧ Aside0 (Below w.heap.size w wr) ∧ ((i = .int .i64 0 ∧ zs = []) ∨ (i = .int .i64 1 ∧ zs = xs) ∨ (i = .int .i64 2 ∧ zs = xs ++ ys))) (fun _ i _ => 2 - (intOf i).toNat)
      case atStart => exact ⟨[], HO, HB, .inl ⟨rfl, rfl⟩⟩
      case round =>
        obtain ⟨zs, HOr, HBr, h⟩ := hrel
        have d0 : wr.cell? ⟨b, 0, none⟩ = some (.slice A1 xs.length c1) := (HBr.out.cell hbl).trans hc0
        have d1 : wr.cell? ⟨b, 1, none⟩ = some (.slice A2 ys.length c2) := (HBr.out.cell (p := ⟨b, 1, none⟩) hbl).trans hc1
        clear hc0 hc1
        rcases h with ⟨rfl, rfl⟩ | ⟨rfl, rfl⟩ | ⟨rfl, rfl⟩
        · go_wp2_with (first | ((with_reducible refine gate_builtin (b := .append) (xs := #[.tmp 31, .tmp 32]) rfl ?_); at_builtin; refine Kd.R_append_rows (Kd.int .i64) (w0 := w) w.heap.size rfl (.tmp 31) (.tmp 32) 22 3 (.int .i64 0) 8 rfl Try.underlying22 info3 rfl (by decide) (by omega) u6 [] xs _ _ _ (fun _ => True) (fun _ => False) rfl rfl HOr.out (Kd.C_below HR1.out HBr.out) (fun _ _ h => h) (fun _ h => h.elim) (fun _ _ => trivial) HBr.out (below_size HBr.out) (by first | omega | (simp; omega)) ?_; intro v2 w2 ho hb hg hat; have HO2 := Aside0.mk ho; have HB2 := Aside0.mk hb; clear ho hb hg hat))
          go_roundw
          case rel => exact ⟨_, HO2, HB2, .inr (.inl ⟨rfl, rfl⟩)⟩
          case measure => simp [intOf]
        · go_wp2_with (first | ((with_reducible refine gate_builtin (b := .append) (xs := #[.tmp 31, .tmp 32]) rfl ?_); at_builtin; refine Kd.R_append_rows (Kd.int .i64) (w0 := w) w.heap.size rfl (.tmp 31) (.tmp 32) 22 3 (.int .i64 0) 8 rfl Try.underlying22 info3 rfl (by decide) (by omega) u6 zs ys _ _ _ (fun _ => True) (fun _ => False) rfl rfl HOr.out (Kd.C_below HR2.out HBr.out) (fun _ _ h => h) (fun _ h => h.elim) (fun _ _ => trivial) HBr.out (below_size HBr.out) (by first | omega | (simp; omega)) ?_; intro v2 w2 ho hb hg hat; have HO2 := Aside0.mk ho; have HB2 := Aside0.mk hb; clear ho hb hg hat))
          go_roundw
          case rel => exact ⟨_, HO2, HB2, .inr (.inr ⟨rfl, rfl⟩)⟩
          case measure => simp [intOf]
        · go_wp2
          go_ret
          exact ⟨_, rfl, HOr.out, HBr.out⟩

/-- Every other number of a list, from the first (0) or the second (1) one on. -/
def pickP : Nat → List Int → List Int
  | _, [] => []
  | 0, x :: xs => x :: pickP 1 xs
  | _ + 1, _ :: xs => pickP 0 xs
theorem pickP_snoc (x : Int) : ∀ (l : List Int) (p : Nat), p ≤ 1 → pickP p (l ++ [x]) = if (p + l.length) % 2 = 0 then pickP p l ++ [x] else pickP p l
  | [], 0, _ => by simp [pickP]
  | [], 1, _ => by simp [pickP]
  | y :: l, 0, _ => by
    have h := pickP_snoc x l 1 (by omega)
    simp only [List.cons_append, pickP, h, List.length_cons]
    by_cases c : (1 + l.length) % 2 = 0
    · rw [if_pos c, if_pos (by omega)]
    · rw [if_neg c, if_neg (by omega)]
  | y :: l, 1, _ => by
    have h := pickP_snoc x l 0 (by omega)
    simp only [List.cons_append, pickP, h, List.length_cons]
    by_cases c : (0 + l.length) % 2 = 0
    · rw [if_pos c, if_pos (by omega)]
    · rw [if_neg c, if_neg (by omega)]
  | _, n + 2, h => by omega
theorem pickP_le (l : List Int) : ∀ p, (pickP p l).length ≤ l.length := by
  induction l with
  | nil => intro p; simp [pickP]
  | cons x l ih =>
    intro p
    cases p with
    | zero => simp only [pickP, List.length_cons]; have := ih 1; omega
    | succ p => simp only [pickP, List.length_cons]; have := ih 0; omega
theorem pickP_take (l : List Int) (i p : Nat) (hi : i < l.length) (hp : p ≤ 1) : pickP p (l.take (i + 1)) = if (p + i) % 2 = 0 then pickP p (l.take i) ++ [l[i]] else pickP p (l.take i) := by
  rw [List.take_succ_eq_append_getElem hi, pickP_snoc _ _ _ hp, List.length_take, Nat.min_eq_left (by omega)]

/-- Two rows of the call's own, held by a variable of two cells. -/
structure Parts (w wr : World) (B : Nat) (v0 v1 : Value) (xs ys : List Int) : Prop where
  blk : wr.heap[B]? = some (.cells #[v0, v1] 78 (0, 0))
  hB : w.heap.size ≤ B
  r0 : Kd.R (Kd.int .i64) 3 wr w.heap.size (fun k => k ≠ B ∧ some k ≠ v1.ownBlock) v0 xs
  r1 : Kd.R (Kd.int .i64) 3 wr w.heap.size (fun k => k ≠ B ∧ some k ≠ v0.ownBlock) v1 ys
  below : Below w.heap.size w wr
theorem Parts.fresh0 {w wr : World} {B : Nat} {v0 v1 : Value} {xs ys : List Int} (h : Parts w wr B v0 v1 xs ys) : ∀ k, wr.heap.size ≤ k → k ≠ B ∧ some k ≠ v1.ownBlock := fun k hk => ⟨fun e => by have := blk_lt h.blk; omega, fun e => by have := Kd.R_lt h.r1 k e.symm; omega⟩
theorem Parts.fresh1 {w wr : World} {B : Nat} {v0 v1 : Value} {xs ys : List Int} (h : Parts w wr B v0 v1 xs ys) : ∀ k, wr.heap.size ≤ k → k ≠ B ∧ some k ≠ v0.ownBlock := fun k hk => ⟨fun e => by have := blk_lt h.blk; omega, fun e => by have := Kd.R_lt h.r0 k e.symm; omega⟩
theorem Parts.ne0 {w wr : World} {B : Nat} {v0 v1 : Value} {xs ys : List Int} (h : Parts w wr B v0 v1 xs ys) : some B ≠ v0.ownBlock := Kd.R_away h.r0 (fun _ hk => hk.1)
theorem Parts.ne1 {w wr : World} {B : Nat} {v0 v1 : Value} {xs ys : List Int} (h : Parts w wr B v0 v1 xs ys) : some B ≠ v1.ownBlock := Kd.R_away h.r1 (fun _ hk => hk.1)
theorem Parts.grown0 {w wr w1 : World} {B : Nat} {v0 v1 : Value} {xs ys : List Int} (h : Parts w wr B v0 v1 xs ys) (hg : wr.grownBy w1 v0.ownBlock) : w1.heap[B]? = some (.cells #[v0, v1] 78 (0, 0)) := blk_grown h.blk hg h.ne0
theorem Parts.grown1 {w wr w1 : World} {B : Nat} {v0 v1 : Value} {xs ys : List Int} (h : Parts w wr B v0 v1 xs ys) (hg : wr.grownBy w1 v1.ownBlock) : w1.heap[B]? = some (.cells #[v0, v1] 78 (0, 0)) := blk_grown h.blk hg h.ne1
theorem Parts.step0 {w wr w1 : World} {B : Nat} {v0 v1 u : Value} {xs ys zs : List Int} (h : Parts w wr B v0 v1 xs ys) (ho : Kd.R (Kd.int .i64) 3 w1 w.heap.size (fun k => k ≠ B ∧ some k ≠ v1.ownBlock) u zs)
    (hb : Below w.heap.size w w1) (hg : wr.grownBy w1 v0.ownBlock) (hat : u.ownBlock = v0.ownBlock ∨ ∃ b, u.ownBlock = some b ∧ wr.heap.size ≤ b) : Parts w (w1.setCell ⟨B, 0, none⟩ u) B u v1 zs ys where
  blk := blk_put (h.grown0 hg) 0 u rfl
  hB := h.hB
  r0 := Kd.R_far (p := ⟨B, 0, none⟩) ho (fun _ hk => hk.1) u
  r1 := Kd.R_far (p := ⟨B, 0, none⟩) (Kd.R_after (ok := fun k => k ≠ B) h.r1 hg hat) (fun _ hk => hk.1) u
  below := hb.setCell (p := ⟨B, 0, none⟩) h.hB _
theorem Parts.step1 {w wr w1 : World} {B : Nat} {v0 v1 u : Value} {xs ys zs : List Int} (h : Parts w wr B v0 v1 xs ys) (ho : Kd.R (Kd.int .i64) 3 w1 w.heap.size (fun k => k ≠ B ∧ some k ≠ v0.ownBlock) u zs)
    (hb : Below w.heap.size w w1) (hg : wr.grownBy w1 v1.ownBlock) (hat : u.ownBlock = v1.ownBlock ∨ ∃ b, u.ownBlock = some b ∧ wr.heap.size ≤ b) : Parts w (w1.setCell ⟨B, 1, none⟩ u) B v0 u xs zs where
  blk := blk_put (h.grown1 hg) 1 u rfl
  hB := h.hB
  r0 := Kd.R_far (p := ⟨B, 1, none⟩) (Kd.R_after (ok := fun k => k ≠ B) h.r0 hg hat) (fun _ hk => hk.1) u
  r1 := Kd.R_far (p := ⟨B, 1, none⟩) ho (fun _ hk => hk.1) u
  below := hb.setCell (p := ⟨B, 1, none⟩) h.hB _

def unfoldL (kind : Int) (l : List Int) : List Int := if kind = 1 then pickP 1 l ++ pickP 0 l else pickP 0 l ++ pickP 1 l
def knead_unfold.f (l0 : List Int) (a1 : Int) : Option (List Int) := if l0.length < 8796093022208 ∧ (a1 = 0 ∨ a1 = 1) then some (unfoldL a1 l0) else none

set_option maxHeartbeats 4000000 in
set_option maxRecDepth 100000 in
theorem knead_unfold.calls (A0 : Option Addr) (c0 : Nat) (l0 : List Int) (a1 : Int) (r : List Int) (w : World) (hr0 : Kd.C (Kd.int .i64) w A0 l0.length l0) (hc0 : l0.length ≤ c0) (h : knead_unfold.f l0 a1 = some r) :
    Calls Try.prog 80 #[.slice A0 l0.length c0, .int .i64 a1] w fun e w' => ∃ v0_ : Value, e = .returned (v0_) ∧ Kd.R (Kd.int .i64) 3 w' w.heap.size (fun _ => True) v0_ r ∧ Below w.heap.size w w' := by
  have hlt : l0.length < 8796093022208 ∧ (a1 = 0 ∨ a1 = 1) := by
    unfold knead_unfold.f at h
    split at h
    · assumption
    · cases h
  obtain rfl : unfoldL a1 l0 = r := by simpa [knead_unfold.f, hlt] using h
  clear h
  obtain ⟨hlt, hk⟩ := hlt
  have HR0 := Aside0.mk hr0
  clear hr0
  obtain ⟨q, hq, hq1⟩ : ∃ q : Nat, (q : Int) = a1 ∧ q ≤ 1 := ⟨a1.toNat, by omega, by omega⟩
  have hu : unfoldL a1 l0 = pickP q l0 ++ pickP (1 - q) l0 := by
    unfold unfoldL
    rcases hk with rfl | rfl
    · obtain rfl : q = 0 := by omega
      rfl
    · obtain rfl : q = 1 := by omega
      rfl
  rw [hu]
  subst hq
  clear hu hk
  go_enter Try.func80, Try.ntmps80
  go_wp2
  go_loopw [10] (fun i wr => ∃ (n : Nat) (v0 v1 : Value), n ≤ l0.length ∧ i = .int .i64 n ∧ Aside0 (Parts w wr w.heap.size v0 v1 (pickP q (l0.take n)) (pickP (1 - q) (l0.take n)))) (fun i _ => l0.length - (intOf i).toNat)
  case atStart => exact ⟨0, .slice none 0 0, .slice none 0 0, Nat.zero_le _, rfl, ⟨by simpa using heap_alloc_new w _, Nat.le_refl _, by simpa [pickP] using Kd.R_nil _ _ _ _ _, by simpa [pickP] using Kd.R_nil _ _ _ _ _, (Below.refl _ _).alloc (Nat.le_refl _) _⟩⟩
  case round =>
    obtain ⟨n, v0, v1, hn, rfl, HP⟩ := hrel
    have b0 := blk_cell HP.out.blk 0
    have b1 := blk_cell HP.out.blk 1
    have hq0 : (0 : Int) ≤ (n : Int) + (q : Int) := by omega
    have hq2 : (n : Int) + (q : Int) ≤ 9223372036854775807 := by omega
    have hl0 := pickP_le (l0.take n) q
    have hl1 := pickP_le (l0.take n) (1 - q)
    have hlt2 : (l0.take n).length ≤ n := List.length_take_le _ _
    have HL0 := Aside0.mk (show (pickP q (l0.take n)).length ≤ n by omega)
    have HL1 := Aside0.mk (show (pickP (1 - q) (l0.take n)).length ≤ n by omega)
    clear hl0 hl1 hlt2
    by_cases hlt3 : n < l0.length
    · obtain ⟨ad, e, hx⟩ := Kd.at_int (Kd.C_below HR0.out HP.out.below) (n : Int) (by omega) (by omega)
      have HT0 := Aside0.mk (pickP_take l0 n q hlt3 hq1)
      have HT1 := Aside0.mk (pickP_take l0 n (1 - q) hlt3 (by omega))
      have HX := Aside0.mk (rd_nat l0 n hlt3)
      cases e
      rw [Int.toNat_natCast] at hx
      obtain ⟨A3, c3, e3⟩ := Kd.R_slice HP.out.r0
      obtain ⟨A4, c4, e4⟩ := Kd.R_slice HP.out.r1
      subst e3
      subst e4
      by_cases hc : (q + n) % 2 = 0
      · have hm : ((n : Int) + (q : Int)) % 2 = 0 := by omega
        have HT2 : Aside0 (pickP q (l0.take (n + 1)) = pickP q (l0.take n) ++ [rd l0 (n : Int)] ∧ pickP (1 - q) (l0.take (n + 1)) = pickP (1 - q) (l0.take n)) := ⟨by rw [HT0.out, if_pos hc, HX.out], by rw [HT1.out, if_neg (by omega)]⟩
        clear hc
        go_wp2_with (first | ((with_reducible refine gate_builtin (b := .append) (xs := #[.tmp 24, .tmp 26]) rfl ?_); at_builtin; refine Kd.R_append (Kd.int .i64) (w0 := w) w.heap.size rfl (.tmp 24) (.tmp 26) 22 3 (.int .i64 0) 8 rfl Try.underlying22 info3 rfl (by decide) (by omega) _ _ (rd l0 (n : Int)) [.int .i64 (rd l0 (n : Int))] _ (fun _ => False) rfl rfl rfl (fun _ hk => hk.elim) HP.out.fresh0 HP.out.r0 HP.out.below (below_size HP.out.below) (by have := HL0.out; omega) ?_; intro v2 w2 ho hb hg hat; have HP2 := Aside0.mk (HP.out.step0 ho hb hg hat); have e0 := blk_cell (HP.out.grown0 hg) 0; have e1 := blk_frozen (HP.out.grown0 hg) 0; obtain ⟨Ao, co, eo⟩ := Kd.R_slice ho; subst eo; clear ho hb hg hat))
        go_roundw
        case rel => exact ⟨n + 1, _, _, by omega, by go_num, by rw [HT2.out.1, HT2.out.2]; have h3 := HP2; simp only [List.length_append, List.length_singleton] at h3; exact h3⟩
        case measure => simp [intOf]; omega
      · have hm : ((n : Int) + (q : Int)) % 2 = 1 := by omega
        have HT2 : Aside0 (pickP q (l0.take (n + 1)) = pickP q (l0.take n) ∧ pickP (1 - q) (l0.take (n + 1)) = pickP (1 - q) (l0.take n) ++ [rd l0 (n : Int)]) := ⟨by rw [HT0.out, if_neg hc], by rw [HT1.out, if_pos (by omega), HX.out]⟩
        clear hc
        go_wp2_with (first | ((with_reducible refine gate_builtin (b := .append) (xs := #[.tmp 24, .tmp 26]) rfl ?_); at_builtin; refine Kd.R_append (Kd.int .i64) (w0 := w) w.heap.size rfl (.tmp 24) (.tmp 26) 22 3 (.int .i64 0) 8 rfl Try.underlying22 info3 rfl (by decide) (by omega) _ _ (rd l0 (n : Int)) [.int .i64 (rd l0 (n : Int))] _ (fun _ => False) rfl rfl rfl (fun _ hk => hk.elim) HP.out.fresh1 HP.out.r1 HP.out.below (below_size HP.out.below) (by have := HL1.out; omega) ?_; intro v2 w2 ho hb hg hat; have HP2 := Aside0.mk (HP.out.step1 ho hb hg hat); have e0 := blk_cell (HP.out.grown1 hg) 1; have e1 := blk_frozen (HP.out.grown1 hg) 1; obtain ⟨Ao, co, eo⟩ := Kd.R_slice ho; subst eo; clear ho hb hg hat))
        go_roundw
        case rel => exact ⟨n + 1, _, _, by omega, by go_num, by rw [HT2.out.1, HT2.out.2]; have h3 := HP2; simp only [List.length_append, List.length_singleton] at h3; exact h3⟩
        case measure => simp [intOf]; omega
    · obtain rfl : n = l0.length := by omega
      rw [List.take_length] at HP
      obtain ⟨A3, c3, e3⟩ := Kd.R_slice HP.out.r0
      obtain ⟨A4, c4, e4⟩ := Kd.R_slice HP.out.r1
      subst e3
      subst e4
      clear hn hlt3
      go_wp2_with fail
      have n0 := blk_new wr (Obj.cells #[Value.slice A3 (pickP q l0).length c3, Value.slice A4 (pickP (1 - q) l0).length c4] 22)
      have hle := pickP_le l0 q
      have hle1 := pickP_le l0 (1 - q)
      refine (concat2 wr.heap.size 2 A3 c3 (pickP q l0) A4 c4 (pickP (1 - q) l0) _ (blk_cell n0 0) (blk_cell n0 1) (Kd.C_alloc (Kd.R_reads' HP.out.r0).2.2 _) (Kd.C_alloc (Kd.R_reads' HP.out.r1).2.2 _) (by omega)).mono ?_
      rintro e w2 ⟨v, rfl, hR, hB2⟩
      clear n0 hle hle1 b0 b1
      go_wp2
      go_ret
      exact ⟨_, rfl, Kd.R_lower hR (below_size (below_alloc HP.out.below _)), below_step (below_alloc HP.out.below _) hB2⟩
end Go.Proofs.Ytgnklmhjejbcoaa.K

/- Plain facts on lists and places: what a fold, a word and their undoing do to each place, for all lists of an even length. -/
namespace Go.Proofs.Ytgnklmhjejbcoaa.K
set_option linter.unusedVariables false

theorem ext_getD {xs ys : List Int} (hl : xs.length = ys.length) (h : ∀ i, i < xs.length → xs.getD i 0 = ys.getD i 0) : xs = ys := by
  apply List.ext_getElem hl
  intro i h1 h2
  have := h i h1
  rw [List.getD_eq_getElem?_getD, List.getD_eq_getElem?_getD, List.getElem?_eq_getElem h1, List.getElem?_eq_getElem h2] at this
  exact this

def stepN (n p k : Nat) : Nat := if p < n / 2 then 2 * p + k else 2 * (p - n / 2) + 1 - k
def unstepN (n q k : Nat) : Nat := if (q + k) % 2 = 0 then q / 2 else q / 2 + n / 2
section
variable {n p q k : Nat}
theorem step_lt (hn : n % 2 = 0) (hk : k ≤ 1) (hp : p < n) : stepN n p k < n := by unfold stepN; split <;> omega
theorem unstep_lt (hn : n % 2 = 0) (hq : q < n) : unstepN n q k < n := by unfold unstepN; split <;> omega
theorem step_unstep (hn : n % 2 = 0) (hk : k ≤ 1) (hq : q < n) : stepN n (unstepN n q k) k = q := by
  unfold unstepN
  split
  · rw [stepN, if_pos (by omega)]; omega
  · rw [stepN, if_neg (by omega)]; omega
theorem unstep_step (hn : n % 2 = 0) (hk : k ≤ 1) (hp : p < n) : unstepN n (stepN n p k) k = p := by
  unfold stepN
  split
  · rw [unstepN, if_pos (by omega)]; omega
  · rw [unstepN, if_neg (by omega)]; omega
end

theorem riffle_getD : ∀ (xs ys : List Int), xs.length = ys.length → ∀ q, (riffle xs ys).getD q 0 = if q % 2 = 0 then xs.getD (q / 2) 0 else ys.getD (q / 2) 0
  | [], [], _, q => by simp [riffle]
  | x :: xs, y :: ys, h, 0 => by simp [riffle]
  | x :: xs, y :: ys, h, 1 => by simp [riffle]
  | x :: xs, y :: ys, h, q + 2 => by
    have := riffle_getD xs ys (by simpa using h) q
    simp only [riffle, List.getD_cons_succ, this, show (q + 2) % 2 = q % 2 by omega, show (q + 2) / 2 = q / 2 + 1 by omega]
  | [], y :: ys, h, _ => by simp at h
  | x :: xs, [], h, _ => by simp at h
theorem pickP_getD : ∀ (l : List Int) (p i : Nat), p ≤ 1 → (pickP p l).getD i 0 = l.getD (2 * i + p) 0
  | [], p, i, _ => by simp [pickP]
  | x :: l, 0, 0, _ => by simp [pickP]
  | x :: l, 0, i + 1, _ => by
    have := pickP_getD l 1 i (by omega)
    simp only [pickP, List.getD_cons_succ, this, show 2 * (i + 1) + 0 = (2 * i + 1) + 1 by omega]
  | x :: l, 1, i, _ => by
    have := pickP_getD l 0 i (by omega)
    simp only [pickP, this, show 2 * i + 1 = (2 * i + 0) + 1 by omega, List.getD_cons_succ]
    rfl
  | _, n + 2, _, h => by omega
theorem pickP_length : ∀ (l : List Int) (p : Nat), p ≤ 1 → (pickP p l).length = (l.length + 1 - p) / 2
  | [], 0, _ => by simp [pickP]
  | [], 1, _ => by simp [pickP]
  | x :: l, 0, _ => by
    have := pickP_length l 1 (by omega)
    simp only [pickP, List.length_cons, this]
    omega
  | x :: l, 1, _ => by
    have := pickP_length l 0 (by omega)
    simp only [pickP, List.length_cons, this]
    omega
  | _, n + 2, h => by omega

theorem foldL_length (k : Int) (l : List Int) (h : l.length % 2 = 0) : (foldL k l).length = l.length := by
  unfold foldL
  split
  · rw [riffle_length _ _ (by simp; omega)]; simp; omega
  · rw [riffle_length _ _ (by simp; omega)]; simp; omega
theorem getD_take (l : List Int) (m i : Nat) (h : i < m) : (l.take m).getD i 0 = l.getD i 0 := by
  rw [List.getD_eq_getElem?_getD, List.getD_eq_getElem?_getD, List.getElem?_take, if_pos h]
theorem getD_drop (l : List Int) (m i : Nat) : (l.drop m).getD i 0 = l.getD (m + i) 0 := by
  rw [List.getD_eq_getElem?_getD, List.getD_eq_getElem?_getD, List.getElem?_drop]
theorem foldL_getD (l : List Int) (k q : Nat) (h : l.length % 2 = 0) (hk : k ≤ 1) (hq : q < l.length) : (foldL (k : Int) l).getD q 0 = l.getD (unstepN l.length q k) 0 := by
  unfold foldL unstepN
  split
  · rw [riffle_getD _ _ (by simp; omega), getD_take _ _ _ (by omega), getD_take _ _ _ (by omega), getD_drop]
    obtain rfl : k = 1 := by omega
    by_cases c : q % 2 = 0
    · rw [if_pos c, if_neg (by omega), Nat.add_comm]
    · rw [if_neg c, if_pos (by omega)]
  · rw [riffle_getD _ _ (by simp; omega), getD_take _ _ _ (by omega), getD_take _ _ _ (by omega), getD_drop]
    obtain rfl : k = 0 := by omega
    by_cases c : q % 2 = 0
    · rw [if_pos c, if_pos (by omega)]
    · rw [if_neg c, if_neg (by omega), Nat.add_comm]
theorem getD_append (xs ys : List Int) (i : Nat) : (xs ++ ys).getD i 0 = if i < xs.length then xs.getD i 0 else ys.getD (i - xs.length) 0 := by
  rw [List.getD_eq_getElem?_getD, List.getElem?_append]
  split <;> simp [List.getD_eq_getElem?_getD]
theorem unfoldL_length (k : Int) (l : List Int) : (unfoldL k l).length = l.length := by
  have h0 := pickP_length l 0 (by omega)
  have h1 := pickP_length l 1 (by omega)
  unfold unfoldL
  split <;> rw [List.length_append] <;> omega
theorem unfoldL_getD (l : List Int) (k p : Nat) (h : l.length % 2 = 0) (hk : k ≤ 1) (hp : p < l.length) : (unfoldL (k : Int) l).getD p 0 = l.getD (stepN l.length p k) 0 := by
  have h0 := pickP_length l 0 (by omega)
  have h1 := pickP_length l 1 (by omega)
  unfold unfoldL stepN
  split
  · obtain rfl : k = 1 := by omega
    rw [getD_append, h1, pickP_getD _ _ _ (by omega), pickP_getD _ _ _ (by omega)]
    by_cases c : p < l.length / 2
    · rw [if_pos c, if_pos (by omega)]
    · rw [if_neg c, if_neg (by omega)]; congr 1 <;> omega
  · obtain rfl : k = 0 := by omega
    rw [getD_append, h0, pickP_getD _ _ _ (by omega), pickP_getD _ _ _ (by omega)]
    by_cases c : p < l.length / 2
    · rw [if_pos c, if_pos (by omega)]
    · rw [if_neg c, if_neg (by omega)]; congr 1 <;> omega

/-! ### words -/
def Kinds (w : List Int) : Prop := ∀ k ∈ w, k = 0 ∨ k = 1
def alongN (n : Nat) (w : List Int) (p : Nat) : Nat := w.foldl (fun p k => stepN n p k.toNat) p
def backN (n : Nat) (w : List Int) (q : Nat) : Nat := w.foldr (fun k q => unstepN n q k.toNat) q
def foldsL (w l : List Int) : List Int := w.foldl (fun l k => foldL k l) l
def unfoldsL (w l : List Int) : List Int := w.foldr (fun k l => unfoldL k l) l
theorem Kinds.tail {k : Int} {w : List Int} (h : Kinds (k :: w)) : Kinds w := fun x hx => h x (List.mem_cons_of_mem _ hx)
theorem Kinds.head {k : Int} {w : List Int} (h : Kinds (k :: w)) : k.toNat ≤ 1 ∧ (k.toNat : Int) = k := by
  rcases h k List.mem_cons_self with rfl | rfl <;> simp
theorem along_cons (n : Nat) (k : Int) (w : List Int) (p : Nat) : alongN n (k :: w) p = alongN n w (stepN n p k.toNat) := rfl
theorem back_cons (n : Nat) (k : Int) (w : List Int) (q : Nat) : backN n (k :: w) q = unstepN n (backN n w q) k.toNat := rfl
theorem folds_cons (k : Int) (w l : List Int) : foldsL (k :: w) l = foldsL w (foldL k l) := rfl
theorem unfolds_cons (k : Int) (w l : List Int) : unfoldsL (k :: w) l = unfoldL k (unfoldsL w l) := rfl
theorem along_lt {n : Nat} (hn : n % 2 = 0) : ∀ (w : List Int) (p : Nat), Kinds w → p < n → alongN n w p < n
  | [], _, _, hp => hp
  | k :: w, p, hw, hp => along_lt hn w _ hw.tail (step_lt hn hw.head.1 hp)
theorem back_lt {n : Nat} (hn : n % 2 = 0) : ∀ (w : List Int) (q : Nat), q < n → backN n w q < n
  | [], _, hp => hp
  | k :: w, q, hq => unstep_lt hn (back_lt hn w q hq)
theorem along_back {n : Nat} (hn : n % 2 = 0) : ∀ (w : List Int) (q : Nat), Kinds w → q < n → alongN n w (backN n w q) = q
  | [], _, _, _ => rfl
  | k :: w, q, hw, hq => by rw [back_cons, along_cons, step_unstep hn hw.head.1 (back_lt hn w q hq), along_back hn w q hw.tail hq]
theorem back_along {n : Nat} (hn : n % 2 = 0) : ∀ (w : List Int) (p : Nat), Kinds w → p < n → backN n w (alongN n w p) = p
  | [], _, _, _ => rfl
  | k :: w, p, hw, hp => by rw [back_cons, along_cons, back_along hn w _ hw.tail (step_lt hn hw.head.1 hp), unstep_step hn hw.head.1 hp]
theorem folds_length : ∀ (w l : List Int), l.length % 2 = 0 → (foldsL w l).length = l.length
  | [], _, _ => rfl
  | k :: w, l, h => by rw [folds_cons, folds_length w _ (by rw [foldL_length _ _ h]; exact h), foldL_length _ _ h]
theorem unfolds_length : ∀ (w l : List Int), (unfoldsL w l).length = l.length
  | [], _ => rfl
  | k :: w, l => by rw [unfolds_cons, unfoldL_length, unfolds_length w l]
theorem folds_getD : ∀ (w l : List Int) (p : Nat), Kinds w → l.length % 2 = 0 → p < l.length → (foldsL w l).getD (alongN l.length w p) 0 = l.getD p 0
  | [], _, _, _, _, _ => rfl
  | k :: w, l, p, hw, h, hp => by
    have e := foldL_length k l h
    have h1 := folds_getD w (foldL k l) (stepN l.length p k.toNat) hw.tail (by rw [e]; exact h) (by rw [e]; exact step_lt h hw.head.1 hp)
    rw [e] at h1
    have h2 := foldL_getD l k.toNat (stepN l.length p k.toNat) h hw.head.1 (step_lt h hw.head.1 hp)
    rw [hw.head.2] at h2
    rw [folds_cons, along_cons, h1, h2, unstep_step h hw.head.1 hp]
theorem unfolds_getD : ∀ (w l : List Int) (p : Nat), Kinds w → l.length % 2 = 0 → p < l.length → (unfoldsL w l).getD p 0 = l.getD (alongN l.length w p) 0
  | [], _, _, _, _, _ => rfl
  | k :: w, l, p, hw, h, hp => by
    have e := unfolds_length w l
    have h1 := unfoldL_getD (unfoldsL w l) k.toNat p (by rw [e]; exact h) hw.head.1 (by rw [e]; exact hp)
    rw [hw.head.2, e] at h1
    rw [unfolds_cons, h1, unfolds_getD w l _ hw.tail h (step_lt h hw.head.1 hp), along_cons]
/-- Whatever has each lump where its place goes is the folded dough. -/
theorem folds_eq {w l r : List Int} (hw : Kinds w) (h : l.length % 2 = 0) (hr : r.length = l.length) (hp : ∀ p, p < l.length → r.getD (alongN l.length w p) 0 = l.getD p 0) : r = foldsL w l := by
  refine ext_getD (by rw [hr, folds_length w l h]) fun q hq => ?_
  rw [hr] at hq
  have h1 := hp _ (back_lt h w q hq)
  have h2 := folds_getD w l _ hw h (back_lt h w q hq)
  rw [along_back h w q hw hq] at h1 h2
  rw [h1, h2]
theorem unfolds_eq {w l r : List Int} (hw : Kinds w) (h : l.length % 2 = 0) (hr : r.length = l.length) (hp : ∀ p, p < l.length → r.getD p 0 = l.getD (alongN l.length w p) 0) : r = unfoldsL w l := by
  refine ext_getD (by rw [hr, unfolds_length w l]) fun q hq => ?_
  rw [hr] at hq
  rw [hp q hq, unfolds_getD w l q hw h hq]
theorem unfolds_folds {w l : List Int} (hw : Kinds w) (h : l.length % 2 = 0) : unfoldsL w (foldsL w l) = l := by
  have e := folds_length w l h
  refine ext_getD (by rw [unfolds_length, e]) fun q hq => ?_
  rw [unfolds_length, e] at hq
  rw [unfolds_getD w _ q hw (by rw [e]; exact h) (by rw [e]; exact hq), e, folds_getD w l q hw h hq]
theorem kinds_one {k : Int} (h : k = 0 ∨ k = 1) : Kinds [k] := fun x hx => by simp at hx; subst hx; exact h
end Go.Proofs.Ytgnklmhjejbcoaa.K

/- DERIVED by wip/pr.py: for each Go function named below a Lean function with the same answers, and that a call of it comes to these answers, for all arguments and memories, where the Lean function has an answer. -/
namespace Go.Proofs.Ytgnklmhjejbcoaa.K
open Go.RowKit Go.Proofs.YtgnklmhjejbcoaaW.PrintWords Go.Proofs.YtgnklmhjejbcoaaW.PrintLast Go.Proofs.YtgnklmhjejbcoaaW.PrintMore
attribute [local go_sem] max2_int min2_int max_two min_two max_three min_three max_four min_four   -- for this text's walks alone
set_option linter.unusedVariables false
set_option linter.unusedSimpArgs false

/-! ### verditerlaw07_Long: function 38 -/
def verditerlaw07_Long.f (l0 : List Int) : Option (Bool) := some (decide ((l0.length : Int) > 100))
set_option maxHeartbeats 8000000 in
set_option maxRecDepth 100000 in
theorem verditerlaw07_Long.calls (A0 : Option Addr) (c0 : Nat) (l0 : List Int) (r : Bool) (w : World) (hr0 : Kd.C (Kd.int .i64) w A0 l0.length l0) (hc0 : l0.length ≤ c0) (h : verditerlaw07_Long.f l0 = some r) :
    Calls Try.prog 38 #[.slice A0 l0.length c0] w fun e w' => e = .returned (.bool r) ∧ Drawn0 w w' := by
  have HR0 := Aside0.mk hr0
  have HC0 := Aside0.mk hc0
  clear hr0 hc0
  have H : (some (decide ((l0.length : Int) > 100))) = some r := h
  clear h
  obtain rfl := Option.some.inj H
  go_enter Try.func38, Try.ntmps38
  go_wp2
  go_ret
  exact ⟨by first | rfl | (simp; done) | (simp [*]; done), by repeat (first | exact Drawn0.refl _ | apply Drawn0.step)⟩

end Go.Proofs.Ytgnklmhjejbcoaa.K

/- DERIVED by wip/pr.py: for each Go function named below a Lean function with the same answers, and that a call of it comes to these answers, for all arguments and memories, where the Lean function has an answer. -/
namespace Go.Proofs.Ytgnklmhjejbcoaa.K
open Go.RowKit Go.Proofs.YtgnklmhjejbcoaaW.PrintWords Go.Proofs.YtgnklmhjejbcoaaW.PrintLast Go.Proofs.YtgnklmhjejbcoaaW.PrintMore
attribute [local go_sem] max2_int min2_int max_two min_two max_three min_three max_four min_four   -- for this text's walks alone
set_option linter.unusedVariables false
set_option linter.unusedSimpArgs false

/-! ### knead_fresh: function 69 -/
def knead_fresh.l0 : Nat → List Int → Int → Int → Option (List Int)
  | 0, _, _, _ => none
  | k + 1, x3, x5, x6 => if x6 < x5 then (if x3.length < 17592186044416 then (knead_fresh.l0 k (x3 ++ [x6]) x5 (wrap64 (x6 + 1))) else (none)) else (some x3)
def knead_fresh.f (k : Nat) (a0 : Int) : Option (List Int) := knead_fresh.l0 k ([] : List Int) a0 0
theorem knead_fresh.mono_l : ∀ k, (∀ y0 y1 y2, LeO (knead_fresh.l0 k y0 y1 y2) (knead_fresh.l0 (k + 1) y0 y1 y2))
  | 0 => fun _ _ _ r h => by simp [knead_fresh.l0] at h
  | k + 1 => by
    have ih0 := knead_fresh.mono_l k
    · intro y0 y1 y2
      unfold knead_fresh.l0
      repeat' first
      | (with_reducible exact ih0 _ _ _)
      | (with_reducible exact LeO.refl _)
      | (with_reducible exact LeO.none _)
      | (with_reducible refine LeO.ite ?_ ?_)
      | (with_reducible refine LeO.bind ?_ (fun _ => ?_))
      | exact ih0 _ _ _
      | exact LeO.none _
      | refine LeO.ite ?_ ?_
      | refine LeO.bind ?_ (fun _ => ?_)
theorem knead_fresh.mono : ∀ a0 k, LeO (knead_fresh.f k a0) (knead_fresh.f (k + 1) a0) := by
  intro a0 k
  have ih0 := knead_fresh.mono_l k
  unfold knead_fresh.f
  repeat' first
      | (with_reducible exact ih0 _ _ _)
      | (with_reducible exact LeO.refl _)
      | (with_reducible exact LeO.none _)
      | (with_reducible refine LeO.ite ?_ ?_)
      | (with_reducible refine LeO.bind ?_ (fun _ => ?_))
      | exact ih0 _ _ _
      | exact LeO.none _
      | refine LeO.ite ?_ ?_
      | refine LeO.bind ?_ (fun _ => ?_)
set_option maxHeartbeats 8000000 in
set_option maxRecDepth 100000 in
theorem knead_fresh.calls (k : Nat) (a0 : Int) (r : List Int) (w : World) (h : knead_fresh.f k a0 = some r) :
    Calls Try.prog 69 #[.int .i64 a0] w fun e w' => ∃ v0_ : Value, e = .returned (v0_) ∧ Kd.R (Kd.int .i64) 3 w' w.heap.size (fun _ => True) v0_ r ∧ Below w.heap.size w w' := by
  have HB := Aside0.mk (Below.refl w.heap.size w)
  have H : (knead_fresh.l0 k ([] : List Int) a0 0) = some r := h
  clear h
  have H' := Aside0.mk H
  clear H
  go_enter Try.func69, Try.ntmps69
  go_wp2
  go_loopg [3, 6] k (fun kq v3 v6 w' => ∃ (x3_1 : List Int) (x6_1 : Int), v6 = .int .i64 x6_1 ∧ Aside0 (knead_fresh.l0 kq x3_1 a0 x6_1 = some r) ∧ Aside0 (kq ≤ k) ∧ Aside0 (Kd.R (Kd.int .i64) 3 w' w.heap.size (fun _ => True) v3 x3_1) ∧ Aside0 (Below w.heap.size w w'))
  case atStart => exact ⟨(([] : List Int)), (0), (by first | rfl | (simp; done) | (simp [*]; done)), H', ⟨Nat.le_refl _⟩, ⟨by first | exact Kd.R_nil _ _ _ _ _ | exact Kd.N_nil _ _ _ _ _ | exact Kd.V_nil _ _ _ _ _ | exact Kd.Q_nil _ _ _ _ _ | exact Kd.S_nil _ _ _ _ _⟩, ⟨by repeat (first | (with_reducible first | exact HB.out | apply below_alloc | apply pw_below_drewN | apply below_drew1) | exact HB.out)⟩⟩
  case round =>
    clear H'
    obtain ⟨x3_1, x6_1, rfl, HA, HK1, HO_3, HB⟩ := hrel
    cases gk with
    | zero => exact absurd HA.out (by simp [knead_fresh.l0])
    | succ k1 =>
      have H := HA.out
      clear HA
      simp only [knead_fresh.l0] at H
      by_cases c2 : x6_1 < a0
      · rw [if_pos c2] at H
        have c2b0 : decide (x6_1 < a0) = true := decide_eq_true c2
        clear c2
        by_cases c3 : x3_1.length < 17592186044416
        · rw [if_pos c3] at H
          have LMc3 := Aside0.mk c3
          clear c3
          obtain ⟨y114, hy114⟩ : ∃ y_ : List Int, y_ = (x3_1 ++ [x6_1]) := ⟨_, rfl⟩
          replace H : (knead_fresh.l0 k1 y114 a0 (wrap64 (x6_1 + 1))) = some r := by first | (rw [hy114]; with_reducible exact H) | (have H2_ := (Option.bind_some _ _).symm.trans H; rw [hy114]; with_reducible exact H2_) | (have H2_ := (Option.bind_some _ _).symm.trans H; with_reducible exact H2_) | with_reducible exact H | (rw [hy114]; exact H) | exact H
          have Ny114 := Aside0.mk hy114
          clear hy114
          have H' := Aside0.mk H
          clear H
          go_wp2_with (first | ((with_reducible refine gate_builtin (b := .append) (xs := #[.tmp 9, .tmp 11]) rfl ?_); at_builtin; refine Kd.R_append (Kd.int .i64) (w0 := w) w.heap.size rfl (.tmp 9) (.tmp 11) 22 3 (.int .i64 0) 8 rfl Try.underlying22 info3 rfl (by decide) (by omega) u3 x3_1 x6_1 [.int .i64 x6_1] (fun _ => True) (fun _ => False) rfl rfl ?aP (fun _ hk => hk.elim) ?aF ?aO ?aB ?aS ?aL ?_; (case aP => exact rfl); (case aB => exact (by repeat (first | (with_reducible first | exact HB.out | apply below_alloc | apply pw_below_drewN | apply below_drew1) | exact HB.out))); (case aF => exact (fun _ _ => trivial)); (case aO => exact (by (with_reducible repeat (first | apply Kd.R_alloc | apply Kd.R_drewN | apply Kd.R_drew)); exact HO_3.out)); (case aS => exact (below_size (by repeat (first | (with_reducible first | exact HB.out | apply below_alloc | apply pw_below_drewN | apply below_drew1) | exact HB.out)))); (case aL => have := LMc3.out; omega); intro v115 w4 ho hb hg hat; rw [← Ny114.out] at ho; have n0_ := Aside0.mk (hb); have n1_ := Aside0.mk (ho); clear HB; clear HO_3; have HB := n0_; have HO116 := n1_; clear n0_ n1_; clear ho hb hg hat))
          go_roundg k1
          case measure => have := HK1.out; omega
          case rel => exact ⟨(y114), (wrap64 (x6_1 + 1)), (by first | rfl | (simp; done) | (simp [*]; done)), H', ⟨by have := HK1.out; omega⟩, ⟨by (with_reducible repeat (first | apply Kd.R_alloc | apply Kd.R_drewN | apply Kd.R_drew)); exact HO116.out⟩, ⟨by repeat (first | (with_reducible first | exact HB.out | apply below_alloc | apply pw_below_drewN | apply below_drew1) | exact HB.out)⟩⟩
        · rw [if_neg c3] at H
          exact absurd H (by simp)
      · rw [if_neg c2] at H
        have c2b0 : decide (x6_1 < a0) = false := decide_eq_false c2
        clear c2
        obtain rfl := Option.some.inj H
        go_wp2
        go_ret
        exact ⟨_, by first | rfl | (simp [errW_none, errW_some] <;> rfl) | (simp [*, errW_none, errW_some] <;> rfl), by (with_reducible repeat (first | apply Kd.R_alloc | apply Kd.R_drewN | apply Kd.R_drew)); exact HO_3.out, by repeat (first | (with_reducible first | exact HB.out | apply below_alloc | apply pw_below_drewN | apply below_drew1) | exact HB.out)⟩

/-! ### knead_isLumps: function 53 -/
def knead_isLumps.f (a0 : Int) : Option (Bool) := if a0 ≥ 2 then (if a0 ≤ 32 then (some ((Int.tmod a0 2) == 0)) else (some false)) else (some false)
set_option maxHeartbeats 8000000 in
set_option maxRecDepth 100000 in
theorem knead_isLumps.calls (a0 : Int) (r : Bool) (w : World) (h : knead_isLumps.f a0 = some r) :
    Calls Try.prog 53 #[.int .i64 a0] w fun e w' => e = .returned (.bool r) ∧ Drawn0 w w' := by
  have H : (if a0 ≥ 2 then (if a0 ≤ 32 then (some ((Int.tmod a0 2) == 0)) else (some false)) else (some false)) = some r := h
  clear h
  by_cases c2 : a0 ≥ 2
  · rw [if_pos c2] at H
    have c2b0 : decide (2 ≤ a0) = true := decide_eq_true c2
    clear c2
    by_cases c3 : a0 ≤ 32
    · rw [if_pos c3] at H
      have c3b0 : decide (a0 ≤ 32) = true := decide_eq_true c3
      clear c3
      obtain rfl := Option.some.inj H
      go_enter Try.func53, Try.ntmps53
      go_wp2
      go_ret
      exact ⟨by first | rfl | (simp; done) | (simp [*]; done), by repeat (first | exact Drawn0.refl _ | apply Drawn0.step)⟩
    · rw [if_neg c3] at H
      have c3b0 : decide (a0 ≤ 32) = false := decide_eq_false c3
      clear c3
      obtain rfl := Option.some.inj H
      go_enter Try.func53, Try.ntmps53
      go_wp2
      go_ret
      exact ⟨by first | rfl | (simp; done) | (simp [*]; done), by repeat (first | exact Drawn0.refl _ | apply Drawn0.step)⟩
  · rw [if_neg c2] at H
    have c2b0 : decide (2 ≤ a0) = false := decide_eq_false c2
    clear c2
    obtain rfl := Option.some.inj H
    go_enter Try.func53, Try.ntmps53
    go_wp2
    go_ret
    exact ⟨by first | rfl | (simp; done) | (simp [*]; done), by repeat (first | exact Drawn0.refl _ | apply Drawn0.step)⟩

/-! ### slices_Equal_int_int: function 70 -/
def slices_Equal_int_int.l0 : Nat → List Int → List Int → Int → Int → Option (Bool)
  | 0, _, _, _, _ => none
  | k + 1, x0, x1, x12, x13 => if x13 < x12 then (if 0 ≤ x13 then (if x13 < (x0.length : Int) then (if x13 < (x1.length : Int) then (if (rd x0 x13) = (rd x1 x13) then (slices_Equal_int_int.l0 k x0 x1 x12 (wrap64 (x13 + 1))) else (some false)) else (none)) else (none)) else (none)) else (some true)
def slices_Equal_int_int.f (k : Nat) (l0 : List Int) (l1 : List Int) : Option (Bool) := if (l0.length : Int) = (l1.length : Int) then (slices_Equal_int_int.l0 k l0 l1 (l0.length : Int) 0) else (some false)
theorem slices_Equal_int_int.mono_l : ∀ k, (∀ y0 y1 y2 y3, LeO (slices_Equal_int_int.l0 k y0 y1 y2 y3) (slices_Equal_int_int.l0 (k + 1) y0 y1 y2 y3))
  | 0 => fun _ _ _ _ r h => by simp [slices_Equal_int_int.l0] at h
  | k + 1 => by
    have ih0 := slices_Equal_int_int.mono_l k
    · intro y0 y1 y2 y3
      unfold slices_Equal_int_int.l0
      repeat' first
      | (with_reducible exact ih0 _ _ _ _)
      | (with_reducible exact LeO.refl _)
      | (with_reducible exact LeO.none _)
      | (with_reducible refine LeO.ite ?_ ?_)
      | (with_reducible refine LeO.bind ?_ (fun _ => ?_))
      | exact ih0 _ _ _ _
      | exact LeO.none _
      | refine LeO.ite ?_ ?_
      | refine LeO.bind ?_ (fun _ => ?_)
theorem slices_Equal_int_int.mono : ∀ a0 a1 k, LeO (slices_Equal_int_int.f k a0 a1) (slices_Equal_int_int.f (k + 1) a0 a1) := by
  intro a0 a1 k
  have ih0 := slices_Equal_int_int.mono_l k
  unfold slices_Equal_int_int.f
  repeat' first
      | (with_reducible exact ih0 _ _ _ _)
      | (with_reducible exact LeO.refl _)
      | (with_reducible exact LeO.none _)
      | (with_reducible refine LeO.ite ?_ ?_)
      | (with_reducible refine LeO.bind ?_ (fun _ => ?_))
      | exact ih0 _ _ _ _
      | exact LeO.none _
      | refine LeO.ite ?_ ?_
      | refine LeO.bind ?_ (fun _ => ?_)
set_option maxHeartbeats 8000000 in
set_option maxRecDepth 100000 in
theorem slices_Equal_int_int.calls (k : Nat) (A0 : Option Addr) (c0 : Nat) (l0 : List Int) (A1 : Option Addr) (c1 : Nat) (l1 : List Int) (r : Bool) (w : World) (hr0 : Kd.C (Kd.int .i64) w A0 l0.length l0) (hc0 : l0.length ≤ c0) (hr1 : Kd.C (Kd.int .i64) w A1 l1.length l1) (hc1 : l1.length ≤ c1) (h : slices_Equal_int_int.f k l0 l1 = some r) :
    Calls Try.prog 70 #[.slice A0 l0.length c0, .slice A1 l1.length c1] w fun e w' => e = .returned (.bool r) ∧ Drawn0 w w' := by
  have HR0 := Aside0.mk hr0
  have HC0 := Aside0.mk hc0
  clear hr0 hc0
  have HR1 := Aside0.mk hr1
  have HC1 := Aside0.mk hc1
  clear hr1 hc1
  have H : (if (l0.length : Int) = (l1.length : Int) then (slices_Equal_int_int.l0 k l0 l1 (l0.length : Int) 0) else (some false)) = some r := h
  clear h
  by_cases c3 : (l0.length : Int) = (l1.length : Int)
  · rw [if_pos c3] at H
    have c3b0 : ((l0.length : Int) == (l1.length : Int)) = true := beq_iff_eq.mpr c3
    have c3b1 : ((l0.length : Int) != (l1.length : Int)) = false := bne_eq_false_iff_eq.mpr c3
    have c3b2 : (l0.length == l1.length) = true := by first | simpa using c3 | (simp at c3 ⊢; omega)
    clear c3
    have H' := Aside0.mk H
    clear H
    go_enter Try.func70, Try.ntmps70
    go_wp2
    repeat (go_quiet (fail); try go_wp2)
    go_loopg [13] k (fun kq v13 w' => ∃ (x13_1 : Int), v13 = .int .i64 x13_1 ∧ Aside0 (slices_Equal_int_int.l0 kq l0 l1 (l0.length : Int) x13_1 = some r) ∧ Aside0 (kq ≤ k) ∧ Drawn0 w w')
    case atStart => exact ⟨(0), (by first | rfl | (simp; done) | (simp [*]; done)), H', ⟨Nat.le_refl _⟩, by repeat (first | exact Drawn0.refl _ | apply Drawn0.step)⟩
    case round =>
      clear H'
      try clear c1
      try clear p2
      try clear c3
      try clear c3b0
      try clear c3b1
      try clear c3b2
      obtain ⟨x13_1, rfl, HA, HK1, ⟨m1, rfl⟩⟩ := hrel
      cases gk with
      | zero => exact absurd HA.out (by simp [slices_Equal_int_int.l0])
      | succ k1 =>
        have H := HA.out
        clear HA
        simp only [slices_Equal_int_int.l0] at H
        by_cases c4 : x13_1 < (l0.length : Int)
        · rw [if_pos c4] at H
          have c4b0 : decide (x13_1 < (l0.length : Int)) = true := decide_eq_true c4
          clear c4
          by_cases c5 : 0 ≤ x13_1
          · rw [if_pos c5] at H
            have c5b0 : decide (0 ≤ x13_1) = true := decide_eq_true c5
            clear c5
            by_cases c6 : x13_1 < (l0.length : Int)
            · rw [if_pos c6] at H
              have c6b0 : decide (x13_1 < (l0.length : Int)) = true := decide_eq_true c6
              clear c6
              by_cases c7 : x13_1 < (l1.length : Int)
              · rw [if_pos c7] at H
                have c7b0 : decide (x13_1 < (l1.length : Int)) = true := decide_eq_true c7
                clear c7
                by_cases c8 : (rd l0 x13_1) = (rd l1 x13_1)
                · rw [if_pos c8] at H
                  have c8b0 : ((rd l0 x13_1) == (rd l1 x13_1)) = true := beq_iff_eq.mpr c8
                  have c8b1 : ((rd l0 x13_1) != (rd l1 x13_1)) = false := bne_eq_false_iff_eq.mpr c8
                  clear c8
                  have H' := Aside0.mk H
                  clear H
                  have p134 : 0 ≤ (x13_1 : Int) := of_decide_eq_true (by first | (with_reducible assumption) | assumption)
                  have q134 : x13_1 < (l0.length : Int) := of_decide_eq_true (by first | (with_reducible assumption) | assumption)
                  obtain ⟨ad134, e134, hx134_0⟩ := Kd.at_int HR0.out x13_1 p134 q134
                  cases e134
                  replace p134 := eq_true p134
                  replace q134 := eq_true q134
                  have p135 : 0 ≤ (x13_1 : Int) := of_decide_eq_true (by first | (with_reducible assumption) | assumption)
                  have q135 : x13_1 < (l1.length : Int) := of_decide_eq_true (by first | (with_reducible assumption) | assumption)
                  obtain ⟨ad135, e135, hx135_0⟩ := Kd.at_int HR1.out x13_1 p135 q135
                  cases e135
                  replace p135 := eq_true p135
                  replace q135 := eq_true q135
                  go_wp2
                  repeat (go_quiet (fail); try go_wp2)
                  go_roundg k1
                  case measure => have := HK1.out; omega
                  case rel => exact ⟨(wrap64 (x13_1 + 1)), (by first | rfl | (simp; done) | (simp [*]; done)), H', ⟨by have := HK1.out; omega⟩, by repeat (first | exact Drawn0.refl _ | apply Drawn0.step)⟩
                · rw [if_neg c8] at H
                  have c8b0 : ((rd l0 x13_1) == (rd l1 x13_1)) = false := beq_eq_false_iff_ne.mpr c8
                  have c8b1 : ((rd l0 x13_1) != (rd l1 x13_1)) = true := bne_iff_ne.mpr c8
                  obtain rfl := Option.some.inj H
                  have p134 : 0 ≤ (x13_1 : Int) := of_decide_eq_true (by first | (with_reducible assumption) | assumption)
                  have q134 : x13_1 < (l0.length : Int) := of_decide_eq_true (by first | (with_reducible assumption) | assumption)
                  obtain ⟨ad134, e134, hx134_0⟩ := Kd.at_int HR0.out x13_1 p134 q134
                  cases e134
                  replace p134 := eq_true p134
                  replace q134 := eq_true q134
                  have p135 : 0 ≤ (x13_1 : Int) := of_decide_eq_true (by first | (with_reducible assumption) | assumption)
                  have q135 : x13_1 < (l1.length : Int) := of_decide_eq_true (by first | (with_reducible assumption) | assumption)
                  obtain ⟨ad135, e135, hx135_0⟩ := Kd.at_int HR1.out x13_1 p135 q135
                  cases e135
                  replace p135 := eq_true p135
                  replace q135 := eq_true q135
                  go_wp2
                  repeat (go_quiet (fail); try go_wp2)
                  go_ret
                  exact ⟨by first | rfl | (simp; done) | (simp [*]; done), by repeat (first | exact Drawn0.refl _ | apply Drawn0.step)⟩
              · rw [if_neg c7] at H
                exact absurd H (by simp)
            · rw [if_neg c6] at H
              exact absurd H (by simp)
          · rw [if_neg c5] at H
            exact absurd H (by simp)
        · rw [if_neg c4] at H
          have c4b0 : decide (x13_1 < (l0.length : Int)) = false := decide_eq_false c4
          clear c4
          obtain rfl := Option.some.inj H
          go_wp2
          repeat (go_quiet (fail); try go_wp2)
          go_ret
          exact ⟨by first | rfl | (simp; done) | (simp [*]; done), by repeat (first | exact Drawn0.refl _ | apply Drawn0.step)⟩
  · rw [if_neg c3] at H
    have c3b0 : ((l0.length : Int) == (l1.length : Int)) = false := beq_eq_false_iff_ne.mpr c3
    have c3b1 : ((l0.length : Int) != (l1.length : Int)) = true := bne_iff_ne.mpr c3
    have c3b2 : (l0.length == l1.length) = false := by first | simpa using c3 | (simp at c3 ⊢; omega)
    obtain rfl := Option.some.inj H
    go_enter Try.func70, Try.ntmps70
    go_wp2
    repeat (go_quiet (fail); try go_wp2)
    go_ret
    exact ⟨by first | rfl | (simp; done) | (simp [*]; done), by repeat (first | exact Drawn0.refl _ | apply Drawn0.step)⟩

end Go.Proofs.Ytgnklmhjejbcoaa.K

/- DERIVED by wip/pr.py: for each Go function named below a Lean function with the same answers, and that a call of it comes to these answers, for all arguments and memories, where the Lean function has an answer. -/
namespace Go.Proofs.Ytgnklmhjejbcoaa.K
open Go.RowKit Go.Proofs.YtgnklmhjejbcoaaW.PrintWords Go.Proofs.YtgnklmhjejbcoaaW.PrintLast Go.Proofs.YtgnklmhjejbcoaaW.PrintMore
attribute [local go_sem] max2_int min2_int max_two min_two max_three min_three max_four min_four   -- for this text's walks alone
set_option linter.unusedVariables false
set_option linter.unusedSimpArgs false

/-! ### knead_Validate: function 45 -/
def knead_Validate.f (l0 : List Int) : Option (Int) := (knead_isLumps.f (l0.length : Int)).bind fun t166 => (if t166 = true then (some 0) else (some 1))
set_option maxHeartbeats 8000000 in
set_option maxRecDepth 100000 in
theorem knead_Validate.calls (A0 : Option Addr) (c0 : Nat) (l0 : List Int) (r : Int) (w : World) (hr0 : Kd.C (Kd.int .i64) w A0 l0.length l0) (hc0 : l0.length ≤ c0) (h : knead_Validate.f l0 = some r) :
    Calls Try.prog 45 #[.slice A0 l0.length c0] w fun e w' => e = .returned (.int .i64 r) ∧ Drawn0 w w' := by
  have HR0 := Aside0.mk hr0
  have HC0 := Aside0.mk hc0
  clear hr0 hc0
  have H : ((knead_isLumps.f (l0.length : Int)).bind fun t166 => (if t166 = true then (some 0) else (some 1))) = some r := h
  clear h
  replace H := Option.bind_eq_some_iff.mp H
  obtain ⟨t166, A20, H⟩ := H
  replace H : (if t166 = true then (some 0) else (some 1)) = some r := H
  have A2 := Aside0.mk A20
  clear A20
  by_cases c3 : t166 = true
  · subst c3
    have H1 : (some 0) = some r := by rw [if_pos rfl] at H; exact H
    clear H
    have H := H1
    clear H1
    obtain rfl := Option.some.inj H
    go_enter Try.func45, Try.ntmps45
    go_wp2_with (first | ((with_reducible refine gate_callee (f := 53) rfl ?_); refine goesL_ (some 5) rfl rfl Try.func53 (by kernel_rfl) rfl #[.int .i64 (l0.length : Int)] rfl (by (try simp only [List.map_toArray, List.map_cons, List.map_nil]); first | done | rfl | (simp only [List.length_drop, List.length_take]; rfl)) ?_; (with_reducible refine (knead_isLumps.calls (l0.length : Int) true _ A2.out).mono ?_); rintro e w' ⟨rfl, ⟨nd, rfl⟩⟩; refine ⟨_, rfl, ?_⟩))
    go_ret
    exact ⟨by first | rfl | (simp; done) | (simp [*]; done), by repeat (first | exact Drawn0.refl _ | apply Drawn0.step)⟩
  · replace c3 := Bool.eq_false_iff.mpr c3
    subst c3
    have H1 : (some 1) = some r := by rw [if_neg (show ¬ (false = true) by decide)] at H; exact H
    clear H
    have H := H1
    clear H1
    obtain rfl := Option.some.inj H
    go_enter Try.func45, Try.ntmps45
    go_wp2_with (first | ((with_reducible refine gate_callee (f := 53) rfl ?_); refine goesL_ (some 5) rfl rfl Try.func53 (by kernel_rfl) rfl #[.int .i64 (l0.length : Int)] rfl (by (try simp only [List.map_toArray, List.map_cons, List.map_nil]); first | done | rfl | (simp only [List.length_drop, List.length_take]; rfl)) ?_; (with_reducible refine (knead_isLumps.calls (l0.length : Int) false _ A2.out).mono ?_); rintro e w' ⟨rfl, ⟨nd, rfl⟩⟩; refine ⟨_, rfl, ?_⟩))
    go_ret
    exact ⟨by first | rfl | (simp; done) | (simp [*]; done), by repeat (first | exact Drawn0.refl _ | apply Drawn0.step)⟩

/-! ### knead_step: function 54 -/
def knead_step.f (a0 : Int) (a1 : Int) (a2 : Int) : Option (Int) := if a1 < (wrap64 (Int.tdiv a0 2)) then (some (wrap64 ((wrap64 (2 * a1)) + a2))) else (some (wrap64 ((wrap64 ((wrap64 (2 * (wrap64 (a1 - (wrap64 (Int.tdiv a0 2)))))) + 1)) - a2)))
set_option maxHeartbeats 8000000 in
set_option maxRecDepth 100000 in
theorem knead_step.calls (a0 : Int) (a1 : Int) (a2 : Int) (r : Int) (w : World) (h : knead_step.f a0 a1 a2 = some r) :
    Calls Try.prog 54 #[.int .i64 a0, .int .i64 a1, .int .i64 a2] w fun e w' => e = .returned (.int .i64 r) ∧ Drawn0 w w' := by
  have H : (if a1 < (wrap64 (Int.tdiv a0 2)) then (some (wrap64 ((wrap64 (2 * a1)) + a2))) else (some (wrap64 ((wrap64 ((wrap64 (2 * (wrap64 (a1 - (wrap64 (Int.tdiv a0 2)))))) + 1)) - a2)))) = some r := h
  clear h
  by_cases c4 : a1 < (wrap64 (Int.tdiv a0 2))
  · rw [if_pos c4] at H
    have c4b0 : decide (a1 < (wrap64 (Int.tdiv a0 2))) = true := decide_eq_true c4
    clear c4
    obtain rfl := Option.some.inj H
    go_enter Try.func54, Try.ntmps54
    go_wp2
    go_ret
    exact ⟨by first | rfl | (simp; done) | (simp [*]; done), by repeat (first | exact Drawn0.refl _ | apply Drawn0.step)⟩
  · rw [if_neg c4] at H
    have c4b0 : decide (a1 < (wrap64 (Int.tdiv a0 2))) = false := decide_eq_false c4
    clear c4
    obtain rfl := Option.some.inj H
    go_enter Try.func54, Try.ntmps54
    go_wp2
    go_ret
    exact ⟨by first | rfl | (simp; done) | (simp [*]; done), by repeat (first | exact Drawn0.refl _ | apply Drawn0.step)⟩

end Go.Proofs.Ytgnklmhjejbcoaa.K

/- DERIVED by wip/pr.py: for each Go function named below a Lean function with the same answers, and that a call of it comes to these answers, for all arguments and memories, where the Lean function has an answer. -/
namespace Go.Proofs.Ytgnklmhjejbcoaa.K
open Go.RowKit Go.Proofs.YtgnklmhjejbcoaaW.PrintWords Go.Proofs.YtgnklmhjejbcoaaW.PrintLast Go.Proofs.YtgnklmhjejbcoaaW.PrintMore
attribute [local go_sem] max2_int min2_int max_two min_two max_three min_three max_four min_four   -- for this text's walks alone
set_option linter.unusedVariables false
set_option linter.unusedSimpArgs false

/-! ### verditerref01_SameInts: function 22 -/
def verditerref01_SameInts.l0 : Nat → List Int → List Int → Int → Option (Bool)
  | 0, _, _, _ => none
  | k + 1, x0, x1, x5 => if x5 < (x0.length : Int) then (if 0 ≤ x5 then (if x5 < (x1.length : Int) then (if (rd x0 x5) = (rd x1 x5) then (verditerref01_SameInts.l0 k x0 x1 (wrap64 (x5 + 1))) else (some false)) else (none)) else (none)) else (some true)
def verditerref01_SameInts.f (k : Nat) (l0 : List Int) (l1 : List Int) : Option (Bool) := if (l0.length : Int) = (l1.length : Int) then (verditerref01_SameInts.l0 k l0 l1 0) else (some false)
theorem verditerref01_SameInts.mono_l : ∀ k, (∀ y0 y1 y2, LeO (verditerref01_SameInts.l0 k y0 y1 y2) (verditerref01_SameInts.l0 (k + 1) y0 y1 y2))
  | 0 => fun _ _ _ r h => by simp [verditerref01_SameInts.l0] at h
  | k + 1 => by
    have ih0 := verditerref01_SameInts.mono_l k
    · intro y0 y1 y2
      unfold verditerref01_SameInts.l0
      repeat' first
      | (with_reducible exact ih0 _ _ _)
      | (with_reducible exact LeO.refl _)
      | (with_reducible exact LeO.none _)
      | (with_reducible refine LeO.ite ?_ ?_)
      | (with_reducible refine LeO.bind ?_ (fun _ => ?_))
      | exact ih0 _ _ _
      | exact LeO.none _
      | refine LeO.ite ?_ ?_
      | refine LeO.bind ?_ (fun _ => ?_)
theorem verditerref01_SameInts.mono : ∀ a0 a1 k, LeO (verditerref01_SameInts.f k a0 a1) (verditerref01_SameInts.f (k + 1) a0 a1) := by
  intro a0 a1 k
  have ih0 := verditerref01_SameInts.mono_l k
  unfold verditerref01_SameInts.f
  repeat' first
      | (with_reducible exact ih0 _ _ _)
      | (with_reducible exact LeO.refl _)
      | (with_reducible exact LeO.none _)
      | (with_reducible refine LeO.ite ?_ ?_)
      | (with_reducible refine LeO.bind ?_ (fun _ => ?_))
      | exact ih0 _ _ _
      | exact LeO.none _
      | refine LeO.ite ?_ ?_
      | refine LeO.bind ?_ (fun _ => ?_)
set_option maxHeartbeats 8000000 in
set_option maxRecDepth 100000 in
theorem verditerref01_SameInts.calls (k : Nat) (A0 : Option Addr) (c0 : Nat) (l0 : List Int) (A1 : Option Addr) (c1 : Nat) (l1 : List Int) (r : Bool) (w : World) (hr0 : Kd.C (Kd.int .i64) w A0 l0.length l0) (hc0 : l0.length ≤ c0) (hr1 : Kd.C (Kd.int .i64) w A1 l1.length l1) (hc1 : l1.length ≤ c1) (h : verditerref01_SameInts.f k l0 l1 = some r) :
    Calls Try.prog 22 #[.slice A0 l0.length c0, .slice A1 l1.length c1] w fun e w' => e = .returned (.bool r) ∧ Drawn0 w w' := by
  have HR0 := Aside0.mk hr0
  have HC0 := Aside0.mk hc0
  clear hr0 hc0
  have HR1 := Aside0.mk hr1
  have HC1 := Aside0.mk hc1
  clear hr1 hc1
  have H : (if (l0.length : Int) = (l1.length : Int) then (verditerref01_SameInts.l0 k l0 l1 0) else (some false)) = some r := h
  clear h
  by_cases c3 : (l0.length : Int) = (l1.length : Int)
  · rw [if_pos c3] at H
    have c3b0 : ((l0.length : Int) == (l1.length : Int)) = true := beq_iff_eq.mpr c3
    have c3b1 : ((l0.length : Int) != (l1.length : Int)) = false := bne_eq_false_iff_eq.mpr c3
    have c3b2 : (l0.length == l1.length) = true := by first | simpa using c3 | (simp at c3 ⊢; omega)
    clear c3
    have H' := Aside0.mk H
    clear H
    go_enter Try.func22, Try.ntmps22
    go_wp2
    repeat (go_quiet (fail); try go_wp2)
    go_loopg [5] k (fun kq v5 w' => ∃ (x5_1 : Int), v5 = .int .i64 x5_1 ∧ Aside0 (verditerref01_SameInts.l0 kq l0 l1 x5_1 = some r) ∧ Aside0 (kq ≤ k) ∧ Drawn0 w w')
    case atStart => exact ⟨(0), (by first | rfl | (simp; done) | (simp [*]; done)), H', ⟨Nat.le_refl _⟩, by repeat (first | exact Drawn0.refl _ | apply Drawn0.step)⟩
    case round =>
      clear H'
      try clear c1
      try clear c2
      try clear p2
      try clear c3
      try clear c3b0
      try clear c3b1
      try clear c3b2
      obtain ⟨x5_1, rfl, HA, HK1, ⟨m1, rfl⟩⟩ := hrel
      cases gk with
      | zero => exact absurd HA.out (by simp [verditerref01_SameInts.l0])
      | succ k1 =>
        have H := HA.out
        clear HA
        simp only [verditerref01_SameInts.l0] at H
        by_cases c4 : x5_1 < (l0.length : Int)
        · rw [if_pos c4] at H
          have c4b0 : decide (x5_1 < (l0.length : Int)) = true := decide_eq_true c4
          clear c4
          by_cases c5 : 0 ≤ x5_1
          · rw [if_pos c5] at H
            have c5b0 : decide (0 ≤ x5_1) = true := decide_eq_true c5
            clear c5
            by_cases c6 : x5_1 < (l1.length : Int)
            · rw [if_pos c6] at H
              have c6b0 : decide (x5_1 < (l1.length : Int)) = true := decide_eq_true c6
              clear c6
              by_cases c7 : (rd l0 x5_1) = (rd l1 x5_1)
              · rw [if_pos c7] at H
                have c7b0 : ((rd l0 x5_1) == (rd l1 x5_1)) = true := beq_iff_eq.mpr c7
                have c7b1 : ((rd l0 x5_1) != (rd l1 x5_1)) = false := bne_eq_false_iff_eq.mpr c7
                clear c7
                have H' := Aside0.mk H
                clear H
                have p180 : 0 ≤ (x5_1 : Int) := of_decide_eq_true (by first | (with_reducible assumption) | assumption)
                have q180 : x5_1 < (l0.length : Int) := of_decide_eq_true (by first | (with_reducible assumption) | assumption)
                obtain ⟨ad180, e180, hx180_0⟩ := Kd.at_int HR0.out x5_1 p180 q180
                cases e180
                replace p180 := eq_true p180
                replace q180 := eq_true q180
                have p181 : 0 ≤ (x5_1 : Int) := of_decide_eq_true (by first | (with_reducible assumption) | assumption)
                have q181 : x5_1 < (l1.length : Int) := of_decide_eq_true (by first | (with_reducible assumption) | assumption)
                obtain ⟨ad181, e181, hx181_0⟩ := Kd.at_int HR1.out x5_1 p181 q181
                cases e181
                replace p181 := eq_true p181
                replace q181 := eq_true q181
                go_wp2
                repeat (go_quiet (fail); try go_wp2)
                go_roundg k1
                case measure => have := HK1.out; omega
                case rel => exact ⟨(wrap64 (x5_1 + 1)), (by first | rfl | (simp; done) | (simp [*]; done)), H', ⟨by have := HK1.out; omega⟩, by repeat (first | exact Drawn0.refl _ | apply Drawn0.step)⟩
              · rw [if_neg c7] at H
                have c7b0 : ((rd l0 x5_1) == (rd l1 x5_1)) = false := beq_eq_false_iff_ne.mpr c7
                have c7b1 : ((rd l0 x5_1) != (rd l1 x5_1)) = true := bne_iff_ne.mpr c7
                obtain rfl := Option.some.inj H
                have p180 : 0 ≤ (x5_1 : Int) := of_decide_eq_true (by first | (with_reducible assumption) | assumption)
                have q180 : x5_1 < (l0.length : Int) := of_decide_eq_true (by first | (with_reducible assumption) | assumption)
                obtain ⟨ad180, e180, hx180_0⟩ := Kd.at_int HR0.out x5_1 p180 q180
                cases e180
                replace p180 := eq_true p180
                replace q180 := eq_true q180
                have p181 : 0 ≤ (x5_1 : Int) := of_decide_eq_true (by first | (with_reducible assumption) | assumption)
                have q181 : x5_1 < (l1.length : Int) := of_decide_eq_true (by first | (with_reducible assumption) | assumption)
                obtain ⟨ad181, e181, hx181_0⟩ := Kd.at_int HR1.out x5_1 p181 q181
                cases e181
                replace p181 := eq_true p181
                replace q181 := eq_true q181
                go_wp2
                repeat (go_quiet (fail); try go_wp2)
                go_ret
                exact ⟨by first | rfl | (simp; done) | (simp [*]; done), by repeat (first | exact Drawn0.refl _ | apply Drawn0.step)⟩
            · rw [if_neg c6] at H
              exact absurd H (by simp)
          · rw [if_neg c5] at H
            exact absurd H (by simp)
        · rw [if_neg c4] at H
          have c4b0 : decide (x5_1 < (l0.length : Int)) = false := decide_eq_false c4
          clear c4
          obtain rfl := Option.some.inj H
          go_wp2
          repeat (go_quiet (fail); try go_wp2)
          go_ret
          exact ⟨by first | rfl | (simp; done) | (simp [*]; done), by repeat (first | exact Drawn0.refl _ | apply Drawn0.step)⟩
  · rw [if_neg c3] at H
    have c3b0 : ((l0.length : Int) == (l1.length : Int)) = false := beq_eq_false_iff_ne.mpr c3
    have c3b1 : ((l0.length : Int) != (l1.length : Int)) = true := bne_iff_ne.mpr c3
    have c3b2 : (l0.length == l1.length) = false := by first | simpa using c3 | (simp at c3 ⊢; omega)
    obtain rfl := Option.some.inj H
    go_enter Try.func22, Try.ntmps22
    go_wp2
    repeat (go_quiet (fail); try go_wp2)
    go_ret
    exact ⟨by first | rfl | (simp; done) | (simp [*]; done), by repeat (first | exact Drawn0.refl _ | apply Drawn0.step)⟩

end Go.Proofs.Ytgnklmhjejbcoaa.K
