/- Texts of this claim in one file: HW, HX, HO. -/
import Derived.Test.YtfejfljgdeglgaaMJudgeNexts0
import Derived.BigQuiet
import Derived.SizedLaws
import Derived.ChangeSlices
import Derived.ChangeSame
import Derived.OpenShut

/- What KeepInts, KeptInts, KeepAnswers and KeptAnswers return: a copy of all cells; true for lists whose cells are alike. -/
namespace Go.Proofs.Ytfejfljgdeglgaa.K
open Go.RowKit Go.Proofs.YtfejfljgdeglgaaW.PrintWords Go.Proofs.YtfejfljgdeglgaaW.PrintLast Go.Proofs.YtfejfljgdeglgaaW.PrintMore
set_option linter.unusedVariables false
set_option linter.unusedSimpArgs false

set_option maxHeartbeats 1000000 in
set_option maxRecDepth 100000 in
theorem keepInts_calls (A0 : Option Addr) (len : Nat) (zs : List Int) (w : World) (hr0 : Kd.C (Kd.int .i64) w A0 zs.length zs) (hs : zs.length < 17592186044416) :
    Calls Try.prog 36 #[.slice A0 len zs.length] w fun e w' => ∃ v0_ : Value, e = .returned (v0_) ∧ Kd.R (Kd.int .i64) 3 w' w.heap.size (fun _ => True) v0_ zs ∧ Below w.heap.size w w' := by
  have HR0 := Aside0.mk hr0
  clear hr0
  have HB := Aside0.mk (Below.refl w.heap.size w)
  go_enter Try.func36, Try.ntmps36
  go_wp2_with (first | ((with_reducible refine gate_dst (N := 3) rfl ?_); refine Kd.R_lit (Kd.int .i64) (w0 := w) w.heap.size 3 ?hg (N := 3) ?hd (xs := ([] : List Int)) (inner := []) (ok := fun _ => True) (okp := fun _ => True) ?hr ?hp (fun _ hk => hk) trivial (Below.refl _ _) (Nat.le_refl _) (by simp) ?_; (case hd => rfl); (case hg => rfl); (case hr => first | (go_simp; done) | (go_simp; rfl)); (case hp => exact (Reps.none _ _)); intro v1 w1 ho1 hb1 hg_ hnew_; clear hg_ hnew_; have HO1 := Aside0.mk ho1; clear HB; have HB := Aside0.mk hb1; clear ho1 hb1) | ((with_reducible refine gate_builtin (b := .append) (xs := #[.tmp 3, .tmp 7]) rfl ?_); at_builtin; refine Kd.R_append_rows (Kd.int .i64) (w0 := w) w.heap.size rfl (.tmp 3) (.tmp 7) 47 3 (.int .i64 0) 8 rfl Try.underlying47 info3 rfl (by decide) (by omega) v1 [] zs _ _ _ (fun _ => True) (fun _ => False) rfl rfl ?aO ?aR (fun _ _ h => h) (fun _ h => h.elim) ?aF ?aB ?aS ?aL ?_; (case aR => exact (Kd.C_below HR0.out HB.out)); (case aB => exact HB.out); (case aF => exact (fun _ _ => trivial)); (case aO => exact HO1.out); (case aS => exact (below_size HB.out)); (case aL => simp; omega); intro v2 w2 ho hb hg hat; rw [List.nil_append] at ho; have HO2 := Aside0.mk ho; have HB2 := Aside0.mk hb; clear ho hb hg hat))
  go_ret
  exact ⟨_, rfl, HO2.out, HB2.out⟩

set_option maxHeartbeats 2000000 in
set_option maxRecDepth 100000 in
theorem keptInts_calls (A0 : Option Addr) (c0 : Nat) (A1 : Option Addr) (len : Nat) (zs : List Int) (w : World) (hr0 : Kd.C (Kd.int .i64) w A0 zs.length zs) (hr1 : Kd.C (Kd.int .i64) w A1 zs.length zs) :
    Calls Try.prog 38 #[.slice A0 zs.length c0, .slice A1 len zs.length] w fun e w' => e = .returned (.bool true) ∧ Drawn0 w w' := by
  have hm := hr0.2.1
  have HR0 := Aside0.mk hr0
  have HR1 := Aside0.mk hr1
  clear hr0 hr1
  go_enter Try.func38, Try.ntmps38
  go_wp2
  go_loopw [5] (fun i wr => ∃ n : Nat, n ≤ zs.length ∧ i = .int .i64 n ∧ Drawn0 w wr) (fun i _ => zs.length - (intOf i).toNat)
  case atStart => exact ⟨0, Nat.zero_le _, rfl, Drawn0.refl _⟩
  case round =>
    obtain ⟨n, hn, rfl, ⟨m, rfl⟩⟩ := hrel
    by_cases hlt : n < zs.length
    · obtain ⟨ad, e, hx⟩ := Kd.at_int HR0.out (n : Int) (by omega) (by omega)
      obtain ⟨ad1, e1, hx1⟩ := Kd.at_int HR1.out (n : Int) (by omega) (by omega)
      cases e
      cases e1
      rw [Int.toNat_natCast] at hx hx1
      have b0 := eq_true (show 0 ≤ (n : Int) by omega)
      have b1 := eq_true (show (n : Int) < (zs.length : Int) by omega)
      go_wp2
      go_quiet (fail)
      go_wp2
      go_roundw
      case rel => exact ⟨n + 1, by omega, by go_num, by repeat (first | exact Drawn0.refl _ | apply Drawn0.step)⟩
      case measure => simp [intOf]; omega
    · go_wp2
      go_ret
      exact ⟨rfl, by repeat (first | exact Drawn0.refl _ | apply Drawn0.step)⟩

theorem toBelow {w w' : World} (h : Below w.heap.size w w') : Below w.heap.size w w' := h
/-- A row's slice: all its cells are read. -/
theorem row_reads {w : World} {a : Option Addr} {len cap : Nat} {zs : List Int} (h : (a = none ∧ len = 0 ∧ cap = 0 ∧ zs = []) ∨ ∃ x, a = some x ∧ len ≤ cap ∧ cap ≤ maxLen ∧ zs.length = cap ∧ (∀ i, i < zs.length → w.cell? (x.add i) = some (.int .i64 (zs.getD i 0))) ∧ ∀ n ∈ zs, (Lit.int .i64 n).wf = true) :
    cap = zs.length ∧ len ≤ zs.length ∧ (∀ n ∈ zs, (Lit.int .i64 n).wf = true) ∧ Kd.C (Kd.int .i64) w a zs.length zs := by
  rcases h with ⟨rfl, rfl, rfl, rfl⟩ | ⟨x, rfl, h1, h2, h3, h4, h5⟩
  · exact ⟨rfl, Nat.le_refl _, by simp, Kd.C_nil _ _⟩
  · refine ⟨h3.symm, by omega, h5, Kd.C_of_reads (d := (0 : Int)) (h1 := fun _ => rfl) ⟨rfl, by unfold maxLen at h2; omega, fun hp => ⟨x, rfl, fun j hj => h4 j hj⟩⟩⟩
open Go.ChangeShapes Go.WideShapes in
/-- A row's slice of whole numbers has no more cells than its weight allows. -/
theorem sized_cap {H : Type} {enc : TypeId × Value → H} {P : Program} {W : World} {base : Nat} {held : Bool} {t e : TypeId} {k : IntKind} {a : Option Addr} {len cap : Nat} {d : DataW H} {ps : List MemPlace} {ts : List TypeId} {ds : List (DataW H)} {j : Nat}
    (hsz : (DataW.weightsEach P ts ds).all (· ≤ reachBytes) = true) (ht : ts[j]? = some t) (hd : ds[j]? = some d) (hu : P.underlying t = some (.slice e)) (he : P.underlying e = some (.int k)) (hc : P.cellsOf e = 1) {B : Nat} (hB : P.bytesOf e = B)
    (h : DataW.Trod enc P W base (fun _ => true) held t (.slice a len cap) d ps) : cap * B ≤ 140737488351232 := by
  obtain ⟨fuel, hf⟩ := h
  rcases open_ints hu he hc hf with ⟨hcs, _⟩ | ⟨x, l, c, zs, hcs, _, hl, _, hz, hx, _, _⟩
  · simp [Value.cells] at hcs
    obtain ⟨rfl, rfl, rfl⟩ := hcs
    simp
  · simp [Value.cells] at hcs
    obtain ⟨rfl, rfl, rfl⟩ := hcs
    obtain ⟨hx, _⟩ := Prod.mk.inj hx
    subst hx
    have z := sized_slice hsz ht hd hu
    rw [hB] at z
    have hl2 : zs.length = cap := by simpa using hz
    have h1 : (lits (H := H) k (zs.take len)).length + (lits (H := H) k (zs.drop len)).length = zs.length := by
      simp [lits]
      omega
    rw [h1, hl2] at z
    exact z

/-- An answer of a row: its slice's length, ALL its cells, and whether the answer was yes. -/
structure SW where
  len : Nat
  zs : List Int
  yes : Bool
def zW : SW := ⟨0, [], false⟩
/-- A slice that is read up to its capacity. -/
def kwide : Kd (Nat × List Int) where
  sz := 1
  E := [3]
  K := fun w x cs => ∃ A, cs = [.slice A x.1 x.2.length] ∧ x.1 ≤ x.2.length ∧ (Kd.int .i64).C w A x.2.length x.2
  M := fun _ _ _ _ _ => False
  K_len := by
    rintro w x cs ⟨A, rfl, _⟩
    rfl
  K_one := by
    rintro w x cs ⟨A, rfl, _⟩ u hu
    rw [List.mem_singleton.1 hu]
    rfl
  K_below := by
    rintro w w1 x cs hb ⟨A, rfl, hl, hr⟩
    exact ⟨A, rfl, hl, Kd.C_below hr hb⟩
  K_of_M := fun h => h.elim
  M_mono := fun _ h => h
  M_bound := fun h => h
  M_move := fun _ h => h
  M_lower := fun _ h => h
def kW : Kd SW := Kd.iso (Kd.pair kwide Kd.bool) (fun x : SW => ((x.len, x.zs), x.yes))
theorem kW_open {w : World} {x : SW} {cs : List Value} (h : kW.K w x cs) : ∃ A0, cs = [.slice A0 x.len x.zs.length, .bool x.yes] ∧ x.len ≤ x.zs.length ∧ (Kd.int .i64).C w A0 x.zs.length x.zs := by
  obtain ⟨_, _, rfl, ⟨A0, rfl, l0, g0⟩, rfl⟩ := h
  exact ⟨A0, rfl, l0, g0⟩
theorem kW_mk (w : World) (x : SW) {A0 : Option Addr} (l0 : x.len ≤ x.zs.length) (g0 : (Kd.int .i64).C w A0 x.zs.length x.zs) : kW.K w x [.slice A0 x.len x.zs.length, .bool x.yes] := ⟨[.slice A0 x.len x.zs.length], [.bool x.yes], rfl, ⟨A0, rfl, l0, g0⟩, rfl⟩
def rd_W (xs : List SW) (i : Int) : SW := xs.getD i.toNat zW
theorem at_W {w : World} {A : Option Addr} {n : Nat} {xs : List SW} (h : Kd.C kW w A n xs) (i : Int) (h0 : 0 ≤ i) (h1 : i < n) : ∃ ad A0 c0, A = some ad ∧ w.cell? (ad.add (i.toNat * 2)) = some (.slice A0 (rd_W xs i).len c0) ∧ w.cell? ⟨(ad.add (i.toNat * 2)).block, (ad.add (i.toNat * 2)).off + 1, none⟩ = some (.bool (rd_W xs i).yes) ∧ ((rd_W xs i).len ≤ (rd_W xs i).zs.length ∧ c0 = (rd_W xs i).zs.length) ∧ (Kd.int .i64).C w A0 (rd_W xs i).zs.length (rd_W xs i).zs := by
  obtain ⟨ad, c, e, _, hK, hc0⟩ := Kd.C_get h zW i h0 h1
  have hc : ∀ j u, c[j]? = some u → w.cell? (ad.add (i.toNat * 2 + j)) = some u := hc0
  obtain ⟨A0, rfl, l0, g0⟩ := kW_open hK
  exact ⟨ad, A0, _, e, hc 0 _ rfl, by rw [← add_field _ _ 1 (by omega)]; exact hc 1 _ rfl, ⟨l0, rfl⟩, g0⟩
/-- verditerref01.KeepInts. -/
def verditerref01_KeepInts.f (zs : List Int) : Option (List Int) := if zs.length < 17592186044416 then some zs else none
theorem verditerref01_KeepInts.calls (A : Option Addr) (c len : Nat) (zs : List Int) (r : List Int) (w : World) (hr : Kd.C (Kd.int .i64) w A zs.length zs) (hc : len ≤ zs.length ∧ c = zs.length) (h : verditerref01_KeepInts.f zs = some r) :
    Calls Try.prog 36 #[.slice A len c] w fun e w' => ∃ v0_ : Value, e = .returned (v0_) ∧ Kd.R (Kd.int .i64) 3 w' w.heap.size (fun _ => True) v0_ r ∧ Below w.heap.size w w' := by
  obtain ⟨_, rfl⟩ := hc
  unfold verditerref01_KeepInts.f at h
  split at h
  · obtain rfl := Option.some.inj h
    exact keepInts_calls A len zs w hr (by assumption)
  · cases h

/-! ### verditerref01_KeepAnswers: function 21 -/
def verditerref01_KeepAnswers.l0 : Nat → List (SW) → List (S49) → Int → Option ((List (S49)))
  | 0, _, _, _ => none
  | k + 1, x0, x3, x4 => if x4 < (x0.length : Int) then (if 0 ≤ x4 then ((verditerref01_KeepInts.f ((rd_W x0 x4).zs)).bind fun t102 => (if x3.length < 4398046511104 then (verditerref01_KeepAnswers.l0 k x0 (x3 ++ [(⟨t102, (rd_W x0 x4).yes⟩ : S49)]) (wrap64 (x4 + 1))) else (none))) else (none)) else (some x3)
def verditerref01_KeepAnswers.f (k : Nat) (l0 : List (SW)) : Option ((List (S49))) := verditerref01_KeepAnswers.l0 k l0 ([] : List (S49)) 0
theorem verditerref01_KeepAnswers.mono_l : ∀ k, (∀ y0 y1 y2, LeO (verditerref01_KeepAnswers.l0 k y0 y1 y2) (verditerref01_KeepAnswers.l0 (k + 1) y0 y1 y2))
  | 0 => fun _ _ _ r h => by simp [verditerref01_KeepAnswers.l0] at h
  | k + 1 => by
    have ih0 := verditerref01_KeepAnswers.mono_l k
    · intro y0 y1 y2
      unfold verditerref01_KeepAnswers.l0
      repeat' first
      | (with_reducible exact ih0 _ _ _)
      | (with_reducible exact LeO.refl _)
      | (with_reducible exact LeO.none _)
      | (with_reducible refine LeO.ite ?_ ?_)
      | (with_reducible refine LeO.bind ?_ (fun _ => ?_))
      | exact ih0 _ _ _
      | exact LeO.none _
      | refine LeO.ite ?_ ?_
      | refine LeO.bind ?_ (fun _ => ?_)
theorem verditerref01_KeepAnswers.mono : ∀ a0 k, LeO (verditerref01_KeepAnswers.f k a0) (verditerref01_KeepAnswers.f (k + 1) a0) := by
  intro a0 k
  have ih0 := verditerref01_KeepAnswers.mono_l k
  unfold verditerref01_KeepAnswers.f
  repeat' first
      | (with_reducible exact ih0 _ _ _)
      | (with_reducible exact LeO.refl _)
      | (with_reducible exact LeO.none _)
      | (with_reducible refine LeO.ite ?_ ?_)
      | (with_reducible refine LeO.bind ?_ (fun _ => ?_))
      | exact ih0 _ _ _
      | exact LeO.none _
      | refine LeO.ite ?_ ?_
      | refine LeO.bind ?_ (fun _ => ?_)
def verditerref01_KeepAnswers.T6 : Bool × List (List Nat × List Nat) := (true, [([], []), ([], []), ([], []), ([1, 2], [1, 2]), ([3], [3]), ([4], [4]), ([5], [5]), ([], []), ([], []), ([7, 8], [7, 8]), ([9], [9]), ([10], [10]), ([6, 11], [6, 11]), ([12], [12]), ([0, 13, 6], [0, 13]), ([14, 14, 0, 1, 2, 3, 4, 5, 6, 7, 8, 9, 10, 11, 12, 13, 14], [0, 14])])
def verditerref01_KeepAnswers.B6 : List Nat := [0, 0, 0, 6, 14, 30, 62, 0, 0, 384, 896, 1920, 4094, 8190, 16383, 32767]
theorem verditerref01_KeepAnswers.tab6 : rtab .any (opsOf Try.f21 6) = verditerref01_KeepAnswers.T6 := by kernel_rfl
theorem verditerref01_KeepAnswers.bits6 : waitsOk verditerref01_KeepAnswers.T6.2 verditerref01_KeepAnswers.B6 = true := by kernel_rfl
set_option maxHeartbeats 8000000 in
set_option maxRecDepth 100000 in
theorem verditerref01_KeepAnswers.calls (k : Nat) (A0 : Option Addr) (len0 : Nat) (l0 : List (SW)) (r : List (S49)) (w : World) (hr0 : Kd.C kW w A0 l0.length l0) (hc0 : len0 ≤ l0.length) (h : verditerref01_KeepAnswers.f k l0 = some r) :
    Calls Try.prog 21 #[.slice A0 len0 l0.length] w fun e w' => ∃ v0_ : Value, e = .returned (v0_) ∧ Kd.S k49 49 w' w.heap.size (fun _ => True) v0_ r ∧ Below w.heap.size w w' := by
  have hu49 := Try.underlying49
  have hm0 := hr0.2.1
  have HR0 := Aside0.mk hr0
  have HC0 := Aside0.mk hc0
  clear hr0 hc0
  have HB := Aside0.mk (Below.refl w.heap.size w)
  have H : (verditerref01_KeepAnswers.l0 k l0 ([] : List (S49)) 0) = some r := h
  clear h
  have H' := Aside0.mk H
  clear H
  go_enter Try.func21, Try.ntmps21
  go_wp2
  go_loopg [3, 4] k (fun kq v3 v4 w' => ∃ (x3_1 : List (S49)) (x4_1 : Int), v4 = .int .i64 x4_1 ∧ Aside0 (verditerref01_KeepAnswers.l0 kq l0 x3_1 x4_1 = some r) ∧ Aside0 (kq ≤ k) ∧ Aside0 (Kd.S k49 49 w' w.heap.size (fun _ => True) v3 x3_1) ∧ Aside0 (Below w.heap.size w w'))
  case atStart => exact ⟨(([] : List (S49))), (0), (by first | rfl | (simp; done) | (simp [*]; done)), H', ⟨Nat.le_refl _⟩, ⟨by first | exact Kd.S_nil _ _ _ _ _ | exact Kd.N_nil _ _ _ _ _ | exact Kd.V_nil _ _ _ _ _ | exact Kd.Q_nil _ _ _ _ _ | exact Kd.R_nil _ _ _ _ _⟩, ⟨by repeat (first | (with_reducible first | exact HB.out | apply below_alloc | apply pw_below_drewN | apply below_drew1) | exact HB.out)⟩⟩
  case round =>
    clear H'
    obtain ⟨x3_1, x4_1, rfl, HA, HK1, HO_3, HB⟩ := hrel
    cases gk with
    | zero => exact absurd HA.out (by simp [verditerref01_KeepAnswers.l0])
    | succ k1 =>
      have H := HA.out
      clear HA
      simp only [verditerref01_KeepAnswers.l0] at H
      by_cases c2 : x4_1 < (l0.length : Int)
      · rw [if_pos c2] at H
        have c2b0 : decide (x4_1 < (l0.length : Int)) = true := decide_eq_true c2
        clear c2
        by_cases c3 : 0 ≤ x4_1
        · rw [if_pos c3] at H
          have c3b0 : decide (0 ≤ x4_1) = true := decide_eq_true c3
          clear c3
          replace H := Option.bind_eq_some_iff.mp H
          obtain ⟨t102, A40, H⟩ := H
          replace H : (if x3_1.length < 4398046511104 then (verditerref01_KeepAnswers.l0 k1 l0 (x3_1 ++ [(⟨t102, (rd_W l0 x4_1).yes⟩ : S49)]) (wrap64 (x4_1 + 1))) else (none)) = some r := H
          have A4 := Aside0.mk A40
          clear A40
          by_cases c5 : x3_1.length < 4398046511104
          · rw [if_pos c5] at H
            have LMc5 := Aside0.mk c5
            clear c5
            obtain ⟨y106, hy106⟩ : ∃ y_ : List (S49), y_ = (x3_1 ++ [(⟨t102, (rd_W l0 x4_1).yes⟩ : S49)]) := ⟨_, rfl⟩
            replace H : (verditerref01_KeepAnswers.l0 k1 l0 y106 (wrap64 (x4_1 + 1))) = some r := by first | (rw [hy106]; with_reducible exact H) | (have H2_ := (Option.bind_some _ _).symm.trans H; rw [hy106]; with_reducible exact H2_) | (have H2_ := (Option.bind_some _ _).symm.trans H; with_reducible exact H2_) | with_reducible exact H | (rw [hy106]; exact H) | exact H
            have Ny106 := Aside0.mk hy106
            clear hy106
            have H' := Aside0.mk H
            clear H
            try go_wp2
            have n0_ := Aside0.mk (Kd.S_drew HO_3.out)
            have n1_ := Aside0.mk (below_drew1 HB.out)
            clear HO_3
            clear HB
            have HO_3 := n0_
            have HB := n1_
            clear n0_ n1_
            have p101 : 0 ≤ (x4_1 : Int) := of_decide_eq_true (by first | (with_reducible assumption) | assumption)
            have q101 : x4_1 < (l0.length : Int) := of_decide_eq_true (by first | (with_reducible assumption) | assumption)
            obtain ⟨ad101, A101_0, c101_0, e101, hx101_0, hx101_1, hl101_0, hi101_0⟩ := at_W HR0.out x4_1 p101 q101
            have hw101_1 := hx101_1
            have hw101_0 := hx101_0
            cases e101
            replace hx101_0 := (HB.out.cell (World.block_lt_of_cell? w _ hx101_0)).trans hx101_0
            replace hx101_1 := (HB.out.cell (World.block_lt_of_cell? w _ hx101_1)).trans hx101_1
            have HR101_0 := Aside0.mk hi101_0
            have HC101_0 := Aside0.mk hl101_0
            clear hi101_0 hl101_0
            replace p101 := eq_true p101
            replace q101 := eq_true q101
            have p105 : 0 ≤ (x4_1 : Int) := of_decide_eq_true (by first | (with_reducible assumption) | assumption)
            have q105 : x4_1 < (l0.length : Int) := of_decide_eq_true (by first | (with_reducible assumption) | assumption)
            obtain ⟨ad105, A105_0, c105_0, e105, hx105_0, hx105_1, hl105_0, hi105_0⟩ := at_W HR0.out x4_1 p105 q105
            have hw105_1 := hx105_1
            have hw105_0 := hx105_0
            obtain rfl : ad101 = ad105 := (by injection e105)
            replace hx105_0 := (HB.out.cell (World.block_lt_of_cell? w _ hx105_0)).trans hx105_0
            replace hx105_1 := (HB.out.cell (World.block_lt_of_cell? w _ hx105_1)).trans hx105_1
            have HR105_0 := Aside0.mk hi105_0
            have HC105_0 := Aside0.mk hl105_0
            clear hi105_0 hl105_0
            replace p105 := eq_true p105
            replace q105 := eq_true q105
            have ea_ := Option.some.inj (hx101_0.symm.trans hx105_0)
            injection ea_ with ea_ en_ ec_
            subst ea_
            subst ec_
            clear en_
            refine start_ (n := 16) (S := fun w' => w'.cell? (ad101.add ((x4_1).toNat * 2)) = some (.slice A101_0 ((rd_W l0 x4_1).len) c101_0) ∧ w'.cell? ⟨(ad101.add ((x4_1).toNat * 2)).block, (ad101.add ((x4_1).toNat * 2)).off + 1, none⟩ = some (.bool ((rd_W l0 x4_1).yes)) ∧ w'.cell? (ad101.add ((x4_1).toNat * 2)) = some (.slice A101_0 ((rd_W l0 x4_1).len) c101_0) ∧ w'.cell? ⟨(ad101.add ((x4_1).toNat * 2)).block, (ad101.add ((x4_1).toNat * 2)).off + 1, none⟩ = some (.bool ((rd_W l0 x4_1).yes))) (ds := []) #[false, false, false, false, false, false, false, false, false, false, false, false, false, false, false, false] (by kernel_rfl) rfl rfl ⟨((HB.out.cell (World.block_lt_of_cell? w _ hw101_0)).trans hw101_0), ((HB.out.cell (World.block_lt_of_cell? w _ hw101_1)).trans hw101_1), ((HB.out.cell (World.block_lt_of_cell? w _ hw105_0)).trans hw105_0), ((HB.out.cell (World.block_lt_of_cell? w _ hw105_1)).trans hw105_1)⟩ (fun hHeld => ?_); refine with_tabW verditerref01_KeepAnswers.tab6 verditerref01_KeepAnswers.bits6 (fun HT_ HW_ => ?_)
            generalize wr.drew = w6 at HO_3 HB HR101_0 HR105_0 hx101_0 hx101_1 hx105_0 hx105_1 hHeld ⊢
            refine pure_ (i := 0) (N := some 15) (v := ?_) (a' := ?_) #[true, false, false, false, false, false, false, false, false, false, false, false, false, false, false, false] rfl rfl (any_of HT_.out (by kernel_rfl)) (fun _ _ _ h => h) (Or.inl ⟨by rfl, ?_⟩) ?_ ?_
            rotate_left
            · intro w'
              go_simp
              with_reducible rfl
            rotate_left
            · simp only [Act.put, List.setIfInBounds_toArray, List.set_cons_zero, List.set_cons_succ, i64_w, i32_w]
              rfl
            refine pure_ (i := 1) (N := some 16) (v := ?_) (a' := ?_) #[true, true, false, false, false, false, false, false, false, false, false, false, false, false, false, false] rfl rfl (any_of HT_.out (by kernel_rfl)) (fun _ _ _ h => h) (Or.inl ⟨by rfl, ?_⟩) ?_ ?_
            rotate_left
            · intro w'
              go_simp
              with_reducible rfl
            rotate_left
            · simp only [Act.put, List.setIfInBounds_toArray, List.set_cons_zero, List.set_cons_succ, i64_w, i32_w]
              rfl
            refine pure_ (i := 2) (N := some 17) (v := ?_) (a' := ?_) #[true, true, true, false, false, false, false, false, false, false, false, false, false, false, false, false] rfl rfl (any_of HT_.out (by kernel_rfl)) (fun _ _ _ h => h) (Or.inl ⟨by rfl, ?_⟩) ?_ ?_
            rotate_left
            · intro w'
              go_simp
              with_reducible rfl
            rotate_left
            · simp only [Act.put, List.setIfInBounds_toArray, List.set_cons_zero, List.set_cons_succ, i64_w, i32_w]
              rfl
            refine pure_ (i := 3) (N := some 18) (v := ?_) (a' := ?_) #[true, true, true, true, false, false, false, false, false, false, false, false, false, false, false, false] rfl rfl (any_of HT_.out (by kernel_rfl)) (fun _ _ _ h => h) (Or.inl ⟨by rfl, ?_⟩) ?_ ?_
            rotate_left
            · intro w'
              go_simp
              with_reducible rfl
            rotate_left
            · simp only [Act.put, List.setIfInBounds_toArray, List.set_cons_zero, List.set_cons_succ, i64_w, i32_w]
              rfl
            refine pure_ (i := 4) (N := some 19) (v := ?_) (a' := ?_) #[true, true, true, true, true, false, false, false, false, false, false, false, false, false, false, false] rfl rfl (any_of HT_.out (by kernel_rfl)) (fun _ _ _ h => h) (Or.inl ⟨by rfl, ?_⟩) ?_ ?_
            rotate_left
            · intro w'
              go_simp
              with_reducible rfl
            rotate_left
            · simp only [Act.put, List.setIfInBounds_toArray, List.set_cons_zero, List.set_cons_succ, i64_w, i32_w]
              rfl
            refine pure_ (i := 7) (N := some 22) (v := ?_) (a' := ?_) #[true, true, true, true, true, false, false, true, false, false, false, false, false, false, false, false] rfl rfl (any_of HT_.out (by kernel_rfl)) (fun _ _ _ h => h) (Or.inl ⟨by rfl, ?_⟩) ?_ ?_
            rotate_left
            · intro w'
              go_simp
              with_reducible rfl
            rotate_left
            · simp only [Act.put, List.setIfInBounds_toArray, List.set_cons_zero, List.set_cons_succ, i64_w, i32_w]
              rfl
            refine pure_ (i := 8) (N := some 23) (v := ?_) (a' := ?_) #[true, true, true, true, true, false, false, true, true, false, false, false, false, false, false, false] rfl rfl (any_of HT_.out (by kernel_rfl)) (fun _ _ _ h => h) (Or.inl ⟨by rfl, ?_⟩) ?_ ?_
            rotate_left
            · intro w'
              go_simp
              with_reducible rfl
            rotate_left
            · simp only [Act.put, List.setIfInBounds_toArray, List.set_cons_zero, List.set_cons_succ, i64_w, i32_w]
              rfl
            refine pure_ (i := 9) (N := some 24) (v := ?_) (a' := ?_) #[true, true, true, true, true, false, false, true, true, true, false, false, false, false, false, false] rfl rfl (any_of HT_.out (by kernel_rfl)) (fun _ _ _ h => h) (Or.inl ⟨by rfl, ?_⟩) ?_ ?_
            rotate_left
            · intro w'
              go_simp
              with_reducible rfl
            rotate_left
            · simp only [Act.put, List.setIfInBounds_toArray, List.set_cons_zero, List.set_cons_succ, i64_w, i32_w]
              rfl
            refine pure_ (i := 10) (N := some 25) (v := ?_) (a' := ?_) #[true, true, true, true, true, false, false, true, true, true, true, false, false, false, false, false] rfl rfl (any_of HT_.out (by kernel_rfl)) (fun _ _ _ h => h) (Or.inl ⟨by rfl, ?_⟩) ?_ ?_
            rotate_left
            · intro w'
              go_simp
              with_reducible rfl
            rotate_left
            · simp only [Act.put, List.setIfInBounds_toArray, List.set_cons_zero, List.set_cons_succ, i64_w, i32_w]
              rfl
            refine take_ (i := 5) (N := some 20) (v := ?_) (a' := ?_) #[true, true, true, true, true, true, false, true, true, true, true, false, false, false, false, false] rfl rfl (take_ofW HT_.out HW_.out (by kernel_rfl)) (fun _ _ _ h => h) (Or.inl ⟨by rfl, ?_⟩) hHeld ?_ ?_
            rotate_left
            · rintro w' ⟨s0, s1, s2, s3⟩
              go_simp
              with_reducible rfl
            rotate_left
            · simp only [Act.put, List.setIfInBounds_toArray, List.set_cons_zero, List.set_cons_succ, i64_w, i32_w]
              rfl
            refine take_ (i := 11) (N := some 26) (v := ?_) (a' := ?_) #[true, true, true, true, true, true, false, true, true, true, true, true, false, false, false, false] rfl rfl (take_ofW HT_.out HW_.out (by kernel_rfl)) (fun _ _ _ h => h) (Or.inl ⟨by rfl, ?_⟩) hHeld ?_ ?_
            rotate_left
            · rintro w' ⟨s0, s1, s2, s3⟩
              go_simp
              with_reducible rfl
            rotate_left
            · simp only [Act.put, List.setIfInBounds_toArray, List.set_cons_zero, List.set_cons_succ, i64_w, i32_w]
              rfl
            refine one_ (i := 6) (N := some 21) #[true, true, true, true, true, true, true, true, true, true, true, true, false, false, false, false] rfl rfl (one_of HT_.out (by kernel_rfl)) (by decide) (fun K hK => ?_)
            refine goes_ Try.func36 (by kernel_rfl) rfl #[.slice A101_0 ((rd_W l0 x4_1).len) c101_0] (by rfl) rfl rfl (by (try simp only [List.map_toArray, List.map_cons, List.map_nil]); first | done | rfl | (simp only [List.length_drop, List.length_take]; rfl)) ?_
            with_reducible refine (verditerref01_KeepInts.calls _ _ _ ((rd_W l0 x4_1).zs) t102 _ ?side1 ?side2 A4.out).mono ?_
            (case side1 => repeat (first | exact (Kd.C_below HR101_0.out HB.out) | (with_reducible refine Kd.C_alloc ?_ _) | (with_reducible refine Kd.C_drewN ?_ _) | (with_reducible refine Kd.C_drew ?_)))
            (case side2 => exact HC101_0.out)
            rintro e w7 ⟨v103, rfl, ho0, hb⟩
            refine ⟨_, rfl, ?_⟩
            have n0_ := Aside0.mk (Kd.S_elder' (by (with_reducible repeat (first | apply Kd.S_alloc | apply Kd.S_drewN | apply Kd.S_drew)); exact HO_3.out) (Kd.R_base ho0) hb)
            have n1_ := Aside0.mk (Kd.R_lower ho0 (below_size (by repeat (first | (with_reducible first | exact HB.out | apply below_alloc | apply pw_below_drewN | apply below_drew1) | exact HB.out))))
            have n2_ := Aside0.mk (below_step (by repeat (first | (with_reducible first | exact HB.out | apply below_alloc | apply pw_below_drewN | apply below_drew1) | exact HB.out)) hb)
            clear HO_3
            clear HB
            have HO_3 := n0_
            have HO104 := n1_
            have HB := n2_
            clear n0_ n1_ n2_
            (try clear hb)
            (try clear hb2)
            (try clear hk)
            (try clear hi)
            (try clear ho0)
            obtain ⟨Ao8, co8, eo8⟩ := Kd.R_slice HO104.out
            (first | subst eo8 | (injection eo8 with f1_ f2_ f3_; have f4_ := f1_.symm; have f5_ := f3_.symm; clear f1_ f2_ f3_; subst f4_; subst f5_))
            refine hK.out _ _ ⟨((HB.out.cell (World.block_lt_of_cell? w _ hw101_0)).trans hw101_0), ((HB.out.cell (World.block_lt_of_cell? w _ hw101_1)).trans hw101_1), ((HB.out.cell (World.block_lt_of_cell? w _ hw105_0)).trans hw105_0), ((HB.out.cell (World.block_lt_of_cell? w _ hw105_1)).trans hw105_1)⟩ (fun hHeld => ?_)
            clear hK K
            refine norm_ (a' := ?_) ?_ ?_
            rotate_left
            · show Act.put _ (some 21) _ = _
              simp only [Act.put, List.setIfInBounds_toArray, List.set_cons_zero, List.set_cons_succ, i64_w, i32_w]
              rfl
            refine pure_ (i := 12) (N := some 27) (v := ?_) (a' := ?_) #[true, true, true, true, true, true, true, true, true, true, true, true, true, false, false, false] rfl rfl (any_of HT_.out (by kernel_rfl)) (fun _ _ _ h => h) (Or.inl ⟨by rfl, ?_⟩) ?_ ?_
            rotate_left
            · intro w'
              go_simp
              with_reducible rfl
            rotate_left
            · simp only [Act.put, List.setIfInBounds_toArray, List.set_cons_zero, List.set_cons_succ, i64_w, i32_w]
              rfl
            refine one_ (i := 13) (N := some 28) #[true, true, true, true, true, true, true, true, true, true, true, true, true, true, false, false] rfl rfl (one_of HT_.out (by kernel_rfl)) (by decide) (fun K hK => ?_)
            refine value_ (w1 := ?_) (v := ?_) (by rfl) rfl ?_ ?_
            rotate_left 2
            · go_simp
              constructor
              · rfl
              · rfl
            refine hK.out _ _ ⟨(World.cell?_alloc_lt _ _ _ (World.block_lt_of_cell? _ _ (((HB.out.cell (World.block_lt_of_cell? w _ hw101_0)).trans hw101_0)))).trans (((HB.out.cell (World.block_lt_of_cell? w _ hw101_0)).trans hw101_0)), (World.cell?_alloc_lt _ _ _ (World.block_lt_of_cell? _ _ (((HB.out.cell (World.block_lt_of_cell? w _ hw101_1)).trans hw101_1)))).trans (((HB.out.cell (World.block_lt_of_cell? w _ hw101_1)).trans hw101_1)), (World.cell?_alloc_lt _ _ _ (World.block_lt_of_cell? _ _ (((HB.out.cell (World.block_lt_of_cell? w _ hw105_0)).trans hw105_0)))).trans (((HB.out.cell (World.block_lt_of_cell? w _ hw105_0)).trans hw105_0)), (World.cell?_alloc_lt _ _ _ (World.block_lt_of_cell? _ _ (((HB.out.cell (World.block_lt_of_cell? w _ hw105_1)).trans hw105_1)))).trans (((HB.out.cell (World.block_lt_of_cell? w _ hw105_1)).trans hw105_1))⟩ (fun hHeld => ?_)
            clear hK K
            refine norm_ (a' := ?_) ?_ ?_
            rotate_left
            · show Act.put _ (some 28) _ = _
              simp only [Act.put, List.setIfInBounds_toArray, List.set_cons_zero, List.set_cons_succ, i64_w, i32_w]
              rfl
            refine one_ (i := 14) (N := some 29) #[true, true, true, true, true, true, true, true, true, true, true, true, true, true, true, false] rfl rfl (one_of HT_.out (by kernel_rfl)) (by decide) (fun K hK => ?_)
            refine Kd.S_append_step k49 (w0 := w) w.heap.size (by rfl) (.tmp 15) (.tmp 28) 29 49 (.agg #[(.slice none 0 0), (.bool false)]) 32 rfl Try.underlying29 info49 rfl (by decide) (by omega) u3 x3_1 (⟨t102, (rd_W l0 x4_1).yes⟩ : S49) [.slice Ao8 t102.length co8, .bool ((rd_W l0 x4_1).yes)] (fun _ => True) (fun k_ => some k_ = (.slice Ao8 t102.length co8 : Value).ownBlock) rfl rfl ?aP (fun k_ hk_ => ((Kd.R_mono (ok' := fun k_ => ((fun _ => True)) k_ ∧ some k_ ≠ (u3 : Value).ownBlock) (Kd.R_apart' (HO104.out) (Kd.S_typed HO_3.out) (by decide)) (fun k_ hk => ⟨trivial, hk.2⟩))).1 k_ hk_.symm) ?aF ?aO ?aB ?aS ?aL ?_
            (case aP => exact k49_mkM _ _ _ (⟨t102, (rd_W l0 x4_1).yes⟩ : S49) (Kd.R_mono (Kd.R_tight rfl (Kd.R_mono (ok' := fun k_ => ((fun _ => True)) k_ ∧ some k_ ≠ (u3 : Value).ownBlock) (Kd.R_apart' (HO104.out) (Kd.S_typed HO_3.out) (by decide)) (fun k_ hk => ⟨trivial, hk.2⟩))) (fun _ h_ => h_)))
            (case aB => exact (by repeat (first | (with_reducible first | exact HB.out | apply below_alloc | apply pw_below_drewN | apply below_drew1) | exact HB.out)))
            (case aF => exact (fun _ _ => trivial))
            (case aO => exact (by (with_reducible repeat (first | apply Kd.S_alloc | apply Kd.S_drewN | apply Kd.S_drew)); exact Kd.S_mono HO_3.out (fun k_ hk => ⟨trivial, fun e_ => hk.2 e_⟩)))
            (case aS => exact (below_size (by repeat (first | (with_reducible first | exact HB.out | apply below_alloc | apply pw_below_drewN | apply below_drew1) | exact HB.out))))
            (case aL => have := LMc5.out; omega)
            intro v107 w9 ho hb hg hat
            rw [← Ny106.out] at ho
            have n0_ := Aside0.mk (hb)
            have n1_ := Aside0.mk (ho)
            clear HB
            clear HO_3
            clear HO104
            have HB := n0_
            have HO108 := n1_
            clear n0_ n1_
            clear ho hb hg hat
            refine hK.out _ _ ⟨((HB.out.cell (World.block_lt_of_cell? w _ hw101_0)).trans hw101_0), ((HB.out.cell (World.block_lt_of_cell? w _ hw101_1)).trans hw101_1), ((HB.out.cell (World.block_lt_of_cell? w _ hw105_0)).trans hw105_0), ((HB.out.cell (World.block_lt_of_cell? w _ hw105_1)).trans hw105_1)⟩ (fun hHeld => ?_)
            clear hK K
            refine norm_ (a' := ?_) ?_ ?_
            rotate_left
            · show Act.put _ (some 29) _ = _
              simp only [Act.put, List.setIfInBounds_toArray, List.set_cons_zero, List.set_cons_succ, i64_w, i32_w]
              rfl
            refine pure_ (i := 15) (N := some 3) (v := ?_) (a' := ?_) #[true, true, true, true, true, true, true, true, true, true, true, true, true, true, true, true] rfl rfl (any_of HT_.out (by kernel_rfl)) (fun _ _ _ h => h) (Or.inl ⟨by rfl, ?_⟩) ?_ ?_
            rotate_left
            · intro w'
              go_simp
              with_reducible rfl
            rotate_left
            · simp only [Act.put, List.setIfInBounds_toArray, List.set_cons_zero, List.set_cons_succ, i64_w, i32_w]
              rfl
            refine done_ (done_of HT_.out (by kernel_rfl)) ?_
            try go_wp2
            go_roundg k1
            case measure => have := HK1.out; omega
            case rel => exact ⟨(y106), (wrap64 (x4_1 + 1)), (by first | rfl | (simp; done) | (simp [*]; done)), H', ⟨by have := HK1.out; omega⟩, ⟨by (with_reducible repeat (first | apply Kd.S_alloc | apply Kd.S_drewN | apply Kd.S_drew)); exact HO108.out⟩, ⟨by repeat (first | (with_reducible first | exact HB.out | apply below_alloc | apply pw_below_drewN | apply below_drew1) | exact HB.out)⟩⟩
          · rw [if_neg c5] at H
            exact absurd H (by simp)
        · rw [if_neg c3] at H
          exact absurd H (by simp)
      · rw [if_neg c2] at H
        have c2b0 : decide (x4_1 < (l0.length : Int)) = false := decide_eq_false c2
        clear c2
        obtain rfl := Option.some.inj H
        go_wp2
        go_ret
        exact ⟨_, by first | rfl | (simp [errW_none, errW_some] <;> rfl) | (simp [*, errW_none, errW_some] <;> rfl), by (with_reducible repeat (first | apply Kd.S_alloc | apply Kd.S_drewN | apply Kd.S_drew)); exact HO_3.out, by repeat (first | (with_reducible first | exact HB.out | apply below_alloc | apply pw_below_drewN | apply below_drew1) | exact HB.out)⟩

end Go.Proofs.Ytfejfljgdeglgaa.K

/- What KeepAnswers and KeptAnswers answer for a list of answers that came in. -/
namespace Go.Proofs.Ytfejfljgdeglgaa.K
open Go.RowKit Go.Proofs.YtfejfljgdeglgaaW.PrintWords Go.Proofs.YtfejfljgdeglgaaW.PrintLast Go.Proofs.YtfejfljgdeglgaaW.PrintMore
set_option linter.unusedVariables false
set_option linter.unusedSimpArgs false
/-- What is kept of an answer: all cells. -/
def SW.keep (x : SW) : S49 := ⟨x.zs, x.yes⟩
/-- What is handed on of an answer. -/
def SW.now (x : SW) : S49 := ⟨x.zs.take x.len, x.yes⟩
theorem rd_keep (l : List SW) (i : Int) (h0 : 0 ≤ i) (h1 : i < l.length) : rd_T49 (l.map SW.keep) i = (rd_W l i).keep := by
  have hi : i.toNat < l.length := by omega
  unfold rd_T49 rd_W
  rw [List.getD_eq_getElem?_getD, List.getElem?_map, List.getD_eq_getElem?_getD, List.getElem?_eq_getElem hi]
  rfl
theorem keep_l0 (l : List SW) (hl : l.length ≤ 4398046511000) (hz : ∀ s ∈ l, s.zs.length < 17592186044416) : ∀ m n : Nat, n + m = l.length →
    verditerref01_KeepAnswers.l0 (m + 1) l ((l.take n).map SW.keep) (n : Int) = some (l.map SW.keep)
  | 0, n, h => by
    rw [verditerref01_KeepAnswers.l0, if_neg (by omega), List.take_of_length_le (by omega)]
  | m + 1, n, h => by
    have hn : n < l.length := by omega
    have hw : wrap64 ((n : Int) + 1) = ((n + 1 : Nat) : Int) := by unfold wrap64; omega
    have hr : rd_W l (n : Int) = l[n] := by
      unfold rd_W
      rw [Int.toNat_natCast, List.getD_eq_getElem?_getD, List.getElem?_eq_getElem hn]
      rfl
    rw [verditerref01_KeepAnswers.l0, if_pos (by omega), if_pos (by omega), hr]
    have hk : verditerref01_KeepInts.f l[n].zs = some l[n].zs := by
      unfold verditerref01_KeepInts.f
      rw [if_pos (hz _ (List.getElem_mem hn))]
    rw [hk, Option.bind_some, if_pos (by rw [List.length_map, List.length_take]; omega), hw]
    have e : (l.take n).map SW.keep ++ [(⟨l[n].zs, l[n].yes⟩ : S49)] = (l.take (n + 1)).map SW.keep := by
      rw [List.take_add_one, List.getElem?_eq_getElem hn, List.map_append]
      rfl
    rw [e]
    exact keep_l0 l hl hz m (n + 1) (by omega)
theorem keepAnswers_calls (A0 : Option Addr) (len0 : Nat) (l : List SW) (w : World) (hr0 : Kd.C kW w A0 l.length l) (hc0 : len0 ≤ l.length) (hl : l.length ≤ 4398046511000) (hz : ∀ s ∈ l, s.zs.length < 17592186044416) :
    Calls Try.prog 21 #[.slice A0 len0 l.length] w fun e w' => ∃ v0_ : Value, e = .returned (v0_) ∧ Kd.S k49 49 w' w.heap.size (fun _ => True) v0_ (l.map SW.keep) ∧ Below w.heap.size w w' :=
  verditerref01_KeepAnswers.calls (l.length + 1) A0 len0 l _ w hr0 hc0 (keep_l0 l hl hz l.length 0 (by omega))

set_option maxHeartbeats 4000000 in
set_option maxRecDepth 100000 in
theorem keptAnswers_calls (A0 : Option Addr) (c0 : Nat) (A1 : Option Addr) (len : Nat) (l : List SW) (w : World) (hr0 : Kd.C k49 w A0 l.length (l.map SW.keep)) (hr1 : Kd.C kW w A1 l.length l) :
    Calls Try.prog 23 #[.slice A0 l.length c0, .slice A1 len l.length] w fun e w' => e = .returned (.bool true) ∧ Drawn0 w w' := by
  have hm := hr0.2.1
  have HR0 := Aside0.mk hr0
  have HR1 := Aside0.mk hr1
  clear hr0 hr1
  go_enter Try.func23, Try.ntmps23
  go_wp2
  go_loopw [5] (fun i wr => ∃ n : Nat, n ≤ l.length ∧ i = .int .i64 n ∧ Drawn0 w wr) (fun i _ => l.length - (intOf i).toNat)
  case atStart => exact ⟨0, Nat.zero_le _, rfl, Drawn0.refl _⟩
  case round =>
    obtain ⟨n, hn, rfl, ⟨m, rfl⟩⟩ := hrel
    by_cases hlt : n < l.length
    · obtain ⟨ad, B0, d0, e, hx0, hx1, hl0, hi0⟩ := at_T49 HR0.out (n : Int) (by omega) (by omega)
      obtain ⟨ad1, B1, d1, e1, hy0, hy1, hl1, hi1⟩ := at_W HR1.out (n : Int) (by omega) (by omega)
      cases e
      cases e1
      rw [rd_keep l n (by omega) (by omega)] at hx0 hx1 hl0 hi0
      rw [Int.toNat_natCast] at hx0 hx1 hy0 hy1
      generalize rd_W l (n : Int) = s at hx0 hx1 hl0 hi0 hy0 hy1 hl1 hi1
      obtain ⟨sl, sz, sy⟩ := s
      obtain ⟨hl1, rfl⟩ := hl1
      simp only [SW.keep] at hx0 hx1 hl0 hi0 hy0 hy1 hl1 hi1
      have HI0 := Aside0.mk hi0
      have HI1 := Aside0.mk hi1
      clear hi0 hi1 hl0 hl1
      have b0 := eq_true (show 0 ≤ (n : Int) by omega)
      have b1 := eq_true (show (n : Int) < (l.length : Int) by omega)
      have b2 : (sy != sy) = false := by simp
      have b3 : (sy == sy) = true := by simp
      go_wp2
      go_quiet (first | (go_at_call 38; (with_reducible refine (keptInts_calls B0 d0 B1 sl sz _ (Kd.C_drewN HI0.out _) (Kd.C_drewN HI1.out _)).mono ?_); rintro e w' ⟨rfl, ⟨nd, rfl⟩⟩; (try first | exact ⟨rfl, _, World.drewN_drewN _ _ _⟩ | exact ⟨rfl, _, Eq.trans (World.drewN_drewN _ _ _) (congrArg (World.drewN _) (Nat.add_assoc _ _ _))⟩)))
      go_wp2
      go_roundw
      case rel => exact ⟨n + 1, by omega, by go_num, by repeat (first | exact Drawn0.refl _ | apply Drawn0.step)⟩
      case measure => simp [intOf]; omega
    · go_wp2
      go_ret
      exact ⟨rfl, by repeat (first | exact Drawn0.refl _ | apply Drawn0.step)⟩
/-- What is handed on of a list of answers. -/
theorem now_C {w : World} {A : Option Addr} {len : Nat} {l : List SW} (h : Kd.C kW w A l.length l) (hl : len ≤ l.length) : Kd.C k49 w A len ((l.take len).map SW.now) := by
  refine ⟨by rw [List.length_map, List.length_take]; omega, by have := h.2.1; omega, fun hp => ?_⟩
  obtain ⟨ad, e, hc⟩ := h.2.2 (by omega)
  refine ⟨ad, e, fun j p hj => ?_⟩
  rw [List.getElem?_map] at hj
  obtain ⟨s, hs, rfl⟩ := Option.map_eq_some_iff.1 hj
  rw [List.getElem?_take] at hs
  split at hs
  · obtain ⟨c, hlen, hk, hcell⟩ := hc j s hs
    obtain ⟨A0, rfl, l0, g0⟩ := kW_open hk
    have e1 : (SW.now s).f0.length = s.len := by
      show (s.zs.take s.len).length = s.len
      rw [List.length_take]; omega
    refine ⟨_, rfl, k49_mk w (SW.now s) (A0 := A0) (c0 := s.zs.length) (by rw [e1]; exact l0) (Kd.C_take g0 l0), ?_⟩
    rw [e1]
    exact hcell
  · cases hs
theorem now_len (l : List SW) (len : Nat) (h : len ≤ l.length) : ((l.take len).map SW.now).length = len := by rw [List.length_map, List.length_take]; omega
theorem now_wf {l : List SW} (len : Nat) (h : ∀ s ∈ l, s.len ≤ s.zs.length ∧ ∀ z ∈ s.zs, (Lit.int .i64 z).wf = true) : ∀ s ∈ (l.take len).map SW.now, ∀ z ∈ s.f0, (Lit.int .i64 z).wf = true := by
  intro s hs z hz
  obtain ⟨t, ht, rfl⟩ := List.mem_map.1 hs
  exact (h t (List.mem_of_mem_take ht)).2 z (List.mem_of_mem_take hz)
end Go.Proofs.Ytfejfljgdeglgaa.K

/- A list of answers that came in, opened: what its cells hold, all of them; and how heavy it is. -/
namespace Go.Proofs.Ytfejfljgdeglgaa.K
open Go.RowKit Go.ChangeShapes Go.WideShapes Go.Proofs.YtfejfljgdeglgaaW.PrintWords Go.Proofs.YtfejfljgdeglgaaW.PrintLast Go.Proofs.YtfejfljgdeglgaaW.PrintMore
set_option linter.unusedVariables false
set_option linter.unusedSimpArgs false
variable {H : Type} {enc : TypeId × Value → H}
theorem all_append {B : Nat} {a b : List Nat} (h : (a ++ b).all (· ≤ B) = true) : a.all (· ≤ B) = true ∧ b.all (· ≤ B) = true := by
  rw [List.all_append, Bool.and_eq_true] at h
  exact h
theorem all_weights {B : Nat} {P : Program} {e : TypeId} : ∀ {l : List (DataW H)}, (DataW.weightsAll P e l).all (· ≤ B) = true → ∀ d ∈ l, (d.weights P e).all (· ≤ B) = true
  | [], _, d, hd => by cases hd
  | x :: l, h, d, hd => by
    simp only [DataW.weightsAll] at h
    obtain ⟨h1, h2⟩ := all_append h
    rcases List.mem_cons.1 hd with rfl | hd
    · exact h1
    · exact all_weights h2 d hd
set_option maxRecDepth 100000 in
/-- One answer's reading. -/
theorem open_answer {W : World} {held : Bool} {n : Nat} {cs : List Value} {y : DataW H × List MemPlace} (h : DataW.trod enc Try.prog W 0 (fun _ => true) held n 49 cs = some y) :
    ∃ (s : SW) (A0 : Option Addr), cs = [.slice A0 s.len s.zs.length, .bool s.yes] ∧ s.len ≤ s.zs.length ∧ (Kd.int .i64).C W A0 s.zs.length s.zs ∧ (∀ z ∈ s.zs, (Lit.int .i64 z).wf = true) ∧
      ∀ B, (y.1.weights Try.prog 49).all (· ≤ B) = true → s.zs.length * 8 ≤ B := by
  obtain ⟨y0, y1, m, rfl, hl, h0, h1⟩ := trod_struct2 Try.underlying49 h
  have hc : Try.prog.cellsOf 49 = 2 := by kernel_rfl
  have hc47 : Try.prog.cellsOf 47 = 1 := by kernel_rfl
  have hc4 : Try.prog.cellsOf 4 = 1 := by kernel_rfl
  rw [hc] at hl
  obtain ⟨c0, c1, rfl⟩ : ∃ c0 c1, cs = [c0, c1] := by
    rcases cs with _ | ⟨c0, _ | ⟨c1, _ | ⟨c2, r⟩⟩⟩
    · simp at hl
    · simp at hl
    · exact ⟨c0, c1, rfl⟩
    · simp at hl
  · simp only [hc47, hc4, List.drop_zero, List.take_succ_cons, List.take_zero, List.drop_succ_cons] at h0 h1
    obtain ⟨b, e1, rfl⟩ := DataW.trod_bool Try.underlying4 h1
    simp only [List.cons.injEq, and_true] at e1
    subst e1
    rcases open_ints Try.underlying47 Try.underlying3 (by kernel_rfl) h0 with ⟨hcs, rfl⟩ | ⟨a, len, cap, zs, hcs, _, hle, hm, hz, rfl, hcell, hwf⟩
    · simp only [List.cons.injEq, and_true] at hcs
      subst hcs
      exact ⟨⟨0, [], b⟩, none, rfl, Nat.le_refl _, Kd.C_nil _ _, fun z hz => (by cases hz), fun B _ => by simp⟩
    · simp only [List.cons.injEq, and_true] at hcs
      subst hcs
      have hz2 : zs.length = cap := by simpa using hz
      subst hz2
      refine ⟨⟨len, zs, b⟩, some a, rfl, hle, Kd.C_of_reads (d := (0 : Int)) (h1 := fun _ => rfl) ⟨rfl, by unfold maxLen at hm; omega, fun hp => ⟨a, rfl, fun j hj => hcell j hj⟩⟩, hwf, fun B hB => ?_⟩
      simp only [DataW.weights, Try.underlying49, List.map_cons, List.map_nil, DataW.weightsEach, Try.underlying47] at hB
      have hb8 : Try.prog.bytesOf 3 = 8 := by kernel_rfl
      rw [hb8] at hB
      have := (all_append hB).1
      simp only [List.cons_append, List.all_cons, Bool.and_eq_true, decide_eq_true_eq] at this
      have h3 := this.1
      simp [lits] at h3
      show zs.length * 8 ≤ B
      have e : min len zs.length + (zs.length - len) = zs.length := by omega
      rw [e] at h3
      exact h3

set_option maxRecDepth 100000 in
/-- A list of answers, its reading. -/
theorem open_answers {W : World} {held : Bool} {n : Nat} {cs : List Value} {y : DataW H × List MemPlace} (h : DataW.trod enc Try.prog W 0 (fun _ => true) held n 29 cs = some y) :
    ∃ (A0 : Option Addr) (len : Nat) (l : List SW), cs = [.slice A0 len l.length] ∧ len ≤ l.length ∧ Kd.C kW W A0 l.length l ∧ (∀ s ∈ l, s.len ≤ s.zs.length ∧ ∀ z ∈ s.zs, (Lit.int .i64 z).wf = true) ∧
      ∀ B, (y.1.weights Try.prog 29).all (· ≤ B) = true → l.length * 32 ≤ B ∧ ∀ s ∈ l, s.zs.length * 8 ≤ B := by
  have hc : Try.prog.cellsOf 49 = 2 := by kernel_rfl
  have hb32 : Try.prog.bytesOf 49 = 32 := by kernel_rfl
  rcases DataW.trod_slice Try.underlying29 h with ⟨rfl, rfl⟩ | ⟨a, len, cap, elems, rest, m, _, rfl, rfl, hb, hl, hm, hlen, hel, hsp, hns⟩
  · exact ⟨none, 0, [], rfl, Nat.le_refl _, ⟨rfl, by simp, fun h => absurd h (by simp)⟩, fun s hs => (by cases hs), fun B _ => ⟨by simp, fun s hs => (by cases hs)⟩⟩
  · obtain ⟨hrl, hr⟩ := hsp rfl
    have each : ∀ i, ∃ s : SW, i < cap → ∃ A0, (∀ q u, [Value.slice A0 s.len s.zs.length, Value.bool s.yes][q]? = some u → W.cell? (a.add (i * 2 + q)) = some u) ∧ s.len ≤ s.zs.length ∧ (Kd.int .i64).C W A0 s.zs.length s.zs ∧ (∀ z ∈ s.zs, (Lit.int .i64 z).wf = true) ∧
        ∃ d, (d ∈ elems.map (·.1) ∨ d ∈ rest.map (·.1)) ∧ ∀ B, (d.weights Try.prog 49).all (· ≤ B) = true → s.zs.length * 8 ≤ B := by
      intro i
      by_cases hi : i < cap
      · have hy : ∃ y, (y ∈ elems ∨ y ∈ rest) ∧ (W.cells? 0 (a.add (i * 2)) 2).bind (DataW.trod enc Try.prog W 0 (fun _ => true) held m 49) = some y := by
          by_cases hi2 : i < len
          · refine ⟨elems[i], .inl (List.getElem_mem _), ?_⟩
            have := hel i hi2
            rw [hc] at this
            rw [this, List.getElem?_eq_getElem]
          · refine ⟨rest[i - len], .inr (List.getElem_mem _), ?_⟩
            have := hr (i - len) (by omega)
            rw [hc, show len + (i - len) = i by omega] at this
            rw [this, List.getElem?_eq_getElem]
        obtain ⟨y, hmem, hy⟩ := hy
        rw [Option.bind_eq_some_iff] at hy
        obtain ⟨c2, hcs, hy⟩ := hy
        obtain ⟨s, A0, rfl, h1, h2, h3, h4⟩ := open_answer hy
        obtain ⟨_, _, hcell⟩ := World.cells?_some hcs
        refine ⟨s, fun _ => ⟨A0, fun q u hu => ?_, h1, h2, h3, y.1, ?_, h4⟩⟩
        · have hq : q < 2 := by
            have := (List.getElem?_eq_some_iff.1 hu).1
            simpa using this
          have := hcell q hq
          rw [hu] at this
          rw [← this]
          rw [Addr.add_add]
        · rcases hmem with hm2 | hm2
          · exact .inl (List.mem_map_of_mem hm2)
          · exact .inr (List.mem_map_of_mem hm2)
      · exact ⟨zW, fun h => absurd h hi⟩
    obtain ⟨f, hf⟩ := Classical.axiomOfChoice each
    have hlen2 : ((List.range cap).map f).length = cap := by simp
    have hmem : ∀ s ∈ (List.range cap).map f, ∃ i, i < cap ∧ s = f i := by
      intro s hs
      obtain ⟨i, hi, rfl⟩ := List.mem_map.1 hs
      exact ⟨i, List.mem_range.1 hi, rfl⟩
    refine ⟨some a, len, (List.range cap).map f, by rw [hlen2], by rw [hlen2]; exact hl, ⟨rfl, by unfold maxLen at hm; rw [hlen2]; omega, fun _ => ⟨a, rfl, fun j p hp => ?_⟩⟩, fun s hs => ?_, fun B hB => ?_⟩
    · have hj : j < cap := by
        have := (List.getElem?_eq_some_iff.1 hp).1
        simpa using this
      rw [List.getElem?_map, List.getElem?_range hj] at hp
      simp only [Option.map_some, Option.some.injEq] at hp
      subst hp
      obtain ⟨A0, k1, k2, k3, _⟩ := hf j hj
      exact ⟨_, rfl, kW_mk W (f j) k2 k3, k1⟩
    · obtain ⟨i, hi, rfl⟩ := hmem s hs
      obtain ⟨A0, k1, k2, k3, k4, _⟩ := hf i hi
      exact ⟨k2, k4⟩
    · simp only [DataW.weights, Try.underlying29, hb32, List.all_cons, Bool.and_eq_true, decide_eq_true_eq, List.length_map] at hB
      obtain ⟨hB1, hB2⟩ := hB
      obtain ⟨hB3, hB4⟩ := all_append hB2
      refine ⟨by rw [hlen2]; have : elems.length + rest.length = cap := (by omega); rw [this] at hB1; exact hB1, fun s hs => ?_⟩
      obtain ⟨i, hi, rfl⟩ := hmem s hs
      obtain ⟨A0, k1, k2, k3, k4, d, hd, kB⟩ := hf i hi
      refine kB B ?_
      rcases hd with hd | hd
      · exact all_weights hB3 d hd
      · exact all_weights hB4 d hd
/-- A row's list of answers, opened. -/
theorem row_answers {W : World} {held : Bool} {t : TypeId} {A : Option Addr} {len cap : Nat} {d : DataW H} {ps : List MemPlace} {ts : List TypeId} {ds : List (DataW H)} {j : Nat}
    (hsz : (DataW.weightsEach Try.prog ts ds).all (· ≤ reachBytes) = true) (ht : ts[j]? = some 29) (hd : ds[j]? = some d)
    (h : DataW.Trod enc Try.prog W 0 (fun _ => true) held 29 (.slice A len cap) d ps) :
    ∃ l : List SW, cap = l.length ∧ len ≤ l.length ∧ Kd.C kW W A l.length l ∧ (∀ s ∈ l, s.len ≤ s.zs.length ∧ ∀ z ∈ s.zs, (Lit.int .i64 z).wf = true) ∧ l.length ≤ 4398046511000 ∧ ∀ s ∈ l, s.zs.length < 17592186044416 := by
  obtain ⟨fuel, hf⟩ := h
  obtain ⟨A0, len0, l, hcs, h1, h2, h3, h4⟩ := open_answers hf
  simp [Value.cells] at hcs
  obtain ⟨rfl, rfl, rfl⟩ := hcs
  have hB := h4 reachBytes (by
    rw [List.all_eq_true] at hsz ⊢
    intro n hn
    exact hsz n (DataW.weights_mem_each ht hd n hn))
  have hr : reachBytes = 140737488351232 := by rfl
  rw [hr] at hB
  exact ⟨l, rfl, h1, h2, h3, by omega, fun s hs => by have := hB.2 s hs; omega⟩
end Go.Proofs.Ytfejfljgdeglgaa.K
