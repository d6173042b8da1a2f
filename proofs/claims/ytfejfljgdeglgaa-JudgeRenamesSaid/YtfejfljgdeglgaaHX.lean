/- What KeepAnswers and KeptAnswers answer for a list of answers that came in. -/
import Derived.Test.YtfejfljgdeglgaaHW
namespace Go.Proofs.Ytfejfljgdeglgaa.K
open Go.RowKit Go.Proofs.YtfejfljgdeglgaaW.PrintWords Go.Proofs.YtfejfljgdeglgaaW.PrintLast Go.Proofs.YtfejfljgdeglgaaW.PrintMore
set_option linter.unusedVariables false
set_option linter.unusedSimpArgs false
/-- What is kept of an answer: all cells. -/
def SW.keep (x : SW) : S49 := ⟨x.zs, x.yes⟩
/-- What is handed on of an answer. -/
def SW.now (x : SW) : S49 := ⟨x.zs.take x.len, x.yes⟩
theorem rd_keep (l : List SW) (i : Int) (h0 : 0 ≤ i) (h1 : i < l.length) : rd_T49 (l.map SW.keep) i = (rd_W l i).keep := by
  have hi : i.toNat < l.length := by omega
  unfold rd_T49 rd_W
  rw [List.getD_eq_getElem?_getD, List.getElem?_map, List.getD_eq_getElem?_getD, List.getElem?_eq_getElem hi]
  rfl
theorem keep_l0 (l : List SW) (hl : l.length ≤ 4398046511000) (hz : ∀ s ∈ l, s.zs.length < 17592186044416) : ∀ m n : Nat, n + m = l.length →
    verditerref01_KeepAnswers.l0 (m + 1) l ((l.take n).map SW.keep) (n : Int) = some (l.map SW.keep)
  | 0, n, h => by
    rw [verditerref01_KeepAnswers.l0, if_neg (by omega), List.take_of_length_le (by omega)]
  | m + 1, n, h => by
    have hn : n < l.length := by omega
    have hw : wrap64 ((n : Int) + 1) = ((n + 1 : Nat) : Int) := by unfold wrap64; omega
    have hr : rd_W l (n : Int) = l[n] := by
      unfold rd_W
      rw [Int.toNat_natCast, List.getD_eq_getElem?_getD, List.getElem?_eq_getElem hn]
      rfl
    rw [verditerref01_KeepAnswers.l0, if_pos (by omega), if_pos (by omega), hr]
    have hk : verditerref01_KeepInts.f l[n].zs = some l[n].zs := by
      unfold verditerref01_KeepInts.f
      rw [if_pos (hz _ (List.getElem_mem hn))]
    rw [hk, Option.bind_some, if_pos (by rw [List.length_map, List.length_take]; omega), hw]
    have e : (l.take n).map SW.keep ++ [(⟨l[n].zs, l[n].yes⟩ : S49)] = (l.take (n + 1)).map SW.keep := by
      rw [List.take_add_one, List.getElem?_eq_getElem hn, List.map_append]
      rfl
    rw [e]
    exact keep_l0 l hl hz m (n + 1) (by omega)
theorem keepAnswers_calls (A0 : Option Addr) (len0 : Nat) (l : List SW) (w : World) (hr0 : Kd.C kW w A0 l.length l) (hc0 : len0 ≤ l.length) (hl : l.length ≤ 4398046511000) (hz : ∀ s ∈ l, s.zs.length < 17592186044416) :
    Calls Try.prog 21 #[.slice A0 len0 l.length] w fun e w' => ∃ v0_ : Value, e = .returned (v0_) ∧ Kd.S k49 49 w' w.heap.size (fun _ => True) v0_ (l.map SW.keep) ∧ Below w.heap.size w w' :=
  verditerref01_KeepAnswers.calls (l.length + 1) A0 len0 l _ w hr0 hc0 (keep_l0 l hl hz l.length 0 (by omega))

set_option maxHeartbeats 4000000 in
set_option maxRecDepth 100000 in
theorem keptAnswers_calls (A0 : Option Addr) (c0 : Nat) (A1 : Option Addr) (len : Nat) (l : List SW) (w : World) (hr0 : Kd.C k49 w A0 l.length (l.map SW.keep)) (hr1 : Kd.C kW w A1 l.length l) :
    Calls Try.prog 23 #[.slice A0 l.length c0, .slice A1 len l.length] w fun e w' => e = .returned (.bool true) ∧ Drawn0 w w' := by
  have hm := hr0.2.1
  have HR0 := Aside0.mk hr0
  have HR1 := Aside0.mk hr1
  clear hr0 hr1
  go_enter Try.func23, Try.ntmps23
  go_wp2
  go_loopw [5] (fun i wr => ∃ n : Nat, n ≤ l.length ∧ i = .int .i64 n ∧ Drawn0 w wr) (fun i _ => l.length - (intOf i).toNat)
  case atStart => exact ⟨0, Nat.zero_le _, rfl, Drawn0.refl _⟩
  case round =>
    obtain ⟨n, hn, rfl, ⟨m, rfl⟩⟩ := hrel
    by_cases hlt : n < l.length
    · obtain ⟨ad, B0, d0, e, hx0, hx1, hl0, hi0⟩ := at_T49 HR0.out (n : Int) (by omega) (by omega)
      obtain ⟨ad1, B1, d1, e1, hy0, hy1, hl1, hi1⟩ := at_W HR1.out (n : Int) (by omega) (by omega)
      cases e
      cases e1
      rw [rd_keep l n (by omega) (by omega)] at hx0 hx1 hl0 hi0
      rw [Int.toNat_natCast] at hx0 hx1 hy0 hy1
      generalize rd_W l (n : Int) = s at hx0 hx1 hl0 hi0 hy0 hy1 hl1 hi1
      obtain ⟨sl, sz, sy⟩ := s
      obtain ⟨hl1, rfl⟩ := hl1
      simp only [SW.keep] at hx0 hx1 hl0 hi0 hy0 hy1 hl1 hi1
      have HI0 := Aside0.mk hi0
      have HI1 := Aside0.mk hi1
      clear hi0 hi1 hl0 hl1
      have b0 := eq_true (show 0 ≤ (n : Int) by omega)
      have b1 := eq_true (show (n : Int) < (l.length : Int) by omega)
      have b2 : (sy != sy) = false := by simp
      have b3 : (sy == sy) = true := by simp
      go_wp2
      go_quiet (first | (go_at_call 38; (with_reducible refine (keptInts_calls B0 d0 B1 sl sz _ (Kd.C_drewN HI0.out _) (Kd.C_drewN HI1.out _)).mono ?_); rintro e w' ⟨rfl, ⟨nd, rfl⟩⟩; (try first | exact ⟨rfl, _, World.drewN_drewN _ _ _⟩ | exact ⟨rfl, _, Eq.trans (World.drewN_drewN _ _ _) (congrArg (World.drewN _) (Nat.add_assoc _ _ _))⟩)))
      go_wp2
      go_roundw
      case rel => exact ⟨n + 1, by omega, by go_num, by repeat (first | exact Drawn0.refl _ | apply Drawn0.step)⟩
      case measure => simp [intOf]; omega
    · go_wp2
      go_ret
      exact ⟨rfl, by repeat (first | exact Drawn0.refl _ | apply Drawn0.step)⟩
/-- What is handed on of a list of answers. -/
theorem now_C {w : World} {A : Option Addr} {len : Nat} {l : List SW} (h : Kd.C kW w A l.length l) (hl : len ≤ l.length) : Kd.C k49 w A len ((l.take len).map SW.now) := by
  refine ⟨by rw [List.length_map, List.length_take]; omega, by have := h.2.1; omega, fun hp => ?_⟩
  obtain ⟨ad, e, hc⟩ := h.2.2 (by omega)
  refine ⟨ad, e, fun j p hj => ?_⟩
  rw [List.getElem?_map] at hj
  obtain ⟨s, hs, rfl⟩ := Option.map_eq_some_iff.1 hj
  rw [List.getElem?_take] at hs
  split at hs
  · obtain ⟨c, hlen, hk, hcell⟩ := hc j s hs
    obtain ⟨A0, rfl, l0, g0⟩ := kW_open hk
    have e1 : (SW.now s).f0.length = s.len := by
      show (s.zs.take s.len).length = s.len
      rw [List.length_take]; omega
    refine ⟨_, rfl, k49_mk w (SW.now s) (A0 := A0) (c0 := s.zs.length) (by rw [e1]; exact l0) (Kd.C_take g0 l0), ?_⟩
    rw [e1]
    exact hcell
  · cases hs
theorem now_len (l : List SW) (len : Nat) (h : len ≤ l.length) : ((l.take len).map SW.now).length = len := by rw [List.length_map, List.length_take]; omega
theorem now_wf {l : List SW} (len : Nat) (h : ∀ s ∈ l, s.len ≤ s.zs.length ∧ ∀ z ∈ s.zs, (Lit.int .i64 z).wf = true) : ∀ s ∈ (l.take len).map SW.now, ∀ z ∈ s.f0, (Lit.int .i64 z).wf = true := by
  intro s hs z hz
  obtain ⟨t, ht, rfl⟩ := List.mem_map.1 hs
  exact (h t (List.mem_of_mem_take ht)).2 z (List.mem_of_mem_take hz)
end Go.Proofs.Ytfejfljgdeglgaa.K
