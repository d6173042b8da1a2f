/- What judge.Validate answers. -/
import Derived.Test.YtfejfljgdeglgaaHI
import Derived.Test.YtfejfljgdeglgaaHSB
namespace Go.Proofs.Ytfejfljgdeglgaa.K
open Go.RowKit Go.Proofs.YtfejfljgdeglgaaW.PrintWords Go.Proofs.YtfejfljgdeglgaaW.PrintLast Go.Proofs.YtfejfljgdeglgaaW.PrintMore
set_option linter.unusedVariables false
set_option linter.unusedSimpArgs false

set_option maxHeartbeats 4000000 in
set_option maxRecDepth 100000 in
theorem validate1 (x : S49) (A : Option Addr) (c G : Nat) (g : Int) (hg0 : 0 ≤ g) (hg1 : g ≤ 1000) (w : World) (hr : Kd.C (Kd.int .i64) w A x.f0.length x.f0) (hc : x.f0.length ≤ c) (hb : w.cell? ⟨G, 0, none⟩ = some (.int .i64 g)) :
    Calls Try.prog 83 #[.agg #[.slice A x.f0.length c, .bool x.f1], .pointer (some ⟨G, 0, none⟩)] w fun e w' => e = .returned (.bool (!isSetP x.f0 g)) ∧ Below w.heap.size w w' := by
  have HR := Aside0.mk hr
  have hB : Below w.heap.size w (w.alloc (Obj.cells #[.slice A x.f0.length c, .bool x.f1] 49)) := below_alloc (Below.refl _ _) _
  have hG : G < w.heap.size := World.block_lt_of_cell? w _ hb
  have hb2 : (w.alloc (Obj.cells #[.slice A x.f0.length c, .bool x.f1] 49)).cell? ⟨G, 0, none⟩ = some (.int .i64 g) := (World.cell?_alloc_past _ _ _ hG).trans hb
  clear hr hb
  go_enter Try.func83, Try.ntmps83
  go_wp2_with (first | (go_at_call 84; refine (isSet84 x.f0 A c g hg0 hg1 _ (Kd.C_alloc HR.out _) hc).mono ?_; rintro e w' ⟨rfl, ⟨nd, rfl⟩⟩))
  go_ret
  exact ⟨rfl, pw_below_drewN hB _⟩

def allSetF (l : List S49) (g : Int) : Nat → Nat → Bool
  | 0, _ => true
  | m + 1, i => if isSetP (rd_T49 l i).f0 g = true then allSetF l g m (i + 1) else false
/-- Whether all answers name sets of grades. -/
def allSet (l : List S49) (g : Int) : Bool := allSetF l g l.length 0

set_option maxHeartbeats 4000000 in
set_option maxRecDepth 100000 in
theorem validateAny (l : List S49) (A : Option Addr) (c G : Nat) (g : Int) (hg0 : 0 ≤ g) (hg1 : g ≤ 1000) (w : World) (hr : Kd.C k49 w A l.length l) (hc : l.length ≤ c) (hb : w.cell? ⟨G, 0, none⟩ = some (.int .i64 g)) :
    Calls Try.prog 94 #[.slice A l.length c, .func (.func 83) #[] #[.pointer (some ⟨G, 0, none⟩)]] w fun e w' => (∃ n : Int, e = .returned (.int .i64 n) ∧ (0 ≤ n ↔ allSet l g = false)) ∧ Below w.heap.size w w' := by
  have hm := hr.2.1
  have HR0 := Aside0.mk hr
  have HG := Aside0.mk hb
  clear hr hb
  go_enter Try.func94, Try.ntmps94
  go_wp2
  go_loopw [8] (fun i wr => ∃ n : Nat, n ≤ l.length ∧ i = .int .i64 n ∧ allSet l g = allSetF l g (l.length - n) n ∧ Below w.heap.size w wr) (fun i _ => l.length - (intOf i).toNat)
  case atStart => exact ⟨0, Nat.zero_le _, rfl, rfl, Below.refl _ _⟩
  case round =>
    obtain ⟨n, hn, rfl, hs, hB⟩ := hrel
    have HS := Aside0.mk hs
    have HB := Aside0.mk hB
    clear hs
    by_cases hlt : n < l.length
    · obtain ⟨ad, A1, c1, e, hx0, hx1, hl1, hr1⟩ := at_T49 (Kd.C_below HR0.out hB) (n : Int) (by omega) (by omega)
      cases e
      rw [Int.toNat_natCast] at hx0 hx1
      have hg := cell_kept HG.out (grown_of_below hB) (by simp)
      have HG2 := Aside0.mk hg
      have HR1 := Aside0.mk hr1
      have HL1 := Aside0.mk hl1
      clear hB hr1 hl1 hg
      have b0 := eq_true (show 0 ≤ (n : Int) by omega)
      have b1 := eq_true (show (n : Int) < (l.length : Int) by omega)
      cases hset : isSetP (rd_T49 l n).f0 g
      · have HT := Aside0.mk hset
        clear hset
        go_wp2_with (first | (go_at_call 83; refine (validate1 (rd_T49 l n) A1 c1 G g hg0 hg1 _ HR1.out HL1.out HG2.out).mono ?_; rintro e w2 ⟨rfl, hb2⟩; have HB2 := Aside0.mk (below_step HB.out hb2); clear hb2; rw [HT.out]; simp only [Bool.not_false]))
        go_ret
        exact ⟨⟨n, rfl, by constructor; (intro _; rw [HS.out, show l.length - n = (l.length - n - 1) + 1 by omega, allSetF, HT.out]; rfl); (intro _; omega)⟩, HB2.out⟩
      · have HT := Aside0.mk hset
        clear hset
        go_wp2_with (first | (go_at_call 83; refine (validate1 (rd_T49 l n) A1 c1 G g hg0 hg1 _ HR1.out HL1.out HG2.out).mono ?_; rintro e w2 ⟨rfl, hb2⟩; have HB2 := Aside0.mk (below_step HB.out hb2); clear hb2; rw [HT.out]; simp only [Bool.not_true]))
        go_roundw
        case rel => exact ⟨n + 1, by omega, by go_num, by rw [HS.out, show l.length - n = (l.length - (n + 1)) + 1 by omega, allSetF, HT.out]; rfl, HB2.out⟩
        case measure => simp [intOf]; omega
    · have e : n = l.length := by omega
      subst e
      go_wp2
      go_ret
      exact ⟨⟨-1, rfl, by constructor; (intro h; omega); (intro h; rw [HS.out, Nat.sub_self] at h; cases h)⟩, HB.out⟩
set_option maxHeartbeats 4000000 in
set_option maxRecDepth 100000 in
theorem validateHas (l : List S49) (A : Option Addr) (c G : Nat) (g : Int) (hg0 : 0 ≤ g) (hg1 : g ≤ 1000) (w : World) (hr : Kd.C k49 w A l.length l) (hc : l.length ≤ c) (hb : w.cell? ⟨G, 0, none⟩ = some (.int .i64 g)) :
    Calls Try.prog 82 #[.slice A l.length c, .func (.func 83) #[] #[.pointer (some ⟨G, 0, none⟩)]] w fun e w' => e = .returned (.bool (!allSet l g)) ∧ Below w.heap.size w w' := by
  have HR0 := Aside0.mk hr
  have HG := Aside0.mk hb
  clear hr hb
  cases hs : allSet l g
  · have HS := Aside0.mk hs
    clear hs
    go_enter Try.func82, Try.ntmps82
    go_wp2_with (first | (go_at_call 94; refine (validateAny l A c G g hg0 hg1 _ HR0.out hc HG.out).mono ?_; rintro e w2 ⟨⟨n, rfl, hn⟩, hb2⟩; have HB2 := Aside0.mk hb2; have hn0 : 0 ≤ n := hn.2 HS.out; have b0 := eq_true hn0; clear hb2 hn))
    go_ret
    exact ⟨by first | rfl | simp [hn0], HB2.out⟩
  · have HS := Aside0.mk hs
    clear hs
    go_enter Try.func82, Try.ntmps82
    go_wp2_with (first | (go_at_call 94; refine (validateAny l A c G g hg0 hg1 _ HR0.out hc HG.out).mono ?_; rintro e w2 ⟨⟨n, rfl, hn⟩, hb2⟩; have HB2 := Aside0.mk hb2; have hn0 : ¬ 0 ≤ n := (by intro h; have := hn.1 h; rw [HS.out] at this; cases this); have b0 := eq_false hn0; clear hb2 hn))
    go_ret
    exact ⟨by first | rfl | (simp; omega), HB2.out⟩
/-- judge.Validate. -/
def judge_Validate.f (a0 : Int) (l1 : List S49) : Option Int := if 1 ≤ a0 ∧ a0 ≤ 16 then (if l1.length > 12 then some 3 else some (if allSet l1 a0 = true then 0 else 1)) else some 1
theorem g_cell (W : World) (g : Int) : (W.alloc (Obj.cells #[.int .i64 g] 3)).cell? ⟨W.heap.size, 0, none⟩ = some (.int .i64 g) := World.cell?_alloc_at _ _ _ _ rfl
set_option maxHeartbeats 4000000 in
set_option maxRecDepth 100000 in
theorem judge_Validate.calls (a0 : Int) (A1 : Option Addr) (c1 : Nat) (l1 : List S49) (r : Int) (w : World) (hr1 : Kd.C k49 w A1 l1.length l1) (hc1 : l1.length ≤ c1) (h : judge_Validate.f a0 l1 = some r) :
    Calls Try.prog 51 #[.int .i64 a0, .slice A1 l1.length c1] w fun e w' => e = .returned (.int .i64 r) ∧ Below w.heap.size w w' := by
  have hm := hr1.2.1
  have HR := Aside0.mk hr1
  have hBa : Below w.heap.size w (w.alloc (Obj.cells #[.int .i64 a0] 3)) := below_alloc (Below.refl _ _) _
  have HBA := Aside0.mk hBa
  have hg := g_cell w a0
  clear hr1 hBa
  unfold judge_Validate.f at h
  by_cases hg1 : 1 ≤ a0 ∧ a0 ≤ 16
  · rw [if_pos hg1] at h
    obtain ⟨hg1, hg2⟩ := hg1
    have HW := Aside0.mk ((jwithin a0 1 16).trans (by rw [decide_eq_true ⟨hg1, hg2⟩]) : judge_within.f a0 1 16 = some true)
    by_cases hl : l1.length > 12
    · rw [if_pos hl] at h
      obtain rfl := Option.some.inj h
      clear h
      go_enter Try.func51, Try.ntmps51
      go_wp2_with (first | (go_at_call 78; (with_reducible refine (judge_within.calls _ _ _ _ _ HW.out).mono ?_); rintro e w' ⟨rfl, ⟨nd, rfl⟩⟩))
      go_ret
      exact ⟨rfl, pw_below_drewN HBA.out _⟩
    · rw [if_neg hl] at h
      obtain rfl := Option.some.inj h
      clear h
      go_enter Try.func51, Try.ntmps51
      cases hs : allSet l1 a0
      · have HS := Aside0.mk hs
        clear hs
        go_wp2_with (first
          | (go_at_call 78; (with_reducible refine (judge_within.calls _ _ _ _ _ HW.out).mono ?_); rintro e w' ⟨rfl, ⟨nd, rfl⟩⟩)
          | (go_at_call 82; refine (validateHas l1 A1 c1 w.heap.size a0 (by omega) (by omega) _ (Kd.C_drewN (Kd.C_alloc HR.out _) _) hc1 hg).mono ?_; rintro e w2 ⟨rfl, hb2⟩; have HB2 := Aside0.mk hb2; clear hb2; rw [HS.out]; simp only [Bool.not_false]))
        go_ret
        exact ⟨rfl, below_step (pw_below_drewN HBA.out _) HB2.out⟩
      · have HS := Aside0.mk hs
        clear hs
        go_wp2_with (first
          | (go_at_call 78; (with_reducible refine (judge_within.calls _ _ _ _ _ HW.out).mono ?_); rintro e w' ⟨rfl, ⟨nd, rfl⟩⟩)
          | (go_at_call 82; refine (validateHas l1 A1 c1 w.heap.size a0 (by omega) (by omega) _ (Kd.C_drewN (Kd.C_alloc HR.out _) _) hc1 hg).mono ?_; rintro e w2 ⟨rfl, hb2⟩; have HB2 := Aside0.mk hb2; clear hb2; rw [HS.out]; simp only [Bool.not_true]))
        go_ret
        exact ⟨rfl, below_step (pw_below_drewN HBA.out _) HB2.out⟩
  · rw [if_neg hg1] at h
    obtain rfl := Option.some.inj h
    clear h
    have HW := Aside0.mk ((jwithin a0 1 16).trans (by rw [decide_eq_false hg1]) : judge_within.f a0 1 16 = some false)
    go_enter Try.func51, Try.ntmps51
    go_wp2_with (first | (go_at_call 78; (with_reducible refine (judge_within.calls _ _ _ _ _ HW.out).mono ?_); rintro e w' ⟨rfl, ⟨nd, rfl⟩⟩))
    go_ret
    exact ⟨rfl, pw_below_drewN HBA.out _⟩
end Go.Proofs.Ytfejfljgdeglgaa.K
