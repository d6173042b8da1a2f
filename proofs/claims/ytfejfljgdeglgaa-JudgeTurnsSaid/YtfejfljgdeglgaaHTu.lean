/- judgeTurns walked at known answers of what it calls: both Turn answer alike. -/
import Derived.Test.YtfejfljgdeglgaaHV
import Derived.Test.YtfejfljgdeglgaaK14
import Derived.Test.YtfejfljgdeglgaaK15
import Derived.Test.YtfejfljgdeglgaaK2
import Derived.Test.YtfejfljgdeglgaaK4
import Derived.Test.YtfejfljgdeglgaaK5
import Derived.Test.YtfejfljgdeglgaaK6
import Derived.Lib.SliceRun
import Derived.Lib.Hide
import Derived.StillTailTactics
import Derived.Deep.RegionLaw
namespace Go.Proofs.Ytfejfljgdeglgaa.K
open Go.RowKit Go.Proofs.YtfejfljgdeglgaaW.PrintWords Go.Proofs.YtfejfljgdeglgaaW.PrintLast Go.Proofs.YtfejfljgdeglgaaW.PrintMore
set_option linter.unusedVariables false
set_option linter.unusedSimpArgs false
/-- A list of answers of the call's own of so many answers, none of them long. -/
def Own49 (W0 w : World) (A : Option Addr) (n c : Nat) : Prop := ∃ ys : List S49, ys.length = n ∧ (∀ s ∈ ys, s.f0.length ≤ 100) ∧ Kd.S k49 49 w W0.heap.size (fun _ => True) (.slice A n c) ys
/-- Element i of it: its cell, and a store into what it leads to. -/
theorem Own49.elem {W0 w : World} {A : Option Addr} {n c : Nat} (h : Own49 W0 w A n c) (i : Nat) (hi : i < n) :
    ∃ (g : Nat) (A0 : Option Addr) (m c0 : Nat), A = some ⟨g, 0, none⟩ ∧ m ≤ 100 ∧ w.cell? ⟨g, i * 2, none⟩ = some (.slice A0 m c0) ∧ m ≤ c0 ∧
      ∀ j, j < m → ∃ g0, A0 = some ⟨g0, 0, none⟩ ∧ (w.cell? ⟨g0, j, none⟩).isSome = true ∧ w.frozen? ⟨g0, j, none⟩ = false ∧ Own49 W0 (w.setCell ⟨g0, j, none⟩ (.int .i64 (-1))) A n c ∧ W0.heap.size ≤ g0 := by
  obtain ⟨ys, hl, hs, hS⟩ := h
  obtain ⟨g, cap, he, hb, hg, _⟩ := Kd.S_form hS (by omega)
  injection he with hA _ hc
  subst hA
  have hcell := Kd.S_borrow hS z49 (i : Int) (by omega) (by omega)
  simp only [Int.toNat_natCast] at hcell
  have hiy : i < ys.length := by omega
  have hx : ys.getD i z49 = ys[i] := by rw [List.getD_eq_getElem?_getD, List.getElem?_eq_getElem hiy]; rfl
  have hlx : (ys.getD i z49).f0.length ≤ 100 := by rw [hx]; exact hs _ (List.getElem_mem hiy)
  generalize ys.getD i z49 = x at hcell hlx
  clear hx
  obtain ⟨oki, ce, hcl, hM, hcc, hoki, hbk⟩ := hcell
  obtain ⟨v0, rfl, hR⟩ := k49_openM hM
  obtain ⟨A0, c0, rfl, hc0, hC0⟩ := Kd.R_reads hR
  refine ⟨g, A0, x.f0.length, c0, rfl, hlx, ?_, hc0, fun j hj => ?_⟩
  · have := hcc 0 _ rfl
    rw [Nat.add_zero, add_plain] at this
    exact this
  · obtain ⟨g0, cap0, he0, hb0, hg0, cells0, hcells0⟩ := Kd.R_form hR (by omega)
    injection he0 with hA0 _ hc00
    subst hA0; subst hc00
    have hp := Kd.R_putg hR (j : Int) (-1)
    obtain ⟨h1, h2⟩ := Kd.R_celln 0 hR (j : Int) (by omega) (by omega)
    simp only [Int.toNat_natCast] at hp h1 h2
    refine ⟨g0, rfl, by rw [h1]; rfl, h2, ⟨ys.set i ⟨x.f0.set j (-1), x.f1⟩, by rw [List.length_set]; exact hl, fun s hsm => ?_, ?_⟩, hb0⟩
    · rcases List.mem_or_eq_of_mem_set hsm with h | h
      · exact hs _ h
      · rw [h]
        show (x.f0.set j (-1)).length ≤ 100
        rw [List.length_set]
        exact hlx
    · exact hbk hp.2 (fun k e_ => by injection e_ with e_; subst e_; exact hR.1 _ rfl) (x' := ⟨x.f0.set j (-1), x.f1⟩) (k49_mkM _ _ _ ⟨x.f0.set j (-1), x.f1⟩ hp.1)
set_option maxHeartbeats 4000000 in
set_option maxRecDepth 100000 in
theorem turns_walk (k : Nat) (g : Int) (A1 : Option Addr) (c1 : Nat) (l r : List S49) (e : Int) (x y : List Int) (gg hh : Int) (w : World) (hr1 : Kd.C k49 w A1 l.length l) (hc1 : l.length ≤ c1)
    (hL : verditerlaw02_Long.f k l = some false) (hC : verditerref02_Copy.f k l = some l) (hb : verditerref02_Turn.f k l g = some (r, e)) (ha : judge_Turn.f k l g = some (r, e)) (hS : verditerref02_Same.f k r r = some true)
    (hx : judge_Against.f k g l = some (x, gg)) (hy : judge_Against.f k g r = some (y, hh)) (hok : e ≠ 0 ∨ (e = 0 ∧ gg = 0 ∧ hh = 0 ∧ verditerref02_SameInts.f k x y = some true)) (hS2 : verditerref02_Same.f k l l = some true) (hk : verditerlaw02_known.f k = some true)
    (hlr : r.length ≤ 100) (hsr : ∀ s ∈ r, s.f0.length ≤ 100) :
    Calls Try.prog 35 #[.int .i64 g, .slice A1 l.length c1] w fun e' w' => e' = .returned (.bool true) ∧ Below w.heap.size w w' := by
  have HR := Aside0.mk hr1
  have HL := Aside0.mk hL
  have HC := Aside0.mk hC
  have HTb := Aside0.mk hb
  have HTa := Aside0.mk ha
  have HS := Aside0.mk hS
  have HS2 := Aside0.mk hS2
  have HX := Aside0.mk hx
  have HY := Aside0.mk hy
  have HK := Aside0.mk hk
  have HSR := Aside0.mk hsr
  clear hr1 hL hC hb ha hS hS2 hx hy hk hsr
  rcases hok with he | ⟨rfl, rfl, rfl, hsi⟩
  · have he1 : (e == 0) = false := beq_eq_false_iff_ne.mpr he
    have he2 : (e != 0) = true := bne_iff_ne.mpr he
    clear he
    go_enter Try.func35, Try.ntmps35
    go_wp2_with (first
      | (go_at_call 48; (with_reducible refine (verditerlaw02_Long.calls k _ _ l false _ HR.out hc1 HL.out).mono ?_); rintro e' w1 ⟨rfl, hd⟩; have HB1 := Aside0.mk hd.below; clear hd)
      | (go_at_call 67; (with_reducible refine (verditerref02_Copy.calls k _ _ l l _ (Kd.C_below HR.out HB1.out) hc1 HC.out).mono ?_); rintro e' w2 ⟨vo, rfl, ho, hb⟩; obtain ⟨Ao, co, hv, hlo, hro⟩ := Kd.S_reads ho; subst hv; have HB2 := Aside0.mk (below_step HB1.out hb); have HRO := Aside0.mk hro; clear ho hb hro)
      | (go_at_call 68; (with_reducible refine (verditerref02_Turn.calls k _ _ l g r e _ (Kd.C_below HR.out HB2.out) hc1 HTb.out).mono ?_); rintro e' w3 ⟨vb, rfl, ho, hb⟩; obtain ⟨Ab, cb, hv, hlb, hrb⟩ := Kd.S_reads ho; subst hv; have HB3 := Aside0.mk (below_step HB2.out hb); have HRO3 := Aside0.mk (Kd.C_below HRO.out hb); have HRB := Aside0.mk hrb; clear ho hb hrb)
      | (go_at_call 69; (with_reducible refine (judge_Turn.calls k _ _ l g r e _ HRO3.out hlo HTa.out).mono ?_); rintro e' w4 ⟨va, rfl, ho, hb⟩; obtain ⟨Aa, ca, hv, hla, hra⟩ := Kd.S_reads ho; subst hv; have HSA := Aside0.mk ho; have HRA := Aside0.mk hra; have HD4 := Aside0.mk hb; clear ho hb hra)
      | (go_at_call 70; (with_reducible refine (verditerref02_Same.calls k _ _ r _ _ r true _ HRA.out hla (Kd.C_below HRB.out HD4.out) hlb HS.out).mono ?_); rintro e' w5 ⟨rfl, hd⟩; have HD5 := Aside0.mk (below_step HD4.out hd.below); have HE5 := Aside0.mk hd.below; clear hd)
      | (go_at_call 50; (with_reducible refine (judge_Against.calls k _ _ _ l x gg _ (Kd.C_below (Kd.C_below HR.out HB3.out) HD5.out) hc1 HX.out).mono ?_); rintro e' w6 ⟨vx, rfl, ho, hb⟩; obtain ⟨Ax, cx, hv, hlx, hrx⟩ := Kd.R_reads ho; subst hv; have HRX := Aside0.mk hrx; have HD6 := Aside0.mk (below_step HD5.out hb); have HE6 := Aside0.mk (below_step HE5.out hb); clear ho hb hrx)
      | (go_at_call 50; (with_reducible refine (judge_Against.calls k _ _ _ r y hh _ (Kd.C_below HRA.out HE6.out) hla HY.out).mono ?_); rintro e' w7 ⟨vy, rfl, ho, hb⟩; obtain ⟨Ay, cy, hv, hly, hry⟩ := Kd.R_reads ho; subst hv; have HRY := Aside0.mk hry; have HRX7 := Aside0.mk (Kd.C_below HRX.out hb); have HD7 := Aside0.mk (below_step HD6.out hb); have HE7 := Aside0.mk (below_step HE6.out hb); clear ho hb hry))
    have HOWN := Aside0.mk (show Own49 w3 w7 Aa r.length ca from ⟨r, rfl, HSR.out, Kd.S_below HSA.out HE7.out⟩)
    have HBW := Aside0.mk HD7.out
    go_loopg [15] ((r.length + 1) * 102) (fun kq v15 w' => ∃ n : Nat, v15 = .int .i64 (n : Int) ∧ Aside0 (n ≤ r.length) ∧ Aside0 ((r.length - n) * 102 + 1 ≤ kq) ∧ Aside0 (Own49 w3 w' Aa r.length ca) ∧ Aside0 (Below w3.heap.size w3 w'))
    case atStart => exact ⟨0, rfl, ⟨Nat.zero_le _⟩, ⟨by omega⟩, HOWN, HBW⟩
    case round =>
      clear HOWN HBW
      obtain ⟨n, rfl, hn, hkk, HOWN, HBW⟩ := hrel
      cases gk with
      | zero => have := hkk.out; omega
      | succ k1 =>
      by_cases c : n < r.length
      · have c0 : decide ((n : Int) < (r.length : Int)) = true := decide_eq_true (by omega)
        have c00 : decide (n < r.length) = true := decide_eq_true c
        go_wp2
        go_loopg [16] k1 (fun kq v16 w' => ∃ m : Nat, v16 = .int .i64 (m : Int) ∧ Aside0 (m ≤ 100) ∧ Aside0 ((r.length - n - 1) * 102 + 1 + (101 - m) ≤ kq) ∧ Aside0 (kq ≤ k1) ∧ Aside0 (Own49 w3 w' Aa r.length ca) ∧ Aside0 (Below w3.heap.size w3 w'))
        case atStart => exact ⟨0, rfl, ⟨Nat.zero_le _⟩, ⟨by have := hkk.out; omega⟩, ⟨Nat.le_refl _⟩, HOWN, HBW⟩
        case round =>
          clear HOWN HBW
          obtain ⟨m, rfl, hm, hk2, hk3, HOWN, HBW⟩ := hrel
          cases gk with
          | zero => have := hk2.out; omega
          | succ k2 =>
          obtain ⟨ga, A0, m0, c0', hAa, hm0, hcell, hmc, hstore⟩ := HOWN.out.elem n c
          subst hAa
          have e1 : (0 : Int) ≤ (n : Int) := by omega
          have e2 : (n : Int) < (r.length : Int) := by omega
          by_cases cm : m < m0
          · have d0 : decide ((m : Int) < (m0 : Int)) = true := decide_eq_true (by omega)
            have d00 : decide (m < m0) = true := decide_eq_true cm
            obtain ⟨g0, hA0, hc1', hf1, hown', hg0⟩ := hstore m cm
            subst hA0
            have HOWN2 := Aside0.mk hown'
            have HG0 := Aside0.mk hg0
            clear hstore hown' hg0
            obtain ⟨u0, hu0⟩ := Option.isSome_iff_exists.mp hc1'
            have e3 : (0 : Int) ≤ (m : Int) := by omega
            have e4 : (m : Int) < (m0 : Int) := by omega
            go_wp2
            go_roundg k2
            case measure => have := hk3.out; omega
            case rel => exact ⟨m + 1, rfl, ⟨by have := hm.out; omega⟩, ⟨by have := hk2.out; have := hm.out; omega⟩, ⟨by have := hk3.out; omega⟩, HOWN2, ⟨below_set HBW.out HG0.out⟩⟩
          · have d0 : decide ((m : Int) < (m0 : Int)) = false := decide_eq_false (by omega)
            have d00 : decide (m < m0) = false := decide_eq_false cm
            clear hstore
            go_wp2
            go_roundg k2
            case measure => have := hk3.out; omega
            case rel => exact ⟨n + 1, rfl, ⟨by omega⟩, ⟨by have := hk2.out; have := hm.out; omega⟩, HOWN, HBW⟩
      · have c0 : decide ((n : Int) < (r.length : Int)) = false := decide_eq_false (by omega)
        have c00 : decide (n < r.length) = false := decide_eq_false c
        go_wp2_with (first
          | (go_at_call 70; (with_reducible refine (verditerref02_Same.calls k _ _ l _ _ l true _ (Kd.C_below HRO3.out HBW.out) hlo (Kd.C_below (Kd.C_below HR.out HB3.out) HBW.out) hc1 HS2.out).mono ?_); rintro e' w10 ⟨rfl, hd⟩; have HD10 := Aside0.mk (below_step HBW.out hd.below); clear hd)
          | (go_at_call 20; (with_reducible refine (verditerlaw02_known.calls k true _ HK.out).mono ?_); rintro e' w11 ⟨rfl, hb⟩; have HD11 := Aside0.mk (below_step HD10.out hb); clear hb))
        go_ret
        exact ⟨rfl, below_step HB3.out HD11.out⟩
  · have HSI := Aside0.mk hsi
    clear hsi
    go_enter Try.func35, Try.ntmps35
    go_wp2_with (first
      | (go_at_call 48; (with_reducible refine (verditerlaw02_Long.calls k _ _ l false _ HR.out hc1 HL.out).mono ?_); rintro e' w1 ⟨rfl, hd⟩; have HB1 := Aside0.mk hd.below; clear hd)
      | (go_at_call 67; (with_reducible refine (verditerref02_Copy.calls k _ _ l l _ (Kd.C_below HR.out HB1.out) hc1 HC.out).mono ?_); rintro e' w2 ⟨vo, rfl, ho, hb⟩; obtain ⟨Ao, co, hv, hlo, hro⟩ := Kd.S_reads ho; subst hv; have HB2 := Aside0.mk (below_step HB1.out hb); have HRO := Aside0.mk hro; clear ho hb hro)
      | (go_at_call 68; (with_reducible refine (verditerref02_Turn.calls k _ _ l g r 0 _ (Kd.C_below HR.out HB2.out) hc1 HTb.out).mono ?_); rintro e' w3 ⟨vb, rfl, ho, hb⟩; obtain ⟨Ab, cb, hv, hlb, hrb⟩ := Kd.S_reads ho; subst hv; have HB3 := Aside0.mk (below_step HB2.out hb); have HRO3 := Aside0.mk (Kd.C_below HRO.out hb); have HRB := Aside0.mk hrb; clear ho hb hrb)
      | (go_at_call 69; (with_reducible refine (judge_Turn.calls k _ _ l g r 0 _ HRO3.out hlo HTa.out).mono ?_); rintro e' w4 ⟨va, rfl, ho, hb⟩; obtain ⟨Aa, ca, hv, hla, hra⟩ := Kd.S_reads ho; subst hv; have HSA := Aside0.mk ho; have HRA := Aside0.mk hra; have HD4 := Aside0.mk hb; clear ho hb hra)
      | (go_at_call 70; (with_reducible refine (verditerref02_Same.calls k _ _ r _ _ r true _ HRA.out hla (Kd.C_below HRB.out HD4.out) hlb HS.out).mono ?_); rintro e' w5 ⟨rfl, hd⟩; have HD5 := Aside0.mk (below_step HD4.out hd.below); have HE5 := Aside0.mk hd.below; clear hd)
      | (go_at_call 50; (with_reducible refine (judge_Against.calls k _ _ _ l x 0 _ (Kd.C_below (Kd.C_below HR.out HB3.out) HD5.out) hc1 HX.out).mono ?_); rintro e' w6 ⟨vx, rfl, ho, hb⟩; obtain ⟨Ax, cx, hv, hlx, hrx⟩ := Kd.R_reads ho; subst hv; have HRX := Aside0.mk hrx; have HD6 := Aside0.mk (below_step HD5.out hb); have HE6 := Aside0.mk (below_step HE5.out hb); clear ho hb hrx)
      | (go_at_call 50; (with_reducible refine (judge_Against.calls k _ _ _ r y 0 _ (Kd.C_below HRA.out HE6.out) hla HY.out).mono ?_); rintro e' w7 ⟨vy, rfl, ho, hb⟩; obtain ⟨Ay, cy, hv, hly, hry⟩ := Kd.R_reads ho; subst hv; have HRY := Aside0.mk hry; have HRX7 := Aside0.mk (Kd.C_below HRX.out hb); have HD7 := Aside0.mk (below_step HD6.out hb); have HE7 := Aside0.mk (below_step HE6.out hb); clear ho hb hry)
      | (go_at_call 53; (with_reducible refine (verditerref02_SameInts.calls k _ _ x _ _ y true _ HRX7.out hlx HRY.out hly HSI.out).mono ?_); rintro e' w8 ⟨rfl, hd⟩; have HD8 := Aside0.mk (below_step HD7.out hd.below); have HE8 := Aside0.mk (below_step HE7.out hd.below); clear hd))
    have HOWN := Aside0.mk (show Own49 w3 w8 Aa r.length ca from ⟨r, rfl, HSR.out, Kd.S_below HSA.out HE8.out⟩)
    have HBW := Aside0.mk HD8.out
    go_loopg [15] ((r.length + 1) * 102) (fun kq v15 w' => ∃ n : Nat, v15 = .int .i64 (n : Int) ∧ Aside0 (n ≤ r.length) ∧ Aside0 ((r.length - n) * 102 + 1 ≤ kq) ∧ Aside0 (Own49 w3 w' Aa r.length ca) ∧ Aside0 (Below w3.heap.size w3 w'))
    case atStart => exact ⟨0, rfl, ⟨Nat.zero_le _⟩, ⟨by omega⟩, HOWN, HBW⟩
    case round =>
      clear HOWN HBW
      obtain ⟨n, rfl, hn, hkk, HOWN, HBW⟩ := hrel
      cases gk with
      | zero => have := hkk.out; omega
      | succ k1 =>
      by_cases c : n < r.length
      · have c0 : decide ((n : Int) < (r.length : Int)) = true := decide_eq_true (by omega)
        have c00 : decide (n < r.length) = true := decide_eq_true c
        go_wp2
        go_loopg [16] k1 (fun kq v16 w' => ∃ m : Nat, v16 = .int .i64 (m : Int) ∧ Aside0 (m ≤ 100) ∧ Aside0 ((r.length - n - 1) * 102 + 1 + (101 - m) ≤ kq) ∧ Aside0 (kq ≤ k1) ∧ Aside0 (Own49 w3 w' Aa r.length ca) ∧ Aside0 (Below w3.heap.size w3 w'))
        case atStart => exact ⟨0, rfl, ⟨Nat.zero_le _⟩, ⟨by have := hkk.out; omega⟩, ⟨Nat.le_refl _⟩, HOWN, HBW⟩
        case round =>
          clear HOWN HBW
          obtain ⟨m, rfl, hm, hk2, hk3, HOWN, HBW⟩ := hrel
          cases gk with
          | zero => have := hk2.out; omega
          | succ k2 =>
          obtain ⟨ga, A0, m0, c0', hAa, hm0, hcell, hmc, hstore⟩ := HOWN.out.elem n c
          subst hAa
          have e1 : (0 : Int) ≤ (n : Int) := by omega
          have e2 : (n : Int) < (r.length : Int) := by omega
          by_cases cm : m < m0
          · have d0 : decide ((m : Int) < (m0 : Int)) = true := decide_eq_true (by omega)
            have d00 : decide (m < m0) = true := decide_eq_true cm
            obtain ⟨g0, hA0, hc1', hf1, hown', hg0⟩ := hstore m cm
            subst hA0
            have HOWN2 := Aside0.mk hown'
            have HG0 := Aside0.mk hg0
            clear hstore hown' hg0
            obtain ⟨u0, hu0⟩ := Option.isSome_iff_exists.mp hc1'
            have e3 : (0 : Int) ≤ (m : Int) := by omega
            have e4 : (m : Int) < (m0 : Int) := by omega
            go_wp2
            go_roundg k2
            case measure => have := hk3.out; omega
            case rel => exact ⟨m + 1, rfl, ⟨by have := hm.out; omega⟩, ⟨by have := hk2.out; have := hm.out; omega⟩, ⟨by have := hk3.out; omega⟩, HOWN2, ⟨below_set HBW.out HG0.out⟩⟩
          · have d0 : decide ((m : Int) < (m0 : Int)) = false := decide_eq_false (by omega)
            have d00 : decide (m < m0) = false := decide_eq_false cm
            clear hstore
            go_wp2
            go_roundg k2
            case measure => have := hk3.out; omega
            case rel => exact ⟨n + 1, rfl, ⟨by omega⟩, ⟨by have := hk2.out; have := hm.out; omega⟩, HOWN, HBW⟩
      · have c0 : decide ((n : Int) < (r.length : Int)) = false := decide_eq_false (by omega)
        have c00 : decide (n < r.length) = false := decide_eq_false c
        go_wp2_with (first
          | (go_at_call 70; (with_reducible refine (verditerref02_Same.calls k _ _ l _ _ l true _ (Kd.C_below HRO3.out HBW.out) hlo (Kd.C_below (Kd.C_below HR.out HB3.out) HBW.out) hc1 HS2.out).mono ?_); rintro e' w10 ⟨rfl, hd⟩; have HD10 := Aside0.mk (below_step HBW.out hd.below); clear hd)
          | (go_at_call 20; (with_reducible refine (verditerlaw02_known.calls k true _ HK.out).mono ?_); rintro e' w11 ⟨rfl, hb⟩; have HD11 := Aside0.mk (below_step HD10.out hb); clear hb))
        go_ret
        exact ⟨rfl, below_step HB3.out HD11.out⟩
set_option maxHeartbeats 4000000 in
theorem turns_long (k : Nat) (g : Int) (A1 : Option Addr) (c1 : Nat) (l : List S49) (w : World) (hr1 : Kd.C k49 w A1 l.length l) (hc1 : l.length ≤ c1) (hL : verditerlaw02_Long.f k l = some true) (hk : verditerlaw02_known.f k = some true) :
    Calls Try.prog 35 #[.int .i64 g, .slice A1 l.length c1] w fun e' w' => e' = .returned (.bool true) ∧ Below w.heap.size w w' := by
  have HR := Aside0.mk hr1
  have HL := Aside0.mk hL
  have HK := Aside0.mk hk
  clear hr1 hL hk
  go_enter Try.func35, Try.ntmps35
  go_wp2_with (first
    | (go_at_call 48; (with_reducible refine (verditerlaw02_Long.calls k _ _ l true _ HR.out hc1 HL.out).mono ?_); rintro e' w1 ⟨rfl, hd⟩; have HB1 := Aside0.mk hd.below; clear hd)
    | (go_at_call 20; (with_reducible refine (verditerlaw02_known.calls k true _ HK.out).mono ?_); rintro e' w2 ⟨rfl, hb⟩; have HB2 := Aside0.mk (below_step HB1.out hb); clear hb))
  go_ret
  exact ⟨rfl, HB2.out⟩
/-- What judgeTurns needs of what it calls: then it answers true. -/
def TurnsOk (k : Nat) (g : Int) (l : List S49) : Prop :=
  verditerlaw02_known.f k = some true ∧ (verditerlaw02_Long.f k l = some true ∨ (verditerlaw02_Long.f k l = some false ∧ ∃ (r : List S49) (e : Int) (x y : List Int) (gg hh : Int), verditerref02_Copy.f k l = some l ∧ verditerref02_Turn.f k l g = some (r, e) ∧ judge_Turn.f k l g = some (r, e) ∧ verditerref02_Same.f k r r = some true ∧
    judge_Against.f k g l = some (x, gg) ∧ judge_Against.f k g r = some (y, hh) ∧ (e ≠ 0 ∨ (e = 0 ∧ gg = 0 ∧ hh = 0 ∧ verditerref02_SameInts.f k x y = some true)) ∧ verditerref02_Same.f k l l = some true ∧ r.length ≤ 100 ∧ ∀ s ∈ r, s.f0.length ≤ 100))
open Classical in
noncomputable def verditerlaw02_judgeTurns.f (k : Nat) (g : Int) (l : List S49) : Option Bool := if TurnsOk k g l then some true else none
theorem verditerlaw02_judgeTurns.calls (k : Nat) (a0 : Int) (A1 : Option Addr) (c1 : Nat) (l1 : List (S49)) (r : Bool) (w : World) (hr1 : Kd.C k49 w A1 l1.length l1) (hc1 : l1.length ≤ c1) (h : verditerlaw02_judgeTurns.f k a0 l1 = some r) :
    Calls Try.prog 35 #[.int .i64 a0, .slice A1 l1.length c1] w fun e w' => e = .returned (.bool r) ∧ Below w.heap.size w w' := by
  unfold verditerlaw02_judgeTurns.f at h
  split at h
  · rename_i hok
    obtain rfl := Option.some.inj h
    obtain ⟨hk, hL | ⟨hL, r, e, x, y, gg, hh, h1, h2, h3, h4, h5, h6, h7, h8, h9, h10⟩⟩ := hok
    · exact turns_long k a0 A1 c1 l1 w hr1 hc1 hL hk
    · exact turns_walk k a0 A1 c1 l1 r e x y gg hh w hr1 hc1 hL h1 h2 h3 h4 h5 h6 h7 h8 hk h9 h10
  · cases h
end Go.Proofs.Ytfejfljgdeglgaa.K
