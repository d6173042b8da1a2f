/- What knead.rounds returns for the two functions that are handed nx it: the lengths of the cycles, sorted, in memory of the call's own; older memory stays as it was. -/
import Derived.Test.YtgnklmhjejbcoaaHS
import Derived.Test.YtgnklmhjejbcoaaQB
import Derived.Test.YtgnklmhjejbcoaaK1
import Derived.Test.YtgnklmhjejbcoaaK2
namespace Go.Proofs.Ytgnklmhjejbcoaa.K
open Go.RowKit Go.Proofs.YtgnklmhjejbcoaaW.PrintWords Go.Proofs.YtgnklmhjejbcoaaW.PrintLast Go.Proofs.YtgnklmhjejbcoaaW.PrintMore
set_option linter.unusedVariables false
set_option linter.unusedSimpArgs false

/-- One cycle walked: what has been seen behind it, and its length. -/
def cyc (nx : Nat → Nat) : Nat → List Bool → Nat → Nat → Option (List Bool × Nat)
  | 0, _, _, _ => none
  | f + 1, sn, p, c => if sn.getD p true = true then some (sn, c) else cyc nx f (sn.set p true) (nx p) (c + 1)
/-- The cycles from the place i on, m places. -/
def rnds (nx : Nat → Nat) : Nat → List Bool → Nat → List Int → Option (List Int)
  | 0, _, _, out => some out
  | m + 1, sn, i, out => (cyc nx 2000 sn i 0).bind fun r => rnds nx m r.1 (i + 1) (if 0 < r.2 then out ++ [(r.2 : Int)] else out)
theorem info4 : (Try.prog.info? 4).map (fun i => (i.zero, i.size, i.bytes)) = some (some (.bool false), 1, 1) := by kernel_rfl
theorem cyc_len (nx : Nat → Nat) : ∀ (f : Nat) (sn : List Bool) (p c : Nat) (s : List Bool) (d : Nat), cyc nx f sn p c = some (s, d) → s.length = sn.length
  | 0, _, _, _, _, _, h => by simp [cyc] at h
  | f + 1, sn, p, c, s, d, h => by
    rw [cyc] at h
    split at h
    · simp only [Option.some.injEq, Prod.mk.injEq] at h
      rw [h.1]
    · have := cyc_len nx f _ _ _ s d h
      rw [List.length_set] at this
      exact this
theorem R_blockd {α : Type} {d : Kd α} {e base n cap : Nat} {ok : Nat → Prop} {A : Option Addr} {xs : List α} {w : World} (h : Kd.R d e w base ok (.slice A n cap) xs) (hn : 0 < n) : ∃ g, A = some ⟨g, 0, none⟩ := by
  obtain ⟨_, inner, ho, _⟩ := h
  rcases ho.2 with ⟨hv, _⟩ | ⟨g, cap', cur, hv, _⟩
  · injection hv with _ ha _
    omega
  · injection hv with ha _ _
    exact ⟨g, ha⟩
theorem sn_get (sn : List Bool) (p : Nat) (h : p < sn.length) : rdOf false sn (p : Int) = sn.getD p true := by
  simp [rdOf, h]

set_option maxHeartbeats 8000000 in
set_option maxRecDepth 100000 in
theorem rounds73 (n : Nat) (hn : n ≤ 1000) (nx : Nat → Nat) (hto : ∀ p, p < n → nx p < n) (res : List Int) (hres : 0 < res.length) (B1 B2 : Nat) (w : World)
    (hc : ∀ W p, Below w.heap.size w W → p < n → Calls Try.prog 73 #[.int .i64 (p : Int), .pointer (some ⟨B1, 0, none⟩), .pointer (some ⟨B2, 0, none⟩)] W fun e W' => e = .returned (.int .i64 (nx p : Int)) ∧ Drawn0 W W')
    (h : rnds nx n (List.replicate n false) 0 [] = some res) :
    Calls Try.prog 72 #[.int .i64 n, .func (.func 73) #[] #[.pointer (some ⟨B1, 0, none⟩), .pointer (some ⟨B2, 0, none⟩)]] w fun e w' => ∃ v0_ : Value, e = .returned (v0_) ∧ Kd.R (Kd.int .i64) 3 w' w.heap.size (fun _ => True) v0_ (sortL res) ∧ Below w.heap.size w w' := by
  have HC := Aside0.mk hc
  have HH := Aside0.mk h
  have HT := Aside0.mk hto
  clear hc h hto
  go_enter Try.func72, Try.ntmps72
  go_wp2_with (first
    | ((with_reducible refine gate_dst (N := 11) rfl ?_); refine Kd.R_make Kd.bool w.heap.size 4 rfl (N := 11) rfl 73 _ _ rfl (n : Int) rfl rfl Try.underlying73 (.bool false) 1 info4 rfl (by decide) (by omega) false (ok := fun _ => True) (okp := fun _ => True) rfl (fun _ hk => hk) trivial (by omega) (by simp; omega) (Below.refl w.heap.size w) (Nat.le_refl _) ?_; intro v1 w5 ho hb hg_ hnew_; clear hg_ hnew_; rw [Int.toNat_natCast] at ho; have HO := Aside0.mk ho; have HB := Aside0.mk hb; clear ho hb; obtain ⟨A1, c1, e1⟩ := Kd.R_slice HO.out; subst e1; simp only [List.length_replicate] at HO))
  have HS0 : Aside0 ((List.replicate n false).length = n) := Aside0.mk (by simp)
  go_loopw [5, 13] (fun v i W => ∃ (m : Nat) (sn : List Bool) (out : List Int), i = .int .i64 m ∧ Aside0 (m ≤ n ∧ sn.length = n ∧ out.length ≤ m ∧ rnds nx (n - m) sn m out = some res) ∧ Aside0 (Kd.R (Kd.int .i64) 3 W w.heap.size (fun _ => True) v out) ∧ Aside0 (Kd.R Kd.bool 4 W w.heap.size (fun _ => True) (.slice A1 n c1) sn) ∧ Aside0 (Below w.heap.size w W)) (fun _ i _ => n - (intOf i).toNat)
  case atStart => exact ⟨0, _, [], rfl, Aside0.mk ⟨Nat.zero_le _, HS0.out, Nat.le_refl _, HH.out⟩, Aside0.mk (Kd.R_nil _ _ _ _ _), HO, HB⟩
  case round =>
    clear HH HO HB HS0
    obtain ⟨m, sn, out, rfl, HA, HO, HSn, HB⟩ := hrel
    by_cases hm : m < n
    · obtain ⟨g, rfl⟩ := R_blockd HSn.out (by omega)
      obtain ⟨s', d', hcyc, hrest⟩ : ∃ s' d', cyc nx 2000 sn m 0 = some (s', d') ∧ rnds nx (n - (m + 1)) s' (m + 1) (if 0 < d' then out ++ [(d' : Int)] else out) = some res := by
        have h := HA.out.2.2.2
        rw [show n - m = (n - (m + 1)) + 1 by omega, rnds] at h
        obtain ⟨r, h1, h2⟩ := Option.bind_eq_some_iff.mp h
        exact ⟨r.1, r.2, h1, h2⟩
      have HCy := Aside0.mk hcyc
      have HRe := Aside0.mk hrest
      have HLs := Aside0.mk (cyc_len nx _ _ _ _ _ _ hcyc)
      clear hcyc hrest
      obtain ⟨Av, cv, ev⟩ := Kd.R_slice HO.out
      subst ev
      go_wp2_with fail
      go_loopg [8, 9] 2000 (fun kq c p W => ∃ (cn pn : Nat) (sq : List Bool), c = .int .i64 cn ∧ p = .int .i64 pn ∧ Aside0 (pn < n ∧ sq.length = n ∧ cn + kq ≤ 2000 ∧ cyc nx kq sq pn cn = some (s', d')) ∧ Aside0 (Kd.R (Kd.int .i64) 3 W w.heap.size (fun _ => True) (.slice Av out.length cv) out) ∧ Aside0 (Kd.R Kd.bool 4 W w.heap.size (fun _ => True) (.slice (some ⟨g, 0, none⟩) n c1) sq) ∧ Aside0 (Below w.heap.size w W))
      case atStart => exact ⟨0, m, sn, rfl, rfl, Aside0.mk ⟨hm, HA.out.2.1, Nat.le_refl _, HCy.out⟩, HO, HSn, HB⟩
      case round =>
        clear HO HSn HB HCy
        obtain ⟨cn, pn, sq, rfl, rfl, HQ, HO, HSn, HB⟩ := hrel
        cases gk with
        | zero => exact absurd HQ.out.2.2.2 (by simp [cyc])
        | succ k1 =>
          have hpn := HQ.out.1
          have hcell := Kd.R_celln false HSn.out (pn : Int) (by omega) (by omega)
          rw [Int.toNat_natCast, sn_get sq pn (by have := HQ.out.2.1; omega)] at hcell
          obtain ⟨hc1, hf1⟩ := hcell
          cases hsq : sq.getD pn true with
          | true =>
            have HQ2 : Aside0 (sq = s' ∧ cn = d') := Aside0.mk (by have := HQ.out.2.2.2; rw [cyc, if_pos hsq] at this; simpa using this)
            rw [hsq] at hc1
            rw [HQ2.out.1] at HSn
            have HAo := HA.out
            by_cases hd : 0 < d'
            · have hd2 : d' ≤ 2000 := by have := HQ.out.2.2.1; have := HQ2.out.2; omega
              rw [if_pos hd] at HRe
              have hcd : cn = d' := HQ2.out.2
              subst hcd
              have hol := HA.out.2.2.1
              have hml := HA.out.1
              go_wp2_with (first | ((with_reducible refine gate_builtin (b := .append) (xs := #[.tmp 32, .tmp 34]) rfl ?_); at_builtin; go_loud (refine Kd.R_append (Kd.int .i64) (w0 := w) w.heap.size rfl (.tmp 32) (.tmp 34) 22 3 (.int .i64 0) 8 rfl Try.underlying22 info3 rfl (by decide) (by omega) _ out (cn : Int) [.int .i64 (cn : Int)] (fun _ => True) (fun _ => False) rfl rfl rfl (fun _ hk => hk.elim) (fun _ _ => trivial) HO.out HB.out (below_size HB.out) (by omega) ?_); intro v2 w2 ho hb hg hat; have HO2 := Aside0.mk ho; have HB2 := Aside0.mk hb; have HS2 := Aside0.mk (Kd.R_over HSn.out HO.out (by simp [Kd.bool, Kd.scalar]) hg); clear ho hb hg hat))
              go_roundw
              case rel => exact ⟨m + 1, s', _, by go_num, Aside0.mk ⟨by omega, by rw [HLs.out]; exact HAo.2.1, by simp; omega, HRe.out⟩, HO2, HS2, HB2⟩
              case measure => simp [intOf]; omega
            · rw [if_neg hd] at HRe
              obtain rfl : d' = 0 := by omega
              have hcd : cn = 0 := HQ2.out.2
              subst hcd
              go_wp2_with fail
              go_roundw
              case rel => exact ⟨m + 1, s', out, by go_num, Aside0.mk ⟨by omega, by rw [HLs.out]; exact HAo.2.1, by have := HAo.2.2.1; omega, HRe.out⟩, HO, HSn, HB⟩
              case measure => simp [intOf]; omega
          | false =>
            have HQ2 : Aside0 (cyc nx k1 (sq.set pn true) (nx pn) (cn + 1) = some (s', d')) := Aside0.mk (by have := HQ.out.2.2.2; rw [cyc, if_neg (by rw [hsq]; simp)] at this; exact this)
            rw [hsq] at hc1
            have hcn : cn ≤ 2000 := by have := HQ.out.2.2.1; omega
            have hnx := HT.out pn hpn
            have hp1 := Kd.R_putn HSn.out (pn : Int) true
            rw [Int.toNat_natCast] at hp1
            have HP1 := Aside0.mk hp1
            have hgr : ∀ L, Kd.R Kd.bool 4 wr w.heap.size (fun _ => True) (.slice (some ⟨g, 0, none⟩) L c1) sq → wr.grownBy (wr.setCell ⟨g, pn, none⟩ (.bool true)) (some g) := fun L hL => by
              have hn' := (Kd.R_reads' hL).1
              subst hn'
              have := (Kd.R_put hL (pn : Int) true).2
              rw [Int.toNat_natCast] at this
              exact this
            have HG1 := Aside0.mk (hgr n HSn.out)
            have HO1 := Aside0.mk (Kd.R_over HO.out HSn.out (by simp [Kd.int, Kd.scalar]) HG1.out)
            have HB1 := Aside0.mk (HB.out.grown HG1.out (below_size HB.out) (fun k e => Kd.R_base HSn.out k e))
            clear hp1 hgr
            go_wp2_with (first
              | (go_at_call 73; refine (HC.out _ pn HB1.out hpn).mono ?_; rintro e w' ⟨rfl, ⟨nd, rfl⟩⟩)
              | fail)
            go_roundg k1
            case measure => have := HQ.out.2.2.1; omega
            case rel => exact ⟨cn + 1, nx pn, _, by go_num, rfl, Aside0.mk ⟨hnx, by rw [List.length_set]; exact HQ.out.2.1, by have := HQ.out.2.2.1; omega, HQ2.out⟩, Aside0.mk (Kd.R_drewN HO1.out _), Aside0.mk (Kd.R_drewN HP1.out _), Aside0.mk (by exact pw_below_drewN HB1.out _)⟩
    · obtain rfl : m = n := by have := HA.out.1; omega
      have HE : Aside0 (out = res) := Aside0.mk (by have := HA.out.2.2.2; simpa [rnds] using this)
      rw [HE.out] at HO
      obtain ⟨Av, cv, ev⟩ := Kd.R_slice HO.out
      subst ev
      have HV := Aside0.mk (sort_R HO.out (by have := HA.out.2.2.1; rw [HE.out] at this; omega) hres)
      go_wp2_with fail
      refine HV.out.mono ?_
      rintro e w2 ⟨rfl, hR, hg⟩
      have HR2 := Aside0.mk hR
      have HB2 := Aside0.mk (HB.out.grown hg (below_size HB.out) (fun k e => Kd.R_base HO.out k e))
      clear hR hg
      go_wp2
      go_ret
      exact ⟨_, rfl, by have := HR2.out; simpa [sortL_length] using this, HB2.out⟩

set_option maxHeartbeats 8000000 in
set_option maxRecDepth 100000 in
theorem rounds89 (n : Nat) (hn : n ≤ 1000) (nx : Nat → Nat) (hto : ∀ p, p < n → nx p < n) (res : List Int) (hres : 0 < res.length) (B1 : Nat) (w : World)
    (hc : ∀ W p, Below w.heap.size w W → p < n → Calls Try.prog 89 #[.int .i64 (p : Int), .pointer (some ⟨B1, 0, none⟩)] W fun e W' => e = .returned (.int .i64 (nx p : Int)) ∧ Drawn0 W W')
    (h : rnds nx n (List.replicate n false) 0 [] = some res) :
    Calls Try.prog 72 #[.int .i64 n, .func (.func 89) #[] #[.pointer (some ⟨B1, 0, none⟩)]] w fun e w' => ∃ v0_ : Value, e = .returned (v0_) ∧ Kd.R (Kd.int .i64) 3 w' w.heap.size (fun _ => True) v0_ (sortL res) ∧ Below w.heap.size w w' := by
  have HC := Aside0.mk hc
  have HH := Aside0.mk h
  have HT := Aside0.mk hto
  clear hc h hto
  go_enter Try.func72, Try.ntmps72
  go_wp2_with (first
    | ((with_reducible refine gate_dst (N := 11) rfl ?_); refine Kd.R_make Kd.bool w.heap.size 4 rfl (N := 11) rfl 73 _ _ rfl (n : Int) rfl rfl Try.underlying73 (.bool false) 1 info4 rfl (by decide) (by omega) false (ok := fun _ => True) (okp := fun _ => True) rfl (fun _ hk => hk) trivial (by omega) (by simp; omega) (Below.refl w.heap.size w) (Nat.le_refl _) ?_; intro v1 w5 ho hb hg_ hnew_; clear hg_ hnew_; rw [Int.toNat_natCast] at ho; have HO := Aside0.mk ho; have HB := Aside0.mk hb; clear ho hb; obtain ⟨A1, c1, e1⟩ := Kd.R_slice HO.out; subst e1; simp only [List.length_replicate] at HO))
  have HS0 : Aside0 ((List.replicate n false).length = n) := Aside0.mk (by simp)
  go_loopw [5, 13] (fun v i W => ∃ (m : Nat) (sn : List Bool) (out : List Int), i = .int .i64 m ∧ Aside0 (m ≤ n ∧ sn.length = n ∧ out.length ≤ m ∧ rnds nx (n - m) sn m out = some res) ∧ Aside0 (Kd.R (Kd.int .i64) 3 W w.heap.size (fun _ => True) v out) ∧ Aside0 (Kd.R Kd.bool 4 W w.heap.size (fun _ => True) (.slice A1 n c1) sn) ∧ Aside0 (Below w.heap.size w W)) (fun _ i _ => n - (intOf i).toNat)
  case atStart => exact ⟨0, _, [], rfl, Aside0.mk ⟨Nat.zero_le _, HS0.out, Nat.le_refl _, HH.out⟩, Aside0.mk (Kd.R_nil _ _ _ _ _), HO, HB⟩
  case round =>
    clear HH HO HB HS0
    obtain ⟨m, sn, out, rfl, HA, HO, HSn, HB⟩ := hrel
    by_cases hm : m < n
    · obtain ⟨g, rfl⟩ := R_blockd HSn.out (by omega)
      obtain ⟨s', d', hcyc, hrest⟩ : ∃ s' d', cyc nx 2000 sn m 0 = some (s', d') ∧ rnds nx (n - (m + 1)) s' (m + 1) (if 0 < d' then out ++ [(d' : Int)] else out) = some res := by
        have h := HA.out.2.2.2
        rw [show n - m = (n - (m + 1)) + 1 by omega, rnds] at h
        obtain ⟨r, h1, h2⟩ := Option.bind_eq_some_iff.mp h
        exact ⟨r.1, r.2, h1, h2⟩
      have HCy := Aside0.mk hcyc
      have HRe := Aside0.mk hrest
      have HLs := Aside0.mk (cyc_len nx _ _ _ _ _ _ hcyc)
      clear hcyc hrest
      obtain ⟨Av, cv, ev⟩ := Kd.R_slice HO.out
      subst ev
      go_wp2_with fail
      go_loopg [8, 9] 2000 (fun kq c p W => ∃ (cn pn : Nat) (sq : List Bool), c = .int .i64 cn ∧ p = .int .i64 pn ∧ Aside0 (pn < n ∧ sq.length = n ∧ cn + kq ≤ 2000 ∧ cyc nx kq sq pn cn = some (s', d')) ∧ Aside0 (Kd.R (Kd.int .i64) 3 W w.heap.size (fun _ => True) (.slice Av out.length cv) out) ∧ Aside0 (Kd.R Kd.bool 4 W w.heap.size (fun _ => True) (.slice (some ⟨g, 0, none⟩) n c1) sq) ∧ Aside0 (Below w.heap.size w W))
      case atStart => exact ⟨0, m, sn, rfl, rfl, Aside0.mk ⟨hm, HA.out.2.1, Nat.le_refl _, HCy.out⟩, HO, HSn, HB⟩
      case round =>
        clear HO HSn HB HCy
        obtain ⟨cn, pn, sq, rfl, rfl, HQ, HO, HSn, HB⟩ := hrel
        cases gk with
        | zero => exact absurd HQ.out.2.2.2 (by simp [cyc])
        | succ k1 =>
          have hpn := HQ.out.1
          have hcell := Kd.R_celln false HSn.out (pn : Int) (by omega) (by omega)
          rw [Int.toNat_natCast, sn_get sq pn (by have := HQ.out.2.1; omega)] at hcell
          obtain ⟨hc1, hf1⟩ := hcell
          cases hsq : sq.getD pn true with
          | true =>
            have HQ2 : Aside0 (sq = s' ∧ cn = d') := Aside0.mk (by have := HQ.out.2.2.2; rw [cyc, if_pos hsq] at this; simpa using this)
            rw [hsq] at hc1
            rw [HQ2.out.1] at HSn
            have HAo := HA.out
            by_cases hd : 0 < d'
            · have hd2 : d' ≤ 2000 := by have := HQ.out.2.2.1; have := HQ2.out.2; omega
              rw [if_pos hd] at HRe
              have hcd : cn = d' := HQ2.out.2
              subst hcd
              have hol := HA.out.2.2.1
              have hml := HA.out.1
              go_wp2_with (first | ((with_reducible refine gate_builtin (b := .append) (xs := #[.tmp 32, .tmp 34]) rfl ?_); at_builtin; go_loud (refine Kd.R_append (Kd.int .i64) (w0 := w) w.heap.size rfl (.tmp 32) (.tmp 34) 22 3 (.int .i64 0) 8 rfl Try.underlying22 info3 rfl (by decide) (by omega) _ out (cn : Int) [.int .i64 (cn : Int)] (fun _ => True) (fun _ => False) rfl rfl rfl (fun _ hk => hk.elim) (fun _ _ => trivial) HO.out HB.out (below_size HB.out) (by omega) ?_); intro v2 w2 ho hb hg hat; have HO2 := Aside0.mk ho; have HB2 := Aside0.mk hb; have HS2 := Aside0.mk (Kd.R_over HSn.out HO.out (by simp [Kd.bool, Kd.scalar]) hg); clear ho hb hg hat))
              go_roundw
              case rel => exact ⟨m + 1, s', _, by go_num, Aside0.mk ⟨by omega, by rw [HLs.out]; exact HAo.2.1, by simp; omega, HRe.out⟩, HO2, HS2, HB2⟩
              case measure => simp [intOf]; omega
            · rw [if_neg hd] at HRe
              obtain rfl : d' = 0 := by omega
              have hcd : cn = 0 := HQ2.out.2
              subst hcd
              go_wp2_with fail
              go_roundw
              case rel => exact ⟨m + 1, s', out, by go_num, Aside0.mk ⟨by omega, by rw [HLs.out]; exact HAo.2.1, by have := HAo.2.2.1; omega, HRe.out⟩, HO, HSn, HB⟩
              case measure => simp [intOf]; omega
          | false =>
            have HQ2 : Aside0 (cyc nx k1 (sq.set pn true) (nx pn) (cn + 1) = some (s', d')) := Aside0.mk (by have := HQ.out.2.2.2; rw [cyc, if_neg (by rw [hsq]; simp)] at this; exact this)
            rw [hsq] at hc1
            have hcn : cn ≤ 2000 := by have := HQ.out.2.2.1; omega
            have hnx := HT.out pn hpn
            have hp1 := Kd.R_putn HSn.out (pn : Int) true
            rw [Int.toNat_natCast] at hp1
            have HP1 := Aside0.mk hp1
            have hgr : ∀ L, Kd.R Kd.bool 4 wr w.heap.size (fun _ => True) (.slice (some ⟨g, 0, none⟩) L c1) sq → wr.grownBy (wr.setCell ⟨g, pn, none⟩ (.bool true)) (some g) := fun L hL => by
              have hn' := (Kd.R_reads' hL).1
              subst hn'
              have := (Kd.R_put hL (pn : Int) true).2
              rw [Int.toNat_natCast] at this
              exact this
            have HG1 := Aside0.mk (hgr n HSn.out)
            have HO1 := Aside0.mk (Kd.R_over HO.out HSn.out (by simp [Kd.int, Kd.scalar]) HG1.out)
            have HB1 := Aside0.mk (HB.out.grown HG1.out (below_size HB.out) (fun k e => Kd.R_base HSn.out k e))
            clear hp1 hgr
            go_wp2_with (first
              | (go_at_call 89; refine (HC.out _ pn HB1.out hpn).mono ?_; rintro e w' ⟨rfl, ⟨nd, rfl⟩⟩)
              | fail)
            go_roundg k1
            case measure => have := HQ.out.2.2.1; omega
            case rel => exact ⟨cn + 1, nx pn, _, by go_num, rfl, Aside0.mk ⟨hnx, by rw [List.length_set]; exact HQ.out.2.1, by have := HQ.out.2.2.1; omega, HQ2.out⟩, Aside0.mk (Kd.R_drewN HO1.out _), Aside0.mk (Kd.R_drewN HP1.out _), Aside0.mk (by exact pw_below_drewN HB1.out _)⟩
    · obtain rfl : m = n := by have := HA.out.1; omega
      have HE : Aside0 (out = res) := Aside0.mk (by have := HA.out.2.2.2; simpa [rnds] using this)
      rw [HE.out] at HO
      obtain ⟨Av, cv, ev⟩ := Kd.R_slice HO.out
      subst ev
      have HV := Aside0.mk (sort_R HO.out (by have := HA.out.2.2.1; rw [HE.out] at this; omega) hres)
      go_wp2_with fail
      refine HV.out.mono ?_
      rintro e w2 ⟨rfl, hR, hg⟩
      have HR2 := Aside0.mk hR
      have HB2 := Aside0.mk (HB.out.grown hg (below_size HB.out) (fun k e => Kd.R_base HO.out k e))
      clear hR hg
      go_wp2
      go_ret
      exact ⟨_, rfl, by have := HR2.out; simpa [sortL_length] using this, HB2.out⟩

set_option maxRecDepth 100000 in
theorem close73 (n p kind B1 B2 : Nat) (hn : n % 2 = 0) (hs : n ≤ 1000) (hk : kind ≤ 1) (hp : p < n) (W : World) (h1 : W.cell? ⟨B1, 0, none⟩ = some (.int .i64 (n : Int))) (h2 : W.cell? ⟨B2, 0, none⟩ = some (.int .i64 (kind : Int))) :
    Calls Try.prog 73 #[.int .i64 (p : Int), .pointer (some ⟨B1, 0, none⟩), .pointer (some ⟨B2, 0, none⟩)] W fun e W' => e = .returned (.int .i64 ((stepN n p kind : Nat) : Int)) ∧ Drawn0 W W' := by
  have CS := Aside0.mk (step_eq hn hs hk hp)
  go_enter Try.func73, Try.ntmps73
  go_wp2_with (first | (go_at_call 54; refine (knead_step.calls _ _ _ _ _ CS.out).mono ?_; rintro e w' ⟨rfl, ⟨nd, rfl⟩⟩) | go_in)
  go_ret
  exact ⟨rfl, by first | exact ⟨nd, rfl⟩ | exact ⟨_, rfl⟩⟩

def knead_Rounds.f (a0 a1 : Int) : Option (List Int × Int) := (knead_kinded.f a0 a1).bind fun t => if t = 0 then (if 0 ≤ a0 ∧ a0 ≤ 1000 ∧ a0 % 2 = 0 ∧ (a1 = 0 ∨ a1 = 1) then ((rnds (fun p => stepN a0.toNat p a1.toNat) a0.toNat (List.replicate a0.toNat false) 0 []).bind fun out => if 0 < out.length then some (sortL out, 0) else none) else none) else some ([], t)

set_option maxHeartbeats 2000000 in
set_option maxRecDepth 100000 in
theorem knead_Rounds.calls (a0 a1 : Int) (r1 : List Int) (r2 : Int) (w : World) (h : knead_Rounds.f a0 a1 = some (r1, r2)) :
    Calls Try.prog 33 #[.int .i64 a0, .int .i64 a1] w fun e w' => ∃ v0_ : Value, e = .returned (.tuple #[v0_, .int .i64 r2]) ∧ Kd.R (Kd.int .i64) 3 w' w.heap.size (fun _ => True) v0_ r1 ∧ Below w.heap.size w w' := by
  unfold knead_Rounds.f at h
  obtain ⟨t, ht, h⟩ := Option.bind_eq_some_iff.mp h
  have HT := Aside0.mk ht
  clear ht
  by_cases hz : t = 0
  · rw [if_pos hz] at h
    subst hz
    by_cases hg : 0 ≤ a0 ∧ a0 ≤ 1000 ∧ a0 % 2 = 0 ∧ (a1 = 0 ∨ a1 = 1)
    · rw [if_pos hg] at h
      obtain ⟨out, ho, h⟩ := Option.bind_eq_some_iff.mp h
      by_cases hl : 0 < out.length
      · rw [if_pos hl] at h
        simp only [Option.some.injEq, Prod.mk.injEq] at h
        obtain ⟨rfl, rfl⟩ := h
        obtain ⟨n, rfl⟩ : ∃ n : Nat, a0 = n := ⟨a0.toNat, by omega⟩
        obtain ⟨kd, rfl⟩ : ∃ n : Nat, a1 = n := ⟨a1.toNat, by omega⟩
        simp only [Int.toNat_natCast] at ho
        have HO := Aside0.mk ho
        have HG := Aside0.mk hg
        clear ho hg
        go_enter Try.func33, Try.ntmps33
        go_wp2_with (first
          | (go_at_call 68; refine (knead_kinded.calls (n : Int) (kd : Int) 0 _ HT.out).mono ?_; rintro e w' ⟨rfl, ⟨nd, rfl⟩⟩)
          | fail)
        obtain ⟨W1, hW1⟩ : ∃ W1, ((w.alloc (Obj.cells #[Value.int IntKind.i64 (n : Int)] 3)).alloc (Obj.cells #[Value.int IntKind.i64 (kd : Int)] 3)).drewN nd = W1 := ⟨_, rfl⟩
        have hb1 : W1.heap[w.heap.size]? = some (.cells #[.int .i64 (n : Int)] 3 (0, 0)) := by
          rw [← hW1]
          exact (Below.heap_alloc (w.alloc (Obj.cells #[Value.int IntKind.i64 (n : Int)] 3)) (Obj.cells #[Value.int IntKind.i64 (kd : Int)] 3) w.heap.size (by simp)).trans (by simpa using heap_alloc_new w (Obj.cells #[Value.int IntKind.i64 (n : Int)] 3))
        have hb2 : W1.heap[w.heap.size + 1]? = some (.cells #[.int .i64 (kd : Int)] 3 (0, 0)) := by
          rw [← hW1]
          have := heap_alloc_new (w.alloc (Obj.cells #[Value.int IntKind.i64 (n : Int)] 3)) (Obj.cells #[Value.int IntKind.i64 (kd : Int)] 3)
          rw [World.size_alloc] at this
          exact this
        have hB1 : Below w.heap.size w W1 := by
          rw [← hW1]
          exact pw_below_drewN (below_alloc (below_alloc (Below.refl _ _) _) _) _
        have hBs : w.heap.size + 2 ≤ W1.heap.size := by rw [← hW1]; simp [World.drewN]
        rw [hW1]
        have hg := HG.out
        have c1 : W1.cell? ⟨w.heap.size, 0, none⟩ = some (.int .i64 (n : Int)) := blk_cell hb1 0
        have c2 : W1.cell? ⟨w.heap.size + 1, 0, none⟩ = some (.int .i64 (kd : Int)) := blk_cell hb2 0
        refine (rounds73 n (by omega) (fun p => stepN n p kd) (fun p hp => step_lt (by omega) (by omega) hp) out hl w.heap.size (w.heap.size + 1) W1 (fun W p hb hp => close73 n p kd w.heap.size (w.heap.size + 1) (by omega) (by omega) (by omega) hp W ((hb.cell (p := ⟨w.heap.size, 0, none⟩) (show w.heap.size < W1.heap.size by omega)).trans c1) ((hb.cell (p := ⟨w.heap.size + 1, 0, none⟩) (show w.heap.size + 1 < W1.heap.size by omega)).trans c2)) HO.out).mono ?_
        rintro e w2 ⟨v2, rfl, hR, hB⟩
        have HR2 := Aside0.mk (Kd.R_lower hR (show w.heap.size ≤ W1.heap.size by omega))
        have HB2 := Aside0.mk (below_step hB1 hB)
        clear hR hB
        go_wp2
        go_ret2
        exact ⟨_, rfl, HR2.out, HB2.out⟩
      · rw [if_neg hl] at h
        cases h
    · rw [if_neg hg] at h
      cases h
  · rw [if_neg hz] at h
    have hb : (t != 0) = true := bne_iff_ne.mpr hz
    simp only [Option.some.injEq, Prod.mk.injEq] at h
    obtain ⟨rfl, rfl⟩ := h
    go_enter Try.func33, Try.ntmps33
    go_wp2_with (first | (go_at_call 68; refine (knead_kinded.calls a0 a1 t _ HT.out).mono ?_; rintro e w' ⟨rfl, ⟨nd, rfl⟩⟩) | go_in)
    go_ret2
    exact ⟨_, rfl, Kd.R_nil _ _ _ _ _, by repeat (first | exact Below.refl _ _ | (with_reducible first | apply below_alloc | apply pw_below_drewN))⟩
end Go.Proofs.Ytgnklmhjejbcoaa.K
