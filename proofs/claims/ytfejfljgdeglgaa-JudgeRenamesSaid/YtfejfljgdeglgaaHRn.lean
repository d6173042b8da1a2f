/- What judge.Rename answers: stores into the rows of a row of the call's own, each sorted then. -/
import Derived.Test.YtfejfljgdeglgaaHSo
import Derived.Test.YtfejfljgdeglgaaHCl
import Derived.Test.YtfejfljgdeglgaaQS
import Derived.Test.YtfejfljgdeglgaaK1
import Derived.Test.YtfejfljgdeglgaaK13
import Derived.Lib.SliceRun
import Derived.Lib.Hide
import Derived.StillTailTactics
import Derived.Deep.RegionLaw
namespace Go.Proofs.Ytfejfljgdeglgaa.K
open Go.RowKit Go.Proofs.YtfejfljgdeglgaaW.PrintWords Go.Proofs.YtfejfljgdeglgaaW.PrintLast Go.Proofs.YtfejfljgdeglgaaW.PrintMore
set_option linter.unusedVariables false
set_option linter.unusedSimpArgs false
theorem rcopied_l0 (l : List S49) (hl : l.length ≤ 100) (hs : ∀ s ∈ l, s.f0.length ≤ 100) : ∀ m n : Nat, n + m = l.length → ∀ k, judge_copied.l0 (k + m + 1) (l.take n) l (l.length : Int) (n : Int) = some l
  | 0, n, h, k => by rw [judge_copied.l0, if_neg (by omega), List.take_of_length_le (by omega)]
  | m + 1, n, h, k => by
    have hn : n < l.length := by omega
    have hr : rd_T49 l (n : Int) = l[n] := by
      unfold rd_T49
      rw [Int.toNat_natCast, List.getD_eq_getElem?_getD, List.getElem?_eq_getElem hn]
      rfl
    have hc : slices_Clone_int_int.f l[n].f0 = some l[n].f0 := by
      unfold slices_Clone_int_int.f
      rw [if_pos (by have := hs _ (List.getElem_mem hn); omega)]
    rw [judge_copied.l0, if_pos (by omega), if_pos (by omega), if_pos (by omega), hr, hc, Option.bind_some, if_pos (by rw [List.length_take]; omega), show wrap64 ((n : Int) + 1) = ((n + 1 : Nat) : Int) by unfold wrap64; omega]
    have e : l.take n ++ [(⟨l[n].f0, l[n].f1⟩ : S49)] = l.take (n + 1) := by
      rw [List.take_add_one, List.getElem?_eq_getElem hn]
      rfl
    rw [e]
    exact rcopied_l0 l hl hs m (n + 1) (by omega) k
/-- Element i of a list of answers of the call's own: its cells, its row, and what the list is when that row has been written. -/
theorem S49_elem {base : Nat} {ok : Nat → Prop} {w : World} {A : Option Addr} {n c : Nat} {ys : List S49} (h : Kd.S k49 49 w base ok (.slice A n c) ys) (i : Nat) (hi : i < ys.length) :
    ∃ (g : Nat) (A0 : Option Addr) (c0 : Nat) (oki : Nat → Prop), A = some ⟨g, 0, none⟩ ∧ n = ys.length ∧ w.cell? ⟨g, i * 2, none⟩ = some (.slice A0 ys[i].f0.length c0) ∧ w.cell? ⟨g, i * 2 + 1, none⟩ = some (.bool ys[i].f1) ∧ ys[i].f0.length ≤ c0 ∧ (∀ k, oki k → ok k) ∧
      Kd.R (Kd.int .i64) 3 w base oki (.slice A0 ys[i].f0.length c0) ys[i].f0 ∧
      ∀ (w1 : World) (xs : List Int), xs.length = ys[i].f0.length → w.grownBy w1 (Value.slice A0 ys[i].f0.length c0).ownBlock → Kd.R (Kd.int .i64) 3 w1 base oki (.slice A0 ys[i].f0.length c0) xs → Kd.S k49 49 w1 base ok (.slice A n c) (ys.set i ⟨xs, ys[i].f1⟩) := by
  obtain ⟨g, cap, he, hb, hg, _⟩ := Kd.S_form h (by omega)
  injection he with hA hn hc
  subst hA
  have hcell := Kd.S_borrow h z49 (i : Int) (by omega) (by omega)
  simp only [Int.toNat_natCast] at hcell
  have hx : ys.getD i z49 = ys[i] := by rw [List.getD_eq_getElem?_getD, List.getElem?_eq_getElem hi]; rfl
  rw [hx] at hcell
  obtain ⟨oki, ce, hcl, hM, hcc, hoki, hbk⟩ := hcell
  obtain ⟨v0, rfl, hR⟩ := k49_openM hM
  obtain ⟨A0, c0, rfl, hc0, hC0⟩ := Kd.R_reads hR
  refine ⟨g, A0, c0, oki, rfl, hn, ?_, ?_, hc0, fun k hk => (hoki k hk).1, hR, fun w1 xs hl hgr hR1 => ?_⟩
  · have := hcc 0 _ rfl
    rw [Nat.add_zero, add_plain] at this
    exact this
  · have := hcc 1 _ rfl
    rw [add_plain] at this
    exact this
  · exact hbk hgr (fun k e_ => hR.1 k e_) (x' := ⟨xs, ys[i].f1⟩) (k49_mkM _ _ _ ⟨xs, ys[i].f1⟩ hR1)
/-- The number that a list gives. -/
def toAt (tt : List Int) (g : Int) : Int := rd tt g
/-- An answer with other numbers of the grades. -/
def rn1 (tt : List Int) (s : S49) : S49 := ⟨sortL (s.f0.map (toAt tt)), s.f1⟩
/-- judge.Rename, for records that are not long. -/
def judge_Rename.f (a0 : Int) (l1 : List S49) (l2 : List Int) : Option (List S49 × Int) := (judge_Validate.f a0 l1).bind fun e => if e = 0 then (if (l2.length : Int) = a0 then (if ∀ g, g < l2.length → ((g : Nat) : Int) ∈ l2 then (if l1.length ≤ 100 ∧ (∀ s ∈ l1, s.f0.length ≤ 100) ∧ l2.length ≤ 100 then some (l1.map (rn1 l2), 0) else none) else (if l2.length ≤ 100 then some ([], 1) else none)) else some ([], 1)) else some ([], e)
theorem sort_R' {base cap n : Nat} {ok : Nat → Prop} {A : Option Addr} {xs : List Int} {w : World} (hn : xs.length = n) (h : Kd.R (Kd.int .i64) 3 w base ok (.slice A n cap) xs) (hsz : n ≤ 1000) :
    Calls Try.prog 92 #[.slice A n cap] w fun e w' => e = .returned (.tuple #[]) ∧ Kd.R (Kd.int .i64) 3 w' base ok (.slice A n cap) (sortL xs) ∧ w.grownBy w' (Value.slice A n cap).ownBlock := by
  subst hn
  exact sort_R h (by omega)
/-- The list when the first n answers are renamed. -/
def prefR (l2 : List Int) (l1 : List S49) (n : Nat) : List S49 := (l1.take n).map (rn1 l2) ++ l1.drop n
theorem prefR_length (l2 : List Int) (l1 : List S49) (n : Nat) (h : n ≤ l1.length) : (prefR l2 l1 n).length = l1.length := by
  unfold prefR
  rw [List.length_append, List.length_map, List.length_take, List.length_drop]; omega
theorem prefR_get (l2 : List Int) (l1 : List S49) (n : Nat) (h : n < l1.length) (h2 : n < (prefR l2 l1 n).length) : (prefR l2 l1 n)[n] = l1[n] := by
  apply Option.some.inj
  rw [← List.getElem?_eq_getElem h2, ← List.getElem?_eq_getElem h]
  unfold prefR
  rw [List.getElem?_append_right (by rw [List.length_map, List.length_take]; omega), List.length_map, List.length_take, List.getElem?_drop]
  congr 1
  omega
theorem prefR_set (l2 : List Int) (l1 : List S49) (n : Nat) (h : n < l1.length) : (prefR l2 l1 n).set n (rn1 l2 l1[n]) = prefR l2 l1 (n + 1) := by
  unfold prefR
  rw [List.set_append_right _ _ (by rw [List.length_map, List.length_take]; omega), List.length_map, List.length_take, show n - min n l1.length = 0 by omega, List.drop_eq_getElem_cons h, List.set_cons_zero, List.take_add_one, List.getElem?_eq_getElem h, List.map_append, List.append_assoc]
  rfl
/-- A row whose first m numbers are renamed. -/
def rowR (l2 f : List Int) (m : Nat) : List Int := (f.take m).map (toAt l2) ++ f.drop m
theorem rowR_length (l2 f : List Int) (m : Nat) (h : m ≤ f.length) : (rowR l2 f m).length = f.length := by
  unfold rowR
  rw [List.length_append, List.length_map, List.length_take, List.length_drop]; omega
theorem rowR_get (l2 f : List Int) (m : Nat) (h : m < f.length) : rdOf 0 (rowR l2 f m) (m : Int) = f[m] := by
  unfold rdOf rowR
  rw [Int.toNat_natCast, List.getD_eq_getElem?_getD, List.getElem?_append_right (by rw [List.length_map, List.length_take]; omega), List.length_map, List.length_take, List.getElem?_drop, show m + (m - min m f.length) = m by omega, List.getElem?_eq_getElem h]
  rfl
theorem rowR_set (l2 f : List Int) (m : Nat) (h : m < f.length) : (rowR l2 f m).set m (toAt l2 f[m]) = rowR l2 f (m + 1) := by
  unfold rowR
  rw [List.set_append_right _ _ (by rw [List.length_map, List.length_take]; omega), List.length_map, List.length_take, show m - min m f.length = 0 by omega, List.drop_eq_getElem_cons h, List.set_cons_zero, List.take_add_one, List.getElem?_eq_getElem h, List.map_append, List.append_assoc]
  rfl
set_option maxHeartbeats 4000000 in
set_option maxRecDepth 100000 in
theorem rename_all (A1 : Option Addr) (c1 : Nat) (l1 : List S49) (A2 : Option Addr) (c2 : Nat) (l2 : List Int) (w : World) (hr1 : Kd.C k49 w A1 l1.length l1) (hc1 : l1.length ≤ c1) (hr2 : Kd.C (Kd.int .i64) w A2 l2.length l2) (hc2 : l2.length ≤ c2)
    (he : judge_Validate.f (l2.length : Int) l1 = some 0) (hall : ∀ g, g < l2.length → ((g : Nat) : Int) ∈ l2) (h1 : l1.length ≤ 100) (h2 : ∀ s ∈ l1, s.f0.length ≤ 100) (h3 : l2.length ≤ 100) (hin : ∀ s ∈ l1, ∀ x ∈ s.f0, 0 ≤ x ∧ x < (l2.length : Int)) :
    Calls Try.prog 74 #[.int .i64 (l2.length : Int), .slice A1 l1.length c1, .slice A2 l2.length c2] w fun e w' => ∃ v0_ : Value, e = .returned (.tuple #[v0_, .int .i64 0]) ∧ Kd.S k49 49 w' w.heap.size (fun _ => True) v0_ (l1.map (rn1 l2)) ∧ Below w.heap.size w w' := by
  have HR := Aside0.mk hr1
  have HR2 := Aside0.mk hr2
  have HE := Aside0.mk he
  have HALL := Aside0.mk hall
  have HIN := Aside0.mk hin
  have H2 := Aside0.mk h2
  have hcp := rcopied_l0 l1 h1 h2 l1.length 0 (by omega) 0
  have HCP := Aside0.mk (show judge_copied.f (0 + l1.length + 1) l1 = some l1 from hcp)
  have hcn : ∀ x : Int, slices_Contains_int_int.f 200 l2 x = some (decide (x ∈ l2)) := fun x => contains_ok l2 x 200 (by omega) (by omega)
  have HCN := Aside0.mk hcn
  clear hcp hr1 hr2 he hall hin h2 hcn
  have hbe : ((l2.length : Int) == (l2.length : Int)) = true := beq_self_eq_true _
  go_enter Try.func74, Try.ntmps74
  go_wp2_with (first
    | (go_at_call 51; (with_reducible refine (judge_Validate.calls _ _ _ _ _ _ HR.out hc1 HE.out).mono ?_); rintro e w1 ⟨rfl, hb⟩; have HB := Aside0.mk hb; clear hb))
  go_loopg [26] (l2.length + 1) (fun kq v26 w' => ∃ n : Nat, v26 = .int .i64 (n : Int) ∧ Aside0 (n ≤ l2.length) ∧ Aside0 (l2.length - n + 1 ≤ kq) ∧ Aside0 (Below w.heap.size w w'))
  case atStart => exact ⟨0, rfl, ⟨Nat.zero_le _⟩, ⟨by omega⟩, HB⟩
  case round =>
    clear HB
    obtain ⟨n, rfl, hn, hk, HB⟩ := hrel
    cases gk with
    | zero => have := hk.out; omega
    | succ k1 =>
    by_cases c : n < l2.length
    · have c0 : decide ((n : Int) < (l2.length : Int)) = true := decide_eq_true (by omega)
      have c00 : decide (n < l2.length) = true := decide_eq_true c
      have HC1 := Aside0.mk ((HCN.out (n : Int)).trans (by rw [decide_eq_true (HALL.out n c)]))
      go_wp2_with (first
        | (go_at_call 88; (with_reducible refine (slices_Contains_int_int.calls 200 _ _ l2 (n : Int) true _ (Kd.C_below HR2.out HB.out) hc2 HC1.out).mono ?_); rintro e w2 ⟨rfl, hd⟩; have HB2 := Aside0.mk (below_step HB.out hd.below); clear hd))
      go_roundg k1
      case measure => omega
      case rel => exact ⟨n + 1, rfl, ⟨by omega⟩, ⟨by have := hk.out; omega⟩, HB2⟩
    · have c0 : decide ((n : Int) < (l2.length : Int)) = false := decide_eq_false (by omega)
      have c00 : decide (n < l2.length) = false := decide_eq_false c
      clear hk hn
      go_wp2_with (first
        | (go_at_call 90; (with_reducible refine (judge_copied.calls _ _ _ l1 l1 _ (Kd.C_below HR.out HB.out) hc1 HCP.out).mono ?_); rintro e w3 ⟨v3, rfl, ho, hb⟩; obtain ⟨Ao, co, hv, hlo, hro⟩ := Kd.S_reads ho; subst hv; have HB3 := Aside0.mk (below_step HB.out hb); have HO3 := Aside0.mk (Kd.S_lower ho HB.out.size); clear ho hb hro))
      have HS0 := Aside0.mk (show Kd.S k49 49 w3 w.heap.size (fun _ => True) (.slice Ao l1.length co) (prefR l2 l1 0) from by rw [show prefR l2 l1 0 = l1 by simp [prefR]]; exact HO3.out)
      clear HO3
      have hlo2 := hlo
      go_loopg [38] ((l1.length + 1) * 102) (fun kq v38 w' => ∃ n : Nat, v38 = .int .i64 (n : Int) ∧ Aside0 (n ≤ l1.length) ∧ Aside0 ((l1.length - n) * 102 + 1 ≤ kq) ∧ Aside0 (Kd.S k49 49 w' w.heap.size (fun _ => True) (.slice Ao l1.length co) (prefR l2 l1 n)) ∧ Aside0 (Below w.heap.size w w'))
      case atStart => exact ⟨0, rfl, ⟨Nat.zero_le _⟩, ⟨by omega⟩, HS0, HB3⟩
      case round =>
        clear HS0 HB3 HB
        obtain ⟨n, rfl, hn, hk, HS, HB⟩ := hrel
        cases gk with
        | zero => have := hk.out; omega
        | succ k1 =>
        by_cases c : n < l1.length
        · have c0 : decide ((n : Int) < (l1.length : Int)) = true := decide_eq_true (by omega)
          have c00 : decide (n < l1.length) = true := decide_eq_true c
          have hpl := prefR_length l2 l1 n (by omega)
          have hel := S49_elem HS.out n (by omega)
          rw [prefR_get l2 l1 n c (by omega)] at hel
          obtain ⟨g, A0, c0', oki, hAo, hnl, hx0, hx1, hlc, hoki, hR, hbk⟩ := hel
          clear hnl
          subst hAo
          have hfl : l1[n].f0.length ≤ 100 := H2.out _ (List.getElem_mem c)
          have hfin : ∀ x ∈ l1[n].f0, 0 ≤ x ∧ x < (l2.length : Int) := HIN.out _ (List.getElem_mem c)
          have hset := prefR_set l2 l1 n c
          unfold rn1 at hset
          generalize l1[n].f0 = f at hx0 hlc hR hbk hfl hfin hset
          generalize l1[n].f1 = b at hx1 hbk hset
          have HR0 := Aside0.mk hR
          have HBK := Aside0.mk hbk
          have HFIN := Aside0.mk hfin
          have HSET := Aside0.mk hset
          clear hR hbk hfin hset hoki hpl
          have e1 : (0 : Int) ≤ (n : Int) := by omega
          have e2 : (n : Int) < (l1.length : Int) := by omega
          go_wp2_with (first
            | ((with_reducible refine gate_dst (N := 12) rfl ?_); refine box_event ?hg (N := 12) ?hd (cs := #[.slice none 0 0, .bool false]) (t := 49) ?hr ?_; (case hd => rfl); (case hg => rfl); (case hr => first | (go_simp; done) | (go_simp; rfl)); intro G hG w5 hbox hb; have HBX := Aside0.mk hbox; have HB5 := Aside0.mk hb; have HG5 := Aside0.mk hG; clear hbox hb hG; have hf0 := blk_frozen HBX.out 0; have hf1 := blk_frozen HBX.out 1; have hc0_ := (blk_cell HBX.out 0).trans rfl; have hc1_ := (blk_cell HBX.out 1).trans rfl))
          generalize hW : World.setCell (World.setCell w5 _ _) _ _ = w6
          have hbk6 : w6.heap[G]? = some (.cells #[.slice A0 f.length c0', .bool b] 49 (0, 0)) := by
            rw [← hW]
            refine blk_put (cs := #[.slice A0 f.length c0', .bool false]) ?_ 1 _ rfl
            refine blk_put (cs := #[.slice none 0 0, .bool false]) ?_ 0 _ rfl
            exact HBX.out
          have hb6 : Below wr.heap.size wr w6 := by
            have hge : wr.heap.size ≤ G := by rw [HG5.out]; exact Nat.le_refl _
            rw [← hW]
            exact below_set (below_set HB5.out hge) hge
          have hGne : some G ≠ (Value.slice A0 f.length c0').ownBlock := fun he => by
            have := Kd.R_lt HR0.out G he.symm
            have := HG5.out
            omega
          have HGN := Aside0.mk hGne
          have HR6 := Aside0.mk (show Kd.R (Kd.int .i64) 3 w6 w.heap.size oki (.slice A0 f.length c0') (rowR l2 f 0) from by rw [show rowR l2 f 0 = f by simp [rowR]]; exact Kd.R_below HR0.out hb6)
          have HG6 := Aside0.mk (show wr.grownBy w6 (Value.slice A0 f.length c0').ownBlock from ⟨hb6.os, hb6.tape, hb6.output, hb6.size, fun i hi _ => hb6.block i hi⟩)
          have HBK6 := Aside0.mk hbk6
          have HOW := Aside0.mk (Kd.R_base HR0.out)
          clear hf0 hf1 hc0_ hc1_ HBX HB5 HG5 hW hbk6 hb6 hGne HR0 HS
          go_loopg [45] k1 (fun kq v45 w' => ∃ m : Nat, v45 = .int .i64 (m : Int) ∧ Aside0 (m ≤ f.length) ∧ Aside0 ((l1.length - n - 1) * 102 + 1 + (101 - m) ≤ kq) ∧ Aside0 (kq ≤ k1) ∧ Aside0 (Kd.R (Kd.int .i64) 3 w' w.heap.size oki (.slice A0 f.length c0') (rowR l2 f m)) ∧ Aside0 (wr.grownBy w' (Value.slice A0 f.length c0').ownBlock) ∧ Aside0 (w'.heap[G]? = some (.cells #[.slice A0 f.length c0', .bool b] 49 (0, 0))))
          case atStart => exact ⟨0, rfl, ⟨Nat.zero_le _⟩, ⟨by have := hk.out; omega⟩, ⟨Nat.le_refl _⟩, HR6, HG6, HBK6⟩
          case round =>
            clear HR6 HG6 HBK6
            obtain ⟨m, rfl, hm, hk2, hk3, HR6, HG6, HBK6⟩ := hrel
            cases gk with
            | zero => have := hk2.out; omega
            | succ k2 =>
            have hc0_ := (blk_cell HBK6.out 0).trans rfl
            have hc1_ := (blk_cell HBK6.out 1).trans rfl
            have HB6 := Aside0.mk (pw_below_grown HB.out _ HB.out.size HG6.out HOW.out)
            by_cases cm : m < f.length
            · have d0 : decide ((m : Int) < (f.length : Int)) = true := decide_eq_true (by omega)
              have d00 : decide (m < f.length) = true := decide_eq_true cm
              obtain ⟨g0, rfl⟩ : ∃ g0, A0 = some ⟨g0, 0, none⟩ := by
                obtain ⟨g0, cap, he0, _⟩ := Kd.R_form HR6.out (by rw [rowR_length l2 f m hm.out]; omega)
                injection he0 with h0 _ _
                exact ⟨g0, h0⟩
              have hxm := HFIN.out _ (List.getElem_mem cm)
              obtain ⟨hv, hfv⟩ := Kd.R_celln 0 HR6.out (m : Int) (by omega) (by omega)
              rw [rowR_get l2 f m cm, Int.toNat_natCast] at hv
              rw [Int.toNat_natCast] at hfv
              have hput := Kd.R_putg HR6.out (m : Int) (toAt l2 f[m])
              rw [Int.toNat_natCast, rowR_set l2 f m cm] at hput
              generalize f[m] = x at hv hxm hput
              obtain ⟨hx0', hx1'⟩ := hxm
              obtain ⟨ad2, hA2, hxv⟩ := Kd.at_int (Kd.C_below HR2.out HB6.out) x hx0' hx1'
              subst hA2
              have HPUT := Aside0.mk hput
              clear hput
              have e3 : (0 : Int) ≤ (m : Int) := by omega
              have e4 : (m : Int) < (f.length : Int) := by omega
              go_wp2
              go_region
              go_wp2
              go_roundg k2
              case measure => omega
              case rel =>
                have hgt := World.grownBy.trans HG6.out HPUT.out.2
                have hne : G ≠ g0 := fun e => HGN.out (by rw [e]; rfl)
                exact ⟨m + 1, rfl, ⟨by omega⟩, ⟨by have := hk2.out; omega⟩, ⟨by have := hk3.out; omega⟩, ⟨Kd.R_drew HPUT.out.1⟩, ⟨⟨hgt.os, hgt.tape, hgt.output, hgt.size, hgt.block⟩⟩, ⟨(Below.heap_setCell _ ⟨g0, m, none⟩ _ G hne).trans HBK6.out⟩⟩
            · have d0 : decide ((m : Int) < (f.length : Int)) = false := decide_eq_false (by omega)
              have d00 : decide (m < f.length) = false := decide_eq_false cm
              have hmf : m = f.length := by have := hm.out; omega
              have hrl := rowR_length l2 f m hm.out
              go_wp2_with (first
                | (go_at_call 92; (with_reducible refine (sort_R' hrl HR6.out (by omega)).mono ?_); rintro e w7 ⟨rfl, hR7, hg7⟩; have HR7 := Aside0.mk hR7; have HG7 := Aside0.mk hg7; clear hR7 hg7))
              have hfin : rowR l2 f m = f.map (toAt l2) := by rw [hmf]; unfold rowR; rw [List.take_length, List.drop_length, List.append_nil]
              have hS7 := HBK.out _ (sortL (rowR l2 f m)) (by rw [sortL_length]; exact hrl) (World.grownBy.trans HG6.out HG7.out) HR7.out
              have HS7 := Aside0.mk (show Kd.S k49 49 _ w.heap.size (fun _ => True) (.slice (some ⟨g, 0, none⟩) l1.length co) (prefR l2 l1 (n + 1)) from by rw [← HSET.out, ← hfin]; exact hS7)
              have HB7 := Aside0.mk (pw_below_grown HB6.out _ HB6.out.size HG7.out HOW.out)
              clear hS7
              go_roundg k2
              case measure => have := hk3.out; omega
              case rel => exact ⟨n + 1, rfl, ⟨by omega⟩, ⟨by have := hk2.out; have := hm.out; omega⟩, HS7, HB7⟩
        · have c0 : decide ((n : Int) < (l1.length : Int)) = false := decide_eq_false (by omega)
          have c00 : decide (n < l1.length) = false := decide_eq_false c
          obtain rfl : n = l1.length := by have := hn.out; omega
          clear hk hn
          go_wp2
          go_ret2
          have hS := HS.out
          rw [show prefR l2 l1 l1.length = l1.map (rn1 l2) by unfold prefR; rw [List.take_length, List.drop_length, List.append_nil]] at hS
          exact ⟨_, rfl, hS, HB.out⟩
set_option maxHeartbeats 4000000 in
set_option maxRecDepth 100000 in
theorem rename_miss (A1 : Option Addr) (c1 : Nat) (l1 : List S49) (A2 : Option Addr) (c2 : Nat) (l2 : List Int) (w : World) (hr1 : Kd.C k49 w A1 l1.length l1) (hc1 : l1.length ≤ c1) (hr2 : Kd.C (Kd.int .i64) w A2 l2.length l2) (hc2 : l2.length ≤ c2)
    (he : judge_Validate.f (l2.length : Int) l1 = some 0) (hall : ¬ ∀ g, g < l2.length → ((g : Nat) : Int) ∈ l2) (h3 : l2.length ≤ 100) :
    Calls Try.prog 74 #[.int .i64 (l2.length : Int), .slice A1 l1.length c1, .slice A2 l2.length c2] w fun e w' => e = .returned (.tuple #[.slice none 0 0, .int .i64 1]) ∧ Below w.heap.size w w' := by
  have HR := Aside0.mk hr1
  have HR2 := Aside0.mk hr2
  have HE := Aside0.mk he
  have HALL := Aside0.mk hall
  have hcn : ∀ x : Int, slices_Contains_int_int.f 200 l2 x = some (decide (x ∈ l2)) := fun x => contains_ok l2 x 200 (by omega) (by omega)
  have HCN := Aside0.mk hcn
  clear hr1 hr2 he hall hcn
  have hbe : ((l2.length : Int) == (l2.length : Int)) = true := beq_self_eq_true _
  go_enter Try.func74, Try.ntmps74
  go_wp2_with (first
    | (go_at_call 51; (with_reducible refine (judge_Validate.calls _ _ _ _ _ _ HR.out hc1 HE.out).mono ?_); rintro e w1 ⟨rfl, hb⟩; have HB := Aside0.mk hb; clear hb))
  go_loopg [26] (l2.length + 1) (fun kq v26 w' => ∃ n : Nat, v26 = .int .i64 (n : Int) ∧ Aside0 (n ≤ l2.length) ∧ Aside0 (l2.length - n + 1 ≤ kq) ∧ Aside0 (∀ i, i < n → ((i : Nat) : Int) ∈ l2) ∧ Aside0 (Below w.heap.size w w'))
  case atStart => exact ⟨0, rfl, ⟨Nat.zero_le _⟩, ⟨by omega⟩, ⟨fun i hi => by omega⟩, HB⟩
  case round =>
    clear HB
    obtain ⟨n, rfl, hn, hk, HI, HB⟩ := hrel
    cases gk with
    | zero => have := hk.out; omega
    | succ k1 =>
    by_cases c : n < l2.length
    · have c0 : decide ((n : Int) < (l2.length : Int)) = true := decide_eq_true (by omega)
      have c00 : decide (n < l2.length) = true := decide_eq_true c
      by_cases hm : (n : Int) ∈ l2
      · have HC1 := Aside0.mk ((HCN.out (n : Int)).trans (by rw [decide_eq_true hm]))
        have HM := Aside0.mk hm
        clear hm
        go_wp2_with (first
          | (go_at_call 88; (with_reducible refine (slices_Contains_int_int.calls 200 _ _ l2 (n : Int) true _ (Kd.C_below HR2.out HB.out) hc2 HC1.out).mono ?_); rintro e w2 ⟨rfl, hd⟩; have HB2 := Aside0.mk (below_step HB.out hd.below); clear hd))
        go_roundg k1
        case measure => omega
        case rel => exact ⟨n + 1, rfl, ⟨by omega⟩, ⟨by have := hk.out; omega⟩, ⟨fun i hi => if e : i = n then e ▸ HM.out else HI.out i (by omega)⟩, HB2⟩
      · have HC1 := Aside0.mk ((HCN.out (n : Int)).trans (by rw [decide_eq_false hm]))
        clear hm
        go_wp2_with (first
          | (go_at_call 88; (with_reducible refine (slices_Contains_int_int.calls 200 _ _ l2 (n : Int) false _ (Kd.C_below HR2.out HB.out) hc2 HC1.out).mono ?_); rintro e w2 ⟨rfl, hd⟩; have HB2 := Aside0.mk (below_step HB.out hd.below); clear hd))
        go_ret2
        exact ⟨rfl, HB2.out⟩
    · exfalso
      exact HALL.out (fun g hg => HI.out g (by have := hn.out; omega))
set_option maxHeartbeats 4000000 in
set_option maxRecDepth 100000 in
theorem judge_Rename.calls (a0 : Int) (A1 : Option Addr) (c1 : Nat) (l1 : List S49) (A2 : Option Addr) (c2 : Nat) (l2 : List Int) (r1 : List S49) (r2 : Int) (w : World) (hr1 : Kd.C k49 w A1 l1.length l1) (hc1 : l1.length ≤ c1) (hr2 : Kd.C (Kd.int .i64) w A2 l2.length l2) (hc2 : l2.length ≤ c2) (h : judge_Rename.f a0 l1 l2 = some (r1, r2)) :
    Calls Try.prog 74 #[.int .i64 a0, .slice A1 l1.length c1, .slice A2 l2.length c2] w fun e w' => ∃ v0_ : Value, e = .returned (.tuple #[v0_, .int .i64 r2]) ∧ Kd.S k49 49 w' w.heap.size (fun _ => True) v0_ r1 ∧ Below w.heap.size w w' := by
  unfold judge_Rename.f at h
  have h' := Option.bind_eq_some_iff.mp h
  clear h
  obtain ⟨e0, he, h⟩ := h'
  by_cases c0 : e0 = 0
  · rw [if_pos c0] at h
    subst c0
    by_cases c1' : (l2.length : Int) = a0
    · rw [if_pos c1'] at h
      subst c1'
      have hv := (validV_zero _ _).mp (Option.some.inj ((jvalid _ l1).symm.trans he))
      obtain ⟨hv1, hv2, hv3, hv4⟩ := hv
      split at h
      · rename_i hall
        split at h
        · rename_i hs
          simp only [Option.some.injEq, Prod.mk.injEq] at h
          obtain ⟨rfl, rfl⟩ := h
          refine rename_all A1 c1 l1 A2 c2 l2 w hr1 hc1 hr2 hc2 he hall hs.1 hs.2.1 hs.2.2 (fun s hs2 x hx => ?_)
          have := ((isSet_iff _ _).mp (hv4 s hs2)).2 x hx
          omega
        · cases h
      · rename_i hall
        split at h
        · rename_i hs
          simp only [Option.some.injEq, Prod.mk.injEq] at h
          obtain ⟨rfl, rfl⟩ := h
          refine (rename_miss A1 c1 l1 A2 c2 l2 w hr1 hc1 hr2 hc2 he hall hs).mono ?_
          rintro e w' ⟨rfl, hb⟩
          exact ⟨_, rfl, Kd.S_nil _ _ _ _ _, hb⟩
        · cases h
    · rw [if_neg c1'] at h
      simp only [Option.some.injEq, Prod.mk.injEq] at h
      obtain ⟨rfl, rfl⟩ := h
      have HR := Aside0.mk hr1
      have HR2 := Aside0.mk hr2
      have HE := Aside0.mk he
      clear hr1 hr2 he
      have hb0 : ((l2.length : Int) == a0) = false := beq_eq_false_iff_ne.mpr c1'
      have hb1 : ((l2.length : Int) != a0) = true := bne_iff_ne.mpr c1'
      go_enter Try.func74, Try.ntmps74
      go_wp2_with (first
        | (go_at_call 51; (with_reducible refine (judge_Validate.calls _ _ _ _ _ _ HR.out hc1 HE.out).mono ?_); rintro e w1 ⟨rfl, hb⟩; have HB1 := Aside0.mk hb; clear hb)
        | fail)
      go_ret2
      exact ⟨_, rfl, Kd.S_nil _ _ _ _ _, HB1.out⟩
  · rw [if_neg c0] at h
    simp only [Option.some.injEq, Prod.mk.injEq] at h
    obtain ⟨rfl, rfl⟩ := h
    have HR := Aside0.mk hr1
    have HE := Aside0.mk he
    clear hr1 he
    have hb0 : (e0 == 0) = false := beq_eq_false_iff_ne.mpr c0
    have hb1 : (e0 != 0) = true := bne_iff_ne.mpr c0
    go_enter Try.func74, Try.ntmps74
    go_wp2_with (first
      | (go_at_call 51; (with_reducible refine (judge_Validate.calls _ _ _ _ _ _ HR.out hc1 HE.out).mono ?_); rintro e w1 ⟨rfl, hb⟩; have HB1 := Aside0.mk hb; clear hb)
      | fail)
    go_ret2
    exact ⟨_, rfl, Kd.S_nil _ _ _ _ _, HB1.out⟩
end Go.Proofs.Ytfejfljgdeglgaa.K
