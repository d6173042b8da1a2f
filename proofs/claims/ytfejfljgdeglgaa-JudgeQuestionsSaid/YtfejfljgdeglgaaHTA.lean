/- What the document's 'enough' answers: the table of the states for which so many questions are enough. -/
import Derived.Test.YtfejfljgdeglgaaHI
import Derived.Deep.WholeRow
import Derived.Deep.RegionWith
import Derived.BigQuiet
namespace Go.Proofs.Ytfejfljgdeglgaa.K
open Go.RowKit Go.Proofs.YtfejfljgdeglgaaW.PrintWords Go.Proofs.YtfejfljgdeglgaaW.PrintLast Go.Proofs.YtfejfljgdeglgaaW.PrintMore
set_option linter.unusedVariables false
set_option linter.unusedSimpArgs false
theorem info67 : (Try.prog.info? 67).map (fun i => (i.zero, i.size)) = some (some (.agg (Array.replicate 1089 (.bool false))), 1089) := by kernel_rfl
theorem zero67 (w : World) : (zeroValue 67).run Try.prog w = .ok (.agg (Array.replicate 1089 (.bool false))) w := (zero_of_info info67).1 w
theorem size67 : (Try.prog.info? 67).map (·.size) = some 1089 := (zero_of_info info67).2
/-- The cells of a table. -/
def cellsT (T : Nat → Bool) : Array Value := ((List.range 1089).map fun i => Value.bool (T i)).toArray
theorem cellsT_size (T : Nat → Bool) : (cellsT T).size = 1089 := by simp [cellsT]
theorem cellsT_get (T : Nat → Bool) (i : Nat) (h : i < 1089) : (cellsT T)[i]? = some (.bool (T i)) := by simp [cellsT, h]
theorem cellsT_one (T : Nat → Bool) : ((cellsT T).all fun x => x.oneCell') = true := by
  rw [Array.all_eq_true]
  intro i hi
  simp [cellsT, Value.oneCell']
def upd (T : Nat → Bool) (i : Nat) (v : Bool) : Nat → Bool := fun j => if j = i then v else T j
theorem cellsT_set (T : Nat → Bool) (i : Nat) (v : Bool) : (cellsT T).setIfInBounds i (.bool v) = cellsT (upd T i v) := by
  apply Array.ext_getElem?
  intro j
  rw [Array.getElem?_setIfInBounds]
  by_cases hj : j < 1089
  · rw [cellsT_get _ j hj, cellsT_get _ j hj]
    by_cases e : i = j
    · subst e
      rw [if_pos rfl, if_pos (by rw [cellsT_size]; exact hj)]
      simp [upd]
    · rw [if_neg e]
      simp [upd, Ne.symm e]
  · have hn : ∀ T' : Nat → Bool, (cellsT T')[j]? = none := fun T' => by rw [Array.getElem?_eq_none]; rw [cellsT_size]; omega
    rw [hn, hn]
    by_cases e : i = j
    · rw [if_pos e, if_neg (by rw [cellsT_size]; omega)]
    · rw [if_neg e]
def T0 (i : Nat) : Bool := i == 0 || i == 1 || i == 33
theorem cellsT_zero : (((Array.replicate 1089 (Value.bool false)).setIfInBounds 0 (.bool true)).setIfInBounds 1 (.bool true)).setIfInBounds 33 (.bool true) = cellsT T0 := by kernel_rfl
def ry (f : Nat → Bool) : Nat → Nat → Bool → Bool
  | 0, _, v => v
  | m + 1, y, v => if v = true then true else ry f m (y + 1) (f y)
theorem ry_no (f : Nat → Bool) (m y : Nat) : ry f (m + 1) y false = ry f m (y + 1) (f y) := by rw [ry, if_neg (by decide)]
theorem ry_yes (f : Nat → Bool) : ∀ m y, ry f m y true = true
  | 0, _ => rfl
  | m + 1, y => by rw [ry, if_pos rfl]
def rx (f : Nat → Nat → Bool) (b : Nat) : Nat → Nat → Bool → Bool
  | 0, _, v => v
  | m + 1, x, v => if v = true then true else rx f b m (x + 1) (ry (f x) (b + 1) 0 v)
theorem rx_no (f : Nat → Nat → Bool) (b m x : Nat) : rx f b (m + 1) x false = rx f b m (x + 1) (ry (f x) (b + 1) 0 false) := by rw [rx, if_neg (by decide)]
theorem rx_yes (f : Nat → Nat → Bool) (b : Nat) : ∀ m x, rx f b m x true = true
  | 0, _ => rfl
  | m + 1, x => by rw [rx, if_pos rfl]
/-- Whether both answers to the question (x, y) lead to states of the table. -/
def fT (T : Nat → Bool) (a b x y : Nat) : Bool := T (x * 33 + (y + a - x)) && T ((a - x) * 33 + (b - y + x))
def stepV (T : Nat → Bool) (a b : Nat) : Bool := rx (fT T a b) b (a + 1) 0 (T (a * 33 + b))
/-- The table on the way: all cells before (a, b) are done. -/
def Tab (T : Nat → Bool) (n a b : Nat) : Nat → Bool := fun i => if (i / 33 < a ∨ (i / 33 = a ∧ i % 33 < b)) ∧ i / 33 + i % 33 ≤ n then stepV T (i / 33) (i % 33) else T i
def tabQ (n : Nat) : Nat → Nat → Bool
  | 0 => T0
  | q + 1 => Tab (tabQ n q) n (n + 1) 0
theorem Tab_start (T : Nat → Bool) (n : Nat) : Tab T n 0 0 = T := by
  funext i
  unfold Tab
  rw [if_neg (by omega)]
theorem Tab_cell (T : Nat → Bool) (n a b : Nat) (hb : b ≤ 32) (h : a + b ≤ n) : upd (Tab T n a b) (a * 33 + b) (stepV T a b) = Tab T n a (b + 1) := by
  funext i
  unfold upd Tab
  by_cases e : i = a * 33 + b
  · have e1 : i / 33 = a := by omega
    have e2 : i % 33 = b := by omega
    rw [if_pos e, if_pos (by omega), e1, e2]
  · rw [if_neg e]
    by_cases c : (i / 33 < a ∨ (i / 33 = a ∧ i % 33 < b)) ∧ i / 33 + i % 33 ≤ n
    · rw [if_pos c, if_pos (by omega)]
    · rw [if_neg c, if_neg (by omega)]
theorem Tab_row (T : Nat → Bool) (n a b : Nat) (h : n < a + b) : Tab T n a b = Tab T n (a + 1) 0 := by
  funext i
  unfold Tab
  by_cases c : (i / 33 < a ∨ (i / 33 = a ∧ i % 33 < b)) ∧ i / 33 + i % 33 ≤ n
  · rw [if_pos c, if_pos (by omega)]
  · rw [if_neg c, if_neg (by omega)]
theorem Tab_here (T : Nat → Bool) (n a b : Nat) (hb : b ≤ 32) : Tab T n a b (a * 33 + b) = T (a * 33 + b) := by
  unfold Tab
  rw [if_neg (by omega)]
theorem upd_same (T : Nat → Bool) (i : Nat) : upd T i (T i) = T := by
  funext j
  unfold upd
  split
  · rename_i h; rw [h]
  · rfl
theorem upd_upd (T : Nat → Bool) (i : Nat) (u v : Bool) : upd (upd T i u) i v = upd T i v := by
  funext j
  unfold upd
  split <;> simp_all
theorem upd_at (T : Nat → Bool) (i : Nat) (u : Bool) : upd T i u i = u := by simp [upd]
/-- What stands where: the result's cells, the table of the last round, and what was there. -/
structure E5 (w wr : World) (T : Nat → Bool) : Prop where
  b4 : wr.heap[w.heap.size]? = some (.cells (Array.replicate 1089 (.bool false)) 67 (0, 0))
  b5 : wr.heap[w.heap.size + 1]? = some (.cells (cellsT T) 67 (0, 0))
  bl : Below w.heap.size w wr
/-- .. and the table that is made. -/
structure E7 (w wr : World) (T S : Nat → Bool) (g : Nat) : Prop where
  e5 : E5 w wr T
  b7 : wr.heap[g]? = some (.cells (cellsT S) 67 (0, 0))
  ne : w.heap.size + 2 ≤ g
theorem E7.cell {w wr : World} {T S : Nat → Bool} {g : Nat} (h : E7 w wr T S g) (i : Nat) (hi : i < 1089) : wr.cell? ⟨g, i, none⟩ = some (.bool (S i)) := (blk_cell h.b7 i).trans (cellsT_get S i hi)
theorem E7.cell5 {w wr : World} {T S : Nat → Bool} {g : Nat} (h : E7 w wr T S g) (i : Nat) (hi : i < 1089) : wr.cell? ⟨w.heap.size + 1, i, none⟩ = some (.bool (T i)) := (blk_cell h.e5.b5 i).trans (cellsT_get T i hi)
theorem E7.set {w wr : World} {T S : Nat → Bool} {g : Nat} (h : E7 w wr T S g) (i : Nat) (v : Bool) : E7 w (wr.setCell ⟨g, i, none⟩ (.bool v)) T (upd S i v) g := by
  have hn := h.ne
  refine ⟨⟨blk_far h.e5.b4 (by show w.heap.size ≠ g; omega) _, blk_far h.e5.b5 (by show w.heap.size + 1 ≠ g; omega) _, below_set h.e5.bl (by show w.heap.size ≤ g; omega)⟩, blk_put h.b7 i _ (cellsT_set S i v), h.ne⟩
theorem E7.drew {w wr : World} {T S : Nat → Bool} {g : Nat} (h : E7 w wr T S g) : E7 w wr.drew T S g := ⟨⟨h.e5.b4, h.e5.b5, below_drew1 h.e5.bl⟩, h.b7, h.ne⟩
theorem E5.load {w wr : World} {T : Nat → Bool} (h : E5 w wr T) : (Instr.loadAt 67 (.pointer (some ⟨w.heap.size + 1, 0, none⟩))).run Try.prog wr = .ok (.agg (cellsT T)) wr := by
  simp only [Instr.loadAt, Instr.sureAddr, Sem.run_bind, Sem.run_pure, Result.andThen]
  exact run_loadVar_row wr _ 67 67 (cellsT T) (0, 0) _ h.b5 Try.underlying67 rfl (by rw [size67, cellsT_size])
theorem E7.load {w wr : World} {T S : Nat → Bool} {g : Nat} (h : E7 w wr T S g) : (Instr.loadAt 67 (.pointer (some ⟨g, 0, none⟩))).run Try.prog wr = .ok (.agg (cellsT S)) wr := by
  simp only [Instr.loadAt, Instr.sureAddr, Sem.run_bind, Sem.run_pure, Result.andThen]
  exact run_loadVar_row wr _ 67 67 (cellsT S) (0, 0) _ h.b7 Try.underlying67 rfl (by rw [size67, cellsT_size])
theorem row_at {wr : World} {g k : Nat} {c : Array Value} (h : k ≠ g) : (wr.setRow g c).heap[k]? = wr.heap[k]? := by
  simp only [World.setRow]
  rw [Array.getElem?_modify, if_neg (fun e => h e.symm)]
theorem row_here {wr : World} {g : Nat} {c c0 : Array Value} (h : wr.heap[g]? = some (.cells c0 67 (0, 0))) : (wr.setRow g c).heap[g]? = some (.cells c 67 (0, 0)) := by
  simp only [World.setRow]
  rw [Array.getElem?_modify, if_pos rfl, h]
  rfl
theorem row_below {w wr : World} {g : Nat} {c : Array Value} (h : Below w.heap.size w wr) (hg : w.heap.size ≤ g) : Below w.heap.size w (wr.setRow g c) := by
  refine ⟨h.os, h.tape, h.output, ?_, fun k hk => ?_⟩
  · simp only [World.setRow, Array.size_modify]; exact h.size
  · rw [row_at (by omega)]; exact h.block k hk
theorem E5.store {w wr : World} {T : Nat → Bool} (h : E5 w wr T) (S : Nat → Bool) : (Instr.storeAt 67 (.pointer (some ⟨w.heap.size + 1, 0, none⟩)) (.agg (cellsT S))).run Try.prog wr = .ok () (wr.setRow (w.heap.size + 1) (cellsT S)) := by
  simp only [Instr.storeAt, Instr.sureAddr, Sem.run_bind, Sem.run_pure, Result.andThen]
  exact run_storeVar_row wr _ 67 67 (cellsT T) (cellsT S) h.b5 (by rw [size67, cellsT_size]) (by rw [cellsT_size, cellsT_size]) (cellsT_one S)
theorem E5.stored {w wr : World} {T : Nat → Bool} (h : E5 w wr T) (S : Nat → Bool) : E5 w (wr.setRow (w.heap.size + 1) (cellsT S)) S :=
  ⟨(row_at (by omega)).trans h.b4, row_here h.b5, row_below h.bl (by omega)⟩
theorem E5.store4 {w wr : World} {T : Nat → Bool} (h : E5 w wr T) : (Instr.storeAt 67 (.pointer (some ⟨w.heap.size, 0, none⟩)) (.agg (cellsT T))).run Try.prog wr = .ok () (wr.setRow w.heap.size (cellsT T)) := by
  simp only [Instr.storeAt, Instr.sureAddr, Sem.run_bind, Sem.run_pure, Result.andThen]
  exact run_storeVar_row wr _ 67 67 _ (cellsT T) h.b4 (by rw [size67, cellsT_size]) (by rw [cellsT_size]; simp) (cellsT_one T)
theorem E5.load4 {w wr : World} {T : Nat → Bool} (h : E5 w wr T) : (loadVar 67 ⟨w.heap.size, 0, none⟩).run Try.prog (wr.setRow w.heap.size (cellsT T)) = .ok (.agg (cellsT T)) (wr.setRow w.heap.size (cellsT T)) :=
  run_loadVar_row _ _ 67 67 (cellsT T) (0, 0) _ (row_here h.b4) Try.underlying67 rfl (by rw [size67, cellsT_size])
theorem E5.below4 {w wr : World} {T : Nat → Bool} (h : E5 w wr T) : Below w.heap.size w (wr.setRow w.heap.size (cellsT T)) := row_below h.bl (Nat.le_refl _)
theorem store_new (wr : World) (T : Nat → Bool) : (Instr.storeAt 67 (.pointer (some ⟨wr.heap.size, 0, none⟩)) (.agg (cellsT T))).run Try.prog (wr.alloc (.cells (Array.replicate 1089 (.bool false)) 67)) = .ok () (wr.alloc (.cells (cellsT T) 67)) :=
  run_storeAt_new wr 67 _ (cellsT T) (by rw [size67, cellsT_size]) (by rw [cellsT_size]; simp) (cellsT_one T)
section
variable {P : Program} {ops : Array Oper} {rest : List Oper} {o : Oper} {a : Act} {Q : Exit → Act → World → Prop} {W W1 : World}
theorem load_wp (t : TypeId) (p : Operand) (ho : o.op = .load t p) (hgd : o.guard = none) (ptr v : Value) (hp : a.eval p = ptr) (hld : (Instr.loadAt t ptr).run P W = .ok v W1) (h : wpList P ops Q rest (a.put o.dst v) W1) : wpList P ops Q (o :: rest) a W := by
  refine Kd.event_run hgd ?_ h
  unfold execOp
  rw [ho]
  simp only [Sem.run_bind, Sem.run_pure, hp, hld, Result.andThen]
theorem store_wp (t : TypeId) (p : Tmp) (x : Operand) (ho : o.op = .store t (.tmp p) x) (hgd : o.guard = none) (hN : o.dst = none) (ptr v : Value) (hp : a.eval (.tmp p) = ptr) (hx : a.eval x = v) (hst : (Instr.storeAt t ptr v).run P W = .ok () W1) (h : wpList P ops Q rest a W1) : wpList P ops Q (o :: rest) a W := by
  refine store_event hgd ho hN (w1 := W1) ?_ (fun w' e => by rw [e]; exact h)
  unfold execOp
  rw [ho]
  simp only [Sem.run_bind, Sem.run_pure, hp, hx, hst, Result.andThen]
end

set_option maxHeartbeats 8000000 in
set_option maxRecDepth 100000 in
theorem enough_calls (n q : Nat) (hn : n ≤ 32) (hq : q ≤ 12) (w : World) : Calls Try.prog 54 #[.int .i64 (n : Int), .int .i64 (q : Int)] w fun e w' => e = .returned (.agg (cellsT (tabQ n q))) ∧ Below w.heap.size w w' := by
  have h1 := zero67
  have h0 : E5 w ((w.alloc (Obj.cells (Array.replicate 1089 (Value.bool false)) 67)).alloc (Obj.cells ((((Array.replicate 1089 (Value.bool false)).setIfInBounds 0 (.bool true)).setIfInBounds 1 (.bool true)).setIfInBounds 33 (.bool true)) 67)) (tabQ n 0) := by
    refine ⟨blk_alloc (blk_new w _) _, ?_, below_alloc (below_alloc (Below.refl _ _) _) _⟩
    rw [cellsT_zero]
    have := blk_new (w.alloc (Obj.cells (Array.replicate 1089 (Value.bool false)) 67)) (Obj.cells (cellsT T0) 67)
    rw [show (w.alloc (Obj.cells (Array.replicate 1089 (Value.bool false)) 67)).heap.size = w.heap.size + 1 by simp] at this
    exact this
  have H0 := Aside0.mk h0
  clear h0
  go_enter Try.func54, Try.ntmps54
  go_wp2
  go_loopw [6] (fun i wr => ∃ c : Nat, c ≤ q ∧ i = .int .i64 c ∧ E5 w wr (tabQ n c)) (fun i _ => q - (intOf i).toNat)
  case atStart => exact ⟨0, by omega, rfl, H0.out⟩
  case round =>
    obtain ⟨c, hc, rfl, he⟩ := hrel
    by_cases hlt : c < q
    · have b1 := eq_true (show (c : Int) < (q : Int) by omega)
      have hld := he.load
      have hst := store_new wr (tabQ n c)
      have he7 : E7 w (wr.alloc (Obj.cells (cellsT (tabQ n c)) 67)) (tabQ n c) (Tab (tabQ n c) n 0 0) wr.heap.size := by
        rw [Tab_start]
        exact ⟨⟨blk_alloc he.b4 _, blk_alloc he.b5 _, below_step he.bl (below_alloc (Below.refl _ _) _)⟩, blk_new wr _, by have := blk_lt he.b5; omega⟩
      have HE := Aside0.mk he7
      clear he7
      have hTT : ∃ T, T = tabQ n c := ⟨_, rfl⟩
      obtain ⟨T, hTT⟩ := hTT
      rw [← hTT] at hld hst HE
      have HQ := Aside0.mk hTT.symm
      clear hTT
      clear he
      go_wp2_with (first | ((with_reducible refine gate_dst (N := 23) rfl ?_); refine load_wp 67 (.tmp 5) rfl rfl _ _ rfl hld ?_) | ((with_reducible refine gate_store (t := 67) (p := 7) (v := .tmp 23) rfl ?_); refine store_wp 67 7 (.tmp 23) rfl rfl rfl _ _ rfl rfl hst ?_))
      clear hld hst
      have hg : w.heap.size + 2 ≤ wr.heap.size := HE.out.ne
      generalize (wr.alloc (Obj.cells (cellsT T) 67)) = w7 at HE ⊢
      generalize wr.heap.size = g at HE hg ⊢
      go_loopw [8] (fun i wr => ∃ a : Nat, a ≤ n + 1 ∧ i = .int .i64 a ∧ E7 w wr T (Tab T n a 0) g) (fun i _ => n + 1 - (intOf i).toNat)
      case atStart => exact ⟨0, by omega, rfl, HE.out⟩
      case round =>
        clear HE
        obtain ⟨a, ha, rfl, he⟩ := hrel
        have HE := Aside0.mk he
        clear he
        by_cases hla : a ≤ n
        · have b2 := eq_true (show (a : Int) ≤ (n : Int) by omega)
          go_wp2
          go_loopw [9] (fun i wr => ∃ b : Nat, a + b ≤ n + 1 ∧ i = .int .i64 b ∧ E7 w wr T (Tab T n a b) g) (fun i _ => n + 1 - (intOf i).toNat)
          case atStart => exact ⟨0, by omega, rfl, HE.out⟩
          case round =>
            clear HE
            obtain ⟨b, hb, rfl, he⟩ := hrel
            by_cases hlb : a + b ≤ n
            · have b3 := eq_true (show (a : Int) + (b : Int) ≤ (n : Int) by omega)
              have he1 : E7 w wr T (upd (Tab T n a b) (a * 33 + b) (T (a * 33 + b))) g := by
                have e := upd_same (Tab T n a b) (a * 33 + b)
                rw [Tab_here T n a b (by omega)] at e
                rw [e]
                exact he
              have HE := Aside0.mk he1
              clear he he1
              go_wp2
              go_loopw [10] (fun i wr => ∃ x : Nat, ∃ v : Bool, x ≤ a + 1 ∧ i = .int .i64 x ∧ E7 w wr T (upd (Tab T n a b) (a * 33 + b) v) g ∧ stepV T a b = rx (fT T a b) b (a + 1 - x) x v) (fun i _ => a + 1 - (intOf i).toNat)
              case atStart => exact ⟨0, _, by omega, rfl, HE.out, rfl⟩
              case round =>
                clear HE
                obtain ⟨x, v, hx, rfl, he, hv⟩ := hrel
                have HE := Aside0.mk he
                have HV := Aside0.mk hv
                clear hv
                by_cases hlx : x ≤ a
                · have b4 := eq_true (show (x : Int) ≤ (a : Int) by omega)
                  have hcell := he.cell (a * 33 + b) (by omega)
                  rw [upd_at] at hcell
                  clear he
                  cases v
                  · go_wp2
                    go_loopw [11] (fun i wr => ∃ y : Nat, ∃ v : Bool, y ≤ b + 1 ∧ i = .int .i64 y ∧ E7 w wr T (upd (Tab T n a b) (a * 33 + b) v) g ∧ ry (fT T a b x) (b + 1) 0 false = ry (fT T a b x) (b + 1 - y) y v) (fun i _ => b + 1 - (intOf i).toNat)
                    case atStart => exact ⟨0, _, by omega, rfl, HE.out, rfl⟩
                    case round =>
                      clear HE hcell
                      obtain ⟨y, v, hy, rfl, he, hv2⟩ := hrel
                      have HE := Aside0.mk he
                      have HV2 := Aside0.mk hv2
                      clear hv2
                      have hcell := he.cell (a * 33 + b) (by omega)
                      rw [upd_at] at hcell
                      have hfz := blk_frozen he.b7 (a * 33 + b)
                      by_cases hly : y ≤ b
                      · have b5 := eq_true (show (y : Int) ≤ (b : Int) by omega)
                        have hc1 := he.cell5 (x * 33 + (y + a - x)) (by omega)
                        have hc2 := he.cell5 ((a - x) * 33 + (b - y + x)) (by omega)
                        have HF := Aside0.mk (show fT T a b x y = (T (x * 33 + (y + a - x)) && T ((a - x) * 33 + (b - y + x))) from rfl)
                        generalize T (x * 33 + (y + a - x)) = u1 at hc1 HF
                        generalize T ((a - x) * 33 + (b - y + x)) = u2 at hc2 HF
                        clear he
                        cases v
                        · cases u1
                          · go_wp2
                            go_big_region
                            go_wp2
                            go_roundw
                            case rel => exact ⟨y + 1, false, by omega, by go_num, by have := (HE.out.set (a * 33 + b) false).drew; rw [upd_upd] at this; exact this, by rw [HV2.out, show b + 1 - y = (b - y) + 1 by omega, show b + 1 - (y + 1) = b - y by omega, ry_no, HF.out]; rfl⟩
                            case measure => simp [intOf]; omega
                          · go_wp2
                            go_big_region
                            go_wp2
                            go_roundw
                            case rel => exact ⟨y + 1, u2, by omega, by go_num, by have := (HE.out.set (a * 33 + b) u2).drew; rw [upd_upd] at this; exact this, by rw [HV2.out, show b + 1 - y = (b - y) + 1 by omega, show b + 1 - (y + 1) = b - y by omega, ry_no, HF.out]; rfl⟩
                            case measure => simp [intOf]; omega
                        · go_wp2
                          go_roundw
                          case rel => exact ⟨x + 1, true, by omega, by go_num, HE.out, by rw [HV.out, show a + 1 - x = (a - x) + 1 by omega, show a + 1 - (x + 1) = a - x by omega, rx_no, HV2.out, ry_yes]⟩
                          case measure => simp [intOf]; omega
                      · have e : y = b + 1 := by omega
                        subst e
                        have b5 := eq_false (show ¬ (((b + 1 : Nat) : Int) ≤ (b : Int)) by omega)
                        clear he
                        go_wp2
                        go_roundw
                        case rel => exact ⟨x + 1, v, by omega, by go_num, HE.out, by rw [HV.out, show a + 1 - x = (a - x) + 1 by omega, show a + 1 - (x + 1) = a - x by omega, rx_no, HV2.out, Nat.sub_self]; rfl⟩
                        case measure => simp [intOf]; omega
                  · go_wp2
                    go_roundw
                    case rel => exact ⟨b + 1, by omega, by go_num, by have e := HV.out; rw [rx_yes] at e; rw [← Tab_cell T n a b (by omega) (by omega), e]; exact HE.out⟩
                    case measure => simp [intOf]; omega
                · have e : x = a + 1 := by omega
                  subst e
                  have b4 := eq_false (show ¬ (((a + 1 : Nat) : Int) ≤ (a : Int)) by omega)
                  clear he
                  go_wp2
                  go_roundw
                  case rel => exact ⟨b + 1, by omega, by go_num, by have e := HV.out; rw [Nat.sub_self] at e; rw [← Tab_cell T n a b (by omega) (by omega), e]; exact HE.out⟩
                  case measure => simp [intOf]; omega
            · have b3 := eq_false (show ¬ ((a : Int) + (b : Int) ≤ (n : Int)) by omega)
              have HE := Aside0.mk he
              clear he
              go_wp2
              go_roundw
              case rel => exact ⟨a + 1, by omega, by go_num, by rw [← Tab_row T n a b (by omega)]; exact HE.out⟩
              case measure => simp [intOf]; omega
        · have e : a = n + 1 := by omega
          subst e
          have b2 := eq_false (show ¬ (((n + 1 : Nat) : Int) ≤ (n : Int)) by omega)
          have hld := HE.out.load
          have hst := HE.out.e5.store (Tab T n (n + 1) 0)
          go_wp2_with (first | ((with_reducible refine gate_dst (N := 88) rfl ?_); refine load_wp 67 (.tmp 7) rfl rfl _ _ rfl hld ?_) | ((with_reducible refine gate_store (t := 67) (p := 5) (v := .tmp 88) rfl ?_); refine store_wp 67 5 (.tmp 88) rfl rfl rfl _ _ rfl rfl hst ?_))
          go_roundw
          case rel => exact ⟨c + 1, by omega, by go_num, by rw [tabQ, HQ.out]; exact HE.out.e5.stored (Tab T n (n + 1) 0)⟩
          case measure => simp [intOf]; omega
    · have e : c = q := by omega
      subst e
      have hld := he.load
      have hst := he.store4
      have hrl := he.load4
      have HE := Aside0.mk he
      clear he
      go_wp2_with (first | ((with_reducible refine gate_dst (N := 89) rfl ?_); refine load_wp 67 (.tmp 5) rfl rfl _ _ rfl hld ?_) | ((with_reducible refine gate_store (t := 67) (p := 4) (v := .tmp 89) rfl ?_); refine store_wp 67 4 (.tmp 89) rfl rfl rfl _ _ rfl rfl hst ?_))
      refine bodyPost_ret (v := .agg (cellsT (tabQ n c))) ?_ rfl ⟨rfl, HE.out.below4⟩
      have hrs : Try.f54.results = #[.cell 4 67] := rfl
      simp [results, hrs, asAddr, Result.andThen, hrl, Act.put]
end Go.Proofs.Ytfejfljgdeglgaa.K
