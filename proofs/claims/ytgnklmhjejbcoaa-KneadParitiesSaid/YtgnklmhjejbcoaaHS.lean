/- What slices.Sort and slices.Reverse do to a row of the call's own, and what bits.Mul returns: off the shelf. (The tables lays189, lays212, lays112 are written by the shelf's one command.) -/
import Derived.Shelf.Bits.Mul64
import Derived.Shelf.Slices.Reverse
import Derived.Shelf.Sort.Plain
import Derived.Lib.RowBridge
import Derived.Test.YtgnklmhjejbcoaaHU
namespace Go.Proofs.Ytgnklmhjejbcoaa.K
open Go.Shelf Go.RowKit Go.Sort Go.Lib Go.Proofs.YtgnklmhjejbcoaaW.PrintWords Go.Proofs.YtgnklmhjejbcoaaW.PrintLast Go.Proofs.YtgnklmhjejbcoaaW.PrintMore
set_option linter.unusedVariables false
set_option linter.unusedSimpArgs false
def lays189_ren : Go.Shelf.Ren := ⟨fun | 189 => 92 | 125 => 102 | 257 => 101 | 128 => 115 | 129 => 116 | 294 => 106 | 295 => 107 | 296 => 108 | 297 => 109 | 298 => 110 | 299 => 111 | 216 => 112 | 300 => 113 | 301 => 114 | 328 => 117 | 329 => 118 | 330 => 119 | 331 => 120 | 332 => 121 | 215 => 122 | 343 => 123 | n => n, fun | 28 => 22 | 3 => 3 | 46 => 80 | 0 => 0 | 51 => 87 | 53 => 90 | 4 => 4 | 183 => 95 | 182 => 94 | 131 => 98 | 5 => 5 | 9 => 9 | 218 => 102 | 222 => 106 | 228 => 108 | 229 => 109 | n => n, fun | n => n⟩
theorem lays189 : Go.Proofs.Lays.n189 Try.prog lays189_ren := {
  mixed := by kernel_rfl
  f125 := Try.func102.trans (congrArg some (by kernel_rfl))
  f128 := Try.func115.trans (congrArg some (by kernel_rfl))
  f129 := Try.func116.trans (congrArg some (by kernel_rfl))
  f189 := Try.func92.trans (congrArg some (by kernel_rfl))
  f215 := Try.func122.trans (congrArg some (by kernel_rfl))
  f216 := Try.func112.trans (congrArg some (by kernel_rfl))
  f257 := Try.func101.trans (congrArg some (by kernel_rfl))
  f294 := Try.func106.trans (congrArg some (by kernel_rfl))
  f295 := Try.func107.trans (congrArg some (by kernel_rfl))
  f296 := Try.func108.trans (congrArg some (by kernel_rfl))
  f297 := Try.func109.trans (congrArg some (by kernel_rfl))
  f298 := Try.func110.trans (congrArg some (by kernel_rfl))
  f299 := Try.func111.trans (congrArg some (by kernel_rfl))
  f300 := Try.func113.trans (congrArg some (by kernel_rfl))
  f301 := Try.func114.trans (congrArg some (by kernel_rfl))
  f328 := Try.func117.trans (congrArg some (by kernel_rfl))
  f329 := Try.func118.trans (congrArg some (by kernel_rfl))
  f330 := Try.func119.trans (congrArg some (by kernel_rfl))
  f331 := Try.func120.trans (congrArg some (by kernel_rfl))
  f332 := Try.func121.trans (congrArg some (by kernel_rfl))
  f343 := Try.func123.trans (congrArg some (by kernel_rfl))
  t0 := Try.underlying0
  a0 := Try.isAgg0
  z0 := Try.sizeOf0
  v0 := Try.zeroValue0
  t3 := Try.underlying3
  a3 := Try.isAgg3
  z3 := Try.sizeOf3
  v3 := Try.zeroValue3
  t4 := Try.underlying4
  a4 := Try.isAgg4
  z4 := Try.sizeOf4
  v4 := Try.zeroValue4
  t5 := Try.underlying5
  a5 := Try.isAgg5
  z5 := Try.sizeOf5
  v5 := Try.zeroValue5
  t9 := Try.underlying9
  a9 := Try.isAgg9
  z9 := Try.sizeOf9
  v9 := Try.zeroValue9
  t28 := Try.underlying22
  a28 := Try.isAgg22
  z28 := Try.sizeOf22
  v28 := Try.zeroValue22
  t46 := Try.underlying80
  a46 := Try.isAgg80
  z46 := Try.sizeOf80
  v46 := Try.zeroValue80
  t51 := Try.underlying87
  a51 := Try.isAgg87
  z51 := Try.sizeOf87
  v51 := Try.zeroValue87
  t53 := Try.underlying90
  a53 := Try.isAgg90
  z53 := Try.sizeOf90
  v53 := Try.zeroValue90
  t131 := Try.underlying98
  a131 := Try.isAgg98
  z131 := Try.sizeOf98
  v131 := Try.zeroValue98
  t182 := Try.underlying94
  a182 := Try.isAgg94
  z182 := Try.sizeOf94
  v182 := Try.zeroValue94
  t183 := Try.underlying95
  a183 := Try.isAgg95
  z183 := Try.sizeOf95
  v183 := Try.zeroValue95
  t218 := Try.underlying102
  a218 := Try.isAgg102
  z218 := Try.sizeOf102
  v218 := Try.zeroValue102
  t222 := Try.underlying106
  a222 := Try.isAgg106
  z222 := Try.sizeOf106
  v222 := Try.zeroValue106
  t228 := Try.underlying108
  a228 := Try.isAgg108
  z228 := Try.sizeOf108
  v228 := Try.zeroValue108
  t229 := Try.underlying109
  a229 := Try.isAgg109
  z229 := Try.sizeOf109
  v229 := Try.zeroValue109 }
def lays212_ren : Go.Shelf.Ren := ⟨fun | 212 => 100 | 263 => 104 | 264 => 105 | n => n, fun | 46 => 80 | 51 => 87 | 146 => 88 | 53 => 90 | 148 => 91 | n => n, fun | n => n⟩
theorem lays212 : Go.Proofs.Lays.n212 Try.prog lays212_ren := {
  mixed := by kernel_rfl
  f212 := Try.func100.trans (congrArg some (by kernel_rfl))
  f263 := Try.func104.trans (congrArg some (by kernel_rfl))
  f264 := Try.func105.trans (congrArg some (by kernel_rfl))
  t46 := Try.underlying80
  a46 := Try.isAgg80
  z46 := Try.sizeOf80
  v46 := Try.zeroValue80
  t51 := Try.underlying87
  a51 := Try.isAgg87
  z51 := Try.sizeOf87
  v51 := Try.zeroValue87
  t53 := Try.underlying90
  a53 := Try.isAgg90
  z53 := Try.sizeOf90
  v53 := Try.zeroValue90
  t146 := Try.underlying88
  a146 := Try.isAgg88
  z146 := Try.sizeOf88
  v146 := Try.zeroValue88
  t148 := Try.underlying91
  a148 := Try.isAgg91
  z148 := Try.sizeOf91
  v148 := Try.zeroValue91 }
def lays112_ren : Go.Shelf.Ren := ⟨fun | 112 => 63 | n => n, fun | 28 => 22 | 3 => 3 | 4 => 4 | 0 => 0 | n => n, fun | n => n⟩
theorem lays112 : Go.Proofs.Lays.n112 Try.prog lays112_ren := {
  mixed := by kernel_rfl
  f112 := Try.func63.trans (congrArg some (by kernel_rfl))
  t0 := Try.underlying0
  a0 := Try.isAgg0
  z0 := Try.sizeOf0
  v0 := Try.zeroValue0
  t3 := Try.underlying3
  a3 := Try.isAgg3
  z3 := Try.sizeOf3
  v3 := Try.zeroValue3
  t4 := Try.underlying4
  a4 := Try.isAgg4
  z4 := Try.sizeOf4
  v4 := Try.zeroValue4
  t28 := Try.underlying22
  a28 := Try.isAgg22
  z28 := Try.sizeOf22
  v28 := Try.zeroValue22 }
theorem bits_Mul (x y : Nat) (hx : x < 18446744073709551616) (hy : y < 18446744073709551616) (w : World) :
    Calls Try.prog 100 #[.int .u64 x, .int .u64 y] w fun e w' => e = .returned (.tuple #[.int .u64 ((x * y / 18446744073709551616 : Nat) : Int), .int .u64 ((x * y % 18446744073709551616 : Nat) : Int)]) ∧ w' = w := Any.bits_Mul lays212 x y hx hy w

/-- A row of the call's own whose first cells are written over. -/
theorem R_setCells {base g n cap : Nat} {ok : Nat → Prop} : ∀ (ys pre post : List Int) (w : World) (hl : post.length = ys.length), Kd.R (Kd.int .i64) 3 w base ok (.slice (some ⟨g, 0, none⟩) n cap) (pre ++ post) →
    Kd.R (Kd.int .i64) 3 (w.setCells g pre.length (ys.map (.int .i64))) base ok (.slice (some ⟨g, 0, none⟩) n cap) (pre ++ ys) ∧ w.grownBy (w.setCells g pre.length (ys.map (.int .i64))) (some g)
  | [], pre, post, w, hl, h => by
    have : post = [] := List.eq_nil_of_length_eq_zero hl
    subst this
    exact ⟨h, ⟨rfl, rfl, rfl, Nat.le_refl _, fun _ _ _ => rfl⟩⟩
  | y :: ys, pre, [], w, hl, h => by simp at hl
  | y :: ys, pre, p :: post, w, hl, h => by
    obtain ⟨hn, _, _⟩ := Kd.R_reads' h
    have hp : Kd.R (Kd.int .i64) 3 (w.setCell ⟨g, pre.length, none⟩ (.int .i64 y)) base ok (.slice (some ⟨g, 0, none⟩) n cap) ((pre ++ p :: post).set pre.length y) ∧ w.grownBy (w.setCell ⟨g, pre.length, none⟩ (.int .i64 y)) (some g) := by
      subst hn
      have hp := Kd.R_put h (pre.length : Int) y
      rw [Int.toNat_natCast] at hp
      exact hp
    obtain ⟨h1, h2⟩ := hp
    have he : (pre ++ p :: post).set pre.length y = (pre ++ [y]) ++ post := by simp
    rw [he] at h1
    have ih := R_setCells ys (pre ++ [y]) post (w.setCell ⟨g, pre.length, none⟩ (.int .i64 y)) (by simpa using hl) h1
    simp only [List.length_append, List.length_singleton, List.append_assoc, List.singleton_append] at ih
    refine ⟨ih.1, ?_⟩
    have h3 := ih.2
    exact ⟨h3.os.trans h2.os, h3.tape.trans h2.tape, h3.output.trans h2.output, Nat.le_trans h2.size h3.size, fun k hk hne => (h3.block k (Nat.lt_of_lt_of_le hk h2.size) hne).trans (h2.block k hk hne)⟩

theorem R_holds {base g n cap : Nat} {ok : Nat → Prop} {xs : List Int} {w : World} (h : Kd.R (Kd.int .i64) 3 w base ok (.slice (some ⟨g, 0, none⟩) n cap) xs) : Holds (Value.int .i64) w g 0 xs.toArray := by
  intro j hj
  obtain ⟨hn, _, _⟩ := Kd.R_reads' h
  subst hn
  have hj' : j < xs.length := by simpa using hj
  have := Kd.R_cell (d := (0 : Int)) h (j : Int) (by omega) (by omega)
  rw [Int.toNat_natCast] at this
  refine ⟨?_, by simpa using this.2⟩
  have h1 := this.1
  rw [Nat.zero_add, h1]
  have e1 : rdOf (0 : Int) xs (j : Int) = xs[j] := by simp [rdOf, hj']
  rw [e1]
  simp [hj']

theorem R_block0 {base : Nat} {ok : Nat → Prop} {A : Option Addr} {n cap : Nat} {xs : List Int} {w : World} (h : Kd.R (Kd.int .i64) 3 w base ok (.slice A n cap) xs) : A = none ∨ ∃ g, A = some ⟨g, 0, none⟩ := by
  obtain ⟨_, inner, ho, _⟩ := h
  rcases ho.2 with ⟨hv, _⟩ | ⟨g, cap', cur, hv, _⟩
  · injection hv with ha _ _
    exact .inl ha
  · injection hv with ha _ _
    exact .inr ⟨g, ha⟩

theorem R_block1 {base : Nat} {ok : Nat → Prop} {A : Option Addr} {n cap : Nat} {xs : List Int} {w : World} (h : Kd.R (Kd.int .i64) 3 w base ok (.slice A n cap) xs) (hn : 0 < n) : ∃ g, A = some ⟨g, 0, none⟩ := by
  obtain ⟨_, inner, ho, _⟩ := h
  rcases ho.2 with ⟨hv, _⟩ | ⟨g, cap', cur, hv, _⟩
  · injection hv with _ ha _
    omega
  · injection hv with ha _ _
    exact ⟨g, ha⟩

theorem grown_refl (w : World) (row : Option Nat) : w.grownBy w row := ⟨rfl, rfl, rfl, Nat.le_refl _, fun _ _ _ => rfl⟩

theorem reverse_R {base cap : Nat} {ok : Nat → Prop} {A : Option Addr} {xs : List Int} {w : World} (h : Kd.R (Kd.int .i64) 3 w base ok (.slice A xs.length cap) xs) (hsz : xs.length ≤ 9223372036854775807) :
    Calls Try.prog 63 #[.slice A xs.length cap] w fun e w' => e = .returned (.tuple #[]) ∧ Kd.R (Kd.int .i64) 3 w' base ok (.slice A xs.length cap) xs.reverse ∧ w.grownBy w' (Value.slice A xs.length cap).ownBlock := by
  rcases R_block0 h with rfl | ⟨g, rfl⟩
  · have hx : xs = [] := by
      obtain ⟨_, inner, ho, hr⟩ := h
      rcases ho.2 with ⟨hv, h2⟩ | ⟨g, cap', cur, hv, _⟩
      · injection hv with _ ha _
        exact List.eq_nil_of_length_eq_zero ha
      · injection hv with ha _ _
        cases ha
    subst hx
    refine (Any.slices_Reverse_int_empty lays112 none cap w).mono ?_
    rintro e w' ⟨rfl, rfl⟩
    exact ⟨rfl, h, grown_refl _ _⟩
  · refine (Any.slices_Reverse_int lays112 g 0 cap xs w (R_holds h) hsz).mono ?_
    rintro e w' ⟨rfl, q, rfl⟩
    rw [Lib.putRow_eq_setCells _ w g 0 xs.toArray xs.reverse q (R_holds h) (by simp)]
    obtain ⟨h1, h2⟩ := R_setCells xs.reverse [] xs (w.drewN q) (by simp) (Kd.R_drewN h q)
    exact ⟨rfl, h1, h2.os, h2.tape, h2.output, h2.size, h2.block⟩

def sortL (xs : List Int) : List Int := xs.mergeSort fun x y => decide (x ≤ y)
theorem sortL_length (xs : List Int) : (sortL xs).length = xs.length := List.length_mergeSort _

theorem sort_R {base cap : Nat} {ok : Nat → Prop} {A : Option Addr} {xs : List Int} {w : World} (h : Kd.R (Kd.int .i64) 3 w base ok (.slice A xs.length cap) xs) (hsz : xs.length < 4611686018427387904) (h0 : 0 < xs.length) :
    Calls Try.prog 92 #[.slice A xs.length cap] w fun e w' => e = .returned (.tuple #[]) ∧ Kd.R (Kd.int .i64) 3 w' base ok (.slice A xs.length cap) (sortL xs) ∧ w.grownBy w' (Value.slice A xs.length cap).ownBlock := by
  rcases R_block0 h with rfl | ⟨g, rfl⟩
  · exfalso
    obtain ⟨_, inner, ho, hr⟩ := h
    rcases ho.2 with ⟨hv, h2⟩ | ⟨g, cap', cur, hv, _⟩
    · injection hv with _ ha _
      omega
    · injection hv with ha _ _
      cases ha
  · have hg : g < w.heap.size := Kd.R_lt h g rfl
    refine (Any.slices_Sort_int lays189 g 0 cap xs w (R_holds h) hg hsz).mono ?_
    rintro e w' ⟨rfl, q, os, rfl⟩
    have hp := Lib.putRow_eq_setCells (Value.int .i64) w g 0 xs.toArray (sortL xs) q (R_holds h) (by simp [sortL_length])
    unfold sortL at hp
    rw [hp]
    obtain ⟨h1, h2⟩ := R_setCells (sortL xs) [] xs (w.drewN q) (sortL_length xs).symm (Kd.R_drewN h q)
    unfold sortL at h1 h2
    have hgr : (((w.drewN q).setCells g 0 ((xs.mergeSort fun x y => decide (x ≤ y)).map (.int .i64)))).grownBy (grow ((w.drewN q).setCells g 0 ((xs.mergeSort fun x y => decide (x ≤ y)).map (.int .i64))) os) none := ⟨rfl, rfl, rfl, by simp [grow], fun k hk _ => by simp [grow, Array.getElem?_append, hk]⟩
    refine ⟨rfl, Kd.R_grown h1 hgr (fun _ _ e => by cases e), ?_⟩
    exact ⟨h2.os, h2.tape, h2.output, Nat.le_trans h2.size hgr.size, fun k hk hne => (hgr.block k (Nat.lt_of_lt_of_le hk h2.size) (by simp)).trans (h2.block k hk hne)⟩
end Go.Proofs.Ytgnklmhjejbcoaa.K
