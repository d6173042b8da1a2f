/- What slices.Sort does to a row of the call's own: off the shelf. (The table lays189 is written by the shelf's one command.) -/
import Derived.Shelf.Sort.Plain
import Derived.Shelf.Slices.In.SortNone
import Derived.Lib.RowBridge
import Derived.Test.YtfejfljgdeglgaaHV
namespace Go.Proofs.Ytfejfljgdeglgaa.K
open Go.Shelf Go.RowKit Go.Sort Go.Lib Go.Proofs.YtfejfljgdeglgaaW.PrintWords Go.Proofs.YtfejfljgdeglgaaW.PrintLast Go.Proofs.YtfejfljgdeglgaaW.PrintMore
set_option linter.unusedVariables false
set_option linter.unusedSimpArgs false
def lays189_ren : Go.Shelf.Ren := ⟨fun | 189 => 92 | 125 => 98 | 257 => 97 | 128 => 109 | 129 => 110 | 294 => 100 | 295 => 101 | 296 => 102 | 297 => 103 | 298 => 104 | 299 => 105 | 216 => 106 | 300 => 107 | 301 => 108 | 328 => 111 | 329 => 112 | 330 => 113 | 331 => 114 | 332 => 115 | 215 => 116 | 343 => 117 | n => n, fun | 28 => 47 | 3 => 3 | 46 => 108 | 0 => 0 | 51 => 121 | 53 => 123 | 4 => 4 | 183 => 113 | 182 => 112 | 131 => 118 | 5 => 5 | 9 => 9 | 218 => 124 | 222 => 128 | 228 => 131 | 229 => 76 | n => n, fun | n => n⟩
theorem lays189 : Go.Proofs.Lays.n189 Try.prog lays189_ren := {
  mixed := by kernel_rfl
  f125 := Try.func98.trans (congrArg some (by kernel_rfl))
  f128 := Try.func109.trans (congrArg some (by kernel_rfl))
  f129 := Try.func110.trans (congrArg some (by kernel_rfl))
  f189 := Try.func92.trans (congrArg some (by kernel_rfl))
  f215 := Try.func116.trans (congrArg some (by kernel_rfl))
  f216 := Try.func106.trans (congrArg some (by kernel_rfl))
  f257 := Try.func97.trans (congrArg some (by kernel_rfl))
  f294 := Try.func100.trans (congrArg some (by kernel_rfl))
  f295 := Try.func101.trans (congrArg some (by kernel_rfl))
  f296 := Try.func102.trans (congrArg some (by kernel_rfl))
  f297 := Try.func103.trans (congrArg some (by kernel_rfl))
  f298 := Try.func104.trans (congrArg some (by kernel_rfl))
  f299 := Try.func105.trans (congrArg some (by kernel_rfl))
  f300 := Try.func107.trans (congrArg some (by kernel_rfl))
  f301 := Try.func108.trans (congrArg some (by kernel_rfl))
  f328 := Try.func111.trans (congrArg some (by kernel_rfl))
  f329 := Try.func112.trans (congrArg some (by kernel_rfl))
  f330 := Try.func113.trans (congrArg some (by kernel_rfl))
  f331 := Try.func114.trans (congrArg some (by kernel_rfl))
  f332 := Try.func115.trans (congrArg some (by kernel_rfl))
  f343 := Try.func117.trans (congrArg some (by kernel_rfl))
  t0 := Try.underlying0
  a0 := Try.isAgg0
  z0 := Try.sizeOf0
  v0 := Try.zeroValue0
  t3 := Try.underlying3
  a3 := Try.isAgg3
  z3 := Try.sizeOf3
  v3 := Try.zeroValue3
  t4 := Try.underlying4
  a4 := Try.isAgg4
  z4 := Try.sizeOf4
  v4 := Try.zeroValue4
  t5 := Try.underlying5
  a5 := Try.isAgg5
  z5 := Try.sizeOf5
  v5 := Try.zeroValue5
  t9 := Try.underlying9
  a9 := Try.isAgg9
  z9 := Try.sizeOf9
  v9 := Try.zeroValue9
  t28 := Try.underlying47
  a28 := Try.isAgg47
  z28 := Try.sizeOf47
  v28 := Try.zeroValue47
  t46 := Try.underlying108
  a46 := Try.isAgg108
  z46 := Try.sizeOf108
  v46 := Try.zeroValue108
  t51 := Try.underlying121
  a51 := Try.isAgg121
  z51 := Try.sizeOf121
  v51 := Try.zeroValue121
  t53 := Try.underlying123
  a53 := Try.isAgg123
  z53 := Try.sizeOf123
  v53 := Try.zeroValue123
  t131 := Try.underlying118
  a131 := Try.isAgg118
  z131 := Try.sizeOf118
  v131 := Try.zeroValue118
  t182 := Try.underlying112
  a182 := Try.isAgg112
  z182 := Try.sizeOf112
  v182 := Try.zeroValue112
  t183 := Try.underlying113
  a183 := Try.isAgg113
  z183 := Try.sizeOf113
  v183 := Try.zeroValue113
  t218 := Try.underlying124
  a218 := Try.isAgg124
  z218 := Try.sizeOf124
  v218 := Try.zeroValue124
  t222 := Try.underlying128
  a222 := Try.isAgg128
  z222 := Try.sizeOf128
  v222 := Try.zeroValue128
  t228 := Try.underlying131
  a228 := Try.isAgg131
  z228 := Try.sizeOf131
  v228 := Try.zeroValue131
  t229 := Try.underlying76
  a229 := Try.isAgg76
  z229 := Try.sizeOf76
  v229 := Try.zeroValue76 }
open Go.Sort Go.RowKit in
theorem R_setCells {base g n cap : Nat} {ok : Nat → Prop} : ∀ (ys pre post : List Int) (w : World) (hl : post.length = ys.length), Kd.R (Kd.int .i64) 3 w base ok (.slice (some ⟨g, 0, none⟩) n cap) (pre ++ post) →
    Kd.R (Kd.int .i64) 3 (w.setCells g pre.length (ys.map (.int .i64))) base ok (.slice (some ⟨g, 0, none⟩) n cap) (pre ++ ys) ∧ w.grownBy (w.setCells g pre.length (ys.map (.int .i64))) (some g)
  | [], pre, post, w, hl, h => by
    have : post = [] := List.eq_nil_of_length_eq_zero hl
    subst this
    exact ⟨h, ⟨rfl, rfl, rfl, Nat.le_refl _, fun _ _ _ => rfl⟩⟩
  | y :: ys, pre, [], w, hl, h => by simp at hl
  | y :: ys, pre, p :: post, w, hl, h => by
    obtain ⟨hn, _, _⟩ := Kd.R_reads' h
    have hp : Kd.R (Kd.int .i64) 3 (w.setCell ⟨g, pre.length, none⟩ (.int .i64 y)) base ok (.slice (some ⟨g, 0, none⟩) n cap) ((pre ++ p :: post).set pre.length y) ∧ w.grownBy (w.setCell ⟨g, pre.length, none⟩ (.int .i64 y)) (some g) := by
      subst hn
      have hp := Kd.R_put h (pre.length : Int) y
      rw [Int.toNat_natCast] at hp
      exact hp
    obtain ⟨h1, h2⟩ := hp
    have he : (pre ++ p :: post).set pre.length y = (pre ++ [y]) ++ post := by simp
    rw [he] at h1
    have ih := R_setCells ys (pre ++ [y]) post (w.setCell ⟨g, pre.length, none⟩ (.int .i64 y)) (by simpa using hl) h1
    simp only [List.length_append, List.length_singleton, List.append_assoc, List.singleton_append] at ih
    refine ⟨ih.1, ?_⟩
    have h3 := ih.2
    exact ⟨h3.os.trans h2.os, h3.tape.trans h2.tape, h3.output.trans h2.output, Nat.le_trans h2.size h3.size, fun k hk hne => (h3.block k (Nat.lt_of_lt_of_le hk h2.size) hne).trans (h2.block k hk hne)⟩
theorem R_holds {base g n cap : Nat} {ok : Nat → Prop} {xs : List Int} {w : World} (h : Kd.R (Kd.int .i64) 3 w base ok (.slice (some ⟨g, 0, none⟩) n cap) xs) : Holds (Value.int .i64) w g 0 xs.toArray := by
  intro j hj
  obtain ⟨hn, _, _⟩ := Kd.R_reads' h
  subst hn
  have hj' : j < xs.length := by simpa using hj
  have := Kd.R_cell (d := (0 : Int)) h (j : Int) (by omega) (by omega)
  rw [Int.toNat_natCast] at this
  refine ⟨?_, by simpa using this.2⟩
  have h1 := this.1
  rw [Nat.zero_add, h1]
  have e1 : rdOf (0 : Int) xs (j : Int) = xs[j] := by simp [rdOf, hj']
  rw [e1]
  simp [hj']
theorem R_block0 {base : Nat} {ok : Nat → Prop} {A : Option Addr} {n cap : Nat} {xs : List Int} {w : World} (h : Kd.R (Kd.int .i64) 3 w base ok (.slice A n cap) xs) : A = none ∨ ∃ g, A = some ⟨g, 0, none⟩ := by
  obtain ⟨_, inner, ho, _⟩ := h
  rcases ho.2 with ⟨hv, _⟩ | ⟨g, cap', cur, hv, _⟩
  · injection hv with ha _ _
    exact .inl ha
  · injection hv with ha _ _
    exact .inr ⟨g, ha⟩
theorem grown_refl (w : World) (row : Option Nat) : w.grownBy w row := ⟨rfl, rfl, rfl, Nat.le_refl _, fun _ _ _ => rfl⟩
def sortL (xs : List Int) : List Int := xs.mergeSort fun x y => decide (x ≤ y)
theorem sortL_length (xs : List Int) : (sortL xs).length = xs.length := List.length_mergeSort _
theorem sort_R {base cap : Nat} {ok : Nat → Prop} {A : Option Addr} {xs : List Int} {w : World} (h : Kd.R (Kd.int .i64) 3 w base ok (.slice A xs.length cap) xs) (hsz : xs.length < 4611686018427387904) :
    Calls Try.prog 92 #[.slice A xs.length cap] w fun e w' => e = .returned (.tuple #[]) ∧ Kd.R (Kd.int .i64) 3 w' base ok (.slice A xs.length cap) (sortL xs) ∧ w.grownBy w' (Value.slice A xs.length cap).ownBlock := by
  rcases Nat.eq_zero_or_pos xs.length with h0 | h0
  · obtain rfl : xs = [] := List.eq_nil_of_length_eq_zero h0
    refine (Any.slices_Sort_int_none lays189 A cap w).mono ?_
    rintro e w' ⟨rfl, rfl⟩
    exact ⟨rfl, by rw [show sortL [] = [] by simp [sortL]]; exact h, grown_refl _ _⟩
  rcases R_block0 h with rfl | ⟨g, rfl⟩
  · exfalso
    obtain ⟨_, inner, ho, hr⟩ := h
    rcases ho.2 with ⟨hv, h2⟩ | ⟨g, cap', cur, hv, _⟩
    · injection hv with _ ha _
      omega
    · injection hv with ha _ _
      cases ha
  · have hg : g < w.heap.size := Kd.R_lt h g rfl
    refine (Any.slices_Sort_int lays189 g 0 cap xs w (R_holds h) hg hsz).mono ?_
    rintro e w' ⟨rfl, q, os, rfl⟩
    have hp := Lib.putRow_eq_setCells (Value.int .i64) w g 0 xs.toArray (sortL xs) q (R_holds h) (by simp [sortL_length])
    unfold sortL at hp
    rw [hp]
    obtain ⟨h1, h2⟩ := R_setCells (sortL xs) [] xs (w.drewN q) (sortL_length xs).symm (Kd.R_drewN h q)
    unfold sortL at h1 h2
    have hgr : (((w.drewN q).setCells g 0 ((xs.mergeSort fun x y => decide (x ≤ y)).map (.int .i64)))).grownBy (grow ((w.drewN q).setCells g 0 ((xs.mergeSort fun x y => decide (x ≤ y)).map (.int .i64))) os) none := ⟨rfl, rfl, rfl, by simp [grow], fun k hk _ => by simp [grow, Array.getElem?_append, hk]⟩
    refine ⟨rfl, Kd.R_grown h1 hgr (fun _ _ e => by cases e), ?_⟩
    exact ⟨h2.os, h2.tape, h2.output, Nat.le_trans h2.size hgr.size, fun k hk hne => (hgr.block k (Nat.lt_of_lt_of_le hk h2.size) (by simp)).trans (h2.block k hk hne)⟩
end Go.Proofs.Ytfejfljgdeglgaa.K
