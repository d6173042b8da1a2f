/- What judge's solver answers: a question after whose answers all goes on, if so many questions are enough. -/
import Derived.Test.YtfejfljgdeglgaaHK
import Derived.Test.YtfejfljgdeglgaaK1
namespace Go.Proofs.Ytfejfljgdeglgaa.K
open Go.RowKit Go.Maps Go.Proofs.YtfejfljgdeglgaaW.PrintWords Go.Proofs.YtfejfljgdeglgaaW.PrintLast Go.Proofs.YtfejfljgdeglgaaW.PrintMore
set_option linter.unusedVariables false
set_option linter.unusedSimpArgs false

/-- The first y of m from y on at which a test holds. -/
def firstY (t : Nat → Bool) : Nat → Nat → Option Nat
  | 0, _ => none
  | m + 1, y => if t y = true then some y else firstY t m (y + 1)
/-- The first x of m from x on, and its first y of 0, .., b. -/
def firstX (t : Nat → Nat → Bool) (b : Nat) : Nat → Nat → Option (Nat × Nat)
  | 0, _ => none
  | m + 1, x => match firstY (t x) (b + 1) 0 with
    | some y => some (x, y)
    | none => firstX t b m (x + 1)
/-- What solve answers for the state (a, b) and q questions, whatever its memory holds. -/
def solveP : Nat → Nat → Nat → Nat × Nat × Bool
  | 0, a, b => (0, 0, decide (a + b ≤ 1))
  | q + 1, a, b => if a + b ≤ 1 then (0, 0, true) else if 2 ^ (q + 1) < a * (q + 2) + b then (0, 0, false) else
    match firstX (fun x y => (solveP q x (y + a - x)).2.2 && (solveP q (a - x) (b - y + x)).2.2) b (a + 1) 0 with
    | some (x, y) => (x, y, true)
    | none => (0, 0, false)
/-- The memory holds no wrong answer. -/
def Knows (f : Lit → Option Value) : Prop := ∀ (a b q : Nat) (v : Value), a ≤ 64 → b ≤ 64 → q ≤ 64 → f (.string (keyBytes [.int .i64 a, .int .i64 b, .int .i64 q])) = some v →
  v = .agg #[.int .i64 ((solveP q a b).1 : Int), .int .i64 ((solveP q a b).2.1 : Int), .bool (solveP q a b).2.2]

/-- All keys that are ever laid. -/
def allKeys : List Lit := (List.range 65).flatMap fun a => (List.range 65).flatMap fun b => (List.range 65).map fun q => .string (keyBytes [.int .i64 (a : Nat), .int .i64 (b : Nat), .int .i64 (q : Nat)])
/-- The solver's memory: the variable 'known' in the cell B1, the variable 'solve' in the cell B2. -/
structure Mem (W : World) (B1 B2 M : Nat) (f : Lit → Option Value) : Prop where
  c1 : W.cell? ⟨B1, 0, none⟩ = some (.map (some M))
  c2 : W.cell? ⟨B2, 0, none⟩ = some (.func (.func 87) #[] #[.pointer (some ⟨B1, 0, none⟩), .pointer (some ⟨B2, 0, none⟩)])
  n1 : B1 ≠ M
  n2 : B2 ≠ M
  m : MapV Try.prog 99 W M allKeys.length f
  knows : Knows f
  sup : ∀ kl, f kl ≠ none → kl ∈ allKeys
theorem cell_grown {W W' : World} {row : Option Nat} {B : Nat} {v : Value} (h : W.cell? ⟨B, 0, none⟩ = some v) (hg : W.grownBy W' row) (hne : some B ≠ row) : W'.cell? ⟨B, 0, none⟩ = some v :=
  (World.cell?_of_block (hg.block B (World.block_lt_of_cell? W _ h) hne)).trans h
theorem Mem.grown {W W' : World} {B1 B2 M : Nat} {f : Lit → Option Value} (h : Mem W B1 B2 M f) (hg : W.grownBy W' none) : Mem W' B1 B2 M f :=
  ⟨cell_grown h.c1 hg (by simp), cell_grown h.c2 hg (by simp), h.n1, h.n2, h.m.kept hg (by simp), h.knows, h.sup⟩
theorem grown_of_below {W W' : World} (h : Below W.heap.size W W') : W.grownBy W' none := ⟨h.os, h.tape, h.output, h.size, fun k hk _ => h.block k hk⟩
theorem grown_none {W W' : World} {row : Option Nat} (h : W.grownBy W' none) : W.grownBy W' row := ⟨h.os, h.tape, h.output, h.size, fun k hk _ => h.block k hk (by simp)⟩
def SolveAt (q : Nat) : Prop := ∀ (a b B1 B2 M : Nat) (f : Lit → Option Value) (W : World), a + b ≤ 64 → Mem W B1 B2 M f →
  Calls Try.prog 87 #[.agg #[.int .i64 (a : Int), .int .i64 (b : Int)], .int .i64 (q : Int), .pointer (some ⟨B1, 0, none⟩), .pointer (some ⟨B2, 0, none⟩)] W fun e W' =>
    e = .returned (.tuple #[.int .i64 ((solveP q a b).1 : Int), .int .i64 ((solveP q a b).2.1 : Int), .bool (solveP q a b).2.2]) ∧ (∃ f', Mem W' B1 B2 M f') ∧ W.grownBy W' (some M)

set_option maxHeartbeats 4000000 in
set_option maxRecDepth 100000 in
theorem solve_small (q a b B1 B2 M : Nat) (f : Lit → Option Value) (W : World) (hab : a + b ≤ 1) (hm : Mem W B1 B2 M f) :
  Calls Try.prog 87 #[.agg #[.int .i64 (a : Int), .int .i64 (b : Int)], .int .i64 (q : Int), .pointer (some ⟨B1, 0, none⟩), .pointer (some ⟨B2, 0, none⟩)] W fun e W' =>
    e = .returned (.tuple #[.int .i64 0, .int .i64 0, .bool true]) ∧ (∃ f', Mem W' B1 B2 M f') ∧ W.grownBy W' (some M) := by
  have HM := Aside0.mk hm
  have h1 : (a : Int) + (b : Int) ≤ 1 := by omega
  clear hm
  go_enter Try.func87, Try.ntmps87
  go_wp2
  go_ret3
  exact ⟨rfl, ⟨f, HM.out.grown (World.grownBy_alloc W _ none)⟩, ⟨rfl, rfl, rfl, by simp, fun k hk _ => (World.grownBy_alloc W _ none).block k hk (by simp)⟩⟩

set_option maxHeartbeats 4000000 in
set_option maxRecDepth 100000 in
theorem solve_none (a b B1 B2 M : Nat) (f : Lit → Option Value) (W : World) (hab : 1 < a + b) (hs : a + b ≤ 64) (hm : Mem W B1 B2 M f) :
  Calls Try.prog 87 #[.agg #[.int .i64 (a : Int), .int .i64 (b : Int)], .int .i64 0, .pointer (some ⟨B1, 0, none⟩), .pointer (some ⟨B2, 0, none⟩)] W fun e W' =>
    e = .returned (.tuple #[.int .i64 0, .int .i64 0, .bool false]) ∧ (∃ f', Mem W' B1 B2 M f') ∧ W.grownBy W' (some M) := by
  have HM := Aside0.mk hm
  have h1 : ¬ ((a : Int) + (b : Int) ≤ 1) := by omega
  clear hm
  go_enter Try.func87, Try.ntmps87
  go_wp2_with fail
  go_region
  all_goals go_wp2
  all_goals go_ret3
  all_goals
    refine ⟨rfl, ⟨f, HM.out.grown (grown_of_below ?_)⟩, grown_none (grown_of_below ?_)⟩ <;>
    repeat (first | exact Below.refl _ _ | (with_reducible first | apply below_alloc | apply pw_below_drewN | apply below_drew1 | apply below_drew))
end Go.Proofs.Ytfejfljgdeglgaa.K
