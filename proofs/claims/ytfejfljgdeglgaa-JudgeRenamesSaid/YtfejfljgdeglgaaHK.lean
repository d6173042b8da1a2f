/- The keys of the judge's memory: a state and a number of questions. -/
import Derived.DeepKeys5
import Derived.Test.YtfejfljgdeglgaaHM
import Derived.Test.YtfejfljgdeglgaaProg
namespace Go.Proofs.Ytfejfljgdeglgaa.K
open Go.RowKit Go.Maps
set_option linter.unusedVariables false
set_option linter.unusedSimpArgs false

theorem laid : laidOutB Try.prog = true := by kernel_rfl
theorem keyed99 : Keyed Try.prog 99 := Keyed.of_law (deep_law_laid laid (m := 4) (by omega) (of_decide_eq_true (by kernel_rfl)) (by kernel_rfl) (by kernel_rfl))
theorem kt99 : Try.prog.keyType 99 = true := by kernel_rfl
theorem c99 : Try.prog.cellsOf 99 = 3 := by kernel_rfl
theorem c58 : Try.prog.cellsOf 58 = 2 := by kernel_rfl
theorem c3 : Try.prog.cellsOf 3 = 1 := by kernel_rfl
theorem sz : ∃ n, Try.prog.types.size = n + 5 := ⟨Try.prog.types.size - 5, by have : 5 ≤ Try.prog.types.size := of_decide_eq_true (by kernel_rfl); omega⟩
theorem kl3 (d : Nat) (x : Int) (h : (Lit.int .i64 x).wf = true) : Try.prog.keyLits (d + 1) 3 [.int .i64 x] = some [.int .i64 x] := by
  unfold Program.keyLits
  simp only [Try.underlying3]
  simp [h]
theorem kl58 (d : Nat) (a b : Int) (ha : (Lit.int .i64 a).wf = true) (hb : (Lit.int .i64 b).wf = true) : Try.prog.keyLits (d + 2) 58 [.int .i64 a, .int .i64 b] = some [.int .i64 a, .int .i64 b] := by
  unfold Program.keyLits
  simp only [Try.underlying58]
  simp [c58, c3, kl3 d a ha, kl3 d b hb]
theorem kl99 (d : Nat) (a b q : Int) (ha : (Lit.int .i64 a).wf = true) (hb : (Lit.int .i64 b).wf = true) (hq : (Lit.int .i64 q).wf = true) : Try.prog.keyLits (d + 3) 99 [.int .i64 a, .int .i64 b, .int .i64 q] = some [.int .i64 a, .int .i64 b, .int .i64 q] := by
  unfold Program.keyLits
  simp only [Try.underlying99]
  simp [c99, c58, c3, kl58 d a b ha hb, kl3 (d + 1) q hq]
theorem key99 (a b q : Int) (ha : (Lit.int .i64 a).wf = true) (hb : (Lit.int .i64 b).wf = true) (hq : (Lit.int .i64 q).wf = true) : keyOf Try.prog 99 (.agg #[.int .i64 a, .int .i64 b, .int .i64 q]) = some (.string (keyBytes [.int .i64 a, .int .i64 b, .int .i64 q])) := by
  obtain ⟨n, hn⟩ := sz
  unfold keyOf
  rw [Try.underlying99, hn]
  have h := kl99 (n + 3) a b q ha hb hq
  have hf : (Value.agg #[.int .i64 a, .int .i64 b, .int .i64 q]).formed Try.prog 99 = true := by simp [Value.formed, Try.underlying99, c99]
  simp only [kt99, hf, Bool.and_self, if_true]
  show (Try.prog.keyLits (n + 5 + 1) 99 [.int .i64 a, .int .i64 b, .int .i64 q]).map _ = _
  rw [show n + 5 + 1 = (n + 3) + 3 from rfl, h]
  rfl
/-- Two keys that read alike are one. -/
theorem key99_inj {a b q a' b' q' : Int} (ha : (Lit.int .i64 a).wf = true) (hb : (Lit.int .i64 b).wf = true) (hq : (Lit.int .i64 q).wf = true) (ha' : (Lit.int .i64 a').wf = true) (hb' : (Lit.int .i64 b').wf = true) (hq' : (Lit.int .i64 q').wf = true)
    (h : Lit.string (keyBytes [.int .i64 a, .int .i64 b, .int .i64 q]) = Lit.string (keyBytes [.int .i64 a', .int .i64 b', .int .i64 q'])) : a = a' ∧ b = b' ∧ q = q' := by
  have h1 := key99 a b q ha hb hq
  have h2 := key99 a' b' q' ha' hb' hq'
  rw [← h] at h2
  have := keyed99.inj h1 h2
  simpa using this
end Go.Proofs.Ytfejfljgdeglgaa.K
