/-
  No cell of these rows narrows 'for every input' (looked for: loops, veiled, ifaces, maps, wideKeys, modest, calm, conditions, laid).
  DERIVED. THE GIVEN ROWS OF THIS SEAT. 13 by the template 'for every input the law returns true; each argument reads behind the call as it read before'; 0 by the template 'total and deterministic' (their statements: YtfejfljgdeglgaaTotals.lean).
  GIVEN WITH THE SEED: the statements are not yours to turn. If you find one false, say at which input.
  Laid BY PROGRAM, IN A SANDBOX (cutbox-rows.mjs): the forced cells as the released guide's own fill.sh prints them over the translation 3f748b0bdfe2419f… (all of the seat's roots in one cut). By AI agents, Wed Nov 11 2026. No macro, syntax, notation, axiom, sorry.
-/
import Derived.Test.YtfejfljgdeglgaaChecked
import GoSem.Claim
import GoSem.ClaimJoined
import GoSem.ClaimMapViews
import Derived.JoinedTies
import Derived.KernelRfl
namespace Go.Proofs.Ytfejfljgdeglgaa
/- THE CELL 'sum', in the pinned program and in every row, IS THE sha256 OF THE DUMP (.gsa) THAT YtfejfljgdeglgaaProg.lean LOADS. Nothing in Lean hashes anything: it is a label: what it is worth is what the hold of that sum in a sandbox is worth. -/
noncomputable def Try.pinned : Pinned := { name := "ytfejfljgdeglgaa", sum := "3f748b0bdfe2419f3ae9b4194d7e2041c20dd7a6d6fb03a1fc4a627e6a6c165b", checked := Try.checked }
namespace Rows
def none {H : Type} : Left H := { results := [], args := [] }

/-- 'verditerlaw02.JudgeNeeds': WHATEVER THE INPUT: true; the input reads as it did. -/
def judgeNeedsSpec : ChangeSpec := { name := "judgeNeeds", fn := fun _ => fun
  | [d] => { results := [.lit (.bool true)], args := [d] }
  | _ => none }
def judgeNeedsRow : OpenClaim := { program := "ytfejfljgdeglgaa", sum := "3f748b0bdfe2419f3ae9b4194d7e2041c20dd7a6d6fb03a1fc4a627e6a6c165b", func := "verditer/verditerlaw02.JudgeNeeds", spec := "judgeNeeds", unfollowed := true, recurses := true, plainKeys := false, apart := false }
def JudgeNeedsSaid : Prop := judgeNeedsRow.holds Try.pinned (OpenSpec.ofChange judgeNeedsSpec)

/-- ITS FALSE NEIGHBOUR: 'it returns false'. Refute it at one input. -/
def judgeNeedsWrong : ChangeSpec := { name := "judgeNeeds", fn := fun _ => fun
  | [d] => { results := [.lit (.bool false)], args := [d] }
  | _ => none }
def JudgeNeedsWrongFalsely : Prop := judgeNeedsRow.holds Try.pinned (OpenSpec.ofChange judgeNeedsWrong)

/-- 'verditerlaw02.JudgeAgainst': WHATEVER THE INPUT: true; the input reads as it did. -/
def judgeAgainstSpec : ChangeSpec := { name := "judgeAgainst", fn := fun _ => fun
  | [d1, d2] => { results := [.lit (.bool true)], args := [d1, d2] }
  | _ => none }
def judgeAgainstRow : OpenClaim := { program := "ytfejfljgdeglgaa", sum := "3f748b0bdfe2419f3ae9b4194d7e2041c20dd7a6d6fb03a1fc4a627e6a6c165b", func := "verditer/verditerlaw02.JudgeAgainst", spec := "judgeAgainst", unfollowed := true, recurses := true, plainKeys := false, apart := false }
def JudgeAgainstSaid : Prop := judgeAgainstRow.holds Try.pinned (OpenSpec.ofChange judgeAgainstSpec)

/-- ITS FALSE NEIGHBOUR: 'it returns false'. Refute it at one input. -/
def judgeAgainstWrong : ChangeSpec := { name := "judgeAgainst", fn := fun _ => fun
  | [d1, d2] => { results := [.lit (.bool false)], args := [d1, d2] }
  | _ => none }
def JudgeAgainstWrongFalsely : Prop := judgeAgainstRow.holds Try.pinned (OpenSpec.ofChange judgeAgainstWrong)

/-- 'verditerlaw02.JudgeEnough': WHATEVER THE INPUT: true; the input reads as it did. -/
def judgeEnoughSpec : ChangeSpec := { name := "judgeEnough", fn := fun _ => fun
  | [d1, d2] => { results := [.lit (.bool true)], args := [d1, d2] }
  | _ => none }
def judgeEnoughRow : OpenClaim := { program := "ytfejfljgdeglgaa", sum := "3f748b0bdfe2419f3ae9b4194d7e2041c20dd7a6d6fb03a1fc4a627e6a6c165b", func := "verditer/verditerlaw02.JudgeEnough", spec := "judgeEnough", unfollowed := true, recurses := true, plainKeys := false, apart := false }
def JudgeEnoughSaid : Prop := judgeEnoughRow.holds Try.pinned (OpenSpec.ofChange judgeEnoughSpec)

/-- ITS FALSE NEIGHBOUR: 'it returns false'. Refute it at one input. -/
def judgeEnoughWrong : ChangeSpec := { name := "judgeEnough", fn := fun _ => fun
  | [d1, d2] => { results := [.lit (.bool false)], args := [d1, d2] }
  | _ => none }
def JudgeEnoughWrongFalsely : Prop := judgeEnoughRow.holds Try.pinned (OpenSpec.ofChange judgeEnoughWrong)

/-- 'verditerlaw02.JudgeLeft': WHATEVER THE INPUT: true; the input reads as it did. -/
def judgeLeftSpec : ChangeSpec := { name := "judgeLeft", fn := fun _ => fun
  | [d1, d2, d3] => { results := [.lit (.bool true)], args := [d1, d2, d3] }
  | _ => none }
def judgeLeftRow : OpenClaim := { program := "ytfejfljgdeglgaa", sum := "3f748b0bdfe2419f3ae9b4194d7e2041c20dd7a6d6fb03a1fc4a627e6a6c165b", func := "verditer/verditerlaw02.JudgeLeft", spec := "judgeLeft", unfollowed := true, recurses := true, plainKeys := false, apart := false }
def JudgeLeftSaid : Prop := judgeLeftRow.holds Try.pinned (OpenSpec.ofChange judgeLeftSpec)

/-- ITS FALSE NEIGHBOUR: 'it returns false'. Refute it at one input. -/
def judgeLeftWrong : ChangeSpec := { name := "judgeLeft", fn := fun _ => fun
  | [d1, d2, d3] => { results := [.lit (.bool false)], args := [d1, d2, d3] }
  | _ => none }
def JudgeLeftWrongFalsely : Prop := judgeLeftRow.holds Try.pinned (OpenSpec.ofChange judgeLeftWrong)

/-- 'verditerlaw02.JudgeQuestions': WHATEVER THE INPUT: true; the input reads as it did. -/
def judgeQuestionsSpec : ChangeSpec := { name := "judgeQuestions", fn := fun _ => fun
  | [d1, d2] => { results := [.lit (.bool true)], args := [d1, d2] }
  | _ => none }
def judgeQuestionsRow : OpenClaim := { program := "ytfejfljgdeglgaa", sum := "3f748b0bdfe2419f3ae9b4194d7e2041c20dd7a6d6fb03a1fc4a627e6a6c165b", func := "verditer/verditerlaw02.JudgeQuestions", spec := "judgeQuestions", unfollowed := true, recurses := true, plainKeys := false, apart := false }
def JudgeQuestionsSaid : Prop := judgeQuestionsRow.holds Try.pinned (OpenSpec.ofChange judgeQuestionsSpec)

/-- ITS FALSE NEIGHBOUR: 'it returns false'. Refute it at one input. -/
def judgeQuestionsWrong : ChangeSpec := { name := "judgeQuestions", fn := fun _ => fun
  | [d1, d2] => { results := [.lit (.bool false)], args := [d1, d2] }
  | _ => none }
def JudgeQuestionsWrongFalsely : Prop := judgeQuestionsRow.holds Try.pinned (OpenSpec.ofChange judgeQuestionsWrong)

/-- 'verditerlaw02.JudgeStates': WHATEVER THE INPUT: true; the input reads as it did. -/
def judgeStatesSpec : ChangeSpec := { name := "judgeStates", fn := fun _ => fun
  | [d1, d2] => { results := [.lit (.bool true)], args := [d1, d2] }
  | _ => none }
def judgeStatesRow : OpenClaim := { program := "ytfejfljgdeglgaa", sum := "3f748b0bdfe2419f3ae9b4194d7e2041c20dd7a6d6fb03a1fc4a627e6a6c165b", func := "verditer/verditerlaw02.JudgeStates", spec := "judgeStates", unfollowed := true, recurses := true, plainKeys := false, apart := false }
def JudgeStatesSaid : Prop := judgeStatesRow.holds Try.pinned (OpenSpec.ofChange judgeStatesSpec)

/-- ITS FALSE NEIGHBOUR: 'it returns false'. Refute it at one input. -/
def judgeStatesWrong : ChangeSpec := { name := "judgeStates", fn := fun _ => fun
  | [d1, d2] => { results := [.lit (.bool false)], args := [d1, d2] }
  | _ => none }
def JudgeStatesWrongFalsely : Prop := judgeStatesRow.holds Try.pinned (OpenSpec.ofChange judgeStatesWrong)

/-- 'verditerlaw02.JudgeAfters': WHATEVER THE INPUT: true; the input reads as it did. -/
def judgeAftersSpec : ChangeSpec := { name := "judgeAfters", fn := fun _ => fun
  | [d1, d2] => { results := [.lit (.bool true)], args := [d1, d2] }
  | _ => none }
def judgeAftersRow : OpenClaim := { program := "ytfejfljgdeglgaa", sum := "3f748b0bdfe2419f3ae9b4194d7e2041c20dd7a6d6fb03a1fc4a627e6a6c165b", func := "verditer/verditerlaw02.JudgeAfters", spec := "judgeAfters", unfollowed := true, recurses := true, plainKeys := false, apart := false }
def JudgeAftersSaid : Prop := judgeAftersRow.holds Try.pinned (OpenSpec.ofChange judgeAftersSpec)

/-- ITS FALSE NEIGHBOUR: 'it returns false'. Refute it at one input. -/
def judgeAftersWrong : ChangeSpec := { name := "judgeAfters", fn := fun _ => fun
  | [d1, d2] => { results := [.lit (.bool false)], args := [d1, d2] }
  | _ => none }
def JudgeAftersWrongFalsely : Prop := judgeAftersRow.holds Try.pinned (OpenSpec.ofChange judgeAftersWrong)

/-- 'verditerlaw02.JudgeWeights': WHATEVER THE INPUT: true; the input reads as it did. -/
def judgeWeightsSpec : ChangeSpec := { name := "judgeWeights", fn := fun _ => fun
  | [d1, d2, d3] => { results := [.lit (.bool true)], args := [d1, d2, d3] }
  | _ => none }
def judgeWeightsRow : OpenClaim := { program := "ytfejfljgdeglgaa", sum := "3f748b0bdfe2419f3ae9b4194d7e2041c20dd7a6d6fb03a1fc4a627e6a6c165b", func := "verditer/verditerlaw02.JudgeWeights", spec := "judgeWeights", unfollowed := true, recurses := true, plainKeys := false, apart := false }
def JudgeWeightsSaid : Prop := judgeWeightsRow.holds Try.pinned (OpenSpec.ofChange judgeWeightsSpec)

/-- ITS FALSE NEIGHBOUR: 'it returns false'. Refute it at one input. -/
def judgeWeightsWrong : ChangeSpec := { name := "judgeWeights", fn := fun _ => fun
  | [d1, d2, d3] => { results := [.lit (.bool false)], args := [d1, d2, d3] }
  | _ => none }
def JudgeWeightsWrongFalsely : Prop := judgeWeightsRow.holds Try.pinned (OpenSpec.ofChange judgeWeightsWrong)

/-- 'verditerlaw02.JudgeTurns': WHATEVER THE INPUT: true; the input reads as it did. -/
def judgeTurnsSpec : ChangeSpec := { name := "judgeTurns", fn := fun _ => fun
  | [d1, d2] => { results := [.lit (.bool true)], args := [d1, d2] }
  | _ => none }
def judgeTurnsRow : OpenClaim := { program := "ytfejfljgdeglgaa", sum := "3f748b0bdfe2419f3ae9b4194d7e2041c20dd7a6d6fb03a1fc4a627e6a6c165b", func := "verditer/verditerlaw02.JudgeTurns", spec := "judgeTurns", unfollowed := true, recurses := true, plainKeys := false, apart := false }
def JudgeTurnsSaid : Prop := judgeTurnsRow.holds Try.pinned (OpenSpec.ofChange judgeTurnsSpec)

/-- ITS FALSE NEIGHBOUR: 'it returns false'. Refute it at one input. -/
def judgeTurnsWrong : ChangeSpec := { name := "judgeTurns", fn := fun _ => fun
  | [d1, d2] => { results := [.lit (.bool false)], args := [d1, d2] }
  | _ => none }
def JudgeTurnsWrongFalsely : Prop := judgeTurnsRow.holds Try.pinned (OpenSpec.ofChange judgeTurnsWrong)

/-- 'verditerlaw02.JudgeAnswers': WHATEVER THE INPUT: true; the input reads as it did. -/
def judgeAnswersSpec : ChangeSpec := { name := "judgeAnswers", fn := fun _ => fun
  | [d1, d2, d3] => { results := [.lit (.bool true)], args := [d1, d2, d3] }
  | _ => none }
def judgeAnswersRow : OpenClaim := { program := "ytfejfljgdeglgaa", sum := "3f748b0bdfe2419f3ae9b4194d7e2041c20dd7a6d6fb03a1fc4a627e6a6c165b", func := "verditer/verditerlaw02.JudgeAnswers", spec := "judgeAnswers", unfollowed := true, recurses := true, plainKeys := false, apart := false }
def JudgeAnswersSaid : Prop := judgeAnswersRow.holds Try.pinned (OpenSpec.ofChange judgeAnswersSpec)

/-- ITS FALSE NEIGHBOUR: 'it returns false'. Refute it at one input. -/
def judgeAnswersWrong : ChangeSpec := { name := "judgeAnswers", fn := fun _ => fun
  | [d1, d2, d3] => { results := [.lit (.bool false)], args := [d1, d2, d3] }
  | _ => none }
def JudgeAnswersWrongFalsely : Prop := judgeAnswersRow.holds Try.pinned (OpenSpec.ofChange judgeAnswersWrong)

/-- 'verditerlaw02.JudgeWithout': WHATEVER THE INPUT: true; the input reads as it did. -/
def judgeWithoutSpec : ChangeSpec := { name := "judgeWithout", fn := fun _ => fun
  | [d1, d2, d3] => { results := [.lit (.bool true)], args := [d1, d2, d3] }
  | _ => none }
def judgeWithoutRow : OpenClaim := { program := "ytfejfljgdeglgaa", sum := "3f748b0bdfe2419f3ae9b4194d7e2041c20dd7a6d6fb03a1fc4a627e6a6c165b", func := "verditer/verditerlaw02.JudgeWithout", spec := "judgeWithout", unfollowed := true, recurses := true, plainKeys := false, apart := false }
def JudgeWithoutSaid : Prop := judgeWithoutRow.holds Try.pinned (OpenSpec.ofChange judgeWithoutSpec)

/-- ITS FALSE NEIGHBOUR: 'it returns false'. Refute it at one input. -/
def judgeWithoutWrong : ChangeSpec := { name := "judgeWithout", fn := fun _ => fun
  | [d1, d2, d3] => { results := [.lit (.bool false)], args := [d1, d2, d3] }
  | _ => none }
def JudgeWithoutWrongFalsely : Prop := judgeWithoutRow.holds Try.pinned (OpenSpec.ofChange judgeWithoutWrong)

/-- 'verditerlaw02.JudgeRenames': WHATEVER THE INPUT: true; the input reads as it did. -/
def judgeRenamesSpec : ChangeSpec := { name := "judgeRenames", fn := fun _ => fun
  | [d1, d2, d3] => { results := [.lit (.bool true)], args := [d1, d2, d3] }
  | _ => none }
def judgeRenamesRow : OpenClaim := { program := "ytfejfljgdeglgaa", sum := "3f748b0bdfe2419f3ae9b4194d7e2041c20dd7a6d6fb03a1fc4a627e6a6c165b", func := "verditer/verditerlaw02.JudgeRenames", spec := "judgeRenames", unfollowed := true, recurses := true, plainKeys := false, apart := false }
def JudgeRenamesSaid : Prop := judgeRenamesRow.holds Try.pinned (OpenSpec.ofChange judgeRenamesSpec)

/-- ITS FALSE NEIGHBOUR: 'it returns false'. Refute it at one input. -/
def judgeRenamesWrong : ChangeSpec := { name := "judgeRenames", fn := fun _ => fun
  | [d1, d2, d3] => { results := [.lit (.bool false)], args := [d1, d2, d3] }
  | _ => none }
def JudgeRenamesWrongFalsely : Prop := judgeRenamesRow.holds Try.pinned (OpenSpec.ofChange judgeRenamesWrong)

/-- 'verditerlaw02.JudgeNexts': WHATEVER THE INPUT: true; the input reads as it did. -/
def judgeNextsSpec : ChangeSpec := { name := "judgeNexts", fn := fun _ => fun
  | [d1, d2] => { results := [.lit (.bool true)], args := [d1, d2] }
  | _ => none }
def judgeNextsRow : OpenClaim := { program := "ytfejfljgdeglgaa", sum := "3f748b0bdfe2419f3ae9b4194d7e2041c20dd7a6d6fb03a1fc4a627e6a6c165b", func := "verditer/verditerlaw02.JudgeNexts", spec := "judgeNexts", unfollowed := true, recurses := true, plainKeys := false, apart := false }
def JudgeNextsSaid : Prop := judgeNextsRow.holds Try.pinned (OpenSpec.ofChange judgeNextsSpec)

/-- ITS FALSE NEIGHBOUR: 'it returns false'. Refute it at one input. -/
def judgeNextsWrong : ChangeSpec := { name := "judgeNexts", fn := fun _ => fun
  | [d1, d2] => { results := [.lit (.bool false)], args := [d1, d2] }
  | _ => none }
def JudgeNextsWrongFalsely : Prop := judgeNextsRow.holds Try.pinned (OpenSpec.ofChange judgeNextsWrong)

/- THE SECOND FORM. 'bulk': how many values and letters a reading holds, each counted each time it is reached (what is shared counts as often as it is met; a slice's spare places count too). A statement '..UptoSaid' is the law's where the arguments, and the package variables that the reading takes, are together of bulk at most 1048576: NARROWER than '..Said'. Prove '..Said' where nothing that the law and all that it calls make is longer than what came in: it says more and counts as full. Else prove '..UptoSaid'. A law counts once. -/
mutual
def uptoBulk {H : Type} : DataW H → Nat
  | .lit (.string bytes) => bytes.length + 1
  | .lit _ => 1
  | .nil => 1
  | .ptr d => uptoBulk d + 1
  | .slice elems spare => uptoBulkAll elems + uptoBulkAll spare + 1
  | .agg parts => uptoBulkAll parts + 1
  | .iface _ d => uptoBulk d + 1
  | .map entries => uptoBulkEntries entries + 1
  | .held _ => 1
def uptoBulkAll {H : Type} : List (DataW H) → Nat
  | [] => 0
  | d :: r => uptoBulk d + uptoBulkAll r
def uptoBulkEntries {H : Type} : List (Lit × DataW H) → Nat
  | [] => 0
  | x :: r => uptoBulkEntry x + uptoBulkEntries r
def uptoBulkEntry {H : Type} : Lit × DataW H → Nat
  | (.string bytes, d) => bytes.length + uptoBulk d + 1
  | (_, d) => uptoBulk d + 1
 end
def uptoSmall : (H : Type) → List (DataW H) → Bool := fun _ ds => decide (uptoBulkAll ds ≤ 1048576)
def OpenSpec.upto (s : _root_.Go.ChangeSpec) : _root_.Go.OpenSpec := { _root_.Go.OpenSpec.ofChange s with cond := some uptoSmall }

/-- 'verditerlaw02.JudgeNeeds', WHERE WHAT IT READS IS OF BULK AT MOST 1048576: true; the input reads as it did. -/
def judgeNeedsUptoRow : OpenClaim := { program := "ytfejfljgdeglgaa", sum := "3f748b0bdfe2419f3ae9b4194d7e2041c20dd7a6d6fb03a1fc4a627e6a6c165b", func := "verditer/verditerlaw02.JudgeNeeds", spec := "judgeNeeds", unfollowed := true, recurses := true, plainKeys := false, apart := false, narrowed := true }
def JudgeNeedsUptoSaid : Prop := judgeNeedsUptoRow.holds Try.pinned (OpenSpec.upto judgeNeedsSpec)

/-- 'verditerlaw02.JudgeAgainst', WHERE WHAT IT READS IS OF BULK AT MOST 1048576: true; the input reads as it did. -/
def judgeAgainstUptoRow : OpenClaim := { program := "ytfejfljgdeglgaa", sum := "3f748b0bdfe2419f3ae9b4194d7e2041c20dd7a6d6fb03a1fc4a627e6a6c165b", func := "verditer/verditerlaw02.JudgeAgainst", spec := "judgeAgainst", unfollowed := true, recurses := true, plainKeys := false, apart := false, narrowed := true }
def JudgeAgainstUptoSaid : Prop := judgeAgainstUptoRow.holds Try.pinned (OpenSpec.upto judgeAgainstSpec)

/-- 'verditerlaw02.JudgeEnough', WHERE WHAT IT READS IS OF BULK AT MOST 1048576: true; the input reads as it did. -/
def judgeEnoughUptoRow : OpenClaim := { program := "ytfejfljgdeglgaa", sum := "3f748b0bdfe2419f3ae9b4194d7e2041c20dd7a6d6fb03a1fc4a627e6a6c165b", func := "verditer/verditerlaw02.JudgeEnough", spec := "judgeEnough", unfollowed := true, recurses := true, plainKeys := false, apart := false, narrowed := true }
def JudgeEnoughUptoSaid : Prop := judgeEnoughUptoRow.holds Try.pinned (OpenSpec.upto judgeEnoughSpec)

/-- 'verditerlaw02.JudgeLeft', WHERE WHAT IT READS IS OF BULK AT MOST 1048576: true; the input reads as it did. -/
def judgeLeftUptoRow : OpenClaim := { program := "ytfejfljgdeglgaa", sum := "3f748b0bdfe2419f3ae9b4194d7e2041c20dd7a6d6fb03a1fc4a627e6a6c165b", func := "verditer/verditerlaw02.JudgeLeft", spec := "judgeLeft", unfollowed := true, recurses := true, plainKeys := false, apart := false, narrowed := true }
def JudgeLeftUptoSaid : Prop := judgeLeftUptoRow.holds Try.pinned (OpenSpec.upto judgeLeftSpec)

/-- 'verditerlaw02.JudgeQuestions', WHERE WHAT IT READS IS OF BULK AT MOST 1048576: true; the input reads as it did. -/
def judgeQuestionsUptoRow : OpenClaim := { program := "ytfejfljgdeglgaa", sum := "3f748b0bdfe2419f3ae9b4194d7e2041c20dd7a6d6fb03a1fc4a627e6a6c165b", func := "verditer/verditerlaw02.JudgeQuestions", spec := "judgeQuestions", unfollowed := true, recurses := true, plainKeys := false, apart := false, narrowed := true }
def JudgeQuestionsUptoSaid : Prop := judgeQuestionsUptoRow.holds Try.pinned (OpenSpec.upto judgeQuestionsSpec)

/-- 'verditerlaw02.JudgeStates', WHERE WHAT IT READS IS OF BULK AT MOST 1048576: true; the input reads as it did. -/
def judgeStatesUptoRow : OpenClaim := { program := "ytfejfljgdeglgaa", sum := "3f748b0bdfe2419f3ae9b4194d7e2041c20dd7a6d6fb03a1fc4a627e6a6c165b", func := "verditer/verditerlaw02.JudgeStates", spec := "judgeStates", unfollowed := true, recurses := true, plainKeys := false, apart := false, narrowed := true }
def JudgeStatesUptoSaid : Prop := judgeStatesUptoRow.holds Try.pinned (OpenSpec.upto judgeStatesSpec)

/-- 'verditerlaw02.JudgeAfters', WHERE WHAT IT READS IS OF BULK AT MOST 1048576: true; the input reads as it did. -/
def judgeAftersUptoRow : OpenClaim := { program := "ytfejfljgdeglgaa", sum := "3f748b0bdfe2419f3ae9b4194d7e2041c20dd7a6d6fb03a1fc4a627e6a6c165b", func := "verditer/verditerlaw02.JudgeAfters", spec := "judgeAfters", unfollowed := true, recurses := true, plainKeys := false, apart := false, narrowed := true }
def JudgeAftersUptoSaid : Prop := judgeAftersUptoRow.holds Try.pinned (OpenSpec.upto judgeAftersSpec)

/-- 'verditerlaw02.JudgeWeights', WHERE WHAT IT READS IS OF BULK AT MOST 1048576: true; the input reads as it did. -/
def judgeWeightsUptoRow : OpenClaim := { program := "ytfejfljgdeglgaa", sum := "3f748b0bdfe2419f3ae9b4194d7e2041c20dd7a6d6fb03a1fc4a627e6a6c165b", func := "verditer/verditerlaw02.JudgeWeights", spec := "judgeWeights", unfollowed := true, recurses := true, plainKeys := false, apart := false, narrowed := true }
def JudgeWeightsUptoSaid : Prop := judgeWeightsUptoRow.holds Try.pinned (OpenSpec.upto judgeWeightsSpec)

/-- 'verditerlaw02.JudgeTurns', WHERE WHAT IT READS IS OF BULK AT MOST 1048576: true; the input reads as it did. -/
def judgeTurnsUptoRow : OpenClaim := { program := "ytfejfljgdeglgaa", sum := "3f748b0bdfe2419f3ae9b4194d7e2041c20dd7a6d6fb03a1fc4a627e6a6c165b", func := "verditer/verditerlaw02.JudgeTurns", spec := "judgeTurns", unfollowed := true, recurses := true, plainKeys := false, apart := false, narrowed := true }
def JudgeTurnsUptoSaid : Prop := judgeTurnsUptoRow.holds Try.pinned (OpenSpec.upto judgeTurnsSpec)

/-- 'verditerlaw02.JudgeAnswers', WHERE WHAT IT READS IS OF BULK AT MOST 1048576: true; the input reads as it did. -/
def judgeAnswersUptoRow : OpenClaim := { program := "ytfejfljgdeglgaa", sum := "3f748b0bdfe2419f3ae9b4194d7e2041c20dd7a6d6fb03a1fc4a627e6a6c165b", func := "verditer/verditerlaw02.JudgeAnswers", spec := "judgeAnswers", unfollowed := true, recurses := true, plainKeys := false, apart := false, narrowed := true }
def JudgeAnswersUptoSaid : Prop := judgeAnswersUptoRow.holds Try.pinned (OpenSpec.upto judgeAnswersSpec)

/-- 'verditerlaw02.JudgeWithout', WHERE WHAT IT READS IS OF BULK AT MOST 1048576: true; the input reads as it did. -/
def judgeWithoutUptoRow : OpenClaim := { program := "ytfejfljgdeglgaa", sum := "3f748b0bdfe2419f3ae9b4194d7e2041c20dd7a6d6fb03a1fc4a627e6a6c165b", func := "verditer/verditerlaw02.JudgeWithout", spec := "judgeWithout", unfollowed := true, recurses := true, plainKeys := false, apart := false, narrowed := true }
def JudgeWithoutUptoSaid : Prop := judgeWithoutUptoRow.holds Try.pinned (OpenSpec.upto judgeWithoutSpec)

/-- 'verditerlaw02.JudgeRenames', WHERE WHAT IT READS IS OF BULK AT MOST 1048576: true; the input reads as it did. -/
def judgeRenamesUptoRow : OpenClaim := { program := "ytfejfljgdeglgaa", sum := "3f748b0bdfe2419f3ae9b4194d7e2041c20dd7a6d6fb03a1fc4a627e6a6c165b", func := "verditer/verditerlaw02.JudgeRenames", spec := "judgeRenames", unfollowed := true, recurses := true, plainKeys := false, apart := false, narrowed := true }
def JudgeRenamesUptoSaid : Prop := judgeRenamesUptoRow.holds Try.pinned (OpenSpec.upto judgeRenamesSpec)

/-- 'verditerlaw02.JudgeNexts', WHERE WHAT IT READS IS OF BULK AT MOST 1048576: true; the input reads as it did. -/
def judgeNextsUptoRow : OpenClaim := { program := "ytfejfljgdeglgaa", sum := "3f748b0bdfe2419f3ae9b4194d7e2041c20dd7a6d6fb03a1fc4a627e6a6c165b", func := "verditer/verditerlaw02.JudgeNexts", spec := "judgeNexts", unfollowed := true, recurses := true, plainKeys := false, apart := false, narrowed := true }
def JudgeNextsUptoSaid : Prop := judgeNextsUptoRow.holds Try.pinned (OpenSpec.upto judgeNextsSpec)

end Rows
end Go.Proofs.Ytfejfljgdeglgaa
