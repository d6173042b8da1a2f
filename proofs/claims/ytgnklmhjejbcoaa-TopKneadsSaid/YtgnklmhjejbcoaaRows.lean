/-
  No cell of these rows narrows 'for every input' (looked for: loops, veiled, ifaces, maps, wideKeys, modest, calm, conditions, laid).
  DERIVED. THE GIVEN ROWS OF THIS SEAT. 11 by the template 'for every input the law returns true; each argument reads behind the call as it read before'; 0 by the template 'total and deterministic' (their statements: YtgnklmhjejbcoaaTotals.lean).
  GIVEN WITH THE SEED: the statements are not yours to turn. If you find one false, say at which input.
  Laid BY PROGRAM, IN A SANDBOX (cutbox-rows.mjs): the forced cells as the released guide's own fill.sh prints them over the translation ade5cef83b377eb2… (all of the seat's roots in one cut). By AI agents, Wed Nov 11 2026. No macro, syntax, notation, axiom, sorry.
-/
import Derived.Test.YtgnklmhjejbcoaaChecked
import GoSem.Claim
import GoSem.ClaimJoined
import GoSem.ClaimMapViews
import Derived.JoinedTies
import Derived.KernelRfl
namespace Go.Proofs.Ytgnklmhjejbcoaa
/- THE CELL 'sum', in the pinned program and in every row, IS THE sha256 OF THE DUMP (.gsa) THAT YtgnklmhjejbcoaaProg.lean LOADS. Nothing in Lean hashes anything: it is a label: what it is worth is what the hold of that sum in a sandbox is worth. -/
noncomputable def Try.pinned : Pinned := { name := "ytgnklmhjejbcoaa", sum := "ade5cef83b377eb24ec66b7d08523c59f36b0f639ff0588f357ae2333d855927", checked := Try.checked }
namespace Rows
def none {H : Type} : Left H := { results := [], args := [] }

/-- 'verditerlaw07.KneadOnce': WHATEVER THE INPUT: true; the input reads as it did. -/
def kneadOnceSpec : ChangeSpec := { name := "kneadOnce", fn := fun _ => fun
  | [d] => { results := [.lit (.bool true)], args := [d] }
  | _ => none }
def kneadOnceRow : OpenClaim := { program := "ytgnklmhjejbcoaa", sum := "ade5cef83b377eb24ec66b7d08523c59f36b0f639ff0588f357ae2333d855927", func := "verditer/verditerlaw07.KneadOnce", spec := "kneadOnce", unfollowed := true, recurses := true, apart := false }
def KneadOnceSaid : Prop := kneadOnceRow.holds Try.pinned (OpenSpec.ofChange kneadOnceSpec)

/-- ITS FALSE NEIGHBOUR: 'it returns false'. Refute it at one input. -/
def kneadOnceWrong : ChangeSpec := { name := "kneadOnce", fn := fun _ => fun
  | [d] => { results := [.lit (.bool false)], args := [d] }
  | _ => none }
def KneadOnceWrongFalsely : Prop := kneadOnceRow.holds Try.pinned (OpenSpec.ofChange kneadOnceWrong)

/-- 'verditerlaw07.KneadBack': WHATEVER THE INPUT: true; the input reads as it did. -/
def kneadBackSpec : ChangeSpec := { name := "kneadBack", fn := fun _ => fun
  | [d] => { results := [.lit (.bool true)], args := [d] }
  | _ => none }
def kneadBackRow : OpenClaim := { program := "ytgnklmhjejbcoaa", sum := "ade5cef83b377eb24ec66b7d08523c59f36b0f639ff0588f357ae2333d855927", func := "verditer/verditerlaw07.KneadBack", spec := "kneadBack", unfollowed := true, recurses := true, apart := false }
def KneadBackSaid : Prop := kneadBackRow.holds Try.pinned (OpenSpec.ofChange kneadBackSpec)

/-- ITS FALSE NEIGHBOUR: 'it returns false'. Refute it at one input. -/
def kneadBackWrong : ChangeSpec := { name := "kneadBack", fn := fun _ => fun
  | [d] => { results := [.lit (.bool false)], args := [d] }
  | _ => none }
def KneadBackWrongFalsely : Prop := kneadBackRow.holds Try.pinned (OpenSpec.ofChange kneadBackWrong)

/-- 'verditerlaw07.KneadPairs': WHATEVER THE INPUT: true; the input reads as it did. -/
def kneadPairsSpec : ChangeSpec := { name := "kneadPairs", fn := fun _ => fun
  | [d1, d2] => { results := [.lit (.bool true)], args := [d1, d2] }
  | _ => none }
def kneadPairsRow : OpenClaim := { program := "ytgnklmhjejbcoaa", sum := "ade5cef83b377eb24ec66b7d08523c59f36b0f639ff0588f357ae2333d855927", func := "verditer/verditerlaw07.KneadPairs", spec := "kneadPairs", unfollowed := true, recurses := true, apart := false }
def KneadPairsSaid : Prop := kneadPairsRow.holds Try.pinned (OpenSpec.ofChange kneadPairsSpec)

/-- ITS FALSE NEIGHBOUR: 'it returns false'. Refute it at one input. -/
def kneadPairsWrong : ChangeSpec := { name := "kneadPairs", fn := fun _ => fun
  | [d1, d2] => { results := [.lit (.bool false)], args := [d1, d2] }
  | _ => none }
def KneadPairsWrongFalsely : Prop := kneadPairsRow.holds Try.pinned (OpenSpec.ofChange kneadPairsWrong)

/-- 'verditerlaw07.KneadPlaces': WHATEVER THE INPUT: true; the input reads as it did. -/
def kneadPlacesSpec : ChangeSpec := { name := "kneadPlaces", fn := fun _ => fun
  | [d1, d2, d3] => { results := [.lit (.bool true)], args := [d1, d2, d3] }
  | _ => none }
def kneadPlacesRow : OpenClaim := { program := "ytgnklmhjejbcoaa", sum := "ade5cef83b377eb24ec66b7d08523c59f36b0f639ff0588f357ae2333d855927", func := "verditer/verditerlaw07.KneadPlaces", spec := "kneadPlaces", unfollowed := true, recurses := true, apart := false }
def KneadPlacesSaid : Prop := kneadPlacesRow.holds Try.pinned (OpenSpec.ofChange kneadPlacesSpec)

/-- ITS FALSE NEIGHBOUR: 'it returns false'. Refute it at one input. -/
def kneadPlacesWrong : ChangeSpec := { name := "kneadPlaces", fn := fun _ => fun
  | [d1, d2, d3] => { results := [.lit (.bool false)], args := [d1, d2, d3] }
  | _ => none }
def KneadPlacesWrongFalsely : Prop := kneadPlacesRow.holds Try.pinned (OpenSpec.ofChange kneadPlacesWrong)

/-- 'verditerlaw07.KneadWays': WHATEVER THE INPUT: true; the input reads as it did. -/
def kneadWaysSpec : ChangeSpec := { name := "kneadWays", fn := fun _ => fun
  | [d1, d2, d3] => { results := [.lit (.bool true)], args := [d1, d2, d3] }
  | _ => none }
def kneadWaysRow : OpenClaim := { program := "ytgnklmhjejbcoaa", sum := "ade5cef83b377eb24ec66b7d08523c59f36b0f639ff0588f357ae2333d855927", func := "verditer/verditerlaw07.KneadWays", spec := "kneadWays", unfollowed := true, recurses := true, apart := false }
def KneadWaysSaid : Prop := kneadWaysRow.holds Try.pinned (OpenSpec.ofChange kneadWaysSpec)

/-- ITS FALSE NEIGHBOUR: 'it returns false'. Refute it at one input. -/
def kneadWaysWrong : ChangeSpec := { name := "kneadWays", fn := fun _ => fun
  | [d1, d2, d3] => { results := [.lit (.bool false)], args := [d1, d2, d3] }
  | _ => none }
def KneadWaysWrongFalsely : Prop := kneadWaysRow.holds Try.pinned (OpenSpec.ofChange kneadWaysWrong)

/-- 'verditertop.TopKneads': WHATEVER THE INPUT: true; the input reads as it did. -/
def topKneadsSpec : ChangeSpec := { name := "topKneads", fn := fun _ => fun
  | [d1, d2, d3] => { results := [.lit (.bool true)], args := [d1, d2, d3] }
  | _ => none }
def topKneadsRow : OpenClaim := { program := "ytgnklmhjejbcoaa", sum := "ade5cef83b377eb24ec66b7d08523c59f36b0f639ff0588f357ae2333d855927", func := "verditer/verditertop.TopKneads", spec := "topKneads", unfollowed := true, recurses := true, apart := false }
def TopKneadsSaid : Prop := topKneadsRow.holds Try.pinned (OpenSpec.ofChange topKneadsSpec)

/-- ITS FALSE NEIGHBOUR: 'it returns false'. Refute it at one input. -/
def topKneadsWrong : ChangeSpec := { name := "topKneads", fn := fun _ => fun
  | [d1, d2, d3] => { results := [.lit (.bool false)], args := [d1, d2, d3] }
  | _ => none }
def TopKneadsWrongFalsely : Prop := topKneadsRow.holds Try.pinned (OpenSpec.ofChange topKneadsWrong)

/-- 'verditerlaw07.KneadWords': WHATEVER THE INPUT: true; the input reads as it did. -/
def kneadWordsSpec : ChangeSpec := { name := "kneadWords", fn := fun _ => fun
  | [d1, d2] => { results := [.lit (.bool true)], args := [d1, d2] }
  | _ => none }
def kneadWordsRow : OpenClaim := { program := "ytgnklmhjejbcoaa", sum := "ade5cef83b377eb24ec66b7d08523c59f36b0f639ff0588f357ae2333d855927", func := "verditer/verditerlaw07.KneadWords", spec := "kneadWords", unfollowed := true, recurses := true, apart := false }
def KneadWordsSaid : Prop := kneadWordsRow.holds Try.pinned (OpenSpec.ofChange kneadWordsSpec)

/-- ITS FALSE NEIGHBOUR: 'it returns false'. Refute it at one input. -/
def kneadWordsWrong : ChangeSpec := { name := "kneadWords", fn := fun _ => fun
  | [d1, d2] => { results := [.lit (.bool false)], args := [d1, d2] }
  | _ => none }
def KneadWordsWrongFalsely : Prop := kneadWordsRow.holds Try.pinned (OpenSpec.ofChange kneadWordsWrong)

/-- 'verditerlaw07.KneadBrings': WHATEVER THE INPUT: true; the input reads as it did. -/
def kneadBringsSpec : ChangeSpec := { name := "kneadBrings", fn := fun _ => fun
  | [d1, d2] => { results := [.lit (.bool true)], args := [d1, d2] }
  | _ => none }
def kneadBringsRow : OpenClaim := { program := "ytgnklmhjejbcoaa", sum := "ade5cef83b377eb24ec66b7d08523c59f36b0f639ff0588f357ae2333d855927", func := "verditer/verditerlaw07.KneadBrings", spec := "kneadBrings", unfollowed := true, recurses := true, apart := false }
def KneadBringsSaid : Prop := kneadBringsRow.holds Try.pinned (OpenSpec.ofChange kneadBringsSpec)

/-- ITS FALSE NEIGHBOUR: 'it returns false'. Refute it at one input. -/
def kneadBringsWrong : ChangeSpec := { name := "kneadBrings", fn := fun _ => fun
  | [d1, d2] => { results := [.lit (.bool false)], args := [d1, d2] }
  | _ => none }
def KneadBringsWrongFalsely : Prop := kneadBringsRow.holds Try.pinned (OpenSpec.ofChange kneadBringsWrong)

/-- 'verditerlaw07.KneadPowers': WHATEVER THE INPUT: true; the input reads as it did. -/
def kneadPowersSpec : ChangeSpec := { name := "kneadPowers", fn := fun _ => fun
  | [d1, d2, d3] => { results := [.lit (.bool true)], args := [d1, d2, d3] }
  | _ => none }
def kneadPowersRow : OpenClaim := { program := "ytgnklmhjejbcoaa", sum := "ade5cef83b377eb24ec66b7d08523c59f36b0f639ff0588f357ae2333d855927", func := "verditer/verditerlaw07.KneadPowers", spec := "kneadPowers", unfollowed := true, recurses := true, apart := false }
def KneadPowersSaid : Prop := kneadPowersRow.holds Try.pinned (OpenSpec.ofChange kneadPowersSpec)

/-- ITS FALSE NEIGHBOUR: 'it returns false'. Refute it at one input. -/
def kneadPowersWrong : ChangeSpec := { name := "kneadPowers", fn := fun _ => fun
  | [d1, d2, d3] => { results := [.lit (.bool false)], args := [d1, d2, d3] }
  | _ => none }
def KneadPowersWrongFalsely : Prop := kneadPowersRow.holds Try.pinned (OpenSpec.ofChange kneadPowersWrong)

/-- 'verditerlaw07.KneadTimes': WHATEVER THE INPUT: true; the input reads as it did. -/
def kneadTimesSpec : ChangeSpec := { name := "kneadTimes", fn := fun _ => fun
  | [d1, d2] => { results := [.lit (.bool true)], args := [d1, d2] }
  | _ => none }
def kneadTimesRow : OpenClaim := { program := "ytgnklmhjejbcoaa", sum := "ade5cef83b377eb24ec66b7d08523c59f36b0f639ff0588f357ae2333d855927", func := "verditer/verditerlaw07.KneadTimes", spec := "kneadTimes", unfollowed := true, recurses := true, apart := false }
def KneadTimesSaid : Prop := kneadTimesRow.holds Try.pinned (OpenSpec.ofChange kneadTimesSpec)

/-- ITS FALSE NEIGHBOUR: 'it returns false'. Refute it at one input. -/
def kneadTimesWrong : ChangeSpec := { name := "kneadTimes", fn := fun _ => fun
  | [d1, d2] => { results := [.lit (.bool false)], args := [d1, d2] }
  | _ => none }
def KneadTimesWrongFalsely : Prop := kneadTimesRow.holds Try.pinned (OpenSpec.ofChange kneadTimesWrong)

/-- 'verditerlaw07.KneadParities': WHATEVER THE INPUT: true; the input reads as it did. -/
def kneadParitiesSpec : ChangeSpec := { name := "kneadParities", fn := fun _ => fun
  | [d1, d2, d3] => { results := [.lit (.bool true)], args := [d1, d2, d3] }
  | _ => none }
def kneadParitiesRow : OpenClaim := { program := "ytgnklmhjejbcoaa", sum := "ade5cef83b377eb24ec66b7d08523c59f36b0f639ff0588f357ae2333d855927", func := "verditer/verditerlaw07.KneadParities", spec := "kneadParities", unfollowed := true, recurses := true, apart := false }
def KneadParitiesSaid : Prop := kneadParitiesRow.holds Try.pinned (OpenSpec.ofChange kneadParitiesSpec)

/-- ITS FALSE NEIGHBOUR: 'it returns false'. Refute it at one input. -/
def kneadParitiesWrong : ChangeSpec := { name := "kneadParities", fn := fun _ => fun
  | [d1, d2, d3] => { results := [.lit (.bool false)], args := [d1, d2, d3] }
  | _ => none }
def KneadParitiesWrongFalsely : Prop := kneadParitiesRow.holds Try.pinned (OpenSpec.ofChange kneadParitiesWrong)

/- THE SECOND FORM. 'bulk': how many values and letters a reading holds, each counted each time it is reached (what is shared counts as often as it is met; a slice's spare places count too). A statement '..UptoSaid' is the law's where the arguments, and the package variables that the reading takes, are together of bulk at most 1048576: NARROWER than '..Said'. Prove '..Said' where nothing that the law and all that it calls make is longer than what came in: it says more and counts as full. Else prove '..UptoSaid'. A law counts once. -/
mutual
def uptoBulk {H : Type} : DataW H → Nat
  | .lit (.string bytes) => bytes.length + 1
  | .lit _ => 1
  | .nil => 1
  | .ptr d => uptoBulk d + 1
  | .slice elems spare => uptoBulkAll elems + uptoBulkAll spare + 1
  | .agg parts => uptoBulkAll parts + 1
  | .iface _ d => uptoBulk d + 1
  | .map entries => uptoBulkEntries entries + 1
  | .held _ => 1
def uptoBulkAll {H : Type} : List (DataW H) → Nat
  | [] => 0
  | d :: r => uptoBulk d + uptoBulkAll r
def uptoBulkEntries {H : Type} : List (Lit × DataW H) → Nat
  | [] => 0
  | x :: r => uptoBulkEntry x + uptoBulkEntries r
def uptoBulkEntry {H : Type} : Lit × DataW H → Nat
  | (.string bytes, d) => bytes.length + uptoBulk d + 1
  | (_, d) => uptoBulk d + 1
 end
def uptoSmall : (H : Type) → List (DataW H) → Bool := fun _ ds => decide (uptoBulkAll ds ≤ 1048576)
def OpenSpec.upto (s : _root_.Go.ChangeSpec) : _root_.Go.OpenSpec := { _root_.Go.OpenSpec.ofChange s with cond := some uptoSmall }

/-- 'verditerlaw07.KneadOnce', WHERE WHAT IT READS IS OF BULK AT MOST 1048576: true; the input reads as it did. -/
def kneadOnceUptoRow : OpenClaim := { program := "ytgnklmhjejbcoaa", sum := "ade5cef83b377eb24ec66b7d08523c59f36b0f639ff0588f357ae2333d855927", func := "verditer/verditerlaw07.KneadOnce", spec := "kneadOnce", unfollowed := true, recurses := true, apart := false, narrowed := true }
def KneadOnceUptoSaid : Prop := kneadOnceUptoRow.holds Try.pinned (OpenSpec.upto kneadOnceSpec)

/-- 'verditerlaw07.KneadBack', WHERE WHAT IT READS IS OF BULK AT MOST 1048576: true; the input reads as it did. -/
def kneadBackUptoRow : OpenClaim := { program := "ytgnklmhjejbcoaa", sum := "ade5cef83b377eb24ec66b7d08523c59f36b0f639ff0588f357ae2333d855927", func := "verditer/verditerlaw07.KneadBack", spec := "kneadBack", unfollowed := true, recurses := true, apart := false, narrowed := true }
def KneadBackUptoSaid : Prop := kneadBackUptoRow.holds Try.pinned (OpenSpec.upto kneadBackSpec)

/-- 'verditerlaw07.KneadPairs', WHERE WHAT IT READS IS OF BULK AT MOST 1048576: true; the input reads as it did. -/
def kneadPairsUptoRow : OpenClaim := { program := "ytgnklmhjejbcoaa", sum := "ade5cef83b377eb24ec66b7d08523c59f36b0f639ff0588f357ae2333d855927", func := "verditer/verditerlaw07.KneadPairs", spec := "kneadPairs", unfollowed := true, recurses := true, apart := false, narrowed := true }
def KneadPairsUptoSaid : Prop := kneadPairsUptoRow.holds Try.pinned (OpenSpec.upto kneadPairsSpec)

/-- 'verditerlaw07.KneadPlaces', WHERE WHAT IT READS IS OF BULK AT MOST 1048576: true; the input reads as it did. -/
def kneadPlacesUptoRow : OpenClaim := { program := "ytgnklmhjejbcoaa", sum := "ade5cef83b377eb24ec66b7d08523c59f36b0f639ff0588f357ae2333d855927", func := "verditer/verditerlaw07.KneadPlaces", spec := "kneadPlaces", unfollowed := true, recurses := true, apart := false, narrowed := true }
def KneadPlacesUptoSaid : Prop := kneadPlacesUptoRow.holds Try.pinned (OpenSpec.upto kneadPlacesSpec)

/-- 'verditerlaw07.KneadWays', WHERE WHAT IT READS IS OF BULK AT MOST 1048576: true; the input reads as it did. -/
def kneadWaysUptoRow : OpenClaim := { program := "ytgnklmhjejbcoaa", sum := "ade5cef83b377eb24ec66b7d08523c59f36b0f639ff0588f357ae2333d855927", func := "verditer/verditerlaw07.KneadWays", spec := "kneadWays", unfollowed := true, recurses := true, apart := false, narrowed := true }
def KneadWaysUptoSaid : Prop := kneadWaysUptoRow.holds Try.pinned (OpenSpec.upto kneadWaysSpec)

/-- 'verditertop.TopKneads', WHERE WHAT IT READS IS OF BULK AT MOST 1048576: true; the input reads as it did. -/
def topKneadsUptoRow : OpenClaim := { program := "ytgnklmhjejbcoaa", sum := "ade5cef83b377eb24ec66b7d08523c59f36b0f639ff0588f357ae2333d855927", func := "verditer/verditertop.TopKneads", spec := "topKneads", unfollowed := true, recurses := true, apart := false, narrowed := true }
def TopKneadsUptoSaid : Prop := topKneadsUptoRow.holds Try.pinned (OpenSpec.upto topKneadsSpec)

/-- 'verditerlaw07.KneadWords', WHERE WHAT IT READS IS OF BULK AT MOST 1048576: true; the input reads as it did. -/
def kneadWordsUptoRow : OpenClaim := { program := "ytgnklmhjejbcoaa", sum := "ade5cef83b377eb24ec66b7d08523c59f36b0f639ff0588f357ae2333d855927", func := "verditer/verditerlaw07.KneadWords", spec := "kneadWords", unfollowed := true, recurses := true, apart := false, narrowed := true }
def KneadWordsUptoSaid : Prop := kneadWordsUptoRow.holds Try.pinned (OpenSpec.upto kneadWordsSpec)

/-- 'verditerlaw07.KneadBrings', WHERE WHAT IT READS IS OF BULK AT MOST 1048576: true; the input reads as it did. -/
def kneadBringsUptoRow : OpenClaim := { program := "ytgnklmhjejbcoaa", sum := "ade5cef83b377eb24ec66b7d08523c59f36b0f639ff0588f357ae2333d855927", func := "verditer/verditerlaw07.KneadBrings", spec := "kneadBrings", unfollowed := true, recurses := true, apart := false, narrowed := true }
def KneadBringsUptoSaid : Prop := kneadBringsUptoRow.holds Try.pinned (OpenSpec.upto kneadBringsSpec)

/-- 'verditerlaw07.KneadPowers', WHERE WHAT IT READS IS OF BULK AT MOST 1048576: true; the input reads as it did. -/
def kneadPowersUptoRow : OpenClaim := { program := "ytgnklmhjejbcoaa", sum := "ade5cef83b377eb24ec66b7d08523c59f36b0f639ff0588f357ae2333d855927", func := "verditer/verditerlaw07.KneadPowers", spec := "kneadPowers", unfollowed := true, recurses := true, apart := false, narrowed := true }
def KneadPowersUptoSaid : Prop := kneadPowersUptoRow.holds Try.pinned (OpenSpec.upto kneadPowersSpec)

/-- 'verditerlaw07.KneadTimes', WHERE WHAT IT READS IS OF BULK AT MOST 1048576: true; the input reads as it did. -/
def kneadTimesUptoRow : OpenClaim := { program := "ytgnklmhjejbcoaa", sum := "ade5cef83b377eb24ec66b7d08523c59f36b0f639ff0588f357ae2333d855927", func := "verditer/verditerlaw07.KneadTimes", spec := "kneadTimes", unfollowed := true, recurses := true, apart := false, narrowed := true }
def KneadTimesUptoSaid : Prop := kneadTimesUptoRow.holds Try.pinned (OpenSpec.upto kneadTimesSpec)

/-- 'verditerlaw07.KneadParities', WHERE WHAT IT READS IS OF BULK AT MOST 1048576: true; the input reads as it did. -/
def kneadParitiesUptoRow : OpenClaim := { program := "ytgnklmhjejbcoaa", sum := "ade5cef83b377eb24ec66b7d08523c59f36b0f639ff0588f357ae2333d855927", func := "verditer/verditerlaw07.KneadParities", spec := "kneadParities", unfollowed := true, recurses := true, apart := false, narrowed := true }
def KneadParitiesUptoSaid : Prop := kneadParitiesUptoRow.holds Try.pinned (OpenSpec.upto kneadParitiesSpec)

end Rows
end Go.Proofs.Ytgnklmhjejbcoaa
