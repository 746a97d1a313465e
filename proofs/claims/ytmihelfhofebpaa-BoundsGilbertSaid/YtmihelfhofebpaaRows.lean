/-
  No cell of these rows narrows 'for every input' (looked for: loops, veiled, ifaces, maps, wideKeys, modest, calm, conditions, laid).
  DERIVED. THE GIVEN ROWS OF THIS SEAT. 10 by the template 'for every input the law returns true; each argument reads behind the call as it read before'; 0 by the template 'total and deterministic' (their statements: YtmihelfhofebpaaTotals.lean).
  GIVEN WITH THE SEED: the statements are not yours to turn. If you find one false, say at which input.
  Laid BY PROGRAM, IN A SANDBOX (cutbox-rows.mjs): the forced cells as the released guide's own fill.sh prints them over the translation 7ea95ab939e748a2… (all of the seat's roots in one cut). By AI agents, Wed Nov 11 2026. No macro, syntax, notation, axiom, sorry.
-/
import Derived.Test.YtmihelfhofebpaaChecked
import GoSem.Claim
import GoSem.ClaimJoined
import GoSem.ClaimMapViews
import Derived.JoinedTies
import Derived.KernelRfl
namespace Go.Proofs.Ytmihelfhofebpaa
/- THE CELL 'sum', in the pinned program and in every row, IS THE sha256 OF THE DUMP (.gsa) THAT YtmihelfhofebpaaProg.lean LOADS. Nothing in Lean hashes anything: it is a label: what it is worth is what the hold of that sum in a sandbox is worth. -/
noncomputable def Try.pinned : Pinned := { name := "ytmihelfhofebpaa", sum := "7ea95ab939e748a23720877e9e9b402e49f754075cfae42bbe15d9d3b5cdd6e8", checked := Try.checked }
namespace Rows
def none {H : Type} : Left H := { results := [], args := [] }

/-- 'codewrightlaw34.BoundsGriesmer': WHATEVER THE INPUT: true; the input reads as it did. -/
def boundsGriesmerSpec : ChangeSpec := { name := "boundsGriesmer", fn := fun _ => fun
  | [d1, d2, d3] => { results := [.lit (.bool true)], args := [d1, d2, d3] }
  | _ => none }
def boundsGriesmerRow : OpenClaim := { program := "ytmihelfhofebpaa", sum := "7ea95ab939e748a23720877e9e9b402e49f754075cfae42bbe15d9d3b5cdd6e8", func := "codewright/codewrightlaw34.BoundsGriesmer", spec := "boundsGriesmer", apart := false }
def BoundsGriesmerSaid : Prop := boundsGriesmerRow.holds Try.pinned (OpenSpec.ofChange boundsGriesmerSpec)

/-- ITS FALSE NEIGHBOUR: 'it returns false'. Refute it at one input. -/
def boundsGriesmerWrong : ChangeSpec := { name := "boundsGriesmer", fn := fun _ => fun
  | [d1, d2, d3] => { results := [.lit (.bool false)], args := [d1, d2, d3] }
  | _ => none }
def BoundsGriesmerWrongFalsely : Prop := boundsGriesmerRow.holds Try.pinned (OpenSpec.ofChange boundsGriesmerWrong)

/-- 'codewrightlaw34.BoundsLinear': WHATEVER THE INPUT: true; the input reads as it did. -/
def boundsLinearSpec : ChangeSpec := { name := "boundsLinear", fn := fun _ => fun
  | [d1, d2, d3] => { results := [.lit (.bool true)], args := [d1, d2, d3] }
  | _ => none }
def boundsLinearRow : OpenClaim := { program := "ytmihelfhofebpaa", sum := "7ea95ab939e748a23720877e9e9b402e49f754075cfae42bbe15d9d3b5cdd6e8", func := "codewright/codewrightlaw34.BoundsLinear", spec := "boundsLinear", apart := false }
def BoundsLinearSaid : Prop := boundsLinearRow.holds Try.pinned (OpenSpec.ofChange boundsLinearSpec)

/-- ITS FALSE NEIGHBOUR: 'it returns false'. Refute it at one input. -/
def boundsLinearWrong : ChangeSpec := { name := "boundsLinear", fn := fun _ => fun
  | [d1, d2, d3] => { results := [.lit (.bool false)], args := [d1, d2, d3] }
  | _ => none }
def BoundsLinearWrongFalsely : Prop := boundsLinearRow.holds Try.pinned (OpenSpec.ofChange boundsLinearWrong)

/-- 'codewrightlaw34.BoundsVolumes': WHATEVER THE INPUT: true; the input reads as it did. -/
def boundsVolumesSpec : ChangeSpec := { name := "boundsVolumes", fn := fun _ => fun
  | [d1, d2, d3] => { results := [.lit (.bool true)], args := [d1, d2, d3] }
  | _ => none }
def boundsVolumesRow : OpenClaim := { program := "ytmihelfhofebpaa", sum := "7ea95ab939e748a23720877e9e9b402e49f754075cfae42bbe15d9d3b5cdd6e8", func := "codewright/codewrightlaw34.BoundsVolumes", spec := "boundsVolumes", apart := false }
def BoundsVolumesSaid : Prop := boundsVolumesRow.holds Try.pinned (OpenSpec.ofChange boundsVolumesSpec)

/-- ITS FALSE NEIGHBOUR: 'it returns false'. Refute it at one input. -/
def boundsVolumesWrong : ChangeSpec := { name := "boundsVolumes", fn := fun _ => fun
  | [d1, d2, d3] => { results := [.lit (.bool false)], args := [d1, d2, d3] }
  | _ => none }
def BoundsVolumesWrongFalsely : Prop := boundsVolumesRow.holds Try.pinned (OpenSpec.ofChange boundsVolumesWrong)

/-- 'codewrightlaw34.BoundsBalls': WHATEVER THE INPUT: true; the input reads as it did. -/
def boundsBallsSpec : ChangeSpec := { name := "boundsBalls", fn := fun _ => fun
  | [d1, d2, d3, d4] => { results := [.lit (.bool true)], args := [d1, d2, d3, d4] }
  | _ => none }
def boundsBallsRow : OpenClaim := { program := "ytmihelfhofebpaa", sum := "7ea95ab939e748a23720877e9e9b402e49f754075cfae42bbe15d9d3b5cdd6e8", func := "codewright/codewrightlaw34.BoundsBalls", spec := "boundsBalls", apart := false }
def BoundsBallsSaid : Prop := boundsBallsRow.holds Try.pinned (OpenSpec.ofChange boundsBallsSpec)

/-- ITS FALSE NEIGHBOUR: 'it returns false'. Refute it at one input. -/
def boundsBallsWrong : ChangeSpec := { name := "boundsBalls", fn := fun _ => fun
  | [d1, d2, d3, d4] => { results := [.lit (.bool false)], args := [d1, d2, d3, d4] }
  | _ => none }
def BoundsBallsWrongFalsely : Prop := boundsBallsRow.holds Try.pinned (OpenSpec.ofChange boundsBallsWrong)

/-- 'codewrightlaw34.BoundsGilbert': WHATEVER THE INPUT: true; the input reads as it did. -/
def boundsGilbertSpec : ChangeSpec := { name := "boundsGilbert", fn := fun _ => fun
  | [d1, d2, d3] => { results := [.lit (.bool true)], args := [d1, d2, d3] }
  | _ => none }
def boundsGilbertRow : OpenClaim := { program := "ytmihelfhofebpaa", sum := "7ea95ab939e748a23720877e9e9b402e49f754075cfae42bbe15d9d3b5cdd6e8", func := "codewright/codewrightlaw34.BoundsGilbert", spec := "boundsGilbert", apart := false }
def BoundsGilbertSaid : Prop := boundsGilbertRow.holds Try.pinned (OpenSpec.ofChange boundsGilbertSpec)

/-- ITS FALSE NEIGHBOUR: 'it returns false'. Refute it at one input. -/
def boundsGilbertWrong : ChangeSpec := { name := "boundsGilbert", fn := fun _ => fun
  | [d1, d2, d3] => { results := [.lit (.bool false)], args := [d1, d2, d3] }
  | _ => none }
def BoundsGilbertWrongFalsely : Prop := boundsGilbertRow.holds Try.pinned (OpenSpec.ofChange boundsGilbertWrong)

/-- 'codewrightlaw55.ChannelPatterns': WHATEVER THE INPUT: true; the input reads as it did. -/
def channelPatternsSpec : ChangeSpec := { name := "channelPatterns", fn := fun _ => fun
  | [d1, d2, d3] => { results := [.lit (.bool true)], args := [d1, d2, d3] }
  | _ => none }
def channelPatternsRow : OpenClaim := { program := "ytmihelfhofebpaa", sum := "7ea95ab939e748a23720877e9e9b402e49f754075cfae42bbe15d9d3b5cdd6e8", func := "codewright/codewrightlaw55.ChannelPatterns", spec := "channelPatterns", apart := false }
def ChannelPatternsSaid : Prop := channelPatternsRow.holds Try.pinned (OpenSpec.ofChange channelPatternsSpec)

/-- ITS FALSE NEIGHBOUR: 'it returns false'. Refute it at one input. -/
def channelPatternsWrong : ChangeSpec := { name := "channelPatterns", fn := fun _ => fun
  | [d1, d2, d3] => { results := [.lit (.bool false)], args := [d1, d2, d3] }
  | _ => none }
def ChannelPatternsWrongFalsely : Prop := channelPatternsRow.holds Try.pinned (OpenSpec.ofChange channelPatternsWrong)

/-- 'codewrightlaw34.BoundsPerfect': WHATEVER THE INPUT: true; the input reads as it did. -/
def boundsPerfectSpec : ChangeSpec := { name := "boundsPerfect", fn := fun _ => fun
  | [d1, d2] => { results := [.lit (.bool true)], args := [d1, d2] }
  | _ => none }
def boundsPerfectRow : OpenClaim := { program := "ytmihelfhofebpaa", sum := "7ea95ab939e748a23720877e9e9b402e49f754075cfae42bbe15d9d3b5cdd6e8", func := "codewright/codewrightlaw34.BoundsPerfect", spec := "boundsPerfect", apart := false }
def BoundsPerfectSaid : Prop := boundsPerfectRow.holds Try.pinned (OpenSpec.ofChange boundsPerfectSpec)

/-- ITS FALSE NEIGHBOUR: 'it returns false'. Refute it at one input. -/
def boundsPerfectWrong : ChangeSpec := { name := "boundsPerfect", fn := fun _ => fun
  | [d1, d2] => { results := [.lit (.bool false)], args := [d1, d2] }
  | _ => none }
def BoundsPerfectWrongFalsely : Prop := boundsPerfectRow.holds Try.pinned (OpenSpec.ofChange boundsPerfectWrong)

/-- 'codewrightlaw34.BoundsElias': WHATEVER THE INPUT: true; the input reads as it did. -/
def boundsEliasSpec : ChangeSpec := { name := "boundsElias", fn := fun _ => fun
  | [d1, d2, d3] => { results := [.lit (.bool true)], args := [d1, d2, d3] }
  | _ => none }
def boundsEliasRow : OpenClaim := { program := "ytmihelfhofebpaa", sum := "7ea95ab939e748a23720877e9e9b402e49f754075cfae42bbe15d9d3b5cdd6e8", func := "codewright/codewrightlaw34.BoundsElias", spec := "boundsElias", apart := false }
def BoundsEliasSaid : Prop := boundsEliasRow.holds Try.pinned (OpenSpec.ofChange boundsEliasSpec)

/-- ITS FALSE NEIGHBOUR: 'it returns false'. Refute it at one input. -/
def boundsEliasWrong : ChangeSpec := { name := "boundsElias", fn := fun _ => fun
  | [d1, d2, d3] => { results := [.lit (.bool false)], args := [d1, d2, d3] }
  | _ => none }
def BoundsEliasWrongFalsely : Prop := boundsEliasRow.holds Try.pinned (OpenSpec.ofChange boundsEliasWrong)

/-- 'codewrightlaw34.BoundsFormulas': WHATEVER THE INPUT: true; the input reads as it did. -/
def boundsFormulasSpec : ChangeSpec := { name := "boundsFormulas", fn := fun _ => fun
  | [d1, d2, d3] => { results := [.lit (.bool true)], args := [d1, d2, d3] }
  | _ => none }
def boundsFormulasRow : OpenClaim := { program := "ytmihelfhofebpaa", sum := "7ea95ab939e748a23720877e9e9b402e49f754075cfae42bbe15d9d3b5cdd6e8", func := "codewright/codewrightlaw34.BoundsFormulas", spec := "boundsFormulas", apart := false }
def BoundsFormulasSaid : Prop := boundsFormulasRow.holds Try.pinned (OpenSpec.ofChange boundsFormulasSpec)

/-- ITS FALSE NEIGHBOUR: 'it returns false'. Refute it at one input. -/
def boundsFormulasWrong : ChangeSpec := { name := "boundsFormulas", fn := fun _ => fun
  | [d1, d2, d3] => { results := [.lit (.bool false)], args := [d1, d2, d3] }
  | _ => none }
def BoundsFormulasWrongFalsely : Prop := boundsFormulasRow.holds Try.pinned (OpenSpec.ofChange boundsFormulasWrong)

/-- 'codewrightlaw34.BoundsWords': WHATEVER THE INPUT: true; the input reads as it did. -/
def boundsWordsSpec : ChangeSpec := { name := "boundsWords", fn := fun _ => fun
  | [d1, d2, d3] => { results := [.lit (.bool true)], args := [d1, d2, d3] }
  | _ => none }
def boundsWordsRow : OpenClaim := { program := "ytmihelfhofebpaa", sum := "7ea95ab939e748a23720877e9e9b402e49f754075cfae42bbe15d9d3b5cdd6e8", func := "codewright/codewrightlaw34.BoundsWords", spec := "boundsWords", apart := false }
def BoundsWordsSaid : Prop := boundsWordsRow.holds Try.pinned (OpenSpec.ofChange boundsWordsSpec)

/-- ITS FALSE NEIGHBOUR: 'it returns false'. Refute it at one input. -/
def boundsWordsWrong : ChangeSpec := { name := "boundsWords", fn := fun _ => fun
  | [d1, d2, d3] => { results := [.lit (.bool false)], args := [d1, d2, d3] }
  | _ => none }
def BoundsWordsWrongFalsely : Prop := boundsWordsRow.holds Try.pinned (OpenSpec.ofChange boundsWordsWrong)

/- THE SECOND FORM. 'bulk': how many values and letters a reading holds, each counted each time it is reached (what is shared counts as often as it is met; a slice's spare places count too). A statement '..UptoSaid' is the law's where the arguments, and the package variables that the reading takes, are together of bulk at most 1048576: NARROWER than '..Said'. Prove '..Said' where nothing that the law and all that it calls make is longer than what came in: it says more and counts as full. Else prove '..UptoSaid'. A law counts once. -/
mutual
def uptoBulk {H : Type} : DataW H → Nat
  | .lit (.string bytes) => bytes.length + 1
  | .lit _ => 1
  | .nil => 1
  | .ptr d => uptoBulk d + 1
  | .slice elems spare => uptoBulkAll elems + uptoBulkAll spare + 1
  | .agg parts => uptoBulkAll parts + 1
  | .iface _ d => uptoBulk d + 1
  | .map entries => uptoBulkEntries entries + 1
  | .held _ => 1
def uptoBulkAll {H : Type} : List (DataW H) → Nat
  | [] => 0
  | d :: r => uptoBulk d + uptoBulkAll r
def uptoBulkEntries {H : Type} : List (Lit × DataW H) → Nat
  | [] => 0
  | x :: r => uptoBulkEntry x + uptoBulkEntries r
def uptoBulkEntry {H : Type} : Lit × DataW H → Nat
  | (.string bytes, d) => bytes.length + uptoBulk d + 1
  | (_, d) => uptoBulk d + 1
 end
def uptoSmall : (H : Type) → List (DataW H) → Bool := fun _ ds => decide (uptoBulkAll ds ≤ 1048576)
def OpenSpec.upto (s : _root_.Go.ChangeSpec) : _root_.Go.OpenSpec := { _root_.Go.OpenSpec.ofChange s with cond := some uptoSmall }

/-- 'codewrightlaw34.BoundsGriesmer', WHERE WHAT IT READS IS OF BULK AT MOST 1048576: true; the input reads as it did. -/
def boundsGriesmerUptoRow : OpenClaim := { program := "ytmihelfhofebpaa", sum := "7ea95ab939e748a23720877e9e9b402e49f754075cfae42bbe15d9d3b5cdd6e8", func := "codewright/codewrightlaw34.BoundsGriesmer", spec := "boundsGriesmer", apart := false, narrowed := true }
def BoundsGriesmerUptoSaid : Prop := boundsGriesmerUptoRow.holds Try.pinned (OpenSpec.upto boundsGriesmerSpec)

/-- 'codewrightlaw34.BoundsLinear', WHERE WHAT IT READS IS OF BULK AT MOST 1048576: true; the input reads as it did. -/
def boundsLinearUptoRow : OpenClaim := { program := "ytmihelfhofebpaa", sum := "7ea95ab939e748a23720877e9e9b402e49f754075cfae42bbe15d9d3b5cdd6e8", func := "codewright/codewrightlaw34.BoundsLinear", spec := "boundsLinear", apart := false, narrowed := true }
def BoundsLinearUptoSaid : Prop := boundsLinearUptoRow.holds Try.pinned (OpenSpec.upto boundsLinearSpec)

/-- 'codewrightlaw34.BoundsVolumes', WHERE WHAT IT READS IS OF BULK AT MOST 1048576: true; the input reads as it did. -/
def boundsVolumesUptoRow : OpenClaim := { program := "ytmihelfhofebpaa", sum := "7ea95ab939e748a23720877e9e9b402e49f754075cfae42bbe15d9d3b5cdd6e8", func := "codewright/codewrightlaw34.BoundsVolumes", spec := "boundsVolumes", apart := false, narrowed := true }
def BoundsVolumesUptoSaid : Prop := boundsVolumesUptoRow.holds Try.pinned (OpenSpec.upto boundsVolumesSpec)

/-- 'codewrightlaw34.BoundsBalls', WHERE WHAT IT READS IS OF BULK AT MOST 1048576: true; the input reads as it did. -/
def boundsBallsUptoRow : OpenClaim := { program := "ytmihelfhofebpaa", sum := "7ea95ab939e748a23720877e9e9b402e49f754075cfae42bbe15d9d3b5cdd6e8", func := "codewright/codewrightlaw34.BoundsBalls", spec := "boundsBalls", apart := false, narrowed := true }
def BoundsBallsUptoSaid : Prop := boundsBallsUptoRow.holds Try.pinned (OpenSpec.upto boundsBallsSpec)

/-- 'codewrightlaw34.BoundsGilbert', WHERE WHAT IT READS IS OF BULK AT MOST 1048576: true; the input reads as it did. -/
def boundsGilbertUptoRow : OpenClaim := { program := "ytmihelfhofebpaa", sum := "7ea95ab939e748a23720877e9e9b402e49f754075cfae42bbe15d9d3b5cdd6e8", func := "codewright/codewrightlaw34.BoundsGilbert", spec := "boundsGilbert", apart := false, narrowed := true }
def BoundsGilbertUptoSaid : Prop := boundsGilbertUptoRow.holds Try.pinned (OpenSpec.upto boundsGilbertSpec)

/-- 'codewrightlaw55.ChannelPatterns', WHERE WHAT IT READS IS OF BULK AT MOST 1048576: true; the input reads as it did. -/
def channelPatternsUptoRow : OpenClaim := { program := "ytmihelfhofebpaa", sum := "7ea95ab939e748a23720877e9e9b402e49f754075cfae42bbe15d9d3b5cdd6e8", func := "codewright/codewrightlaw55.ChannelPatterns", spec := "channelPatterns", apart := false, narrowed := true }
def ChannelPatternsUptoSaid : Prop := channelPatternsUptoRow.holds Try.pinned (OpenSpec.upto channelPatternsSpec)

/-- 'codewrightlaw34.BoundsPerfect', WHERE WHAT IT READS IS OF BULK AT MOST 1048576: true; the input reads as it did. -/
def boundsPerfectUptoRow : OpenClaim := { program := "ytmihelfhofebpaa", sum := "7ea95ab939e748a23720877e9e9b402e49f754075cfae42bbe15d9d3b5cdd6e8", func := "codewright/codewrightlaw34.BoundsPerfect", spec := "boundsPerfect", apart := false, narrowed := true }
def BoundsPerfectUptoSaid : Prop := boundsPerfectUptoRow.holds Try.pinned (OpenSpec.upto boundsPerfectSpec)

/-- 'codewrightlaw34.BoundsElias', WHERE WHAT IT READS IS OF BULK AT MOST 1048576: true; the input reads as it did. -/
def boundsEliasUptoRow : OpenClaim := { program := "ytmihelfhofebpaa", sum := "7ea95ab939e748a23720877e9e9b402e49f754075cfae42bbe15d9d3b5cdd6e8", func := "codewright/codewrightlaw34.BoundsElias", spec := "boundsElias", apart := false, narrowed := true }
def BoundsEliasUptoSaid : Prop := boundsEliasUptoRow.holds Try.pinned (OpenSpec.upto boundsEliasSpec)

/-- 'codewrightlaw34.BoundsFormulas', WHERE WHAT IT READS IS OF BULK AT MOST 1048576: true; the input reads as it did. -/
def boundsFormulasUptoRow : OpenClaim := { program := "ytmihelfhofebpaa", sum := "7ea95ab939e748a23720877e9e9b402e49f754075cfae42bbe15d9d3b5cdd6e8", func := "codewright/codewrightlaw34.BoundsFormulas", spec := "boundsFormulas", apart := false, narrowed := true }
def BoundsFormulasUptoSaid : Prop := boundsFormulasUptoRow.holds Try.pinned (OpenSpec.upto boundsFormulasSpec)

/-- 'codewrightlaw34.BoundsWords', WHERE WHAT IT READS IS OF BULK AT MOST 1048576: true; the input reads as it did. -/
def boundsWordsUptoRow : OpenClaim := { program := "ytmihelfhofebpaa", sum := "7ea95ab939e748a23720877e9e9b402e49f754075cfae42bbe15d9d3b5cdd6e8", func := "codewright/codewrightlaw34.BoundsWords", spec := "boundsWords", apart := false, narrowed := true }
def BoundsWordsUptoSaid : Prop := boundsWordsUptoRow.holds Try.pinned (OpenSpec.upto boundsWordsSpec)

end Rows
end Go.Proofs.Ytmihelfhofebpaa
