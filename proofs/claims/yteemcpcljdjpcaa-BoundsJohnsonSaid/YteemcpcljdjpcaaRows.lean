/-
  No cell of these rows narrows 'for every input' (looked for: loops, veiled, ifaces, maps, wideKeys, modest, calm, conditions, laid).
  DERIVED. THE GIVEN ROWS OF THIS SEAT. 4 by the template 'for every input the law returns true; each argument reads behind the call as it read before'; 0 by the template 'total and deterministic' (their statements: YteemcpcljdjpcaaTotals.lean).
  GIVEN WITH THE SEED: the statements are not yours to turn. If you find one false, say at which input.
  Laid BY PROGRAM, IN A SANDBOX (cutbox-rows.mjs): the forced cells as the released guide's own fill.sh prints them over the translation 6e4be53b93d4c69e… (all of the seat's roots in one cut). By AI agents, Wed Nov 11 2026. No macro, syntax, notation, axiom, sorry.
-/
import Derived.Test.YteemcpcljdjpcaaChecked
import GoSem.Claim
import GoSem.ClaimJoined
import GoSem.ClaimMapViews
import Derived.JoinedTies
import Derived.KernelRfl
namespace Go.Proofs.Yteemcpcljdjpcaa
/- THE CELL 'sum', in the pinned program and in every row, IS THE sha256 OF THE DUMP (.gsa) THAT YteemcpcljdjpcaaProg.lean LOADS. Nothing in Lean hashes anything: it is a label: what it is worth is what the hold of that sum in a sandbox is worth. -/
noncomputable def Try.pinned : Pinned := { name := "yteemcpcljdjpcaa", sum := "6e4be53b93d4c69e2b2ee3a5cd4772ebf241850e4a4027b5d70113dca1d0f162", checked := Try.checked }
namespace Rows
def none {H : Type} : Left H := { results := [], args := [] }

/-- 'codewrightlaw34.BoundsPerfect': WHATEVER THE INPUT: true; the input reads as it did. -/
def boundsPerfectSpec : ChangeSpec := { name := "boundsPerfect", fn := fun _ => fun
  | [d1, d2] => { results := [.lit (.bool true)], args := [d1, d2] }
  | _ => none }
def boundsPerfectRow : OpenClaim := { program := "yteemcpcljdjpcaa", sum := "6e4be53b93d4c69e2b2ee3a5cd4772ebf241850e4a4027b5d70113dca1d0f162", func := "codewright/codewrightlaw34.BoundsPerfect", spec := "boundsPerfect", apart := false }
def BoundsPerfectSaid : Prop := boundsPerfectRow.holds Try.pinned (OpenSpec.ofChange boundsPerfectSpec)

/-- ITS FALSE NEIGHBOUR: 'it returns false'. Refute it at one input. -/
def boundsPerfectWrong : ChangeSpec := { name := "boundsPerfect", fn := fun _ => fun
  | [d1, d2] => { results := [.lit (.bool false)], args := [d1, d2] }
  | _ => none }
def BoundsPerfectWrongFalsely : Prop := boundsPerfectRow.holds Try.pinned (OpenSpec.ofChange boundsPerfectWrong)

/-- 'codewrightlaw34.BoundsElias': WHATEVER THE INPUT: true; the input reads as it did. -/
def boundsEliasSpec : ChangeSpec := { name := "boundsElias", fn := fun _ => fun
  | [d1, d2, d3] => { results := [.lit (.bool true)], args := [d1, d2, d3] }
  | _ => none }
def boundsEliasRow : OpenClaim := { program := "yteemcpcljdjpcaa", sum := "6e4be53b93d4c69e2b2ee3a5cd4772ebf241850e4a4027b5d70113dca1d0f162", func := "codewright/codewrightlaw34.BoundsElias", spec := "boundsElias", apart := false }
def BoundsEliasSaid : Prop := boundsEliasRow.holds Try.pinned (OpenSpec.ofChange boundsEliasSpec)

/-- ITS FALSE NEIGHBOUR: 'it returns false'. Refute it at one input. -/
def boundsEliasWrong : ChangeSpec := { name := "boundsElias", fn := fun _ => fun
  | [d1, d2, d3] => { results := [.lit (.bool false)], args := [d1, d2, d3] }
  | _ => none }
def BoundsEliasWrongFalsely : Prop := boundsEliasRow.holds Try.pinned (OpenSpec.ofChange boundsEliasWrong)

/-- 'codewrightlaw34.BoundsFormulas': WHATEVER THE INPUT: true; the input reads as it did. -/
def boundsFormulasSpec : ChangeSpec := { name := "boundsFormulas", fn := fun _ => fun
  | [d1, d2, d3] => { results := [.lit (.bool true)], args := [d1, d2, d3] }
  | _ => none }
def boundsFormulasRow : OpenClaim := { program := "yteemcpcljdjpcaa", sum := "6e4be53b93d4c69e2b2ee3a5cd4772ebf241850e4a4027b5d70113dca1d0f162", func := "codewright/codewrightlaw34.BoundsFormulas", spec := "boundsFormulas", apart := false }
def BoundsFormulasSaid : Prop := boundsFormulasRow.holds Try.pinned (OpenSpec.ofChange boundsFormulasSpec)

/-- ITS FALSE NEIGHBOUR: 'it returns false'. Refute it at one input. -/
def boundsFormulasWrong : ChangeSpec := { name := "boundsFormulas", fn := fun _ => fun
  | [d1, d2, d3] => { results := [.lit (.bool false)], args := [d1, d2, d3] }
  | _ => none }
def BoundsFormulasWrongFalsely : Prop := boundsFormulasRow.holds Try.pinned (OpenSpec.ofChange boundsFormulasWrong)

/-- 'codewrightlaw34.BoundsJohnson': WHATEVER THE INPUT: true; the input reads as it did. -/
def boundsJohnsonSpec : ChangeSpec := { name := "boundsJohnson", fn := fun _ => fun
  | [d1, d2, d3] => { results := [.lit (.bool true)], args := [d1, d2, d3] }
  | _ => none }
def boundsJohnsonRow : OpenClaim := { program := "yteemcpcljdjpcaa", sum := "6e4be53b93d4c69e2b2ee3a5cd4772ebf241850e4a4027b5d70113dca1d0f162", func := "codewright/codewrightlaw34.BoundsJohnson", spec := "boundsJohnson", recurses := true, apart := false }
def BoundsJohnsonSaid : Prop := boundsJohnsonRow.holds Try.pinned (OpenSpec.ofChange boundsJohnsonSpec)

/-- ITS FALSE NEIGHBOUR: 'it returns false'. Refute it at one input. -/
def boundsJohnsonWrong : ChangeSpec := { name := "boundsJohnson", fn := fun _ => fun
  | [d1, d2, d3] => { results := [.lit (.bool false)], args := [d1, d2, d3] }
  | _ => none }
def BoundsJohnsonWrongFalsely : Prop := boundsJohnsonRow.holds Try.pinned (OpenSpec.ofChange boundsJohnsonWrong)

/- THE SECOND FORM. 'bulk': how many values and letters a reading holds, each counted each time it is reached (what is shared counts as often as it is met; a slice's spare places count too). A statement '..UptoSaid' is the law's where the arguments, and the package variables that the reading takes, are together of bulk at most 1048576: NARROWER than '..Said'. Prove '..Said' where nothing that the law and all that it calls make is longer than what came in: it says more and counts as full. Else prove '..UptoSaid'. A law counts once. -/
mutual
def uptoBulk {H : Type} : DataW H → Nat
  | .lit (.string bytes) => bytes.length + 1
  | .lit _ => 1
  | .nil => 1
  | .ptr d => uptoBulk d + 1
  | .slice elems spare => uptoBulkAll elems + uptoBulkAll spare + 1
  | .agg parts => uptoBulkAll parts + 1
  | .iface _ d => uptoBulk d + 1
  | .map entries => uptoBulkEntries entries + 1
  | .held _ => 1
def uptoBulkAll {H : Type} : List (DataW H) → Nat
  | [] => 0
  | d :: r => uptoBulk d + uptoBulkAll r
def uptoBulkEntries {H : Type} : List (Lit × DataW H) → Nat
  | [] => 0
  | x :: r => uptoBulkEntry x + uptoBulkEntries r
def uptoBulkEntry {H : Type} : Lit × DataW H → Nat
  | (.string bytes, d) => bytes.length + uptoBulk d + 1
  | (_, d) => uptoBulk d + 1
 end
def uptoSmall : (H : Type) → List (DataW H) → Bool := fun _ ds => decide (uptoBulkAll ds ≤ 1048576)
def OpenSpec.upto (s : _root_.Go.ChangeSpec) : _root_.Go.OpenSpec := { _root_.Go.OpenSpec.ofChange s with cond := some uptoSmall }

/-- 'codewrightlaw34.BoundsPerfect', WHERE WHAT IT READS IS OF BULK AT MOST 1048576: true; the input reads as it did. -/
def boundsPerfectUptoRow : OpenClaim := { program := "yteemcpcljdjpcaa", sum := "6e4be53b93d4c69e2b2ee3a5cd4772ebf241850e4a4027b5d70113dca1d0f162", func := "codewright/codewrightlaw34.BoundsPerfect", spec := "boundsPerfect", apart := false, narrowed := true }
def BoundsPerfectUptoSaid : Prop := boundsPerfectUptoRow.holds Try.pinned (OpenSpec.upto boundsPerfectSpec)

/-- 'codewrightlaw34.BoundsElias', WHERE WHAT IT READS IS OF BULK AT MOST 1048576: true; the input reads as it did. -/
def boundsEliasUptoRow : OpenClaim := { program := "yteemcpcljdjpcaa", sum := "6e4be53b93d4c69e2b2ee3a5cd4772ebf241850e4a4027b5d70113dca1d0f162", func := "codewright/codewrightlaw34.BoundsElias", spec := "boundsElias", apart := false, narrowed := true }
def BoundsEliasUptoSaid : Prop := boundsEliasUptoRow.holds Try.pinned (OpenSpec.upto boundsEliasSpec)

/-- 'codewrightlaw34.BoundsFormulas', WHERE WHAT IT READS IS OF BULK AT MOST 1048576: true; the input reads as it did. -/
def boundsFormulasUptoRow : OpenClaim := { program := "yteemcpcljdjpcaa", sum := "6e4be53b93d4c69e2b2ee3a5cd4772ebf241850e4a4027b5d70113dca1d0f162", func := "codewright/codewrightlaw34.BoundsFormulas", spec := "boundsFormulas", apart := false, narrowed := true }
def BoundsFormulasUptoSaid : Prop := boundsFormulasUptoRow.holds Try.pinned (OpenSpec.upto boundsFormulasSpec)

/-- 'codewrightlaw34.BoundsJohnson', WHERE WHAT IT READS IS OF BULK AT MOST 1048576: true; the input reads as it did. -/
def boundsJohnsonUptoRow : OpenClaim := { program := "yteemcpcljdjpcaa", sum := "6e4be53b93d4c69e2b2ee3a5cd4772ebf241850e4a4027b5d70113dca1d0f162", func := "codewright/codewrightlaw34.BoundsJohnson", spec := "boundsJohnson", recurses := true, apart := false, narrowed := true }
def BoundsJohnsonUptoSaid : Prop := boundsJohnsonUptoRow.holds Try.pinned (OpenSpec.upto boundsJohnsonSpec)

end Rows
end Go.Proofs.Yteemcpcljdjpcaa
