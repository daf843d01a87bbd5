/-
  No cell of these rows narrows 'for every input' (looked for: loops, veiled, ifaces, maps, wideKeys, modest, calm, conditions, laid).
  DERIVED. THE GIVEN ROWS OF THIS SEAT. 9 by the template 'for every input the law returns true; each argument reads behind the call as it read before'; 0 by the template 'total and deterministic' (their statements: YtpglmeeledmkoaaTotals.lean).
  GIVEN WITH THE SEED: the statements are not yours to turn. If you find one false, say at which input.
  Laid BY PROGRAM, IN A SANDBOX (cutbox-rows.mjs): the forced cells as the released guide's own fill.sh prints them over the translation d56ae38bbf1990c2… (all of the seat's roots in one cut). By AI agents, Wed Nov 11 2026. No macro, syntax, notation, axiom, sorry.
-/
import Derived.Test.YtpglmeeledmkoaaChecked
import GoSem.Claim
import GoSem.ClaimJoined
import GoSem.ClaimMapViews
import Derived.JoinedTies
import Derived.KernelRfl
namespace Go.Proofs.Ytpglmeeledmkoaa
/- THE CELL 'sum', in the pinned program and in every row, IS THE sha256 OF THE DUMP (.gsa) THAT YtpglmeeledmkoaaProg.lean LOADS. Nothing in Lean hashes anything: it is a label: what it is worth is what the hold of that sum in a sandbox is worth. -/
noncomputable def Try.pinned : Pinned := { name := "ytpglmeeledmkoaa", sum := "d56ae38bbf1990c269c818e3ec9bd17f83cf96d4626f35adf0409be1689f825d", checked := Try.checked }
namespace Rows
def none {H : Type} : Left H := { results := [], args := [] }

/-- 'graftlaw10.TreeNames': WHATEVER THE INPUT: true; the input reads as it did. -/
def treeNamesSpec : ChangeSpec := { name := "treeNames", fn := fun _ => fun
  | [] => { results := [.lit (.bool true)], args := [] }
  | _ => none }
def treeNamesRow : OpenClaim := { program := "ytpglmeeledmkoaa", sum := "d56ae38bbf1990c269c818e3ec9bd17f83cf96d4626f35adf0409be1689f825d", func := "graft/graftlaw10.TreeNames", spec := "treeNames", apart := false }
def TreeNamesSaid : Prop := treeNamesRow.holds Try.pinned (OpenSpec.ofChange treeNamesSpec)

/-- ITS FALSE NEIGHBOUR: 'it returns false'. Refute it at one input. -/
def treeNamesWrong : ChangeSpec := { name := "treeNames", fn := fun _ => fun
  | [] => { results := [.lit (.bool false)], args := [] }
  | _ => none }
def TreeNamesWrongFalsely : Prop := treeNamesRow.holds Try.pinned (OpenSpec.ofChange treeNamesWrong)

/-- 'graftlaw10.TreeWalks': WHATEVER THE INPUT: true; the input reads as it did. -/
def treeWalksSpec : ChangeSpec := { name := "treeWalks", fn := fun _ => fun
  | [d1, d2] => { results := [.lit (.bool true)], args := [d1, d2] }
  | _ => none }
def treeWalksRow : OpenClaim := { program := "ytpglmeeledmkoaa", sum := "d56ae38bbf1990c269c818e3ec9bd17f83cf96d4626f35adf0409be1689f825d", func := "graft/graftlaw10.TreeWalks", spec := "treeWalks", inPlace := ["sync/atomic.AddInt64"], unfollowed := true, recurses := true, apart := false }
def TreeWalksSaid : Prop := treeWalksRow.holds Try.pinned (OpenSpec.ofChange treeWalksSpec)

/-- ITS FALSE NEIGHBOUR: 'it returns false'. Refute it at one input. -/
def treeWalksWrong : ChangeSpec := { name := "treeWalks", fn := fun _ => fun
  | [d1, d2] => { results := [.lit (.bool false)], args := [d1, d2] }
  | _ => none }
def TreeWalksWrongFalsely : Prop := treeWalksRow.holds Try.pinned (OpenSpec.ofChange treeWalksWrong)

/-- 'graftlaw10.TreeFull': WHATEVER THE INPUT: true; the input reads as it did. -/
def treeFullSpec : ChangeSpec := { name := "treeFull", fn := fun _ => fun
  | [d1, d2] => { results := [.lit (.bool true)], args := [d1, d2] }
  | _ => none }
def treeFullRow : OpenClaim := { program := "ytpglmeeledmkoaa", sum := "d56ae38bbf1990c269c818e3ec9bd17f83cf96d4626f35adf0409be1689f825d", func := "graft/graftlaw10.TreeFull", spec := "treeFull", inPlace := ["sync/atomic.AddInt64"], unfollowed := true, recurses := true, apart := false }
def TreeFullSaid : Prop := treeFullRow.holds Try.pinned (OpenSpec.ofChange treeFullSpec)

/-- ITS FALSE NEIGHBOUR: 'it returns false'. Refute it at one input. -/
def treeFullWrong : ChangeSpec := { name := "treeFull", fn := fun _ => fun
  | [d1, d2] => { results := [.lit (.bool false)], args := [d1, d2] }
  | _ => none }
def TreeFullWrongFalsely : Prop := treeFullRow.holds Try.pinned (OpenSpec.ofChange treeFullWrong)

/-- 'graftlaw10.TreeRows': WHATEVER THE INPUT: true; the input reads as it did. -/
def treeRowsSpec : ChangeSpec := { name := "treeRows", fn := fun _ => fun
  | [d] => { results := [.lit (.bool true)], args := [d] }
  | _ => none }
def treeRowsRow : OpenClaim := { program := "ytpglmeeledmkoaa", sum := "d56ae38bbf1990c269c818e3ec9bd17f83cf96d4626f35adf0409be1689f825d", func := "graft/graftlaw10.TreeRows", spec := "treeRows", inPlace := ["sync/atomic.AddInt64"], unfollowed := true, recurses := true, apart := false }
def TreeRowsSaid : Prop := treeRowsRow.holds Try.pinned (OpenSpec.ofChange treeRowsSpec)

/-- ITS FALSE NEIGHBOUR: 'it returns false'. Refute it at one input. -/
def treeRowsWrong : ChangeSpec := { name := "treeRows", fn := fun _ => fun
  | [d] => { results := [.lit (.bool false)], args := [d] }
  | _ => none }
def TreeRowsWrongFalsely : Prop := treeRowsRow.holds Try.pinned (OpenSpec.ofChange treeRowsWrong)

/-- 'graftlaw10.TreeMakes': WHATEVER THE INPUT: true; the input reads as it did. -/
def treeMakesSpec : ChangeSpec := { name := "treeMakes", fn := fun _ => fun
  | [d] => { results := [.lit (.bool true)], args := [d] }
  | _ => none }
def treeMakesRow : OpenClaim := { program := "ytpglmeeledmkoaa", sum := "d56ae38bbf1990c269c818e3ec9bd17f83cf96d4626f35adf0409be1689f825d", func := "graft/graftlaw10.TreeMakes", spec := "treeMakes", inPlace := ["sync/atomic.AddInt64"], unfollowed := true, recurses := true, apart := false }
def TreeMakesSaid : Prop := treeMakesRow.holds Try.pinned (OpenSpec.ofChange treeMakesSpec)

/-- ITS FALSE NEIGHBOUR: 'it returns false'. Refute it at one input. -/
def treeMakesWrong : ChangeSpec := { name := "treeMakes", fn := fun _ => fun
  | [d] => { results := [.lit (.bool false)], args := [d] }
  | _ => none }
def TreeMakesWrongFalsely : Prop := treeMakesRow.holds Try.pinned (OpenSpec.ofChange treeMakesWrong)

/-- 'graftlaw10.TreeDeep': WHATEVER THE INPUT: true; the input reads as it did. -/
def treeDeepSpec : ChangeSpec := { name := "treeDeep", fn := fun _ => fun
  | [d] => { results := [.lit (.bool true)], args := [d] }
  | _ => none }
def treeDeepRow : OpenClaim := { program := "ytpglmeeledmkoaa", sum := "d56ae38bbf1990c269c818e3ec9bd17f83cf96d4626f35adf0409be1689f825d", func := "graft/graftlaw10.TreeDeep", spec := "treeDeep", inPlace := ["sync/atomic.AddInt64"], unfollowed := true, recurses := true, apart := false }
def TreeDeepSaid : Prop := treeDeepRow.holds Try.pinned (OpenSpec.ofChange treeDeepSpec)

/-- ITS FALSE NEIGHBOUR: 'it returns false'. Refute it at one input. -/
def treeDeepWrong : ChangeSpec := { name := "treeDeep", fn := fun _ => fun
  | [d] => { results := [.lit (.bool false)], args := [d] }
  | _ => none }
def TreeDeepWrongFalsely : Prop := treeDeepRow.holds Try.pinned (OpenSpec.ofChange treeDeepWrong)

/-- 'graftlaw10.TreePaths': WHATEVER THE INPUT: true; the input reads as it did. -/
def treePathsSpec : ChangeSpec := { name := "treePaths", fn := fun _ => fun
  | [d] => { results := [.lit (.bool true)], args := [d] }
  | _ => none }
def treePathsRow : OpenClaim := { program := "ytpglmeeledmkoaa", sum := "d56ae38bbf1990c269c818e3ec9bd17f83cf96d4626f35adf0409be1689f825d", func := "graft/graftlaw10.TreePaths", spec := "treePaths", inPlace := ["sync/atomic.AddInt64"], unfollowed := true, recurses := true, apart := false }
def TreePathsSaid : Prop := treePathsRow.holds Try.pinned (OpenSpec.ofChange treePathsSpec)

/-- ITS FALSE NEIGHBOUR: 'it returns false'. Refute it at one input. -/
def treePathsWrong : ChangeSpec := { name := "treePaths", fn := fun _ => fun
  | [d] => { results := [.lit (.bool false)], args := [d] }
  | _ => none }
def TreePathsWrongFalsely : Prop := treePathsRow.holds Try.pinned (OpenSpec.ofChange treePathsWrong)

/-- 'graftlaw10.TreeBook': WHATEVER THE INPUT: true; the input reads as it did. -/
def treeBookSpec : ChangeSpec := { name := "treeBook", fn := fun _ => fun
  | [d1, d2] => { results := [.lit (.bool true)], args := [d1, d2] }
  | _ => none }
def treeBookRow : OpenClaim := { program := "ytpglmeeledmkoaa", sum := "d56ae38bbf1990c269c818e3ec9bd17f83cf96d4626f35adf0409be1689f825d", func := "graft/graftlaw10.TreeBook", spec := "treeBook", inPlace := ["sync/atomic.AddInt64"], unfollowed := true, recurses := true, apart := false }
def TreeBookSaid : Prop := treeBookRow.holds Try.pinned (OpenSpec.ofChange treeBookSpec)

/-- ITS FALSE NEIGHBOUR: 'it returns false'. Refute it at one input. -/
def treeBookWrong : ChangeSpec := { name := "treeBook", fn := fun _ => fun
  | [d1, d2] => { results := [.lit (.bool false)], args := [d1, d2] }
  | _ => none }
def TreeBookWrongFalsely : Prop := treeBookRow.holds Try.pinned (OpenSpec.ofChange treeBookWrong)

/-- 'graftlaw10.TreeCursors': WHATEVER THE INPUT: true; the input reads as it did. -/
def treeCursorsSpec : ChangeSpec := { name := "treeCursors", fn := fun _ => fun
  | [d1, d2] => { results := [.lit (.bool true)], args := [d1, d2] }
  | _ => none }
def treeCursorsRow : OpenClaim := { program := "ytpglmeeledmkoaa", sum := "d56ae38bbf1990c269c818e3ec9bd17f83cf96d4626f35adf0409be1689f825d", func := "graft/graftlaw10.TreeCursors", spec := "treeCursors", inPlace := ["sync/atomic.AddInt64"], unfollowed := true, recurses := true, apart := false }
def TreeCursorsSaid : Prop := treeCursorsRow.holds Try.pinned (OpenSpec.ofChange treeCursorsSpec)

/-- ITS FALSE NEIGHBOUR: 'it returns false'. Refute it at one input. -/
def treeCursorsWrong : ChangeSpec := { name := "treeCursors", fn := fun _ => fun
  | [d1, d2] => { results := [.lit (.bool false)], args := [d1, d2] }
  | _ => none }
def TreeCursorsWrongFalsely : Prop := treeCursorsRow.holds Try.pinned (OpenSpec.ofChange treeCursorsWrong)

/- THE SECOND FORM. 'bulk': how many values and letters a reading holds, each counted each time it is reached (what is shared counts as often as it is met; a slice's spare places count too). A statement '..UptoSaid' is the law's where the arguments, and the package variables that the reading takes, are together of bulk at most 1048576: NARROWER than '..Said'. Prove '..Said' where nothing that the law and all that it calls make is longer than what came in: it says more and counts as full. Else prove '..UptoSaid'. A law counts once. -/
mutual
def uptoBulk {H : Type} : DataW H → Nat
  | .lit (.string bytes) => bytes.length + 1
  | .lit _ => 1
  | .nil => 1
  | .ptr d => uptoBulk d + 1
  | .slice elems spare => uptoBulkAll elems + uptoBulkAll spare + 1
  | .agg parts => uptoBulkAll parts + 1
  | .iface _ d => uptoBulk d + 1
  | .map entries => uptoBulkEntries entries + 1
  | .held _ => 1
def uptoBulkAll {H : Type} : List (DataW H) → Nat
  | [] => 0
  | d :: r => uptoBulk d + uptoBulkAll r
def uptoBulkEntries {H : Type} : List (Lit × DataW H) → Nat
  | [] => 0
  | x :: r => uptoBulkEntry x + uptoBulkEntries r
def uptoBulkEntry {H : Type} : Lit × DataW H → Nat
  | (.string bytes, d) => bytes.length + uptoBulk d + 1
  | (_, d) => uptoBulk d + 1
 end
def uptoSmall : (H : Type) → List (DataW H) → Bool := fun _ ds => decide (uptoBulkAll ds ≤ 1048576)
def OpenSpec.upto (s : _root_.Go.ChangeSpec) : _root_.Go.OpenSpec := { _root_.Go.OpenSpec.ofChange s with cond := some uptoSmall }

/-- 'graftlaw10.TreeNames', WHERE WHAT IT READS IS OF BULK AT MOST 1048576: true; the input reads as it did. -/
def treeNamesUptoRow : OpenClaim := { program := "ytpglmeeledmkoaa", sum := "d56ae38bbf1990c269c818e3ec9bd17f83cf96d4626f35adf0409be1689f825d", func := "graft/graftlaw10.TreeNames", spec := "treeNames", apart := false, narrowed := true }
def TreeNamesUptoSaid : Prop := treeNamesUptoRow.holds Try.pinned (OpenSpec.upto treeNamesSpec)

/-- 'graftlaw10.TreeWalks', WHERE WHAT IT READS IS OF BULK AT MOST 1048576: true; the input reads as it did. -/
def treeWalksUptoRow : OpenClaim := { program := "ytpglmeeledmkoaa", sum := "d56ae38bbf1990c269c818e3ec9bd17f83cf96d4626f35adf0409be1689f825d", func := "graft/graftlaw10.TreeWalks", spec := "treeWalks", inPlace := ["sync/atomic.AddInt64"], unfollowed := true, recurses := true, apart := false, narrowed := true }
def TreeWalksUptoSaid : Prop := treeWalksUptoRow.holds Try.pinned (OpenSpec.upto treeWalksSpec)

/-- 'graftlaw10.TreeFull', WHERE WHAT IT READS IS OF BULK AT MOST 1048576: true; the input reads as it did. -/
def treeFullUptoRow : OpenClaim := { program := "ytpglmeeledmkoaa", sum := "d56ae38bbf1990c269c818e3ec9bd17f83cf96d4626f35adf0409be1689f825d", func := "graft/graftlaw10.TreeFull", spec := "treeFull", inPlace := ["sync/atomic.AddInt64"], unfollowed := true, recurses := true, apart := false, narrowed := true }
def TreeFullUptoSaid : Prop := treeFullUptoRow.holds Try.pinned (OpenSpec.upto treeFullSpec)

/-- 'graftlaw10.TreeRows', WHERE WHAT IT READS IS OF BULK AT MOST 1048576: true; the input reads as it did. -/
def treeRowsUptoRow : OpenClaim := { program := "ytpglmeeledmkoaa", sum := "d56ae38bbf1990c269c818e3ec9bd17f83cf96d4626f35adf0409be1689f825d", func := "graft/graftlaw10.TreeRows", spec := "treeRows", inPlace := ["sync/atomic.AddInt64"], unfollowed := true, recurses := true, apart := false, narrowed := true }
def TreeRowsUptoSaid : Prop := treeRowsUptoRow.holds Try.pinned (OpenSpec.upto treeRowsSpec)

/-- 'graftlaw10.TreeMakes', WHERE WHAT IT READS IS OF BULK AT MOST 1048576: true; the input reads as it did. -/
def treeMakesUptoRow : OpenClaim := { program := "ytpglmeeledmkoaa", sum := "d56ae38bbf1990c269c818e3ec9bd17f83cf96d4626f35adf0409be1689f825d", func := "graft/graftlaw10.TreeMakes", spec := "treeMakes", inPlace := ["sync/atomic.AddInt64"], unfollowed := true, recurses := true, apart := false, narrowed := true }
def TreeMakesUptoSaid : Prop := treeMakesUptoRow.holds Try.pinned (OpenSpec.upto treeMakesSpec)

/-- 'graftlaw10.TreeDeep', WHERE WHAT IT READS IS OF BULK AT MOST 1048576: true; the input reads as it did. -/
def treeDeepUptoRow : OpenClaim := { program := "ytpglmeeledmkoaa", sum := "d56ae38bbf1990c269c818e3ec9bd17f83cf96d4626f35adf0409be1689f825d", func := "graft/graftlaw10.TreeDeep", spec := "treeDeep", inPlace := ["sync/atomic.AddInt64"], unfollowed := true, recurses := true, apart := false, narrowed := true }
def TreeDeepUptoSaid : Prop := treeDeepUptoRow.holds Try.pinned (OpenSpec.upto treeDeepSpec)

/-- 'graftlaw10.TreePaths', WHERE WHAT IT READS IS OF BULK AT MOST 1048576: true; the input reads as it did. -/
def treePathsUptoRow : OpenClaim := { program := "ytpglmeeledmkoaa", sum := "d56ae38bbf1990c269c818e3ec9bd17f83cf96d4626f35adf0409be1689f825d", func := "graft/graftlaw10.TreePaths", spec := "treePaths", inPlace := ["sync/atomic.AddInt64"], unfollowed := true, recurses := true, apart := false, narrowed := true }
def TreePathsUptoSaid : Prop := treePathsUptoRow.holds Try.pinned (OpenSpec.upto treePathsSpec)

/-- 'graftlaw10.TreeBook', WHERE WHAT IT READS IS OF BULK AT MOST 1048576: true; the input reads as it did. -/
def treeBookUptoRow : OpenClaim := { program := "ytpglmeeledmkoaa", sum := "d56ae38bbf1990c269c818e3ec9bd17f83cf96d4626f35adf0409be1689f825d", func := "graft/graftlaw10.TreeBook", spec := "treeBook", inPlace := ["sync/atomic.AddInt64"], unfollowed := true, recurses := true, apart := false, narrowed := true }
def TreeBookUptoSaid : Prop := treeBookUptoRow.holds Try.pinned (OpenSpec.upto treeBookSpec)

/-- 'graftlaw10.TreeCursors', WHERE WHAT IT READS IS OF BULK AT MOST 1048576: true; the input reads as it did. -/
def treeCursorsUptoRow : OpenClaim := { program := "ytpglmeeledmkoaa", sum := "d56ae38bbf1990c269c818e3ec9bd17f83cf96d4626f35adf0409be1689f825d", func := "graft/graftlaw10.TreeCursors", spec := "treeCursors", inPlace := ["sync/atomic.AddInt64"], unfollowed := true, recurses := true, apart := false, narrowed := true }
def TreeCursorsUptoSaid : Prop := treeCursorsUptoRow.holds Try.pinned (OpenSpec.upto treeCursorsSpec)

end Rows
end Go.Proofs.Ytpglmeeledmkoaa
