/-
  No cell of these rows narrows 'for every input' (looked for: loops, veiled, ifaces, maps, wideKeys, modest, calm, conditions, laid).
  DERIVED. THE GIVEN ROWS OF THIS SEAT. 9 by the template 'for every input the law returns true; each argument reads behind the call as it read before'; 0 by the template 'total and deterministic' (their statements: YtkdbfjomjlhfbaaTotals.lean).
  GIVEN WITH THE SEED: the statements are not yours to turn. If you find one false, say at which input.
  Laid BY PROGRAM, IN A SANDBOX (cutbox-rows.mjs): the forced cells as the released guide's own fill.sh prints them over the translation fce2d02fe72b3d45… (all of the seat's roots in one cut). By AI agents, Wed Nov 11 2026. No macro, syntax, notation, axiom, sorry.
-/
import Derived.Test.YtkdbfjomjlhfbaaChecked
import GoSem.Claim
import GoSem.ClaimJoined
import GoSem.ClaimMapViews
import Derived.JoinedTies
import Derived.KernelRfl
namespace Go.Proofs.Ytkdbfjomjlhfbaa
/- THE CELL 'sum', in the pinned program and in every row, IS THE sha256 OF THE DUMP (.gsa) THAT YtkdbfjomjlhfbaaProg.lean LOADS. Nothing in Lean hashes anything: it is a label: what it is worth is what the hold of that sum in a sandbox is worth. -/
noncomputable def Try.pinned : Pinned := { name := "ytkdbfjomjlhfbaa", sum := "fce2d02fe72b3d458af9172572276718307b0fbe6414b2965dccaea4ace1221f", checked := Try.checked }
namespace Rows
def none {H : Type} : Left H := { results := [], args := [] }

/-- 'graftlaw1.RopeNames': WHATEVER THE INPUT: true; the input reads as it did. -/
def ropeNamesSpec : ChangeSpec := { name := "ropeNames", fn := fun _ => fun
  | [] => { results := [.lit (.bool true)], args := [] }
  | _ => none }
def ropeNamesRow : OpenClaim := { program := "ytkdbfjomjlhfbaa", sum := "fce2d02fe72b3d458af9172572276718307b0fbe6414b2965dccaea4ace1221f", func := "graft/graftlaw1.RopeNames", spec := "ropeNames", apart := false }
def RopeNamesSaid : Prop := ropeNamesRow.holds Try.pinned (OpenSpec.ofChange ropeNamesSpec)

/-- ITS FALSE NEIGHBOUR: 'it returns false'. Refute it at one input. -/
def ropeNamesWrong : ChangeSpec := { name := "ropeNames", fn := fun _ => fun
  | [] => { results := [.lit (.bool false)], args := [] }
  | _ => none }
def RopeNamesWrongFalsely : Prop := ropeNamesRow.holds Try.pinned (OpenSpec.ofChange ropeNamesWrong)

/-- 'graftlaw1.RopeTurns': WHATEVER THE INPUT: true; the input reads as it did. -/
def ropeTurnsSpec : ChangeSpec := { name := "ropeTurns", fn := fun _ => fun
  | [d1, d2] => { results := [.lit (.bool true)], args := [d1, d2] }
  | _ => none }
def ropeTurnsRow : OpenClaim := { program := "ytkdbfjomjlhfbaa", sum := "fce2d02fe72b3d458af9172572276718307b0fbe6414b2965dccaea4ace1221f", func := "graft/graftlaw1.RopeTurns", spec := "ropeTurns", inPlace := ["internal/bytealg.Count", "internal/bytealg.IndexByte", "internal/bytealg.Index"], unfollowed := true, recurses := true, named := ["internal/bytealg.MaxLen"], apart := false }
def RopeTurnsSaid : Prop := ropeTurnsRow.holds Try.pinned (OpenSpec.ofChange ropeTurnsSpec)

/-- ITS FALSE NEIGHBOUR: 'it returns false'. Refute it at one input. -/
def ropeTurnsWrong : ChangeSpec := { name := "ropeTurns", fn := fun _ => fun
  | [d1, d2] => { results := [.lit (.bool false)], args := [d1, d2] }
  | _ => none }
def RopeTurnsWrongFalsely : Prop := ropeTurnsRow.holds Try.pinned (OpenSpec.ofChange ropeTurnsWrong)

/-- 'graftlaw1.RopeBig': WHATEVER THE INPUT: true; the input reads as it did. -/
def ropeBigSpec : ChangeSpec := { name := "ropeBig", fn := fun _ => fun
  | [d1, d2] => { results := [.lit (.bool true)], args := [d1, d2] }
  | _ => none }
def ropeBigRow : OpenClaim := { program := "ytkdbfjomjlhfbaa", sum := "fce2d02fe72b3d458af9172572276718307b0fbe6414b2965dccaea4ace1221f", func := "graft/graftlaw1.RopeBig", spec := "ropeBig", inPlace := ["internal/bytealg.Count", "internal/bytealg.IndexByte", "internal/bytealg.Index"], unfollowed := true, recurses := true, named := ["internal/bytealg.MaxLen"], apart := false }
def RopeBigSaid : Prop := ropeBigRow.holds Try.pinned (OpenSpec.ofChange ropeBigSpec)

/-- ITS FALSE NEIGHBOUR: 'it returns false'. Refute it at one input. -/
def ropeBigWrong : ChangeSpec := { name := "ropeBig", fn := fun _ => fun
  | [d1, d2] => { results := [.lit (.bool false)], args := [d1, d2] }
  | _ => none }
def RopeBigWrongFalsely : Prop := ropeBigRow.holds Try.pinned (OpenSpec.ofChange ropeBigWrong)

/-- 'graftlaw1.RopePlays': WHATEVER THE INPUT: true; the input reads as it did. -/
def ropePlaysSpec : ChangeSpec := { name := "ropePlays", fn := fun _ => fun
  | [d] => { results := [.lit (.bool true)], args := [d] }
  | _ => none }
def ropePlaysRow : OpenClaim := { program := "ytkdbfjomjlhfbaa", sum := "fce2d02fe72b3d458af9172572276718307b0fbe6414b2965dccaea4ace1221f", func := "graft/graftlaw1.RopePlays", spec := "ropePlays", inPlace := ["internal/bytealg.Count", "internal/bytealg.IndexByte", "internal/bytealg.Index"], unfollowed := true, recurses := true, named := ["internal/bytealg.MaxLen"], apart := false }
def RopePlaysSaid : Prop := ropePlaysRow.holds Try.pinned (OpenSpec.ofChange ropePlaysSpec)

/-- ITS FALSE NEIGHBOUR: 'it returns false'. Refute it at one input. -/
def ropePlaysWrong : ChangeSpec := { name := "ropePlays", fn := fun _ => fun
  | [d] => { results := [.lit (.bool false)], args := [d] }
  | _ => none }
def RopePlaysWrongFalsely : Prop := ropePlaysRow.holds Try.pinned (OpenSpec.ofChange ropePlaysWrong)

/-- 'graftlaw1.RopeRows': WHATEVER THE INPUT: true; the input reads as it did. -/
def ropeRowsSpec : ChangeSpec := { name := "ropeRows", fn := fun _ => fun
  | [d1, d2] => { results := [.lit (.bool true)], args := [d1, d2] }
  | _ => none }
def ropeRowsRow : OpenClaim := { program := "ytkdbfjomjlhfbaa", sum := "fce2d02fe72b3d458af9172572276718307b0fbe6414b2965dccaea4ace1221f", func := "graft/graftlaw1.RopeRows", spec := "ropeRows", inPlace := ["internal/bytealg.Count", "internal/bytealg.IndexByte", "internal/bytealg.Index"], unfollowed := true, recurses := true, named := ["internal/bytealg.MaxLen"], apart := false }
def RopeRowsSaid : Prop := ropeRowsRow.holds Try.pinned (OpenSpec.ofChange ropeRowsSpec)

/-- ITS FALSE NEIGHBOUR: 'it returns false'. Refute it at one input. -/
def ropeRowsWrong : ChangeSpec := { name := "ropeRows", fn := fun _ => fun
  | [d1, d2] => { results := [.lit (.bool false)], args := [d1, d2] }
  | _ => none }
def RopeRowsWrongFalsely : Prop := ropeRowsRow.holds Try.pinned (OpenSpec.ofChange ropeRowsWrong)

/-- 'graftlaw1.RopeChunks': WHATEVER THE INPUT: true; the input reads as it did. -/
def ropeChunksSpec : ChangeSpec := { name := "ropeChunks", fn := fun _ => fun
  | [d1, d2, d3] => { results := [.lit (.bool true)], args := [d1, d2, d3] }
  | _ => none }
def ropeChunksRow : OpenClaim := { program := "ytkdbfjomjlhfbaa", sum := "fce2d02fe72b3d458af9172572276718307b0fbe6414b2965dccaea4ace1221f", func := "graft/graftlaw1.RopeChunks", spec := "ropeChunks", inPlace := ["internal/bytealg.Count", "internal/bytealg.IndexByte", "internal/bytealg.Index"], unfollowed := true, recurses := true, named := ["internal/bytealg.MaxLen"], apart := false }
def RopeChunksSaid : Prop := ropeChunksRow.holds Try.pinned (OpenSpec.ofChange ropeChunksSpec)

/-- ITS FALSE NEIGHBOUR: 'it returns false'. Refute it at one input. -/
def ropeChunksWrong : ChangeSpec := { name := "ropeChunks", fn := fun _ => fun
  | [d1, d2, d3] => { results := [.lit (.bool false)], args := [d1, d2, d3] }
  | _ => none }
def RopeChunksWrongFalsely : Prop := ropeChunksRow.holds Try.pinned (OpenSpec.ofChange ropeChunksWrong)

/-- 'graftlaw1.RopeSplice': WHATEVER THE INPUT: true; the input reads as it did. -/
def ropeSpliceSpec : ChangeSpec := { name := "ropeSplice", fn := fun _ => fun
  | [d1, d2, d3, d4] => { results := [.lit (.bool true)], args := [d1, d2, d3, d4] }
  | _ => none }
def ropeSpliceRow : OpenClaim := { program := "ytkdbfjomjlhfbaa", sum := "fce2d02fe72b3d458af9172572276718307b0fbe6414b2965dccaea4ace1221f", func := "graft/graftlaw1.RopeSplice", spec := "ropeSplice", inPlace := ["internal/bytealg.Count", "internal/bytealg.IndexByte", "internal/bytealg.Index"], unfollowed := true, recurses := true, named := ["internal/bytealg.MaxLen"], apart := false }
def RopeSpliceSaid : Prop := ropeSpliceRow.holds Try.pinned (OpenSpec.ofChange ropeSpliceSpec)

/-- ITS FALSE NEIGHBOUR: 'it returns false'. Refute it at one input. -/
def ropeSpliceWrong : ChangeSpec := { name := "ropeSplice", fn := fun _ => fun
  | [d1, d2, d3, d4] => { results := [.lit (.bool false)], args := [d1, d2, d3, d4] }
  | _ => none }
def RopeSpliceWrongFalsely : Prop := ropeSpliceRow.holds Try.pinned (OpenSpec.ofChange ropeSpliceWrong)

/-- 'graftlaw1.RopeBook': WHATEVER THE INPUT: true; the input reads as it did. -/
def ropeBookSpec : ChangeSpec := { name := "ropeBook", fn := fun _ => fun
  | [d1, d2] => { results := [.lit (.bool true)], args := [d1, d2] }
  | _ => none }
def ropeBookRow : OpenClaim := { program := "ytkdbfjomjlhfbaa", sum := "fce2d02fe72b3d458af9172572276718307b0fbe6414b2965dccaea4ace1221f", func := "graft/graftlaw1.RopeBook", spec := "ropeBook", inPlace := ["internal/bytealg.Count", "internal/bytealg.IndexByte", "internal/bytealg.Index"], unfollowed := true, recurses := true, named := ["internal/bytealg.MaxLen"], apart := false }
def RopeBookSaid : Prop := ropeBookRow.holds Try.pinned (OpenSpec.ofChange ropeBookSpec)

/-- ITS FALSE NEIGHBOUR: 'it returns false'. Refute it at one input. -/
def ropeBookWrong : ChangeSpec := { name := "ropeBook", fn := fun _ => fun
  | [d1, d2] => { results := [.lit (.bool false)], args := [d1, d2] }
  | _ => none }
def RopeBookWrongFalsely : Prop := ropeBookRow.holds Try.pinned (OpenSpec.ofChange ropeBookWrong)

/-- 'graftlaw1.RopeReads': WHATEVER THE INPUT: true; the input reads as it did. -/
def ropeReadsSpec : ChangeSpec := { name := "ropeReads", fn := fun _ => fun
  | [d1, d2, d3, d4, d5, d6] => { results := [.lit (.bool true)], args := [d1, d2, d3, d4, d5, d6] }
  | _ => none }
def ropeReadsRow : OpenClaim := { program := "ytkdbfjomjlhfbaa", sum := "fce2d02fe72b3d458af9172572276718307b0fbe6414b2965dccaea4ace1221f", func := "graft/graftlaw1.RopeReads", spec := "ropeReads", inPlace := ["internal/bytealg.Count", "internal/bytealg.IndexByte", "internal/bytealg.Index"], unfollowed := true, recurses := true, named := ["internal/bytealg.MaxLen"], apart := false }
def RopeReadsSaid : Prop := ropeReadsRow.holds Try.pinned (OpenSpec.ofChange ropeReadsSpec)

/-- ITS FALSE NEIGHBOUR: 'it returns false'. Refute it at one input. -/
def ropeReadsWrong : ChangeSpec := { name := "ropeReads", fn := fun _ => fun
  | [d1, d2, d3, d4, d5, d6] => { results := [.lit (.bool false)], args := [d1, d2, d3, d4, d5, d6] }
  | _ => none }
def RopeReadsWrongFalsely : Prop := ropeReadsRow.holds Try.pinned (OpenSpec.ofChange ropeReadsWrong)

/- THE SECOND FORM. 'bulk': how many values and letters a reading holds, each counted each time it is reached (what is shared counts as often as it is met; a slice's spare places count too). A statement '..UptoSaid' is the law's where the arguments, and the package variables that the reading takes, are together of bulk at most 1048576: NARROWER than '..Said'. Prove '..Said' where nothing that the law and all that it calls make is longer than what came in: it says more and counts as full. Else prove '..UptoSaid'. A law counts once. -/
mutual
def uptoBulk {H : Type} : DataW H → Nat
  | .lit (.string bytes) => bytes.length + 1
  | .lit _ => 1
  | .nil => 1
  | .ptr d => uptoBulk d + 1
  | .slice elems spare => uptoBulkAll elems + uptoBulkAll spare + 1
  | .agg parts => uptoBulkAll parts + 1
  | .iface _ d => uptoBulk d + 1
  | .map entries => uptoBulkEntries entries + 1
  | .held _ => 1
def uptoBulkAll {H : Type} : List (DataW H) → Nat
  | [] => 0
  | d :: r => uptoBulk d + uptoBulkAll r
def uptoBulkEntries {H : Type} : List (Lit × DataW H) → Nat
  | [] => 0
  | x :: r => uptoBulkEntry x + uptoBulkEntries r
def uptoBulkEntry {H : Type} : Lit × DataW H → Nat
  | (.string bytes, d) => bytes.length + uptoBulk d + 1
  | (_, d) => uptoBulk d + 1
 end
def uptoSmall : (H : Type) → List (DataW H) → Bool := fun _ ds => decide (uptoBulkAll ds ≤ 1048576)
def OpenSpec.upto (s : _root_.Go.ChangeSpec) : _root_.Go.OpenSpec := { _root_.Go.OpenSpec.ofChange s with cond := some uptoSmall }

/-- 'graftlaw1.RopeNames', WHERE WHAT IT READS IS OF BULK AT MOST 1048576: true; the input reads as it did. -/
def ropeNamesUptoRow : OpenClaim := { program := "ytkdbfjomjlhfbaa", sum := "fce2d02fe72b3d458af9172572276718307b0fbe6414b2965dccaea4ace1221f", func := "graft/graftlaw1.RopeNames", spec := "ropeNames", apart := false, narrowed := true }
def RopeNamesUptoSaid : Prop := ropeNamesUptoRow.holds Try.pinned (OpenSpec.upto ropeNamesSpec)

/-- 'graftlaw1.RopeTurns', WHERE WHAT IT READS IS OF BULK AT MOST 1048576: true; the input reads as it did. -/
def ropeTurnsUptoRow : OpenClaim := { program := "ytkdbfjomjlhfbaa", sum := "fce2d02fe72b3d458af9172572276718307b0fbe6414b2965dccaea4ace1221f", func := "graft/graftlaw1.RopeTurns", spec := "ropeTurns", inPlace := ["internal/bytealg.Count", "internal/bytealg.IndexByte", "internal/bytealg.Index"], unfollowed := true, recurses := true, named := ["internal/bytealg.MaxLen"], apart := false, narrowed := true }
def RopeTurnsUptoSaid : Prop := ropeTurnsUptoRow.holds Try.pinned (OpenSpec.upto ropeTurnsSpec)

/-- 'graftlaw1.RopeBig', WHERE WHAT IT READS IS OF BULK AT MOST 1048576: true; the input reads as it did. -/
def ropeBigUptoRow : OpenClaim := { program := "ytkdbfjomjlhfbaa", sum := "fce2d02fe72b3d458af9172572276718307b0fbe6414b2965dccaea4ace1221f", func := "graft/graftlaw1.RopeBig", spec := "ropeBig", inPlace := ["internal/bytealg.Count", "internal/bytealg.IndexByte", "internal/bytealg.Index"], unfollowed := true, recurses := true, named := ["internal/bytealg.MaxLen"], apart := false, narrowed := true }
def RopeBigUptoSaid : Prop := ropeBigUptoRow.holds Try.pinned (OpenSpec.upto ropeBigSpec)

/-- 'graftlaw1.RopePlays', WHERE WHAT IT READS IS OF BULK AT MOST 1048576: true; the input reads as it did. -/
def ropePlaysUptoRow : OpenClaim := { program := "ytkdbfjomjlhfbaa", sum := "fce2d02fe72b3d458af9172572276718307b0fbe6414b2965dccaea4ace1221f", func := "graft/graftlaw1.RopePlays", spec := "ropePlays", inPlace := ["internal/bytealg.Count", "internal/bytealg.IndexByte", "internal/bytealg.Index"], unfollowed := true, recurses := true, named := ["internal/bytealg.MaxLen"], apart := false, narrowed := true }
def RopePlaysUptoSaid : Prop := ropePlaysUptoRow.holds Try.pinned (OpenSpec.upto ropePlaysSpec)

/-- 'graftlaw1.RopeRows', WHERE WHAT IT READS IS OF BULK AT MOST 1048576: true; the input reads as it did. -/
def ropeRowsUptoRow : OpenClaim := { program := "ytkdbfjomjlhfbaa", sum := "fce2d02fe72b3d458af9172572276718307b0fbe6414b2965dccaea4ace1221f", func := "graft/graftlaw1.RopeRows", spec := "ropeRows", inPlace := ["internal/bytealg.Count", "internal/bytealg.IndexByte", "internal/bytealg.Index"], unfollowed := true, recurses := true, named := ["internal/bytealg.MaxLen"], apart := false, narrowed := true }
def RopeRowsUptoSaid : Prop := ropeRowsUptoRow.holds Try.pinned (OpenSpec.upto ropeRowsSpec)

/-- 'graftlaw1.RopeChunks', WHERE WHAT IT READS IS OF BULK AT MOST 1048576: true; the input reads as it did. -/
def ropeChunksUptoRow : OpenClaim := { program := "ytkdbfjomjlhfbaa", sum := "fce2d02fe72b3d458af9172572276718307b0fbe6414b2965dccaea4ace1221f", func := "graft/graftlaw1.RopeChunks", spec := "ropeChunks", inPlace := ["internal/bytealg.Count", "internal/bytealg.IndexByte", "internal/bytealg.Index"], unfollowed := true, recurses := true, named := ["internal/bytealg.MaxLen"], apart := false, narrowed := true }
def RopeChunksUptoSaid : Prop := ropeChunksUptoRow.holds Try.pinned (OpenSpec.upto ropeChunksSpec)

/-- 'graftlaw1.RopeSplice', WHERE WHAT IT READS IS OF BULK AT MOST 1048576: true; the input reads as it did. -/
def ropeSpliceUptoRow : OpenClaim := { program := "ytkdbfjomjlhfbaa", sum := "fce2d02fe72b3d458af9172572276718307b0fbe6414b2965dccaea4ace1221f", func := "graft/graftlaw1.RopeSplice", spec := "ropeSplice", inPlace := ["internal/bytealg.Count", "internal/bytealg.IndexByte", "internal/bytealg.Index"], unfollowed := true, recurses := true, named := ["internal/bytealg.MaxLen"], apart := false, narrowed := true }
def RopeSpliceUptoSaid : Prop := ropeSpliceUptoRow.holds Try.pinned (OpenSpec.upto ropeSpliceSpec)

/-- 'graftlaw1.RopeBook', WHERE WHAT IT READS IS OF BULK AT MOST 1048576: true; the input reads as it did. -/
def ropeBookUptoRow : OpenClaim := { program := "ytkdbfjomjlhfbaa", sum := "fce2d02fe72b3d458af9172572276718307b0fbe6414b2965dccaea4ace1221f", func := "graft/graftlaw1.RopeBook", spec := "ropeBook", inPlace := ["internal/bytealg.Count", "internal/bytealg.IndexByte", "internal/bytealg.Index"], unfollowed := true, recurses := true, named := ["internal/bytealg.MaxLen"], apart := false, narrowed := true }
def RopeBookUptoSaid : Prop := ropeBookUptoRow.holds Try.pinned (OpenSpec.upto ropeBookSpec)

/-- 'graftlaw1.RopeReads', WHERE WHAT IT READS IS OF BULK AT MOST 1048576: true; the input reads as it did. -/
def ropeReadsUptoRow : OpenClaim := { program := "ytkdbfjomjlhfbaa", sum := "fce2d02fe72b3d458af9172572276718307b0fbe6414b2965dccaea4ace1221f", func := "graft/graftlaw1.RopeReads", spec := "ropeReads", inPlace := ["internal/bytealg.Count", "internal/bytealg.IndexByte", "internal/bytealg.Index"], unfollowed := true, recurses := true, named := ["internal/bytealg.MaxLen"], apart := false, narrowed := true }
def RopeReadsUptoSaid : Prop := ropeReadsUptoRow.holds Try.pinned (OpenSpec.upto ropeReadsSpec)

end Rows
end Go.Proofs.Ytkdbfjomjlhfbaa
