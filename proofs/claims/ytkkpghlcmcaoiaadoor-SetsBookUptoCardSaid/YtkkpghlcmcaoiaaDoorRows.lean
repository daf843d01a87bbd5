/-
  NARROWER THAN 'FOR EVERY INPUT', by the rows' own cells (each row's printed sentence says how): SetsAsks: loops, laid · SetsMake: loops, laid · SetsBehind: loops, laid · SetsTurned: loops, laid · SetsHeads: loops, laid · SetsChecks: loops, laid · SetsClosed: loops, laid · SetsBook: loops, laid.
  DERIVED. THE GIVEN ROWS OF THIS SEAT. 8 by the template 'for every input the law returns true; each argument reads behind the call as it read before'; 0 by the template 'total and deterministic' (their statements: YtkkpghlcmcaoiaaDoorTotals.lean).
  GIVEN WITH THE SEED: the statements are not yours to turn. If you find one false, say at which input.
  Laid BY PROGRAM, IN A SANDBOX (cutbox-rows.mjs): the forced cells as the released guide's own fill.sh prints them over the translation 3908b11270c2e907… (all of the seat's roots in one cut). By AI agents, Wed Nov 11 2026. No macro, syntax, notation, axiom, sorry.
-/
import Derived.Test.YtkkpghlcmcaoiaaDoorChecked
import GoSem.Claim
import GoSem.ClaimJoined
import GoSem.ClaimMapViews
import Derived.JoinedTies
import Derived.KernelRfl
namespace Go.Proofs.YtkkpghlcmcaoiaaDoor
/- THE CELL 'sum', in the pinned program and in every row, IS THE sha256 OF THE DUMP (.gsa) THAT YtkkpghlcmcaoiaaDoorProg.lean LOADS. Nothing in Lean hashes anything: it is a label: what it is worth is what the hold of that sum in a sandbox is worth. -/
noncomputable def Tryd.pinned : Pinned := { name := "ytkkpghlcmcaoiaadoor", sum := "3908b11270c2e9077912a22200f2d28319369f135bed448babf1920348cdd590", checked := Tryd.checked }
namespace Rows
def none {H : Type} : Left H := { results := [], args := [] }

/- WHAT THE LISTED PACKAGE-LEVEL VARIABLES READ AS WHEN THE CALL BEGINS. Each datum BY PROGRAM (the guide's laid-datum.mjs) off the statement by which the dump's own 'gosem.cut.vars' lays the variable. In a bare row this is a premise. The card (YtkkpghlcmcaoiaaDoorCards.lean) ties it to the program's text. -/
def laid_math_bits_deBruijn64tab {H : Type} : DataW H := .agg [.lit (.int .u8 0), .lit (.int .u8 1), .lit (.int .u8 56), .lit (.int .u8 2), .lit (.int .u8 57), .lit (.int .u8 49), .lit (.int .u8 28), .lit (.int .u8 3), .lit (.int .u8 61), .lit (.int .u8 58), .lit (.int .u8 42), .lit (.int .u8 50), .lit (.int .u8 38), .lit (.int .u8 29), .lit (.int .u8 17), .lit (.int .u8 4), .lit (.int .u8 62), .lit (.int .u8 47), .lit (.int .u8 59), .lit (.int .u8 36), .lit (.int .u8 45), .lit (.int .u8 43), .lit (.int .u8 51), .lit (.int .u8 22), .lit (.int .u8 53), .lit (.int .u8 39), .lit (.int .u8 33), .lit (.int .u8 30), .lit (.int .u8 24), .lit (.int .u8 18), .lit (.int .u8 12), .lit (.int .u8 5), .lit (.int .u8 63), .lit (.int .u8 55), .lit (.int .u8 48), .lit (.int .u8 27), .lit (.int .u8 60), .lit (.int .u8 41), .lit (.int .u8 37), .lit (.int .u8 16), .lit (.int .u8 46), .lit (.int .u8 35), .lit (.int .u8 44), .lit (.int .u8 21), .lit (.int .u8 52), .lit (.int .u8 32), .lit (.int .u8 23), .lit (.int .u8 11), .lit (.int .u8 54), .lit (.int .u8 26), .lit (.int .u8 40), .lit (.int .u8 15), .lit (.int .u8 34), .lit (.int .u8 20), .lit (.int .u8 31), .lit (.int .u8 10), .lit (.int .u8 25), .lit (.int .u8 14), .lit (.int .u8 19), .lit (.int .u8 9), .lit (.int .u8 13), .lit (.int .u8 8), .lit (.int .u8 7), .lit (.int .u8 6)]

/-- 'graftlaw7.SetsAsks': WHATEVER THE INPUT: true; the input reads as it did. -/
def setsAsksSpec : ChangeSpec := { name := "setsAsks", fn := fun _ => fun
  | [d] => { results := [.lit (.bool true)], args := [d] }
  | _ => none }
def setsAsksRow : OpenClaim := { program := "ytkkpghlcmcaoiaadoor", sum := "3908b11270c2e9077912a22200f2d28319369f135bed448babf1920348cdd590", func := "graft/graftlaw7.SetsAsks", spec := "setsAsks", unfollowed := true, recurses := true, named := ["math/bits.deBruijn64tab"], loops := true, apart := false, laid := [("math/bits.deBruijn64tab", laid_math_bits_deBruijn64tab)] }
def SetsAsksSaid : Prop := setsAsksRow.holds Tryd.pinned (OpenSpec.ofChange setsAsksSpec)

/-- ITS FALSE NEIGHBOUR: 'it returns false'. Refute it at one input. -/
def setsAsksWrong : ChangeSpec := { name := "setsAsks", fn := fun _ => fun
  | [d] => { results := [.lit (.bool false)], args := [d] }
  | _ => none }
def SetsAsksWrongFalsely : Prop := setsAsksRow.holds Tryd.pinned (OpenSpec.ofChange setsAsksWrong)

/-- 'graftlaw7.SetsMake': WHATEVER THE INPUT: true; the input reads as it did. -/
def setsMakeSpec : ChangeSpec := { name := "setsMake", fn := fun _ => fun
  | [d1, d2, d3] => { results := [.lit (.bool true)], args := [d1, d2, d3] }
  | _ => none }
def setsMakeRow : OpenClaim := { program := "ytkkpghlcmcaoiaadoor", sum := "3908b11270c2e9077912a22200f2d28319369f135bed448babf1920348cdd590", func := "graft/graftlaw7.SetsMake", spec := "setsMake", unfollowed := true, recurses := true, named := ["math/bits.deBruijn64tab"], loops := true, apart := false, laid := [("math/bits.deBruijn64tab", laid_math_bits_deBruijn64tab)] }
def SetsMakeSaid : Prop := setsMakeRow.holds Tryd.pinned (OpenSpec.ofChange setsMakeSpec)

/-- ITS FALSE NEIGHBOUR: 'it returns false'. Refute it at one input. -/
def setsMakeWrong : ChangeSpec := { name := "setsMake", fn := fun _ => fun
  | [d1, d2, d3] => { results := [.lit (.bool false)], args := [d1, d2, d3] }
  | _ => none }
def SetsMakeWrongFalsely : Prop := setsMakeRow.holds Tryd.pinned (OpenSpec.ofChange setsMakeWrong)

/-- 'graftlaw7.SetsBehind': WHATEVER THE INPUT: true; the input reads as it did. -/
def setsBehindSpec : ChangeSpec := { name := "setsBehind", fn := fun _ => fun
  | [d1, d2] => { results := [.lit (.bool true)], args := [d1, d2] }
  | _ => none }
def setsBehindRow : OpenClaim := { program := "ytkkpghlcmcaoiaadoor", sum := "3908b11270c2e9077912a22200f2d28319369f135bed448babf1920348cdd590", func := "graft/graftlaw7.SetsBehind", spec := "setsBehind", unfollowed := true, recurses := true, named := ["math/bits.deBruijn64tab"], loops := true, apart := false, laid := [("math/bits.deBruijn64tab", laid_math_bits_deBruijn64tab)] }
def SetsBehindSaid : Prop := setsBehindRow.holds Tryd.pinned (OpenSpec.ofChange setsBehindSpec)

/-- ITS FALSE NEIGHBOUR: 'it returns false'. Refute it at one input. -/
def setsBehindWrong : ChangeSpec := { name := "setsBehind", fn := fun _ => fun
  | [d1, d2] => { results := [.lit (.bool false)], args := [d1, d2] }
  | _ => none }
def SetsBehindWrongFalsely : Prop := setsBehindRow.holds Tryd.pinned (OpenSpec.ofChange setsBehindWrong)

/-- 'graftlaw7.SetsTurned': WHATEVER THE INPUT: true; the input reads as it did. -/
def setsTurnedSpec : ChangeSpec := { name := "setsTurned", fn := fun _ => fun
  | [d1, d2, d3] => { results := [.lit (.bool true)], args := [d1, d2, d3] }
  | _ => none }
def setsTurnedRow : OpenClaim := { program := "ytkkpghlcmcaoiaadoor", sum := "3908b11270c2e9077912a22200f2d28319369f135bed448babf1920348cdd590", func := "graft/graftlaw7.SetsTurned", spec := "setsTurned", unfollowed := true, recurses := true, named := ["math/bits.deBruijn64tab"], loops := true, apart := false, laid := [("math/bits.deBruijn64tab", laid_math_bits_deBruijn64tab)] }
def SetsTurnedSaid : Prop := setsTurnedRow.holds Tryd.pinned (OpenSpec.ofChange setsTurnedSpec)

/-- ITS FALSE NEIGHBOUR: 'it returns false'. Refute it at one input. -/
def setsTurnedWrong : ChangeSpec := { name := "setsTurned", fn := fun _ => fun
  | [d1, d2, d3] => { results := [.lit (.bool false)], args := [d1, d2, d3] }
  | _ => none }
def SetsTurnedWrongFalsely : Prop := setsTurnedRow.holds Tryd.pinned (OpenSpec.ofChange setsTurnedWrong)

/-- 'graftlaw7.SetsHeads': WHATEVER THE INPUT: true; the input reads as it did. -/
def setsHeadsSpec : ChangeSpec := { name := "setsHeads", fn := fun _ => fun
  | [d1, d2] => { results := [.lit (.bool true)], args := [d1, d2] }
  | _ => none }
def setsHeadsRow : OpenClaim := { program := "ytkkpghlcmcaoiaadoor", sum := "3908b11270c2e9077912a22200f2d28319369f135bed448babf1920348cdd590", func := "graft/graftlaw7.SetsHeads", spec := "setsHeads", unfollowed := true, recurses := true, named := ["math/bits.deBruijn64tab"], loops := true, apart := false, laid := [("math/bits.deBruijn64tab", laid_math_bits_deBruijn64tab)] }
def SetsHeadsSaid : Prop := setsHeadsRow.holds Tryd.pinned (OpenSpec.ofChange setsHeadsSpec)

/-- ITS FALSE NEIGHBOUR: 'it returns false'. Refute it at one input. -/
def setsHeadsWrong : ChangeSpec := { name := "setsHeads", fn := fun _ => fun
  | [d1, d2] => { results := [.lit (.bool false)], args := [d1, d2] }
  | _ => none }
def SetsHeadsWrongFalsely : Prop := setsHeadsRow.holds Tryd.pinned (OpenSpec.ofChange setsHeadsWrong)

/-- 'graftlaw7.SetsChecks': WHATEVER THE INPUT: true; the input reads as it did. -/
def setsChecksSpec : ChangeSpec := { name := "setsChecks", fn := fun _ => fun
  | [d] => { results := [.lit (.bool true)], args := [d] }
  | _ => none }
def setsChecksRow : OpenClaim := { program := "ytkkpghlcmcaoiaadoor", sum := "3908b11270c2e9077912a22200f2d28319369f135bed448babf1920348cdd590", func := "graft/graftlaw7.SetsChecks", spec := "setsChecks", unfollowed := true, recurses := true, named := ["math/bits.deBruijn64tab"], loops := true, apart := false, laid := [("math/bits.deBruijn64tab", laid_math_bits_deBruijn64tab)] }
def SetsChecksSaid : Prop := setsChecksRow.holds Tryd.pinned (OpenSpec.ofChange setsChecksSpec)

/-- ITS FALSE NEIGHBOUR: 'it returns false'. Refute it at one input. -/
def setsChecksWrong : ChangeSpec := { name := "setsChecks", fn := fun _ => fun
  | [d] => { results := [.lit (.bool false)], args := [d] }
  | _ => none }
def SetsChecksWrongFalsely : Prop := setsChecksRow.holds Tryd.pinned (OpenSpec.ofChange setsChecksWrong)

/-- 'graftlaw7.SetsClosed': WHATEVER THE INPUT: true; the input reads as it did. -/
def setsClosedSpec : ChangeSpec := { name := "setsClosed", fn := fun _ => fun
  | [d] => { results := [.lit (.bool true)], args := [d] }
  | _ => none }
def setsClosedRow : OpenClaim := { program := "ytkkpghlcmcaoiaadoor", sum := "3908b11270c2e9077912a22200f2d28319369f135bed448babf1920348cdd590", func := "graft/graftlaw7.SetsClosed", spec := "setsClosed", unfollowed := true, recurses := true, named := ["math/bits.deBruijn64tab"], loops := true, apart := false, laid := [("math/bits.deBruijn64tab", laid_math_bits_deBruijn64tab)] }
def SetsClosedSaid : Prop := setsClosedRow.holds Tryd.pinned (OpenSpec.ofChange setsClosedSpec)

/-- ITS FALSE NEIGHBOUR: 'it returns false'. Refute it at one input. -/
def setsClosedWrong : ChangeSpec := { name := "setsClosed", fn := fun _ => fun
  | [d] => { results := [.lit (.bool false)], args := [d] }
  | _ => none }
def SetsClosedWrongFalsely : Prop := setsClosedRow.holds Tryd.pinned (OpenSpec.ofChange setsClosedWrong)

/-- 'graftlaw7.SetsBook': WHATEVER THE INPUT: true; the input reads as it did. -/
def setsBookSpec : ChangeSpec := { name := "setsBook", fn := fun _ => fun
  | [d] => { results := [.lit (.bool true)], args := [d] }
  | _ => none }
def setsBookRow : OpenClaim := { program := "ytkkpghlcmcaoiaadoor", sum := "3908b11270c2e9077912a22200f2d28319369f135bed448babf1920348cdd590", func := "graft/graftlaw7.SetsBook", spec := "setsBook", unfollowed := true, recurses := true, named := ["math/bits.deBruijn64tab"], loops := true, apart := false, laid := [("math/bits.deBruijn64tab", laid_math_bits_deBruijn64tab)] }
def SetsBookSaid : Prop := setsBookRow.holds Tryd.pinned (OpenSpec.ofChange setsBookSpec)

/-- ITS FALSE NEIGHBOUR: 'it returns false'. Refute it at one input. -/
def setsBookWrong : ChangeSpec := { name := "setsBook", fn := fun _ => fun
  | [d] => { results := [.lit (.bool false)], args := [d] }
  | _ => none }
def SetsBookWrongFalsely : Prop := setsBookRow.holds Tryd.pinned (OpenSpec.ofChange setsBookWrong)

/- THE SECOND FORM. 'bulk': how many values and letters a reading holds, each counted each time it is reached (what is shared counts as often as it is met; a slice's spare places count too). A statement '..UptoSaid' is the law's where the arguments, and the package variables that the reading takes, are together of bulk at most 1048576: NARROWER than '..Said'. Prove '..Said' where nothing that the law and all that it calls make is longer than what came in: it says more and counts as full. Else prove '..UptoSaid'. A law counts once. -/
mutual
def uptoBulk {H : Type} : DataW H → Nat
  | .lit (.string bytes) => bytes.length + 1
  | .lit _ => 1
  | .nil => 1
  | .ptr d => uptoBulk d + 1
  | .slice elems spare => uptoBulkAll elems + uptoBulkAll spare + 1
  | .agg parts => uptoBulkAll parts + 1
  | .iface _ d => uptoBulk d + 1
  | .map entries => uptoBulkEntries entries + 1
  | .held _ => 1
def uptoBulkAll {H : Type} : List (DataW H) → Nat
  | [] => 0
  | d :: r => uptoBulk d + uptoBulkAll r
def uptoBulkEntries {H : Type} : List (Lit × DataW H) → Nat
  | [] => 0
  | x :: r => uptoBulkEntry x + uptoBulkEntries r
def uptoBulkEntry {H : Type} : Lit × DataW H → Nat
  | (.string bytes, d) => bytes.length + uptoBulk d + 1
  | (_, d) => uptoBulk d + 1
 end
def uptoSmall : (H : Type) → List (DataW H) → Bool := fun _ ds => decide (uptoBulkAll ds ≤ 1048576)
def OpenSpec.upto (s : _root_.Go.ChangeSpec) : _root_.Go.OpenSpec := { _root_.Go.OpenSpec.ofChange s with cond := some uptoSmall }

/-- 'graftlaw7.SetsAsks', WHERE WHAT IT READS IS OF BULK AT MOST 1048576: true; the input reads as it did. -/
def setsAsksUptoRow : OpenClaim := { program := "ytkkpghlcmcaoiaadoor", sum := "3908b11270c2e9077912a22200f2d28319369f135bed448babf1920348cdd590", func := "graft/graftlaw7.SetsAsks", spec := "setsAsks", unfollowed := true, recurses := true, named := ["math/bits.deBruijn64tab"], loops := true, apart := false, laid := [("math/bits.deBruijn64tab", laid_math_bits_deBruijn64tab)], narrowed := true }
def SetsAsksUptoSaid : Prop := setsAsksUptoRow.holds Tryd.pinned (OpenSpec.upto setsAsksSpec)

/-- 'graftlaw7.SetsMake', WHERE WHAT IT READS IS OF BULK AT MOST 1048576: true; the input reads as it did. -/
def setsMakeUptoRow : OpenClaim := { program := "ytkkpghlcmcaoiaadoor", sum := "3908b11270c2e9077912a22200f2d28319369f135bed448babf1920348cdd590", func := "graft/graftlaw7.SetsMake", spec := "setsMake", unfollowed := true, recurses := true, named := ["math/bits.deBruijn64tab"], loops := true, apart := false, laid := [("math/bits.deBruijn64tab", laid_math_bits_deBruijn64tab)], narrowed := true }
def SetsMakeUptoSaid : Prop := setsMakeUptoRow.holds Tryd.pinned (OpenSpec.upto setsMakeSpec)

/-- 'graftlaw7.SetsBehind', WHERE WHAT IT READS IS OF BULK AT MOST 1048576: true; the input reads as it did. -/
def setsBehindUptoRow : OpenClaim := { program := "ytkkpghlcmcaoiaadoor", sum := "3908b11270c2e9077912a22200f2d28319369f135bed448babf1920348cdd590", func := "graft/graftlaw7.SetsBehind", spec := "setsBehind", unfollowed := true, recurses := true, named := ["math/bits.deBruijn64tab"], loops := true, apart := false, laid := [("math/bits.deBruijn64tab", laid_math_bits_deBruijn64tab)], narrowed := true }
def SetsBehindUptoSaid : Prop := setsBehindUptoRow.holds Tryd.pinned (OpenSpec.upto setsBehindSpec)

/-- 'graftlaw7.SetsTurned', WHERE WHAT IT READS IS OF BULK AT MOST 1048576: true; the input reads as it did. -/
def setsTurnedUptoRow : OpenClaim := { program := "ytkkpghlcmcaoiaadoor", sum := "3908b11270c2e9077912a22200f2d28319369f135bed448babf1920348cdd590", func := "graft/graftlaw7.SetsTurned", spec := "setsTurned", unfollowed := true, recurses := true, named := ["math/bits.deBruijn64tab"], loops := true, apart := false, laid := [("math/bits.deBruijn64tab", laid_math_bits_deBruijn64tab)], narrowed := true }
def SetsTurnedUptoSaid : Prop := setsTurnedUptoRow.holds Tryd.pinned (OpenSpec.upto setsTurnedSpec)

/-- 'graftlaw7.SetsHeads', WHERE WHAT IT READS IS OF BULK AT MOST 1048576: true; the input reads as it did. -/
def setsHeadsUptoRow : OpenClaim := { program := "ytkkpghlcmcaoiaadoor", sum := "3908b11270c2e9077912a22200f2d28319369f135bed448babf1920348cdd590", func := "graft/graftlaw7.SetsHeads", spec := "setsHeads", unfollowed := true, recurses := true, named := ["math/bits.deBruijn64tab"], loops := true, apart := false, laid := [("math/bits.deBruijn64tab", laid_math_bits_deBruijn64tab)], narrowed := true }
def SetsHeadsUptoSaid : Prop := setsHeadsUptoRow.holds Tryd.pinned (OpenSpec.upto setsHeadsSpec)

/-- 'graftlaw7.SetsChecks', WHERE WHAT IT READS IS OF BULK AT MOST 1048576: true; the input reads as it did. -/
def setsChecksUptoRow : OpenClaim := { program := "ytkkpghlcmcaoiaadoor", sum := "3908b11270c2e9077912a22200f2d28319369f135bed448babf1920348cdd590", func := "graft/graftlaw7.SetsChecks", spec := "setsChecks", unfollowed := true, recurses := true, named := ["math/bits.deBruijn64tab"], loops := true, apart := false, laid := [("math/bits.deBruijn64tab", laid_math_bits_deBruijn64tab)], narrowed := true }
def SetsChecksUptoSaid : Prop := setsChecksUptoRow.holds Tryd.pinned (OpenSpec.upto setsChecksSpec)

/-- 'graftlaw7.SetsClosed', WHERE WHAT IT READS IS OF BULK AT MOST 1048576: true; the input reads as it did. -/
def setsClosedUptoRow : OpenClaim := { program := "ytkkpghlcmcaoiaadoor", sum := "3908b11270c2e9077912a22200f2d28319369f135bed448babf1920348cdd590", func := "graft/graftlaw7.SetsClosed", spec := "setsClosed", unfollowed := true, recurses := true, named := ["math/bits.deBruijn64tab"], loops := true, apart := false, laid := [("math/bits.deBruijn64tab", laid_math_bits_deBruijn64tab)], narrowed := true }
def SetsClosedUptoSaid : Prop := setsClosedUptoRow.holds Tryd.pinned (OpenSpec.upto setsClosedSpec)

/-- 'graftlaw7.SetsBook', WHERE WHAT IT READS IS OF BULK AT MOST 1048576: true; the input reads as it did. -/
def setsBookUptoRow : OpenClaim := { program := "ytkkpghlcmcaoiaadoor", sum := "3908b11270c2e9077912a22200f2d28319369f135bed448babf1920348cdd590", func := "graft/graftlaw7.SetsBook", spec := "setsBook", unfollowed := true, recurses := true, named := ["math/bits.deBruijn64tab"], loops := true, apart := false, laid := [("math/bits.deBruijn64tab", laid_math_bits_deBruijn64tab)], narrowed := true }
def SetsBookUptoSaid : Prop := setsBookUptoRow.holds Tryd.pinned (OpenSpec.upto setsBookSpec)

end Rows
end Go.Proofs.YtkkpghlcmcaoiaaDoor
