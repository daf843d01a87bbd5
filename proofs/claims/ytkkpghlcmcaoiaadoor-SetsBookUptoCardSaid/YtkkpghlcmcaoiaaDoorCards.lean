/-
  DERIVED. GIVEN WITH THE SEED: THE CARDS: each row of YtkkpghlcmcaoiaaDoorRows.lean that lists a variable, with what it lists TIED to the program's text (the seventh form; the later family's looks); each row that meets fmt, with fmt's text TOLD by the authors' own Lean function (tested against real Go, not proved from fmt's source: count such statements apart). THE CARD IS WHAT COUNTS. Prove the row's statement (the work); the ties are given (YtkkpghlcmcaoiaaDoorTie.lean); close each card by the builder's one call (the guide's Derived/Test/ToyasCard.lean, 'card_holds'). Laid BY PROGRAM, IN A SANDBOX (cutbox-door.mjs). By AI agents, Wed Nov 11 2026. No macro, syntax, notation, axiom, sorry.
-/
import Derived.Test.YtkkpghlcmcaoiaaDoorRows
import GoSem.ClaimSeven
namespace Go.Proofs.YtkkpghlcmcaoiaaDoor
namespace Rows

/-- THE TIED CARD OF 'graftlaw7.SetsAsks'. -/
def setsAsksCard : Claim7 := { stood := { row := setsAsksRow, standIns := [], harness := (true, "4fcf08bbd18a90258ec678b312ad5c96be8699579935c5a24a37d3522ec9d954"), looks := false }, kinds := [], alts := [], laidByText := true, laidKinds := [.data], laidTests := true, laidLooks := .later }
def SetsAsksCardSaid : Prop := Claim7.holds Tryd.pinned (.plain (OpenSpec.ofChange setsAsksSpec)) setsAsksCard

/-- THE TIED CARD OF 'graftlaw7.SetsMake'. -/
def setsMakeCard : Claim7 := { stood := { row := setsMakeRow, standIns := [], harness := (true, "4fcf08bbd18a90258ec678b312ad5c96be8699579935c5a24a37d3522ec9d954"), looks := false }, kinds := [], alts := [], laidByText := true, laidKinds := [.data], laidTests := true, laidLooks := .later }
def SetsMakeCardSaid : Prop := Claim7.holds Tryd.pinned (.plain (OpenSpec.ofChange setsMakeSpec)) setsMakeCard

/-- THE TIED CARD OF 'graftlaw7.SetsBehind'. -/
def setsBehindCard : Claim7 := { stood := { row := setsBehindRow, standIns := [], harness := (true, "4fcf08bbd18a90258ec678b312ad5c96be8699579935c5a24a37d3522ec9d954"), looks := false }, kinds := [], alts := [], laidByText := true, laidKinds := [.data], laidTests := true, laidLooks := .later }
def SetsBehindCardSaid : Prop := Claim7.holds Tryd.pinned (.plain (OpenSpec.ofChange setsBehindSpec)) setsBehindCard

/-- THE TIED CARD OF 'graftlaw7.SetsTurned'. -/
def setsTurnedCard : Claim7 := { stood := { row := setsTurnedRow, standIns := [], harness := (true, "4fcf08bbd18a90258ec678b312ad5c96be8699579935c5a24a37d3522ec9d954"), looks := false }, kinds := [], alts := [], laidByText := true, laidKinds := [.data], laidTests := true, laidLooks := .later }
def SetsTurnedCardSaid : Prop := Claim7.holds Tryd.pinned (.plain (OpenSpec.ofChange setsTurnedSpec)) setsTurnedCard

/-- THE TIED CARD OF 'graftlaw7.SetsHeads'. -/
def setsHeadsCard : Claim7 := { stood := { row := setsHeadsRow, standIns := [], harness := (true, "4fcf08bbd18a90258ec678b312ad5c96be8699579935c5a24a37d3522ec9d954"), looks := false }, kinds := [], alts := [], laidByText := true, laidKinds := [.data], laidTests := true, laidLooks := .later }
def SetsHeadsCardSaid : Prop := Claim7.holds Tryd.pinned (.plain (OpenSpec.ofChange setsHeadsSpec)) setsHeadsCard

/-- THE TIED CARD OF 'graftlaw7.SetsChecks'. -/
def setsChecksCard : Claim7 := { stood := { row := setsChecksRow, standIns := [], harness := (true, "4fcf08bbd18a90258ec678b312ad5c96be8699579935c5a24a37d3522ec9d954"), looks := false }, kinds := [], alts := [], laidByText := true, laidKinds := [.data], laidTests := true, laidLooks := .later }
def SetsChecksCardSaid : Prop := Claim7.holds Tryd.pinned (.plain (OpenSpec.ofChange setsChecksSpec)) setsChecksCard

/-- THE TIED CARD OF 'graftlaw7.SetsClosed'. -/
def setsClosedCard : Claim7 := { stood := { row := setsClosedRow, standIns := [], harness := (true, "4fcf08bbd18a90258ec678b312ad5c96be8699579935c5a24a37d3522ec9d954"), looks := false }, kinds := [], alts := [], laidByText := true, laidKinds := [.data], laidTests := true, laidLooks := .later }
def SetsClosedCardSaid : Prop := Claim7.holds Tryd.pinned (.plain (OpenSpec.ofChange setsClosedSpec)) setsClosedCard

/-- THE TIED CARD OF 'graftlaw7.SetsBook'. -/
def setsBookCard : Claim7 := { stood := { row := setsBookRow, standIns := [], harness := (true, "4fcf08bbd18a90258ec678b312ad5c96be8699579935c5a24a37d3522ec9d954"), looks := false }, kinds := [], alts := [], laidByText := true, laidKinds := [.data], laidTests := true, laidLooks := .later }
def SetsBookCardSaid : Prop := Claim7.holds Tryd.pinned (.plain (OpenSpec.ofChange setsBookSpec)) setsBookCard

/-- THE SECOND FORM's CARD OF 'graftlaw7.SetsAsks'. -/
def setsAsksUptoCard : Claim7 := { stood := { row := setsAsksUptoRow, standIns := [], harness := (true, "4fcf08bbd18a90258ec678b312ad5c96be8699579935c5a24a37d3522ec9d954"), looks := false }, kinds := [], alts := [], laidByText := true, laidKinds := [.data], laidTests := true, laidLooks := .later }
def SetsAsksUptoCardSaid : Prop := Claim7.holds Tryd.pinned (.plain (OpenSpec.upto setsAsksSpec)) setsAsksUptoCard

/-- THE SECOND FORM's CARD OF 'graftlaw7.SetsMake'. -/
def setsMakeUptoCard : Claim7 := { stood := { row := setsMakeUptoRow, standIns := [], harness := (true, "4fcf08bbd18a90258ec678b312ad5c96be8699579935c5a24a37d3522ec9d954"), looks := false }, kinds := [], alts := [], laidByText := true, laidKinds := [.data], laidTests := true, laidLooks := .later }
def SetsMakeUptoCardSaid : Prop := Claim7.holds Tryd.pinned (.plain (OpenSpec.upto setsMakeSpec)) setsMakeUptoCard

/-- THE SECOND FORM's CARD OF 'graftlaw7.SetsBehind'. -/
def setsBehindUptoCard : Claim7 := { stood := { row := setsBehindUptoRow, standIns := [], harness := (true, "4fcf08bbd18a90258ec678b312ad5c96be8699579935c5a24a37d3522ec9d954"), looks := false }, kinds := [], alts := [], laidByText := true, laidKinds := [.data], laidTests := true, laidLooks := .later }
def SetsBehindUptoCardSaid : Prop := Claim7.holds Tryd.pinned (.plain (OpenSpec.upto setsBehindSpec)) setsBehindUptoCard

/-- THE SECOND FORM's CARD OF 'graftlaw7.SetsTurned'. -/
def setsTurnedUptoCard : Claim7 := { stood := { row := setsTurnedUptoRow, standIns := [], harness := (true, "4fcf08bbd18a90258ec678b312ad5c96be8699579935c5a24a37d3522ec9d954"), looks := false }, kinds := [], alts := [], laidByText := true, laidKinds := [.data], laidTests := true, laidLooks := .later }
def SetsTurnedUptoCardSaid : Prop := Claim7.holds Tryd.pinned (.plain (OpenSpec.upto setsTurnedSpec)) setsTurnedUptoCard

/-- THE SECOND FORM's CARD OF 'graftlaw7.SetsHeads'. -/
def setsHeadsUptoCard : Claim7 := { stood := { row := setsHeadsUptoRow, standIns := [], harness := (true, "4fcf08bbd18a90258ec678b312ad5c96be8699579935c5a24a37d3522ec9d954"), looks := false }, kinds := [], alts := [], laidByText := true, laidKinds := [.data], laidTests := true, laidLooks := .later }
def SetsHeadsUptoCardSaid : Prop := Claim7.holds Tryd.pinned (.plain (OpenSpec.upto setsHeadsSpec)) setsHeadsUptoCard

/-- THE SECOND FORM's CARD OF 'graftlaw7.SetsChecks'. -/
def setsChecksUptoCard : Claim7 := { stood := { row := setsChecksUptoRow, standIns := [], harness := (true, "4fcf08bbd18a90258ec678b312ad5c96be8699579935c5a24a37d3522ec9d954"), looks := false }, kinds := [], alts := [], laidByText := true, laidKinds := [.data], laidTests := true, laidLooks := .later }
def SetsChecksUptoCardSaid : Prop := Claim7.holds Tryd.pinned (.plain (OpenSpec.upto setsChecksSpec)) setsChecksUptoCard

/-- THE SECOND FORM's CARD OF 'graftlaw7.SetsClosed'. -/
def setsClosedUptoCard : Claim7 := { stood := { row := setsClosedUptoRow, standIns := [], harness := (true, "4fcf08bbd18a90258ec678b312ad5c96be8699579935c5a24a37d3522ec9d954"), looks := false }, kinds := [], alts := [], laidByText := true, laidKinds := [.data], laidTests := true, laidLooks := .later }
def SetsClosedUptoCardSaid : Prop := Claim7.holds Tryd.pinned (.plain (OpenSpec.upto setsClosedSpec)) setsClosedUptoCard

/-- THE SECOND FORM's CARD OF 'graftlaw7.SetsBook'. -/
def setsBookUptoCard : Claim7 := { stood := { row := setsBookUptoRow, standIns := [], harness := (true, "4fcf08bbd18a90258ec678b312ad5c96be8699579935c5a24a37d3522ec9d954"), looks := false }, kinds := [], alts := [], laidByText := true, laidKinds := [.data], laidTests := true, laidLooks := .later }
def SetsBookUptoCardSaid : Prop := Claim7.holds Tryd.pinned (.plain (OpenSpec.upto setsBookSpec)) setsBookUptoCard
end Rows
end Go.Proofs.YtkkpghlcmcaoiaaDoor
