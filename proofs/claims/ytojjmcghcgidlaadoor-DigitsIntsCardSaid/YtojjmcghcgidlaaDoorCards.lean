/-
  DERIVED. GIVEN WITH THE SEED: THE CARDS: each row of YtojjmcghcgidlaaDoorRows.lean that lists a variable, with what it lists TIED to the program's text (the seventh form; the later family's looks); each row that meets fmt, with fmt's text TOLD by the authors' own Lean function (tested against real Go, not proved from fmt's source: count such statements apart). THE CARD IS WHAT COUNTS. Prove the row's statement (the work); the ties are given (YtojjmcghcgidlaaDoorTie.lean); close each card by the builder's one call (the guide's Derived/Test/ToyasCard.lean, 'card_holds'). Laid BY PROGRAM, IN A SANDBOX (cutbox-door.mjs). By AI agents, Wed Nov 11 2026. No macro, syntax, notation, axiom, sorry.
-/
import Derived.Test.YtojjmcghcgidlaaDoorRows
import GoSem.ClaimSeven
namespace Go.Proofs.YtojjmcghcgidlaaDoor
namespace Rows

/-- THE TIED CARD OF 'radicandlaw04.DigitsHex'. -/
def digitsHexCard : Claim7 := { stood := { row := digitsHexRow, standIns := [], harness := (true, "e75d5557e0a14d4de40737cd376bf467d870697778ac9bd4d94039bf086f6f1a"), looks := true }, kinds := [], alts := [], laidByText := true, laidKinds := [.data, .data, .data], laidTests := true, laidLooks := .later }
def DigitsHexCardSaid : Prop := Claim7.holds Tryd.pinned (.plain (OpenSpec.ofChange digitsHexSpec)) digitsHexCard

/-- THE TIED CARD OF 'radicandlaw04.DigitsDecimal'. -/
def digitsDecimalCard : Claim7 := { stood := { row := digitsDecimalRow, standIns := [], harness := (true, "e75d5557e0a14d4de40737cd376bf467d870697778ac9bd4d94039bf086f6f1a"), looks := true }, kinds := [], alts := [], laidByText := true, laidKinds := [.data, .data, .data], laidTests := true, laidLooks := .later }
def DigitsDecimalCardSaid : Prop := Claim7.holds Tryd.pinned (.plain (OpenSpec.ofChange digitsDecimalSpec)) digitsDecimalCard

/-- THE TIED CARD OF 'radicandlaw04.DigitsRead'. -/
def digitsReadCard : Claim7 := { stood := { row := digitsReadRow, standIns := [], harness := (true, "e75d5557e0a14d4de40737cd376bf467d870697778ac9bd4d94039bf086f6f1a"), looks := true }, kinds := [], alts := [], laidByText := true, laidKinds := [.data, .data, .data], laidTests := true, laidLooks := .later }
def DigitsReadCardSaid : Prop := Claim7.holds Tryd.pinned (.plain (OpenSpec.ofChange digitsReadSpec)) digitsReadCard

/-- THE TIED CARD OF 'radicandlaw04.DigitsInts'. -/
def digitsIntsCard : Claim7 := { stood := { row := digitsIntsRow, standIns := [], harness := (true, "e75d5557e0a14d4de40737cd376bf467d870697778ac9bd4d94039bf086f6f1a"), looks := true }, kinds := [], alts := [], laidByText := true, laidKinds := [.data, .data, .data, .sentinel, .sentinel], laidTests := true, laidLooks := .later }
def DigitsIntsCardSaid : Prop := Claim7.holds Tryd.pinned (.plain (OpenSpec.ofChange digitsIntsSpec)) digitsIntsCard

/-- THE SECOND FORM's CARD OF 'radicandlaw04.DigitsHex'. -/
def digitsHexUptoCard : Claim7 := { stood := { row := digitsHexUptoRow, standIns := [], harness := (true, "e75d5557e0a14d4de40737cd376bf467d870697778ac9bd4d94039bf086f6f1a"), looks := true }, kinds := [], alts := [], laidByText := true, laidKinds := [.data, .data, .data], laidTests := true, laidLooks := .later }
def DigitsHexUptoCardSaid : Prop := Claim7.holds Tryd.pinned (.plain (OpenSpec.upto digitsHexSpec)) digitsHexUptoCard

/-- THE SECOND FORM's CARD OF 'radicandlaw04.DigitsDecimal'. -/
def digitsDecimalUptoCard : Claim7 := { stood := { row := digitsDecimalUptoRow, standIns := [], harness := (true, "e75d5557e0a14d4de40737cd376bf467d870697778ac9bd4d94039bf086f6f1a"), looks := true }, kinds := [], alts := [], laidByText := true, laidKinds := [.data, .data, .data], laidTests := true, laidLooks := .later }
def DigitsDecimalUptoCardSaid : Prop := Claim7.holds Tryd.pinned (.plain (OpenSpec.upto digitsDecimalSpec)) digitsDecimalUptoCard

/-- THE SECOND FORM's CARD OF 'radicandlaw04.DigitsRead'. -/
def digitsReadUptoCard : Claim7 := { stood := { row := digitsReadUptoRow, standIns := [], harness := (true, "e75d5557e0a14d4de40737cd376bf467d870697778ac9bd4d94039bf086f6f1a"), looks := true }, kinds := [], alts := [], laidByText := true, laidKinds := [.data, .data, .data], laidTests := true, laidLooks := .later }
def DigitsReadUptoCardSaid : Prop := Claim7.holds Tryd.pinned (.plain (OpenSpec.upto digitsReadSpec)) digitsReadUptoCard

/-- THE SECOND FORM's CARD OF 'radicandlaw04.DigitsInts'. -/
def digitsIntsUptoCard : Claim7 := { stood := { row := digitsIntsUptoRow, standIns := [], harness := (true, "e75d5557e0a14d4de40737cd376bf467d870697778ac9bd4d94039bf086f6f1a"), looks := true }, kinds := [], alts := [], laidByText := true, laidKinds := [.data, .data, .data, .sentinel, .sentinel], laidTests := true, laidLooks := .later }
def DigitsIntsUptoCardSaid : Prop := Claim7.holds Tryd.pinned (.plain (OpenSpec.upto digitsIntsSpec)) digitsIntsUptoCard
end Rows
end Go.Proofs.YtojjmcghcgidlaaDoor
