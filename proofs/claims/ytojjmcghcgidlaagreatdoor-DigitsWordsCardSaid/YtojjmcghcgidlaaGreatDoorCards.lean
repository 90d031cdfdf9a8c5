/-
  DERIVED. GIVEN WITH THE SEED: THE CARDS: each row of YtojjmcghcgidlaaGreatDoorRows.lean that lists a variable, with what it lists TIED to the program's text (the seventh form; the later family's looks); each row that meets fmt, with fmt's text TOLD by the authors' own Lean function (tested against real Go, not proved from fmt's source: count such statements apart). THE CARD IS WHAT COUNTS. Prove the row's statement (the work); the ties are given (YtojjmcghcgidlaaGreatDoorTie.lean); close each card by the builder's one call (the guide's Derived/Test/ToyasCard.lean, 'card_holds'). Laid BY PROGRAM, IN A SANDBOX (cutbox-door.mjs). By AI agents, Wed Nov 11 2026. No macro, syntax, notation, axiom, sorry.
-/
import Derived.Test.YtojjmcghcgidlaaGreatDoorRows
import GoSem.ClaimSeven
namespace Go.Proofs.YtojjmcghcgidlaaGreatDoor
namespace Rows

/-- THE TIED CARD OF 'radicandlaw04.DigitsWords'. -/
def digitsWordsCard : Claim7 := { stood := { row := digitsWordsRow, standIns := [], harness := (true, "47b334894452a20ea481182b0fb699b52bc0e15f6ca30b8ee8639e6373118d5a"), looks := false }, kinds := [], alts := [], laidByText := true, laidKinds := [.data, .data, .data, .data, .pinned], laidTests := true, laidLooks := .later }
def DigitsWordsCardSaid : Prop := Claim7.holds Tryz.pinned (.plain (OpenSpec.ofChange digitsWordsSpec)) digitsWordsCard

/-- THE SECOND FORM's CARD OF 'radicandlaw04.DigitsWords'. -/
def digitsWordsUptoCard : Claim7 := { stood := { row := digitsWordsUptoRow, standIns := [], harness := (true, "47b334894452a20ea481182b0fb699b52bc0e15f6ca30b8ee8639e6373118d5a"), looks := false }, kinds := [], alts := [], laidByText := true, laidKinds := [.data, .data, .data, .data, .pinned], laidTests := true, laidLooks := .later }
def DigitsWordsUptoCardSaid : Prop := Claim7.holds Tryz.pinned (.plain (OpenSpec.upto digitsWordsSpec)) digitsWordsUptoCard
end Rows
end Go.Proofs.YtojjmcghcgidlaaGreatDoor
