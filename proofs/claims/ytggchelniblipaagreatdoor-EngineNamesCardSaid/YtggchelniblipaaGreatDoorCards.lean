/-
  DERIVED. GIVEN WITH THE SEED: THE CARDS: each row of YtggchelniblipaaGreatDoorRows.lean that lists a variable, with what it lists TIED to the program's text (the seventh form; the later family's looks); each row that meets fmt, with fmt's text TOLD by the authors' own Lean function (tested against real Go, not proved from fmt's source: count such statements apart). THE CARD IS WHAT COUNTS. Prove the row's statement (the work); the ties are given (YtggchelniblipaaGreatDoorTie.lean); close each card by the builder's one call (the guide's Derived/Test/ToyasCard.lean, 'card_holds'). Laid BY PROGRAM, IN A SANDBOX (cutbox-door.mjs). By AI agents, Wed Nov 11 2026. No macro, syntax, notation, axiom, sorry.
-/
import Derived.Test.YtggchelniblipaaGreatDoorRows
import GoSem.ClaimSeven
namespace Go.Proofs.YtggchelniblipaaGreatDoor
namespace Rows

/-- THE TIED CARD OF 'radicandlaw23.EngineNames'. -/
def engineNamesCard : Claim7 := { stood := { row := engineNamesRow, standIns := [], harness := (true, "d7a1bb0b14a4b760b1210cc7dd20b4dd4333e47afb26c90e87af0cb327b3dfe7"), looks := false }, kinds := [], alts := [], laidByText := true, laidKinds := [.data], laidTests := true, laidLooks := .later }
def EngineNamesCardSaid : Prop := Claim7.holds Tryz.pinned (.plain (OpenSpec.ofChange engineNamesSpec)) engineNamesCard

/-- THE SECOND FORM's CARD OF 'radicandlaw23.EngineNames'. -/
def engineNamesUptoCard : Claim7 := { stood := { row := engineNamesUptoRow, standIns := [], harness := (true, "d7a1bb0b14a4b760b1210cc7dd20b4dd4333e47afb26c90e87af0cb327b3dfe7"), looks := false }, kinds := [], alts := [], laidByText := true, laidKinds := [.data], laidTests := true, laidLooks := .later }
def EngineNamesUptoCardSaid : Prop := Claim7.holds Tryz.pinned (.plain (OpenSpec.upto engineNamesSpec)) engineNamesUptoCard
end Rows
end Go.Proofs.YtggchelniblipaaGreatDoor
