/-
  DERIVED. GIVEN WITH THE SEED: THE CARDS: each row of YtefpoconpeggpaaGreatDoorRows.lean that lists a variable, with what it lists TIED to the program's text (the seventh form; the later family's looks); each row that meets fmt, with fmt's text TOLD by the authors' own Lean function (tested against real Go, not proved from fmt's source: count such statements apart). THE CARD IS WHAT COUNTS. Prove the row's statement (the work); the ties are given (YtefpoconpeggpaaGreatDoorTie.lean); close each card by the builder's one call (the guide's Derived/Test/ToyasCard.lean, 'card_holds'). Laid BY PROGRAM, IN A SANDBOX (cutbox-door.mjs). By AI agents, Wed Nov 11 2026. No macro, syntax, notation, axiom, sorry.
-/
import Derived.Test.YtefpoconpeggpaaGreatDoorRows
import GoSem.ClaimSeven
namespace Go.Proofs.YtefpoconpeggpaaGreatDoor
namespace Rows

/-- THE TIED CARD OF 'radicandlaw25.RootFinite'. -/
def rootFiniteCard : Claim7 := { stood := { row := rootFiniteRow, standIns := [], harness := (true, "962d8fe42bb9a8708541e7a726cc14f923481c44993ade6020d2f54f6a160d5a"), looks := false }, kinds := [], alts := [], laidByText := true, laidKinds := [.data], laidTests := true, laidLooks := .later }
def RootFiniteCardSaid : Prop := Claim7.holds Tryz.pinned (.plain (OpenSpec.ofChange rootFiniteSpec)) rootFiniteCard

/-- THE TIED CARD OF 'radicandlaw25.RootBetween'. -/
def rootBetweenCard : Claim7 := { stood := { row := rootBetweenRow, standIns := [], harness := (true, "962d8fe42bb9a8708541e7a726cc14f923481c44993ade6020d2f54f6a160d5a"), looks := false }, kinds := [], alts := [], laidByText := true, laidKinds := [.data], laidTests := true, laidLooks := .later }
def RootBetweenCardSaid : Prop := Claim7.holds Tryz.pinned (.plain (OpenSpec.ofChange rootBetweenSpec)) rootBetweenCard

/-- THE TIED CARD OF 'radicandlaw25.RootHypots'. -/
def rootHypotsCard : Claim7 := { stood := { row := rootHypotsRow, standIns := [], harness := (true, "962d8fe42bb9a8708541e7a726cc14f923481c44993ade6020d2f54f6a160d5a"), looks := false }, kinds := [], alts := [], laidByText := true, laidKinds := [.data], laidTests := true, laidLooks := .later }
def RootHypotsCardSaid : Prop := Claim7.holds Tryz.pinned (.plain (OpenSpec.ofChange rootHypotsSpec)) rootHypotsCard

/-- THE TIED CARD OF 'radicandlaw25.RootParts'. -/
def rootPartsCard : Claim7 := { stood := { row := rootPartsRow, standIns := [], harness := (true, "962d8fe42bb9a8708541e7a726cc14f923481c44993ade6020d2f54f6a160d5a"), looks := false }, kinds := [], alts := [], laidByText := true, laidKinds := [.data], laidTests := true, laidLooks := .later }
def RootPartsCardSaid : Prop := Claim7.holds Tryz.pinned (.plain (OpenSpec.ofChange rootPartsSpec)) rootPartsCard

/-- THE SECOND FORM's CARD OF 'radicandlaw25.RootFinite'. -/
def rootFiniteUptoCard : Claim7 := { stood := { row := rootFiniteUptoRow, standIns := [], harness := (true, "962d8fe42bb9a8708541e7a726cc14f923481c44993ade6020d2f54f6a160d5a"), looks := false }, kinds := [], alts := [], laidByText := true, laidKinds := [.data], laidTests := true, laidLooks := .later }
def RootFiniteUptoCardSaid : Prop := Claim7.holds Tryz.pinned (.plain (OpenSpec.upto rootFiniteSpec)) rootFiniteUptoCard

/-- THE SECOND FORM's CARD OF 'radicandlaw25.RootBetween'. -/
def rootBetweenUptoCard : Claim7 := { stood := { row := rootBetweenUptoRow, standIns := [], harness := (true, "962d8fe42bb9a8708541e7a726cc14f923481c44993ade6020d2f54f6a160d5a"), looks := false }, kinds := [], alts := [], laidByText := true, laidKinds := [.data], laidTests := true, laidLooks := .later }
def RootBetweenUptoCardSaid : Prop := Claim7.holds Tryz.pinned (.plain (OpenSpec.upto rootBetweenSpec)) rootBetweenUptoCard

/-- THE SECOND FORM's CARD OF 'radicandlaw25.RootHypots'. -/
def rootHypotsUptoCard : Claim7 := { stood := { row := rootHypotsUptoRow, standIns := [], harness := (true, "962d8fe42bb9a8708541e7a726cc14f923481c44993ade6020d2f54f6a160d5a"), looks := false }, kinds := [], alts := [], laidByText := true, laidKinds := [.data], laidTests := true, laidLooks := .later }
def RootHypotsUptoCardSaid : Prop := Claim7.holds Tryz.pinned (.plain (OpenSpec.upto rootHypotsSpec)) rootHypotsUptoCard

/-- THE SECOND FORM's CARD OF 'radicandlaw25.RootParts'. -/
def rootPartsUptoCard : Claim7 := { stood := { row := rootPartsUptoRow, standIns := [], harness := (true, "962d8fe42bb9a8708541e7a726cc14f923481c44993ade6020d2f54f6a160d5a"), looks := false }, kinds := [], alts := [], laidByText := true, laidKinds := [.data], laidTests := true, laidLooks := .later }
def RootPartsUptoCardSaid : Prop := Claim7.holds Tryz.pinned (.plain (OpenSpec.upto rootPartsSpec)) rootPartsUptoCard
end Rows
end Go.Proofs.YtefpoconpeggpaaGreatDoor
