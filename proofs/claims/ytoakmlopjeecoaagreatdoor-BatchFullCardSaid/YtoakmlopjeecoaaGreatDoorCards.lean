/-
  DERIVED. GIVEN WITH THE SEED: THE CARDS: each row of YtoakmlopjeecoaaGreatDoorRows.lean that lists a variable, with what it lists TIED to the program's text (the seventh form; the later family's looks); each row that meets fmt, with fmt's text TOLD by the authors' own Lean function (tested against real Go, not proved from fmt's source: count such statements apart). THE CARD IS WHAT COUNTS. Prove the row's statement (the work); the ties are given (YtoakmlopjeecoaaGreatDoorTie.lean); close each card by the builder's one call (the guide's Derived/Test/ToyasCard.lean, 'card_holds'). Laid BY PROGRAM, IN A SANDBOX (cutbox-door.mjs). By AI agents, Wed Nov 11 2026. No macro, syntax, notation, axiom, sorry.
-/
import Derived.Test.YtoakmlopjeecoaaGreatDoorRows
import GoSem.ClaimSeven
namespace Go.Proofs.YtoakmlopjeecoaaGreatDoor
namespace Rows

/-- THE TIED CARD OF 'radicandlaw34.BatchFull'. -/
def batchFullCard : Claim7 := { stood := { row := batchFullRow, standIns := [], harness := (true, "9a6b58e000640c192f0a732b06894f1b974742aaf15f3fd6ede210be86f3bbdf"), looks := false }, kinds := [], alts := [], laidByText := true, laidKinds := [.data, .data, .data], laidTests := true, laidLooks := .later }
def BatchFullCardSaid : Prop := Claim7.holds Tryz.pinned (.plain (OpenSpec.ofChange batchFullSpec)) batchFullCard

/-- THE TIED CARD OF 'radicandlaw34.BatchNone'. -/
def batchNoneCard : Claim7 := { stood := { row := batchNoneRow, standIns := [], harness := (true, "9a6b58e000640c192f0a732b06894f1b974742aaf15f3fd6ede210be86f3bbdf"), looks := false }, kinds := [], alts := [], laidByText := true, laidKinds := [.data, .data, .data], laidTests := true, laidLooks := .later }
def BatchNoneCardSaid : Prop := Claim7.holds Tryz.pinned (.plain (OpenSpec.ofChange batchNoneSpec)) batchNoneCard

/-- THE SECOND FORM's CARD OF 'radicandlaw34.BatchFull'. -/
def batchFullUptoCard : Claim7 := { stood := { row := batchFullUptoRow, standIns := [], harness := (true, "9a6b58e000640c192f0a732b06894f1b974742aaf15f3fd6ede210be86f3bbdf"), looks := false }, kinds := [], alts := [], laidByText := true, laidKinds := [.data, .data, .data], laidTests := true, laidLooks := .later }
def BatchFullUptoCardSaid : Prop := Claim7.holds Tryz.pinned (.plain (OpenSpec.upto batchFullSpec)) batchFullUptoCard

/-- THE SECOND FORM's CARD OF 'radicandlaw34.BatchNone'. -/
def batchNoneUptoCard : Claim7 := { stood := { row := batchNoneUptoRow, standIns := [], harness := (true, "9a6b58e000640c192f0a732b06894f1b974742aaf15f3fd6ede210be86f3bbdf"), looks := false }, kinds := [], alts := [], laidByText := true, laidKinds := [.data, .data, .data], laidTests := true, laidLooks := .later }
def BatchNoneUptoCardSaid : Prop := Claim7.holds Tryz.pinned (.plain (OpenSpec.upto batchNoneSpec)) batchNoneUptoCard
end Rows
end Go.Proofs.YtoakmlopjeecoaaGreatDoor
