/-
  DERIVED. GIVEN WITH THE SEED: THE CARDS: each row of YtbfkbakadpkgoaaGreatDoorRows.lean that lists a variable, with what it lists TIED to the program's text (the seventh form; the later family's looks); each row that meets fmt, with fmt's text TOLD by the authors' own Lean function (tested against real Go, not proved from fmt's source: count such statements apart). THE CARD IS WHAT COUNTS. Prove the row's statement (the work); the ties are given (YtbfkbakadpkgoaaGreatDoorTie.lean); close each card by the builder's one call (the guide's Derived/Test/ToyasCard.lean, 'card_holds'). Laid BY PROGRAM, IN A SANDBOX (cutbox-door.mjs). By AI agents, Wed Nov 11 2026. No macro, syntax, notation, axiom, sorry.
-/
import Derived.Test.YtbfkbakadpkgoaaGreatDoorRows
import GoSem.ClaimSeven
namespace Go.Proofs.YtbfkbakadpkgoaaGreatDoor
namespace Rows

/-- THE TIED CARD OF 'coreseclaw03.DiagPrints'. -/
def diagPrintsCard : Claim7 := { stood := { row := diagPrintsRow, standIns := [], harness := (true, "49fbfb652fbe1fc341716f5683ecf77978af419a5cb3e45431357c65def6b7d5"), looks := true }, kinds := [], alts := [], laidByText := true, laidKinds := [.data, .data, .data, .data, .sentinel, .sentinel, .data, .pinned], laidTests := true, laidLooks := .later }
def DiagPrintsCardSaid : Prop := Claim7.holds Tryz.pinned (.plain (OpenSpec.ofChange diagPrintsSpec)) diagPrintsCard

/-- THE TIED CARD OF 'coreseclaw03.DiagParses'. -/
def diagParsesCard : Claim7 := { stood := { row := diagParsesRow, standIns := [], harness := (true, "49fbfb652fbe1fc341716f5683ecf77978af419a5cb3e45431357c65def6b7d5"), looks := true }, kinds := [], alts := [], laidByText := true, laidKinds := [.data, .data, .data, .data, .sentinel, .sentinel, .data, .pinned], laidTests := true, laidLooks := .later }
def DiagParsesCardSaid : Prop := Claim7.holds Tryz.pinned (.plain (OpenSpec.ofChange diagParsesSpec)) diagParsesCard

/-- THE TIED CARD OF 'coreseclaw03.DiagShapes'. -/
def diagShapesCard : Claim7 := { stood := { row := diagShapesRow, standIns := [], harness := (true, "49fbfb652fbe1fc341716f5683ecf77978af419a5cb3e45431357c65def6b7d5"), looks := true }, kinds := [], alts := [], laidByText := true, laidKinds := [.data, .data, .data, .data, .sentinel, .sentinel, .data, .pinned], laidTests := true, laidLooks := .later }
def DiagShapesCardSaid : Prop := Claim7.holds Tryz.pinned (.plain (OpenSpec.ofChange diagShapesSpec)) diagShapesCard

/-- THE TIED CARD OF 'coreseclaw03.DiagOne'. -/
def diagOneCard : Claim7 := { stood := { row := diagOneRow, standIns := [], harness := (true, "49fbfb652fbe1fc341716f5683ecf77978af419a5cb3e45431357c65def6b7d5"), looks := true }, kinds := [], alts := [], laidByText := true, laidKinds := [.data, .data, .data, .data, .sentinel, .sentinel, .data, .pinned], laidTests := true, laidLooks := .later }
def DiagOneCardSaid : Prop := Claim7.holds Tryz.pinned (.plain (OpenSpec.ofChange diagOneSpec)) diagOneCard

/-- THE SECOND FORM's CARD OF 'coreseclaw03.DiagPrints'. -/
def diagPrintsUptoCard : Claim7 := { stood := { row := diagPrintsUptoRow, standIns := [], harness := (true, "49fbfb652fbe1fc341716f5683ecf77978af419a5cb3e45431357c65def6b7d5"), looks := true }, kinds := [], alts := [], laidByText := true, laidKinds := [.data, .data, .data, .data, .sentinel, .sentinel, .data, .pinned], laidTests := true, laidLooks := .later }
def DiagPrintsUptoCardSaid : Prop := Claim7.holds Tryz.pinned (.plain (OpenSpec.upto diagPrintsSpec)) diagPrintsUptoCard

/-- THE SECOND FORM's CARD OF 'coreseclaw03.DiagParses'. -/
def diagParsesUptoCard : Claim7 := { stood := { row := diagParsesUptoRow, standIns := [], harness := (true, "49fbfb652fbe1fc341716f5683ecf77978af419a5cb3e45431357c65def6b7d5"), looks := true }, kinds := [], alts := [], laidByText := true, laidKinds := [.data, .data, .data, .data, .sentinel, .sentinel, .data, .pinned], laidTests := true, laidLooks := .later }
def DiagParsesUptoCardSaid : Prop := Claim7.holds Tryz.pinned (.plain (OpenSpec.upto diagParsesSpec)) diagParsesUptoCard

/-- THE SECOND FORM's CARD OF 'coreseclaw03.DiagShapes'. -/
def diagShapesUptoCard : Claim7 := { stood := { row := diagShapesUptoRow, standIns := [], harness := (true, "49fbfb652fbe1fc341716f5683ecf77978af419a5cb3e45431357c65def6b7d5"), looks := true }, kinds := [], alts := [], laidByText := true, laidKinds := [.data, .data, .data, .data, .sentinel, .sentinel, .data, .pinned], laidTests := true, laidLooks := .later }
def DiagShapesUptoCardSaid : Prop := Claim7.holds Tryz.pinned (.plain (OpenSpec.upto diagShapesSpec)) diagShapesUptoCard

/-- THE SECOND FORM's CARD OF 'coreseclaw03.DiagOne'. -/
def diagOneUptoCard : Claim7 := { stood := { row := diagOneUptoRow, standIns := [], harness := (true, "49fbfb652fbe1fc341716f5683ecf77978af419a5cb3e45431357c65def6b7d5"), looks := true }, kinds := [], alts := [], laidByText := true, laidKinds := [.data, .data, .data, .data, .sentinel, .sentinel, .data, .pinned], laidTests := true, laidLooks := .later }
def DiagOneUptoCardSaid : Prop := Claim7.holds Tryz.pinned (.plain (OpenSpec.upto diagOneSpec)) diagOneUptoCard
end Rows
end Go.Proofs.YtbfkbakadpkgoaaGreatDoor
