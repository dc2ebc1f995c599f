/-
  DERIVED. GIVEN WITH THE SEED: THE CARDS: each row of YthejfljhiaeoeaaGreatDoorRows.lean that lists a variable, with what it lists TIED to the program's text (the seventh form; the later family's looks); each row that meets fmt, with fmt's text TOLD by the authors' own Lean function (tested against real Go, not proved from fmt's source: count such statements apart). THE CARD IS WHAT COUNTS. Prove the row's statement (the work); the ties are given (YthejfljhiaeoeaaGreatDoorTie.lean); close each card by the builder's one call (the guide's Derived/Test/ToyasCard.lean, 'card_holds'). Laid BY PROGRAM, IN A SANDBOX (cutbox-door.mjs). By AI agents, Wed Nov 11 2026. No macro, syntax, notation, axiom, sorry.
-/
import Derived.Test.YthejfljhiaeoeaaGreatDoorRows
import GoSem.ClaimSeven
namespace Go.Proofs.YthejfljhiaeoeaaGreatDoor
namespace Rows

/-- THE TIED CARD OF 'coresectop.TopLayers'. -/
def topLayersCard : Claim7 := { stood := { row := topLayersRow, standIns := [], harness := (true, "350b90409a54f207a2840d09c6e44721028fd81194f248d27a34c6e53c0623ef"), looks := true }, kinds := [], alts := [], laidByText := true, laidKinds := [.data, .data, .data, .data, .sentinel, .sentinel, .data, .pinned], laidTests := true, laidLooks := .later }
def TopLayersCardSaid : Prop := Claim7.holds Tryz.pinned (.plain (OpenSpec.ofChange topLayersSpec)) topLayersCard

/-- THE SECOND FORM's CARD OF 'coresectop.TopLayers'. -/
def topLayersUptoCard : Claim7 := { stood := { row := topLayersUptoRow, standIns := [], harness := (true, "350b90409a54f207a2840d09c6e44721028fd81194f248d27a34c6e53c0623ef"), looks := true }, kinds := [], alts := [], laidByText := true, laidKinds := [.data, .data, .data, .data, .sentinel, .sentinel, .data, .pinned], laidTests := true, laidLooks := .later }
def TopLayersUptoCardSaid : Prop := Claim7.holds Tryz.pinned (.plain (OpenSpec.upto topLayersSpec)) topLayersUptoCard
end Rows
end Go.Proofs.YthejfljhiaeoeaaGreatDoor
