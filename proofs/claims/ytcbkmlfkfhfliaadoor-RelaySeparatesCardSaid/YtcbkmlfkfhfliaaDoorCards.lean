/-
  DERIVED. GIVEN WITH THE SEED: THE CARDS: each row of YtcbkmlfkfhfliaaDoorRows.lean that lists a variable, with what it lists TIED to the program's text (the seventh form; the later family's looks); each row that meets fmt, with fmt's text TOLD by the authors' own Lean function (tested against real Go, not proved from fmt's source: count such statements apart). THE CARD IS WHAT COUNTS. Prove the row's statement (the work); the ties are given (YtcbkmlfkfhfliaaDoorTie.lean); close each card by the builder's one call (the guide's Derived/Test/ToyasCard.lean, 'card_holds'). Laid BY PROGRAM, IN A SANDBOX (cutbox-door.mjs). By AI agents, Wed Nov 11 2026. No macro, syntax, notation, axiom, sorry.
-/
import Derived.Test.YtcbkmlfkfhfliaaDoorRows
import GoSem.ClaimSeven
namespace Go.Proofs.YtcbkmlfkfhfliaaDoor
namespace Rows

/-- THE TIED CARD OF 'coreseclaw34.RelaySeparates'. -/
def relaySeparatesCard : Claim7 := { stood := { row := relaySeparatesRow, standIns := [], harness := (true, "8c15efaa710bba9d6a7b7a619f266cac01dc5080f010f446fdc7ccbba042a69b"), looks := false }, kinds := [], alts := [], laidByText := true, laidKinds := [.data, .pinned], laidTests := true, laidLooks := .later }
def RelaySeparatesCardSaid : Prop := Claim7.holds Tryd.pinned (.plain (OpenSpec.ofChange relaySeparatesSpec)) relaySeparatesCard

/-- THE SECOND FORM's CARD OF 'coreseclaw34.RelaySeparates'. -/
def relaySeparatesUptoCard : Claim7 := { stood := { row := relaySeparatesUptoRow, standIns := [], harness := (true, "8c15efaa710bba9d6a7b7a619f266cac01dc5080f010f446fdc7ccbba042a69b"), looks := false }, kinds := [], alts := [], laidByText := true, laidKinds := [.data, .pinned], laidTests := true, laidLooks := .later }
def RelaySeparatesUptoCardSaid : Prop := Claim7.holds Tryd.pinned (.plain (OpenSpec.upto relaySeparatesSpec)) relaySeparatesUptoCard
end Rows
end Go.Proofs.YtcbkmlfkfhfliaaDoor
