/-
  DERIVED. GIVEN WITH THE SEED: THE CARDS: each row of YtcbkmlfkfhfliaaGreatDoorRows.lean that lists a variable, with what it lists TIED to the program's text (the seventh form; the later family's looks); each row that meets fmt, with fmt's text TOLD by the authors' own Lean function (tested against real Go, not proved from fmt's source: count such statements apart). THE CARD IS WHAT COUNTS. Prove the row's statement (the work); the ties are given (YtcbkmlfkfhfliaaGreatDoorTie.lean); close each card by the builder's one call (the guide's Derived/Test/ToyasCard.lean, 'card_holds'). Laid BY PROGRAM, IN A SANDBOX (cutbox-door.mjs). By AI agents, Wed Nov 11 2026. No macro, syntax, notation, axiom, sorry.
-/
import Derived.Test.YtcbkmlfkfhfliaaGreatDoorRows
import GoSem.ClaimSeven
namespace Go.Proofs.YtcbkmlfkfhfliaaGreatDoor
namespace Rows

/-- THE TIED CARD OF 'coreseclaw34.RelayForwards'. -/
def relayForwardsCard : Claim7 := { stood := { row := relayForwardsRow, standIns := [], harness := (true, "b2f156770911af480f14d069ff0cb866ae8e9c66ff39321a7831408cec37dd3f"), looks := false }, kinds := [], alts := [], laidByText := true, laidKinds := [.data, .pinned], laidTests := true, laidLooks := .later }
def RelayForwardsCardSaid : Prop := Claim7.holds Tryz.pinned (.plain (OpenSpec.ofChange relayForwardsSpec)) relayForwardsCard

/-- THE TIED CARD OF 'coreseclaw34.RelayReturns'. -/
def relayReturnsCard : Claim7 := { stood := { row := relayReturnsRow, standIns := [], harness := (true, "b2f156770911af480f14d069ff0cb866ae8e9c66ff39321a7831408cec37dd3f"), looks := false }, kinds := [], alts := [], laidByText := true, laidKinds := [.data, .pinned], laidTests := true, laidLooks := .later }
def RelayReturnsCardSaid : Prop := Claim7.holds Tryz.pinned (.plain (OpenSpec.ofChange relayReturnsSpec)) relayReturnsCard

/-- THE TIED CARD OF 'coreseclaw34.RelayBlind'. -/
def relayBlindCard : Claim7 := { stood := { row := relayBlindRow, standIns := [], harness := (true, "b2f156770911af480f14d069ff0cb866ae8e9c66ff39321a7831408cec37dd3f"), looks := false }, kinds := [], alts := [], laidByText := true, laidKinds := [.data, .pinned], laidTests := true, laidLooks := .later }
def RelayBlindCardSaid : Prop := Claim7.holds Tryz.pinned (.plain (OpenSpec.ofChange relayBlindSpec)) relayBlindCard

/-- THE SECOND FORM's CARD OF 'coreseclaw34.RelayForwards'. -/
def relayForwardsUptoCard : Claim7 := { stood := { row := relayForwardsUptoRow, standIns := [], harness := (true, "b2f156770911af480f14d069ff0cb866ae8e9c66ff39321a7831408cec37dd3f"), looks := false }, kinds := [], alts := [], laidByText := true, laidKinds := [.data, .pinned], laidTests := true, laidLooks := .later }
def RelayForwardsUptoCardSaid : Prop := Claim7.holds Tryz.pinned (.plain (OpenSpec.upto relayForwardsSpec)) relayForwardsUptoCard

/-- THE SECOND FORM's CARD OF 'coreseclaw34.RelayReturns'. -/
def relayReturnsUptoCard : Claim7 := { stood := { row := relayReturnsUptoRow, standIns := [], harness := (true, "b2f156770911af480f14d069ff0cb866ae8e9c66ff39321a7831408cec37dd3f"), looks := false }, kinds := [], alts := [], laidByText := true, laidKinds := [.data, .pinned], laidTests := true, laidLooks := .later }
def RelayReturnsUptoCardSaid : Prop := Claim7.holds Tryz.pinned (.plain (OpenSpec.upto relayReturnsSpec)) relayReturnsUptoCard

/-- THE SECOND FORM's CARD OF 'coreseclaw34.RelayBlind'. -/
def relayBlindUptoCard : Claim7 := { stood := { row := relayBlindUptoRow, standIns := [], harness := (true, "b2f156770911af480f14d069ff0cb866ae8e9c66ff39321a7831408cec37dd3f"), looks := false }, kinds := [], alts := [], laidByText := true, laidKinds := [.data, .pinned], laidTests := true, laidLooks := .later }
def RelayBlindUptoCardSaid : Prop := Claim7.holds Tryz.pinned (.plain (OpenSpec.upto relayBlindSpec)) relayBlindUptoCard
end Rows
end Go.Proofs.YtcbkmlfkfhfliaaGreatDoor
