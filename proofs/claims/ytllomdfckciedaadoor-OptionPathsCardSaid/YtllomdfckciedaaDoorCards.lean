/-
  DERIVED. GIVEN WITH THE SEED: THE CARDS: each row of YtllomdfckciedaaDoorRows.lean that lists a variable, with what it lists TIED to the program's text (the seventh form; the later family's looks); each row that meets fmt, with fmt's text TOLD by the authors' own Lean function (tested against real Go, not proved from fmt's source: count such statements apart). THE CARD IS WHAT COUNTS. Prove the row's statement (the work); the ties are given (YtllomdfckciedaaDoorTie.lean); close each card by the builder's one call (the guide's Derived/Test/ToyasCard.lean, 'card_holds'). Laid BY PROGRAM, IN A SANDBOX (cutbox-door.mjs). By AI agents, Wed Nov 11 2026. No macro, syntax, notation, axiom, sorry.
-/
import Derived.Test.YtllomdfckciedaaDoorRows
import GoSem.ClaimSeven
namespace Go.Proofs.YtllomdfckciedaaDoor
namespace Rows

/-- THE TIED CARD OF 'coreseclaw16.OptionPaths'. -/
def optionPathsCard : Claim7 := { stood := { row := optionPathsRow, standIns := [], harness := (true, "3a8e78bb35204b2cd5db6b44e823919026d2f2ab7f7ea97393bdef5d217ab3ab"), looks := false }, kinds := [], alts := [], laidByText := true, laidKinds := [.data, .pinned], laidTests := true, laidLooks := .later }
def OptionPathsCardSaid : Prop := Claim7.holds Tryd.pinned (.plain (OpenSpec.ofChange optionPathsSpec)) optionPathsCard

/-- THE TIED CARD OF 'coreseclaw16.OptionUints'. -/
def optionUintsCard : Claim7 := { stood := { row := optionUintsRow, standIns := [], harness := (true, "3a8e78bb35204b2cd5db6b44e823919026d2f2ab7f7ea97393bdef5d217ab3ab"), looks := false }, kinds := [], alts := [], laidByText := true, laidKinds := [.data, .pinned], laidTests := true, laidLooks := .later }
def OptionUintsCardSaid : Prop := Claim7.holds Tryd.pinned (.plain (OpenSpec.ofChange optionUintsSpec)) optionUintsCard

/-- THE TIED CARD OF 'coreseclaw16.OptionSets'. -/
def optionSetsCard : Claim7 := { stood := { row := optionSetsRow, standIns := [], harness := (true, "3a8e78bb35204b2cd5db6b44e823919026d2f2ab7f7ea97393bdef5d217ab3ab"), looks := false }, kinds := [], alts := [], laidByText := true, laidKinds := [.data, .pinned], laidTests := true, laidLooks := .later }
def OptionSetsCardSaid : Prop := Claim7.holds Tryd.pinned (.plain (OpenSpec.ofChange optionSetsSpec)) optionSetsCard

/-- THE TIED CARD OF 'coreseclaw16.OptionBack'. -/
def optionBackCard : Claim7 := { stood := { row := optionBackRow, standIns := [], harness := (true, "3a8e78bb35204b2cd5db6b44e823919026d2f2ab7f7ea97393bdef5d217ab3ab"), looks := false }, kinds := [], alts := [], laidByText := true, laidKinds := [.data, .pinned], laidTests := true, laidLooks := .later }
def OptionBackCardSaid : Prop := Claim7.holds Tryd.pinned (.plain (OpenSpec.ofChange optionBackSpec)) optionBackCard

/-- THE TIED CARD OF 'coreseclaw16.OptionNumbers'. -/
def optionNumbersCard : Claim7 := { stood := { row := optionNumbersRow, standIns := [], harness := (true, "3a8e78bb35204b2cd5db6b44e823919026d2f2ab7f7ea97393bdef5d217ab3ab"), looks := false }, kinds := [], alts := [], laidByText := true, laidKinds := [.data, .pinned], laidTests := true, laidLooks := .later }
def OptionNumbersCardSaid : Prop := Claim7.holds Tryd.pinned (.plain (OpenSpec.ofChange optionNumbersSpec)) optionNumbersCard

/-- THE TIED CARD OF 'coreseclaw16.OptionChecks'. -/
def optionChecksCard : Claim7 := { stood := { row := optionChecksRow, standIns := [], harness := (true, "3a8e78bb35204b2cd5db6b44e823919026d2f2ab7f7ea97393bdef5d217ab3ab"), looks := false }, kinds := [], alts := [], laidByText := true, laidKinds := [.data, .pinned], laidTests := true, laidLooks := .later }
def OptionChecksCardSaid : Prop := Claim7.holds Tryd.pinned (.plain (OpenSpec.ofChange optionChecksSpec)) optionChecksCard

/-- THE TIED CARD OF 'coreseclaw16.OptionKeys'. -/
def optionKeysCard : Claim7 := { stood := { row := optionKeysRow, standIns := [], harness := (true, "3a8e78bb35204b2cd5db6b44e823919026d2f2ab7f7ea97393bdef5d217ab3ab"), looks := false }, kinds := [], alts := [], laidByText := true, laidKinds := [.data, .pinned], laidTests := true, laidLooks := .later }
def OptionKeysCardSaid : Prop := Claim7.holds Tryd.pinned (.plain (OpenSpec.ofChange optionKeysSpec)) optionKeysCard

/-- THE TIED CARD OF 'coreseclaw16.OptionSame'. -/
def optionSameCard : Claim7 := { stood := { row := optionSameRow, standIns := [], harness := (true, "3a8e78bb35204b2cd5db6b44e823919026d2f2ab7f7ea97393bdef5d217ab3ab"), looks := false }, kinds := [], alts := [], laidByText := true, laidKinds := [.data, .pinned], laidTests := true, laidLooks := .later }
def OptionSameCardSaid : Prop := Claim7.holds Tryd.pinned (.plain (OpenSpec.ofChange optionSameSpec)) optionSameCard

/-- THE SECOND FORM's CARD OF 'coreseclaw16.OptionPaths'. -/
def optionPathsUptoCard : Claim7 := { stood := { row := optionPathsUptoRow, standIns := [], harness := (true, "3a8e78bb35204b2cd5db6b44e823919026d2f2ab7f7ea97393bdef5d217ab3ab"), looks := false }, kinds := [], alts := [], laidByText := true, laidKinds := [.data, .pinned], laidTests := true, laidLooks := .later }
def OptionPathsUptoCardSaid : Prop := Claim7.holds Tryd.pinned (.plain (OpenSpec.upto optionPathsSpec)) optionPathsUptoCard

/-- THE SECOND FORM's CARD OF 'coreseclaw16.OptionUints'. -/
def optionUintsUptoCard : Claim7 := { stood := { row := optionUintsUptoRow, standIns := [], harness := (true, "3a8e78bb35204b2cd5db6b44e823919026d2f2ab7f7ea97393bdef5d217ab3ab"), looks := false }, kinds := [], alts := [], laidByText := true, laidKinds := [.data, .pinned], laidTests := true, laidLooks := .later }
def OptionUintsUptoCardSaid : Prop := Claim7.holds Tryd.pinned (.plain (OpenSpec.upto optionUintsSpec)) optionUintsUptoCard

/-- THE SECOND FORM's CARD OF 'coreseclaw16.OptionSets'. -/
def optionSetsUptoCard : Claim7 := { stood := { row := optionSetsUptoRow, standIns := [], harness := (true, "3a8e78bb35204b2cd5db6b44e823919026d2f2ab7f7ea97393bdef5d217ab3ab"), looks := false }, kinds := [], alts := [], laidByText := true, laidKinds := [.data, .pinned], laidTests := true, laidLooks := .later }
def OptionSetsUptoCardSaid : Prop := Claim7.holds Tryd.pinned (.plain (OpenSpec.upto optionSetsSpec)) optionSetsUptoCard

/-- THE SECOND FORM's CARD OF 'coreseclaw16.OptionBack'. -/
def optionBackUptoCard : Claim7 := { stood := { row := optionBackUptoRow, standIns := [], harness := (true, "3a8e78bb35204b2cd5db6b44e823919026d2f2ab7f7ea97393bdef5d217ab3ab"), looks := false }, kinds := [], alts := [], laidByText := true, laidKinds := [.data, .pinned], laidTests := true, laidLooks := .later }
def OptionBackUptoCardSaid : Prop := Claim7.holds Tryd.pinned (.plain (OpenSpec.upto optionBackSpec)) optionBackUptoCard

/-- THE SECOND FORM's CARD OF 'coreseclaw16.OptionNumbers'. -/
def optionNumbersUptoCard : Claim7 := { stood := { row := optionNumbersUptoRow, standIns := [], harness := (true, "3a8e78bb35204b2cd5db6b44e823919026d2f2ab7f7ea97393bdef5d217ab3ab"), looks := false }, kinds := [], alts := [], laidByText := true, laidKinds := [.data, .pinned], laidTests := true, laidLooks := .later }
def OptionNumbersUptoCardSaid : Prop := Claim7.holds Tryd.pinned (.plain (OpenSpec.upto optionNumbersSpec)) optionNumbersUptoCard

/-- THE SECOND FORM's CARD OF 'coreseclaw16.OptionChecks'. -/
def optionChecksUptoCard : Claim7 := { stood := { row := optionChecksUptoRow, standIns := [], harness := (true, "3a8e78bb35204b2cd5db6b44e823919026d2f2ab7f7ea97393bdef5d217ab3ab"), looks := false }, kinds := [], alts := [], laidByText := true, laidKinds := [.data, .pinned], laidTests := true, laidLooks := .later }
def OptionChecksUptoCardSaid : Prop := Claim7.holds Tryd.pinned (.plain (OpenSpec.upto optionChecksSpec)) optionChecksUptoCard

/-- THE SECOND FORM's CARD OF 'coreseclaw16.OptionKeys'. -/
def optionKeysUptoCard : Claim7 := { stood := { row := optionKeysUptoRow, standIns := [], harness := (true, "3a8e78bb35204b2cd5db6b44e823919026d2f2ab7f7ea97393bdef5d217ab3ab"), looks := false }, kinds := [], alts := [], laidByText := true, laidKinds := [.data, .pinned], laidTests := true, laidLooks := .later }
def OptionKeysUptoCardSaid : Prop := Claim7.holds Tryd.pinned (.plain (OpenSpec.upto optionKeysSpec)) optionKeysUptoCard

/-- THE SECOND FORM's CARD OF 'coreseclaw16.OptionSame'. -/
def optionSameUptoCard : Claim7 := { stood := { row := optionSameUptoRow, standIns := [], harness := (true, "3a8e78bb35204b2cd5db6b44e823919026d2f2ab7f7ea97393bdef5d217ab3ab"), looks := false }, kinds := [], alts := [], laidByText := true, laidKinds := [.data, .pinned], laidTests := true, laidLooks := .later }
def OptionSameUptoCardSaid : Prop := Claim7.holds Tryd.pinned (.plain (OpenSpec.upto optionSameSpec)) optionSameUptoCard
end Rows
end Go.Proofs.YtllomdfckciedaaDoor
