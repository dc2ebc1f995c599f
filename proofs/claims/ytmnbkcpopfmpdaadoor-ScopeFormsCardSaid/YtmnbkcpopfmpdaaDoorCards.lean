/-
  DERIVED. GIVEN WITH THE SEED: THE CARDS: each row of YtmnbkcpopfmpdaaDoorRows.lean that lists a variable, with what it lists TIED to the program's text (the seventh form; the later family's looks); each row that meets fmt, with fmt's text TOLD by the authors' own Lean function (tested against real Go, not proved from fmt's source: count such statements apart). THE CARD IS WHAT COUNTS. Prove the row's statement (the work); the ties are given (YtmnbkcpopfmpdaaDoorTie.lean); close each card by the builder's one call (the guide's Derived/Test/ToyasCard.lean, 'card_holds'). Laid BY PROGRAM, IN A SANDBOX (cutbox-door.mjs). By AI agents, Wed Nov 11 2026. No macro, syntax, notation, axiom, sorry.
-/
import Derived.Test.YtmnbkcpopfmpdaaDoorRows
import GoSem.ClaimSeven
namespace Go.Proofs.YtmnbkcpopfmpdaaDoor
namespace Rows

/-- THE TIED CARD OF 'coreseclaw39.ScopePermits'. -/
def scopePermitsCard : Claim7 := { stood := { row := scopePermitsRow, standIns := [], harness := (true, "c21b081e4945739a6ff4b9ce1027a70420908685e95275e48686680c722961a2"), looks := false }, kinds := [], alts := [], laidByText := true, laidKinds := [.data, .pinned], laidTests := true, laidLooks := .later }
def ScopePermitsCardSaid : Prop := Claim7.holds Tryd.pinned (.plain (OpenSpec.ofChange scopePermitsSpec)) scopePermitsCard

/-- THE TIED CARD OF 'coreseclaw39.ScopeTexts'. -/
def scopeTextsCard : Claim7 := { stood := { row := scopeTextsRow, standIns := [], harness := (true, "c21b081e4945739a6ff4b9ce1027a70420908685e95275e48686680c722961a2"), looks := false }, kinds := [], alts := [], laidByText := true, laidKinds := [.data, .pinned], laidTests := true, laidLooks := .later }
def ScopeTextsCardSaid : Prop := Claim7.holds Tryd.pinned (.plain (OpenSpec.ofChange scopeTextsSpec)) scopeTextsCard

/-- THE TIED CARD OF 'coreseclaw39.ScopeOrder'. -/
def scopeOrderCard : Claim7 := { stood := { row := scopeOrderRow, standIns := [], harness := (true, "c21b081e4945739a6ff4b9ce1027a70420908685e95275e48686680c722961a2"), looks := false }, kinds := [], alts := [], laidByText := true, laidKinds := [.data, .pinned], laidTests := true, laidLooks := .later }
def ScopeOrderCardSaid : Prop := Claim7.holds Tryd.pinned (.plain (OpenSpec.ofChange scopeOrderSpec)) scopeOrderCard

/-- THE TIED CARD OF 'coreseclaw39.ScopeForms'. -/
def scopeFormsCard : Claim7 := { stood := { row := scopeFormsRow, standIns := [], harness := (true, "c21b081e4945739a6ff4b9ce1027a70420908685e95275e48686680c722961a2"), looks := false }, kinds := [], alts := [], laidByText := true, laidKinds := [.data, .pinned], laidTests := true, laidLooks := .later }
def ScopeFormsCardSaid : Prop := Claim7.holds Tryd.pinned (.plain (OpenSpec.ofChange scopeFormsSpec)) scopeFormsCard

/-- THE TIED CARD OF 'coreseclaw39.ScopeLattice'. -/
def scopeLatticeCard : Claim7 := { stood := { row := scopeLatticeRow, standIns := [], harness := (true, "c21b081e4945739a6ff4b9ce1027a70420908685e95275e48686680c722961a2"), looks := false }, kinds := [], alts := [], laidByText := true, laidKinds := [.data, .pinned], laidTests := true, laidLooks := .later }
def ScopeLatticeCardSaid : Prop := Claim7.holds Tryd.pinned (.plain (OpenSpec.ofChange scopeLatticeSpec)) scopeLatticeCard

/-- THE SECOND FORM's CARD OF 'coreseclaw39.ScopePermits'. -/
def scopePermitsUptoCard : Claim7 := { stood := { row := scopePermitsUptoRow, standIns := [], harness := (true, "c21b081e4945739a6ff4b9ce1027a70420908685e95275e48686680c722961a2"), looks := false }, kinds := [], alts := [], laidByText := true, laidKinds := [.data, .pinned], laidTests := true, laidLooks := .later }
def ScopePermitsUptoCardSaid : Prop := Claim7.holds Tryd.pinned (.plain (OpenSpec.upto scopePermitsSpec)) scopePermitsUptoCard

/-- THE SECOND FORM's CARD OF 'coreseclaw39.ScopeTexts'. -/
def scopeTextsUptoCard : Claim7 := { stood := { row := scopeTextsUptoRow, standIns := [], harness := (true, "c21b081e4945739a6ff4b9ce1027a70420908685e95275e48686680c722961a2"), looks := false }, kinds := [], alts := [], laidByText := true, laidKinds := [.data, .pinned], laidTests := true, laidLooks := .later }
def ScopeTextsUptoCardSaid : Prop := Claim7.holds Tryd.pinned (.plain (OpenSpec.upto scopeTextsSpec)) scopeTextsUptoCard

/-- THE SECOND FORM's CARD OF 'coreseclaw39.ScopeOrder'. -/
def scopeOrderUptoCard : Claim7 := { stood := { row := scopeOrderUptoRow, standIns := [], harness := (true, "c21b081e4945739a6ff4b9ce1027a70420908685e95275e48686680c722961a2"), looks := false }, kinds := [], alts := [], laidByText := true, laidKinds := [.data, .pinned], laidTests := true, laidLooks := .later }
def ScopeOrderUptoCardSaid : Prop := Claim7.holds Tryd.pinned (.plain (OpenSpec.upto scopeOrderSpec)) scopeOrderUptoCard

/-- THE SECOND FORM's CARD OF 'coreseclaw39.ScopeForms'. -/
def scopeFormsUptoCard : Claim7 := { stood := { row := scopeFormsUptoRow, standIns := [], harness := (true, "c21b081e4945739a6ff4b9ce1027a70420908685e95275e48686680c722961a2"), looks := false }, kinds := [], alts := [], laidByText := true, laidKinds := [.data, .pinned], laidTests := true, laidLooks := .later }
def ScopeFormsUptoCardSaid : Prop := Claim7.holds Tryd.pinned (.plain (OpenSpec.upto scopeFormsSpec)) scopeFormsUptoCard

/-- THE SECOND FORM's CARD OF 'coreseclaw39.ScopeLattice'. -/
def scopeLatticeUptoCard : Claim7 := { stood := { row := scopeLatticeUptoRow, standIns := [], harness := (true, "c21b081e4945739a6ff4b9ce1027a70420908685e95275e48686680c722961a2"), looks := false }, kinds := [], alts := [], laidByText := true, laidKinds := [.data, .pinned], laidTests := true, laidLooks := .later }
def ScopeLatticeUptoCardSaid : Prop := Claim7.holds Tryd.pinned (.plain (OpenSpec.upto scopeLatticeSpec)) scopeLatticeUptoCard
end Rows
end Go.Proofs.YtmnbkcpopfmpdaaDoor
