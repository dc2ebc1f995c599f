/-
  NARROWER THAN 'FOR EVERY INPUT', by the rows' own cells (each row's printed sentence says how): ScopePermits: laid · ScopeTexts: laid · ScopeOrder: laid · ScopeForms: laid · ScopeLattice: laid.
  DERIVED. THE GIVEN ROWS OF THIS SEAT. 5 by the template 'for every input the law returns true; each argument reads behind the call as it read before'; 0 by the template 'total and deterministic' (their statements: YtmnbkcpopfmpdaaDoorTotals.lean).
  GIVEN WITH THE SEED: the statements are not yours to turn. If you find one false, say at which input.
  Laid BY PROGRAM, IN A SANDBOX (cutbox-rows.mjs): the forced cells as the released guide's own fill.sh prints them over the translation 9cb24c707e634995… (all of the seat's roots in one cut). By AI agents, Wed Nov 11 2026. No macro, syntax, notation, axiom, sorry.
-/
import Derived.Test.YtmnbkcpopfmpdaaDoorChecked
import GoSem.PinnedTables
import GoSem.Claim
import GoSem.ClaimJoined
import GoSem.ClaimMapViews
import Derived.JoinedTies
import Derived.KernelRfl
namespace Go.Proofs.YtmnbkcpopfmpdaaDoor
/- THE CELL 'sum', in the pinned program and in every row, IS THE sha256 OF THE DUMP (.gsa) THAT YtmnbkcpopfmpdaaDoorProg.lean LOADS. Nothing in Lean hashes anything: it is a label: what it is worth is what the hold of that sum in a sandbox is worth. -/
noncomputable def Tryd.pinned : Pinned := { name := "ytmnbkcpopfmpdaadoor", sum := "9cb24c707e634995bb6ea78a9dfc26e933ca62704845fcb00a4ea4cdd822a7ae", checked := Tryd.checked }
namespace Rows
def none {H : Type} : Left H := { results := [], args := [] }

/- WHAT THE LISTED PACKAGE-LEVEL VARIABLES READ AS WHEN THE CALL BEGINS. Each datum BY PROGRAM (the guide's laid-datum.mjs) off the statement by which the dump's own 'gosem.cut.vars' lays the variable. In a bare row this is a premise. The card (YtmnbkcpopfmpdaaDoorCards.lean) ties it to the program's text. -/
def laid_unicode_utf8_acceptRanges {H : Type} : DataW H := .agg [.agg [.lit (.int .u8 128), .lit (.int .u8 191)], .agg [.lit (.int .u8 160), .lit (.int .u8 191)], .agg [.lit (.int .u8 128), .lit (.int .u8 159)], .agg [.lit (.int .u8 144), .lit (.int .u8 191)], .agg [.lit (.int .u8 128), .lit (.int .u8 143)], .agg [.lit (.int .u8 0), .lit (.int .u8 0)], .agg [.lit (.int .u8 0), .lit (.int .u8 0)], .agg [.lit (.int .u8 0), .lit (.int .u8 0)], .agg [.lit (.int .u8 0), .lit (.int .u8 0)], .agg [.lit (.int .u8 0), .lit (.int .u8 0)], .agg [.lit (.int .u8 0), .lit (.int .u8 0)], .agg [.lit (.int .u8 0), .lit (.int .u8 0)], .agg [.lit (.int .u8 0), .lit (.int .u8 0)], .agg [.lit (.int .u8 0), .lit (.int .u8 0)], .agg [.lit (.int .u8 0), .lit (.int .u8 0)], .agg [.lit (.int .u8 0), .lit (.int .u8 0)]]
/-- One of Go's own tables, pinned by name: the form's constant. -/
def laid_unicode_utf8_first : DataW Unit := Go.Pinned.utf8First

/-- 'coreseclaw39.ScopePermits': WHATEVER THE INPUT: true; the input reads as it did. -/
def scopePermitsSpec : ChangeSpec := { name := "scopePermits", fn := fun _ => fun
  | [d1, d2, d3, d4] => { results := [.lit (.bool true)], args := [d1, d2, d3, d4] }
  | _ => none }
def scopePermitsRow : OpenClaim := { program := "ytmnbkcpopfmpdaadoor", sum := "9cb24c707e634995bb6ea78a9dfc26e933ca62704845fcb00a4ea4cdd822a7ae", func := "coresec/coreseclaw39.ScopePermits", spec := "scopePermits", inPlace := ["internal/bytealg.CountString", "internal/bytealg.IndexByteString", "internal/bytealg.IndexString", "internal/abi.NoEscape", "internal/bytealg.MakeNoZero"], named := ["unicode/utf8.first", "unicode/utf8.acceptRanges", "internal/bytealg.MaxLen"], apart := false, laid := [("unicode/utf8.acceptRanges", laid_unicode_utf8_acceptRanges), ("unicode/utf8.first", laid_unicode_utf8_first)] }
def ScopePermitsSaid : Prop := scopePermitsRow.holds Tryd.pinned (OpenSpec.ofChange scopePermitsSpec)

/-- ITS FALSE NEIGHBOUR: 'it returns false'. Refute it at one input. -/
def scopePermitsWrong : ChangeSpec := { name := "scopePermits", fn := fun _ => fun
  | [d1, d2, d3, d4] => { results := [.lit (.bool false)], args := [d1, d2, d3, d4] }
  | _ => none }
def ScopePermitsWrongFalsely : Prop := scopePermitsRow.holds Tryd.pinned (OpenSpec.ofChange scopePermitsWrong)

/-- 'coreseclaw39.ScopeTexts': WHATEVER THE INPUT: true; the input reads as it did. -/
def scopeTextsSpec : ChangeSpec := { name := "scopeTexts", fn := fun _ => fun
  | [d1, d2, d3, d4, d5] => { results := [.lit (.bool true)], args := [d1, d2, d3, d4, d5] }
  | _ => none }
def scopeTextsRow : OpenClaim := { program := "ytmnbkcpopfmpdaadoor", sum := "9cb24c707e634995bb6ea78a9dfc26e933ca62704845fcb00a4ea4cdd822a7ae", func := "coresec/coreseclaw39.ScopeTexts", spec := "scopeTexts", inPlace := ["internal/bytealg.CountString", "internal/bytealg.IndexByteString", "internal/bytealg.IndexString", "internal/abi.NoEscape", "internal/bytealg.MakeNoZero"], named := ["unicode/utf8.first", "unicode/utf8.acceptRanges", "internal/bytealg.MaxLen"], apart := false, laid := [("unicode/utf8.acceptRanges", laid_unicode_utf8_acceptRanges), ("unicode/utf8.first", laid_unicode_utf8_first)] }
def ScopeTextsSaid : Prop := scopeTextsRow.holds Tryd.pinned (OpenSpec.ofChange scopeTextsSpec)

/-- ITS FALSE NEIGHBOUR: 'it returns false'. Refute it at one input. -/
def scopeTextsWrong : ChangeSpec := { name := "scopeTexts", fn := fun _ => fun
  | [d1, d2, d3, d4, d5] => { results := [.lit (.bool false)], args := [d1, d2, d3, d4, d5] }
  | _ => none }
def ScopeTextsWrongFalsely : Prop := scopeTextsRow.holds Tryd.pinned (OpenSpec.ofChange scopeTextsWrong)

/-- 'coreseclaw39.ScopeOrder': WHATEVER THE INPUT: true; the input reads as it did. -/
def scopeOrderSpec : ChangeSpec := { name := "scopeOrder", fn := fun _ => fun
  | [d1, d2, d3, d4] => { results := [.lit (.bool true)], args := [d1, d2, d3, d4] }
  | _ => none }
def scopeOrderRow : OpenClaim := { program := "ytmnbkcpopfmpdaadoor", sum := "9cb24c707e634995bb6ea78a9dfc26e933ca62704845fcb00a4ea4cdd822a7ae", func := "coresec/coreseclaw39.ScopeOrder", spec := "scopeOrder", inPlace := ["internal/bytealg.CountString", "internal/bytealg.IndexByteString", "internal/bytealg.IndexString", "internal/abi.NoEscape", "internal/bytealg.MakeNoZero", "internal/reflectlite.ValueOf", "internal/reflectlite.Swapper", "(internal/reflectlite.Value).Len"], unfollowed := true, recurses := true, named := ["unicode/utf8.first", "unicode/utf8.acceptRanges", "internal/bytealg.MaxLen"], apart := false, laid := [("unicode/utf8.acceptRanges", laid_unicode_utf8_acceptRanges), ("unicode/utf8.first", laid_unicode_utf8_first)] }
def ScopeOrderSaid : Prop := scopeOrderRow.holds Tryd.pinned (OpenSpec.ofChange scopeOrderSpec)

/-- ITS FALSE NEIGHBOUR: 'it returns false'. Refute it at one input. -/
def scopeOrderWrong : ChangeSpec := { name := "scopeOrder", fn := fun _ => fun
  | [d1, d2, d3, d4] => { results := [.lit (.bool false)], args := [d1, d2, d3, d4] }
  | _ => none }
def ScopeOrderWrongFalsely : Prop := scopeOrderRow.holds Tryd.pinned (OpenSpec.ofChange scopeOrderWrong)

/-- 'coreseclaw39.ScopeForms': WHATEVER THE INPUT: true; the input reads as it did. -/
def scopeFormsSpec : ChangeSpec := { name := "scopeForms", fn := fun _ => fun
  | [d1, d2, d3, d4] => { results := [.lit (.bool true)], args := [d1, d2, d3, d4] }
  | _ => none }
def scopeFormsRow : OpenClaim := { program := "ytmnbkcpopfmpdaadoor", sum := "9cb24c707e634995bb6ea78a9dfc26e933ca62704845fcb00a4ea4cdd822a7ae", func := "coresec/coreseclaw39.ScopeForms", spec := "scopeForms", inPlace := ["internal/bytealg.CountString", "internal/bytealg.IndexByteString", "internal/bytealg.IndexString", "internal/abi.NoEscape", "internal/bytealg.MakeNoZero", "internal/reflectlite.ValueOf", "internal/reflectlite.Swapper", "(internal/reflectlite.Value).Len"], unfollowed := true, recurses := true, named := ["unicode/utf8.first", "unicode/utf8.acceptRanges", "internal/bytealg.MaxLen"], apart := false, laid := [("unicode/utf8.acceptRanges", laid_unicode_utf8_acceptRanges), ("unicode/utf8.first", laid_unicode_utf8_first)] }
def ScopeFormsSaid : Prop := scopeFormsRow.holds Tryd.pinned (OpenSpec.ofChange scopeFormsSpec)

/-- ITS FALSE NEIGHBOUR: 'it returns false'. Refute it at one input. -/
def scopeFormsWrong : ChangeSpec := { name := "scopeForms", fn := fun _ => fun
  | [d1, d2, d3, d4] => { results := [.lit (.bool false)], args := [d1, d2, d3, d4] }
  | _ => none }
def ScopeFormsWrongFalsely : Prop := scopeFormsRow.holds Tryd.pinned (OpenSpec.ofChange scopeFormsWrong)

/-- 'coreseclaw39.ScopeLattice': WHATEVER THE INPUT: true; the input reads as it did. -/
def scopeLatticeSpec : ChangeSpec := { name := "scopeLattice", fn := fun _ => fun
  | [d1, d2, d3, d4] => { results := [.lit (.bool true)], args := [d1, d2, d3, d4] }
  | _ => none }
def scopeLatticeRow : OpenClaim := { program := "ytmnbkcpopfmpdaadoor", sum := "9cb24c707e634995bb6ea78a9dfc26e933ca62704845fcb00a4ea4cdd822a7ae", func := "coresec/coreseclaw39.ScopeLattice", spec := "scopeLattice", inPlace := ["internal/bytealg.CountString", "internal/bytealg.IndexByteString", "internal/bytealg.IndexString", "internal/abi.NoEscape", "internal/bytealg.MakeNoZero", "internal/reflectlite.ValueOf", "internal/reflectlite.Swapper", "(internal/reflectlite.Value).Len"], unfollowed := true, recurses := true, named := ["unicode/utf8.first", "unicode/utf8.acceptRanges", "internal/bytealg.MaxLen"], apart := false, laid := [("unicode/utf8.acceptRanges", laid_unicode_utf8_acceptRanges), ("unicode/utf8.first", laid_unicode_utf8_first)] }
def ScopeLatticeSaid : Prop := scopeLatticeRow.holds Tryd.pinned (OpenSpec.ofChange scopeLatticeSpec)

/-- ITS FALSE NEIGHBOUR: 'it returns false'. Refute it at one input. -/
def scopeLatticeWrong : ChangeSpec := { name := "scopeLattice", fn := fun _ => fun
  | [d1, d2, d3, d4] => { results := [.lit (.bool false)], args := [d1, d2, d3, d4] }
  | _ => none }
def ScopeLatticeWrongFalsely : Prop := scopeLatticeRow.holds Tryd.pinned (OpenSpec.ofChange scopeLatticeWrong)

/- THE SECOND FORM. 'bulk': how many values and letters a reading holds, each counted each time it is reached (what is shared counts as often as it is met; a slice's spare places count too). A statement '..UptoSaid' is the law's where the arguments, and the package variables that the reading takes, are together of bulk at most 1048576: NARROWER than '..Said'. Prove '..Said' where nothing that the law and all that it calls make is longer than what came in: it says more and counts as full. Else prove '..UptoSaid'. A law counts once. -/
mutual
def uptoBulk {H : Type} : DataW H → Nat
  | .lit (.string bytes) => bytes.length + 1
  | .lit _ => 1
  | .nil => 1
  | .ptr d => uptoBulk d + 1
  | .slice elems spare => uptoBulkAll elems + uptoBulkAll spare + 1
  | .agg parts => uptoBulkAll parts + 1
  | .iface _ d => uptoBulk d + 1
  | .map entries => uptoBulkEntries entries + 1
  | .held _ => 1
def uptoBulkAll {H : Type} : List (DataW H) → Nat
  | [] => 0
  | d :: r => uptoBulk d + uptoBulkAll r
def uptoBulkEntries {H : Type} : List (Lit × DataW H) → Nat
  | [] => 0
  | x :: r => uptoBulkEntry x + uptoBulkEntries r
def uptoBulkEntry {H : Type} : Lit × DataW H → Nat
  | (.string bytes, d) => bytes.length + uptoBulk d + 1
  | (_, d) => uptoBulk d + 1
 end
def uptoSmall : (H : Type) → List (DataW H) → Bool := fun _ ds => decide (uptoBulkAll ds ≤ 1048576)
def OpenSpec.upto (s : _root_.Go.ChangeSpec) : _root_.Go.OpenSpec := { _root_.Go.OpenSpec.ofChange s with cond := some uptoSmall }

/-- 'coreseclaw39.ScopePermits', WHERE WHAT IT READS IS OF BULK AT MOST 1048576: true; the input reads as it did. -/
def scopePermitsUptoRow : OpenClaim := { program := "ytmnbkcpopfmpdaadoor", sum := "9cb24c707e634995bb6ea78a9dfc26e933ca62704845fcb00a4ea4cdd822a7ae", func := "coresec/coreseclaw39.ScopePermits", spec := "scopePermits", inPlace := ["internal/bytealg.CountString", "internal/bytealg.IndexByteString", "internal/bytealg.IndexString", "internal/abi.NoEscape", "internal/bytealg.MakeNoZero"], named := ["unicode/utf8.first", "unicode/utf8.acceptRanges", "internal/bytealg.MaxLen"], apart := false, laid := [("unicode/utf8.acceptRanges", laid_unicode_utf8_acceptRanges), ("unicode/utf8.first", laid_unicode_utf8_first)], narrowed := true }
def ScopePermitsUptoSaid : Prop := scopePermitsUptoRow.holds Tryd.pinned (OpenSpec.upto scopePermitsSpec)

/-- 'coreseclaw39.ScopeTexts', WHERE WHAT IT READS IS OF BULK AT MOST 1048576: true; the input reads as it did. -/
def scopeTextsUptoRow : OpenClaim := { program := "ytmnbkcpopfmpdaadoor", sum := "9cb24c707e634995bb6ea78a9dfc26e933ca62704845fcb00a4ea4cdd822a7ae", func := "coresec/coreseclaw39.ScopeTexts", spec := "scopeTexts", inPlace := ["internal/bytealg.CountString", "internal/bytealg.IndexByteString", "internal/bytealg.IndexString", "internal/abi.NoEscape", "internal/bytealg.MakeNoZero"], named := ["unicode/utf8.first", "unicode/utf8.acceptRanges", "internal/bytealg.MaxLen"], apart := false, laid := [("unicode/utf8.acceptRanges", laid_unicode_utf8_acceptRanges), ("unicode/utf8.first", laid_unicode_utf8_first)], narrowed := true }
def ScopeTextsUptoSaid : Prop := scopeTextsUptoRow.holds Tryd.pinned (OpenSpec.upto scopeTextsSpec)

/-- 'coreseclaw39.ScopeOrder', WHERE WHAT IT READS IS OF BULK AT MOST 1048576: true; the input reads as it did. -/
def scopeOrderUptoRow : OpenClaim := { program := "ytmnbkcpopfmpdaadoor", sum := "9cb24c707e634995bb6ea78a9dfc26e933ca62704845fcb00a4ea4cdd822a7ae", func := "coresec/coreseclaw39.ScopeOrder", spec := "scopeOrder", inPlace := ["internal/bytealg.CountString", "internal/bytealg.IndexByteString", "internal/bytealg.IndexString", "internal/abi.NoEscape", "internal/bytealg.MakeNoZero", "internal/reflectlite.ValueOf", "internal/reflectlite.Swapper", "(internal/reflectlite.Value).Len"], unfollowed := true, recurses := true, named := ["unicode/utf8.first", "unicode/utf8.acceptRanges", "internal/bytealg.MaxLen"], apart := false, laid := [("unicode/utf8.acceptRanges", laid_unicode_utf8_acceptRanges), ("unicode/utf8.first", laid_unicode_utf8_first)], narrowed := true }
def ScopeOrderUptoSaid : Prop := scopeOrderUptoRow.holds Tryd.pinned (OpenSpec.upto scopeOrderSpec)

/-- 'coreseclaw39.ScopeForms', WHERE WHAT IT READS IS OF BULK AT MOST 1048576: true; the input reads as it did. -/
def scopeFormsUptoRow : OpenClaim := { program := "ytmnbkcpopfmpdaadoor", sum := "9cb24c707e634995bb6ea78a9dfc26e933ca62704845fcb00a4ea4cdd822a7ae", func := "coresec/coreseclaw39.ScopeForms", spec := "scopeForms", inPlace := ["internal/bytealg.CountString", "internal/bytealg.IndexByteString", "internal/bytealg.IndexString", "internal/abi.NoEscape", "internal/bytealg.MakeNoZero", "internal/reflectlite.ValueOf", "internal/reflectlite.Swapper", "(internal/reflectlite.Value).Len"], unfollowed := true, recurses := true, named := ["unicode/utf8.first", "unicode/utf8.acceptRanges", "internal/bytealg.MaxLen"], apart := false, laid := [("unicode/utf8.acceptRanges", laid_unicode_utf8_acceptRanges), ("unicode/utf8.first", laid_unicode_utf8_first)], narrowed := true }
def ScopeFormsUptoSaid : Prop := scopeFormsUptoRow.holds Tryd.pinned (OpenSpec.upto scopeFormsSpec)

/-- 'coreseclaw39.ScopeLattice', WHERE WHAT IT READS IS OF BULK AT MOST 1048576: true; the input reads as it did. -/
def scopeLatticeUptoRow : OpenClaim := { program := "ytmnbkcpopfmpdaadoor", sum := "9cb24c707e634995bb6ea78a9dfc26e933ca62704845fcb00a4ea4cdd822a7ae", func := "coresec/coreseclaw39.ScopeLattice", spec := "scopeLattice", inPlace := ["internal/bytealg.CountString", "internal/bytealg.IndexByteString", "internal/bytealg.IndexString", "internal/abi.NoEscape", "internal/bytealg.MakeNoZero", "internal/reflectlite.ValueOf", "internal/reflectlite.Swapper", "(internal/reflectlite.Value).Len"], unfollowed := true, recurses := true, named := ["unicode/utf8.first", "unicode/utf8.acceptRanges", "internal/bytealg.MaxLen"], apart := false, laid := [("unicode/utf8.acceptRanges", laid_unicode_utf8_acceptRanges), ("unicode/utf8.first", laid_unicode_utf8_first)], narrowed := true }
def ScopeLatticeUptoSaid : Prop := scopeLatticeUptoRow.holds Tryd.pinned (OpenSpec.upto scopeLatticeSpec)

end Rows
end Go.Proofs.YtmnbkcpopfmpdaaDoor
