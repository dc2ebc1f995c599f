/-
  NARROWER THAN 'FOR EVERY INPUT', by the rows' own cells (each row's printed sentence says how): OptionPaths: laid · OptionUints: laid · OptionSets: laid · OptionBack: laid · OptionNumbers: laid · OptionChecks: laid · OptionKeys: laid · OptionSame: laid.
  DERIVED. THE GIVEN ROWS OF THIS SEAT. 8 by the template 'for every input the law returns true; each argument reads behind the call as it read before'; 0 by the template 'total and deterministic' (their statements: YtllomdfckciedaaDoorTotals.lean).
  GIVEN WITH THE SEED: the statements are not yours to turn. If you find one false, say at which input.
  Laid BY PROGRAM, IN A SANDBOX (cutbox-rows.mjs): the forced cells as the released guide's own fill.sh prints them over the translation f8a0bb3fb52ff674… (all of the seat's roots in one cut). By AI agents, Wed Nov 11 2026. No macro, syntax, notation, axiom, sorry.
-/
import Derived.Test.YtllomdfckciedaaDoorChecked
import GoSem.PinnedTables
import GoSem.Claim
import GoSem.ClaimJoined
import GoSem.ClaimMapViews
import Derived.JoinedTies
import Derived.KernelRfl
namespace Go.Proofs.YtllomdfckciedaaDoor
/- THE CELL 'sum', in the pinned program and in every row, IS THE sha256 OF THE DUMP (.gsa) THAT YtllomdfckciedaaDoorProg.lean LOADS. Nothing in Lean hashes anything: it is a label: what it is worth is what the hold of that sum in a sandbox is worth. -/
noncomputable def Tryd.pinned : Pinned := { name := "ytllomdfckciedaadoor", sum := "f8a0bb3fb52ff674e62bbd9b100108c7fb78e3eb6dca18e3e6189c4738bd38d2", checked := Tryd.checked }
namespace Rows
def none {H : Type} : Left H := { results := [], args := [] }

/- WHAT THE LISTED PACKAGE-LEVEL VARIABLES READ AS WHEN THE CALL BEGINS. Each datum BY PROGRAM (the guide's laid-datum.mjs) off the statement by which the dump's own 'gosem.cut.vars' lays the variable. In a bare row this is a premise. The card (YtllomdfckciedaaDoorCards.lean) ties it to the program's text. -/
def laid_unicode_utf8_acceptRanges {H : Type} : DataW H := .agg [.agg [.lit (.int .u8 128), .lit (.int .u8 191)], .agg [.lit (.int .u8 160), .lit (.int .u8 191)], .agg [.lit (.int .u8 128), .lit (.int .u8 159)], .agg [.lit (.int .u8 144), .lit (.int .u8 191)], .agg [.lit (.int .u8 128), .lit (.int .u8 143)], .agg [.lit (.int .u8 0), .lit (.int .u8 0)], .agg [.lit (.int .u8 0), .lit (.int .u8 0)], .agg [.lit (.int .u8 0), .lit (.int .u8 0)], .agg [.lit (.int .u8 0), .lit (.int .u8 0)], .agg [.lit (.int .u8 0), .lit (.int .u8 0)], .agg [.lit (.int .u8 0), .lit (.int .u8 0)], .agg [.lit (.int .u8 0), .lit (.int .u8 0)], .agg [.lit (.int .u8 0), .lit (.int .u8 0)], .agg [.lit (.int .u8 0), .lit (.int .u8 0)], .agg [.lit (.int .u8 0), .lit (.int .u8 0)], .agg [.lit (.int .u8 0), .lit (.int .u8 0)]]
/-- One of Go's own tables, pinned by name: the form's constant. -/
def laid_unicode_utf8_first : DataW Unit := Go.Pinned.utf8First

/-- 'coreseclaw16.OptionPaths': WHATEVER THE INPUT: true; the input reads as it did. -/
def optionPathsSpec : ChangeSpec := { name := "optionPaths", fn := fun _ => fun
  | [d1, d2, d3, d4] => { results := [.lit (.bool true)], args := [d1, d2, d3, d4] }
  | _ => none }
def optionPathsRow : OpenClaim := { program := "ytllomdfckciedaadoor", sum := "f8a0bb3fb52ff674e62bbd9b100108c7fb78e3eb6dca18e3e6189c4738bd38d2", func := "coresec/coreseclaw16.OptionPaths", spec := "optionPaths", inPlace := ["internal/bytealg.CountString", "internal/bytealg.IndexByteString", "internal/bytealg.IndexString", "internal/abi.NoEscape"], named := ["unicode/utf8.first", "unicode/utf8.acceptRanges", "internal/bytealg.MaxLen"], apart := false, laid := [("unicode/utf8.acceptRanges", laid_unicode_utf8_acceptRanges), ("unicode/utf8.first", laid_unicode_utf8_first)] }
def OptionPathsSaid : Prop := optionPathsRow.holds Tryd.pinned (OpenSpec.ofChange optionPathsSpec)

/-- ITS FALSE NEIGHBOUR: 'it returns false'. Refute it at one input. -/
def optionPathsWrong : ChangeSpec := { name := "optionPaths", fn := fun _ => fun
  | [d1, d2, d3, d4] => { results := [.lit (.bool false)], args := [d1, d2, d3, d4] }
  | _ => none }
def OptionPathsWrongFalsely : Prop := optionPathsRow.holds Tryd.pinned (OpenSpec.ofChange optionPathsWrong)

/-- 'coreseclaw16.OptionUints': WHATEVER THE INPUT: true; the input reads as it did. -/
def optionUintsSpec : ChangeSpec := { name := "optionUints", fn := fun _ => fun
  | [d1, d2] => { results := [.lit (.bool true)], args := [d1, d2] }
  | _ => none }
def optionUintsRow : OpenClaim := { program := "ytllomdfckciedaadoor", sum := "f8a0bb3fb52ff674e62bbd9b100108c7fb78e3eb6dca18e3e6189c4738bd38d2", func := "coresec/coreseclaw16.OptionUints", spec := "optionUints", inPlace := ["internal/bytealg.CountString", "internal/bytealg.IndexByteString", "internal/bytealg.IndexString", "internal/abi.NoEscape"], named := ["unicode/utf8.first", "unicode/utf8.acceptRanges", "internal/bytealg.MaxLen"], apart := false, laid := [("unicode/utf8.acceptRanges", laid_unicode_utf8_acceptRanges), ("unicode/utf8.first", laid_unicode_utf8_first)] }
def OptionUintsSaid : Prop := optionUintsRow.holds Tryd.pinned (OpenSpec.ofChange optionUintsSpec)

/-- ITS FALSE NEIGHBOUR: 'it returns false'. Refute it at one input. -/
def optionUintsWrong : ChangeSpec := { name := "optionUints", fn := fun _ => fun
  | [d1, d2] => { results := [.lit (.bool false)], args := [d1, d2] }
  | _ => none }
def OptionUintsWrongFalsely : Prop := optionUintsRow.holds Tryd.pinned (OpenSpec.ofChange optionUintsWrong)

/-- 'coreseclaw16.OptionSets': WHATEVER THE INPUT: true; the input reads as it did. -/
def optionSetsSpec : ChangeSpec := { name := "optionSets", fn := fun _ => fun
  | [d1, d2, d3] => { results := [.lit (.bool true)], args := [d1, d2, d3] }
  | _ => none }
def optionSetsRow : OpenClaim := { program := "ytllomdfckciedaadoor", sum := "f8a0bb3fb52ff674e62bbd9b100108c7fb78e3eb6dca18e3e6189c4738bd38d2", func := "coresec/coreseclaw16.OptionSets", spec := "optionSets", inPlace := ["internal/bytealg.CountString", "internal/bytealg.IndexByteString", "internal/bytealg.IndexString", "internal/abi.NoEscape"], named := ["unicode/utf8.first", "unicode/utf8.acceptRanges", "internal/bytealg.MaxLen"], apart := false, laid := [("unicode/utf8.acceptRanges", laid_unicode_utf8_acceptRanges), ("unicode/utf8.first", laid_unicode_utf8_first)] }
def OptionSetsSaid : Prop := optionSetsRow.holds Tryd.pinned (OpenSpec.ofChange optionSetsSpec)

/-- ITS FALSE NEIGHBOUR: 'it returns false'. Refute it at one input. -/
def optionSetsWrong : ChangeSpec := { name := "optionSets", fn := fun _ => fun
  | [d1, d2, d3] => { results := [.lit (.bool false)], args := [d1, d2, d3] }
  | _ => none }
def OptionSetsWrongFalsely : Prop := optionSetsRow.holds Tryd.pinned (OpenSpec.ofChange optionSetsWrong)

/-- 'coreseclaw16.OptionBack': WHATEVER THE INPUT: true; the input reads as it did. -/
def optionBackSpec : ChangeSpec := { name := "optionBack", fn := fun _ => fun
  | [d1, d2, d3] => { results := [.lit (.bool true)], args := [d1, d2, d3] }
  | _ => none }
def optionBackRow : OpenClaim := { program := "ytllomdfckciedaadoor", sum := "f8a0bb3fb52ff674e62bbd9b100108c7fb78e3eb6dca18e3e6189c4738bd38d2", func := "coresec/coreseclaw16.OptionBack", spec := "optionBack", inPlace := ["internal/bytealg.CountString", "internal/bytealg.IndexByteString", "internal/bytealg.IndexString", "internal/abi.NoEscape"], named := ["unicode/utf8.first", "unicode/utf8.acceptRanges", "internal/bytealg.MaxLen"], apart := false, laid := [("unicode/utf8.acceptRanges", laid_unicode_utf8_acceptRanges), ("unicode/utf8.first", laid_unicode_utf8_first)] }
def OptionBackSaid : Prop := optionBackRow.holds Tryd.pinned (OpenSpec.ofChange optionBackSpec)

/-- ITS FALSE NEIGHBOUR: 'it returns false'. Refute it at one input. -/
def optionBackWrong : ChangeSpec := { name := "optionBack", fn := fun _ => fun
  | [d1, d2, d3] => { results := [.lit (.bool false)], args := [d1, d2, d3] }
  | _ => none }
def OptionBackWrongFalsely : Prop := optionBackRow.holds Tryd.pinned (OpenSpec.ofChange optionBackWrong)

/-- 'coreseclaw16.OptionNumbers': WHATEVER THE INPUT: true; the input reads as it did. -/
def optionNumbersSpec : ChangeSpec := { name := "optionNumbers", fn := fun _ => fun
  | [d] => { results := [.lit (.bool true)], args := [d] }
  | _ => none }
def optionNumbersRow : OpenClaim := { program := "ytllomdfckciedaadoor", sum := "f8a0bb3fb52ff674e62bbd9b100108c7fb78e3eb6dca18e3e6189c4738bd38d2", func := "coresec/coreseclaw16.OptionNumbers", spec := "optionNumbers", inPlace := ["internal/bytealg.CountString", "internal/bytealg.IndexByteString", "internal/bytealg.IndexString", "internal/abi.NoEscape"], named := ["unicode/utf8.first", "unicode/utf8.acceptRanges", "internal/bytealg.MaxLen"], apart := false, laid := [("unicode/utf8.acceptRanges", laid_unicode_utf8_acceptRanges), ("unicode/utf8.first", laid_unicode_utf8_first)] }
def OptionNumbersSaid : Prop := optionNumbersRow.holds Tryd.pinned (OpenSpec.ofChange optionNumbersSpec)

/-- ITS FALSE NEIGHBOUR: 'it returns false'. Refute it at one input. -/
def optionNumbersWrong : ChangeSpec := { name := "optionNumbers", fn := fun _ => fun
  | [d] => { results := [.lit (.bool false)], args := [d] }
  | _ => none }
def OptionNumbersWrongFalsely : Prop := optionNumbersRow.holds Tryd.pinned (OpenSpec.ofChange optionNumbersWrong)

/-- 'coreseclaw16.OptionChecks': WHATEVER THE INPUT: true; the input reads as it did. -/
def optionChecksSpec : ChangeSpec := { name := "optionChecks", fn := fun _ => fun
  | [d] => { results := [.lit (.bool true)], args := [d] }
  | _ => none }
def optionChecksRow : OpenClaim := { program := "ytllomdfckciedaadoor", sum := "f8a0bb3fb52ff674e62bbd9b100108c7fb78e3eb6dca18e3e6189c4738bd38d2", func := "coresec/coreseclaw16.OptionChecks", spec := "optionChecks", inPlace := ["internal/bytealg.CountString", "internal/bytealg.IndexByteString", "internal/bytealg.IndexString", "internal/abi.NoEscape"], named := ["unicode/utf8.first", "unicode/utf8.acceptRanges", "internal/bytealg.MaxLen"], apart := false, laid := [("unicode/utf8.acceptRanges", laid_unicode_utf8_acceptRanges), ("unicode/utf8.first", laid_unicode_utf8_first)] }
def OptionChecksSaid : Prop := optionChecksRow.holds Tryd.pinned (OpenSpec.ofChange optionChecksSpec)

/-- ITS FALSE NEIGHBOUR: 'it returns false'. Refute it at one input. -/
def optionChecksWrong : ChangeSpec := { name := "optionChecks", fn := fun _ => fun
  | [d] => { results := [.lit (.bool false)], args := [d] }
  | _ => none }
def OptionChecksWrongFalsely : Prop := optionChecksRow.holds Tryd.pinned (OpenSpec.ofChange optionChecksWrong)

/-- 'coreseclaw16.OptionKeys': WHATEVER THE INPUT: true; the input reads as it did. -/
def optionKeysSpec : ChangeSpec := { name := "optionKeys", fn := fun _ => fun
  | [d] => { results := [.lit (.bool true)], args := [d] }
  | _ => none }
def optionKeysRow : OpenClaim := { program := "ytllomdfckciedaadoor", sum := "f8a0bb3fb52ff674e62bbd9b100108c7fb78e3eb6dca18e3e6189c4738bd38d2", func := "coresec/coreseclaw16.OptionKeys", spec := "optionKeys", inPlace := ["math.Float64frombits", "math.Float64bits", "math.Float32bits", "internal/bytealg.Compare", "internal/bytealg.CountString", "internal/bytealg.IndexByteString", "internal/bytealg.IndexString", "internal/abi.NoEscape"], recurses := true, named := ["unicode/utf8.first", "unicode/utf8.acceptRanges", "internal/bytealg.MaxLen"], apart := false, laid := [("unicode/utf8.acceptRanges", laid_unicode_utf8_acceptRanges), ("unicode/utf8.first", laid_unicode_utf8_first)] }
def OptionKeysSaid : Prop := optionKeysRow.holds Tryd.pinned (OpenSpec.ofChange optionKeysSpec)

/-- ITS FALSE NEIGHBOUR: 'it returns false'. Refute it at one input. -/
def optionKeysWrong : ChangeSpec := { name := "optionKeys", fn := fun _ => fun
  | [d] => { results := [.lit (.bool false)], args := [d] }
  | _ => none }
def OptionKeysWrongFalsely : Prop := optionKeysRow.holds Tryd.pinned (OpenSpec.ofChange optionKeysWrong)

/-- 'coreseclaw16.OptionSame': WHATEVER THE INPUT: true; the input reads as it did. -/
def optionSameSpec : ChangeSpec := { name := "optionSame", fn := fun _ => fun
  | [d1, d2, d3, d4, d5] => { results := [.lit (.bool true)], args := [d1, d2, d3, d4, d5] }
  | _ => none }
def optionSameRow : OpenClaim := { program := "ytllomdfckciedaadoor", sum := "f8a0bb3fb52ff674e62bbd9b100108c7fb78e3eb6dca18e3e6189c4738bd38d2", func := "coresec/coreseclaw16.OptionSame", spec := "optionSame", inPlace := ["math.Float64frombits", "math.Float64bits", "math.Float32bits", "internal/bytealg.Compare", "internal/bytealg.CountString", "internal/bytealg.IndexByteString", "internal/bytealg.IndexString", "internal/abi.NoEscape"], recurses := true, named := ["unicode/utf8.first", "unicode/utf8.acceptRanges", "internal/bytealg.MaxLen"], apart := false, laid := [("unicode/utf8.acceptRanges", laid_unicode_utf8_acceptRanges), ("unicode/utf8.first", laid_unicode_utf8_first)] }
def OptionSameSaid : Prop := optionSameRow.holds Tryd.pinned (OpenSpec.ofChange optionSameSpec)

/-- ITS FALSE NEIGHBOUR: 'it returns false'. Refute it at one input. -/
def optionSameWrong : ChangeSpec := { name := "optionSame", fn := fun _ => fun
  | [d1, d2, d3, d4, d5] => { results := [.lit (.bool false)], args := [d1, d2, d3, d4, d5] }
  | _ => none }
def OptionSameWrongFalsely : Prop := optionSameRow.holds Tryd.pinned (OpenSpec.ofChange optionSameWrong)

/- THE SECOND FORM. 'bulk': how many values and letters a reading holds, each counted each time it is reached (what is shared counts as often as it is met; a slice's spare places count too). A statement '..UptoSaid' is the law's where the arguments, and the package variables that the reading takes, are together of bulk at most 1048576: NARROWER than '..Said'. Prove '..Said' where nothing that the law and all that it calls make is longer than what came in: it says more and counts as full. Else prove '..UptoSaid'. A law counts once. -/
mutual
def uptoBulk {H : Type} : DataW H → Nat
  | .lit (.string bytes) => bytes.length + 1
  | .lit _ => 1
  | .nil => 1
  | .ptr d => uptoBulk d + 1
  | .slice elems spare => uptoBulkAll elems + uptoBulkAll spare + 1
  | .agg parts => uptoBulkAll parts + 1
  | .iface _ d => uptoBulk d + 1
  | .map entries => uptoBulkEntries entries + 1
  | .held _ => 1
def uptoBulkAll {H : Type} : List (DataW H) → Nat
  | [] => 0
  | d :: r => uptoBulk d + uptoBulkAll r
def uptoBulkEntries {H : Type} : List (Lit × DataW H) → Nat
  | [] => 0
  | x :: r => uptoBulkEntry x + uptoBulkEntries r
def uptoBulkEntry {H : Type} : Lit × DataW H → Nat
  | (.string bytes, d) => bytes.length + uptoBulk d + 1
  | (_, d) => uptoBulk d + 1
 end
def uptoSmall : (H : Type) → List (DataW H) → Bool := fun _ ds => decide (uptoBulkAll ds ≤ 1048576)
def OpenSpec.upto (s : _root_.Go.ChangeSpec) : _root_.Go.OpenSpec := { _root_.Go.OpenSpec.ofChange s with cond := some uptoSmall }

/-- 'coreseclaw16.OptionPaths', WHERE WHAT IT READS IS OF BULK AT MOST 1048576: true; the input reads as it did. -/
def optionPathsUptoRow : OpenClaim := { program := "ytllomdfckciedaadoor", sum := "f8a0bb3fb52ff674e62bbd9b100108c7fb78e3eb6dca18e3e6189c4738bd38d2", func := "coresec/coreseclaw16.OptionPaths", spec := "optionPaths", inPlace := ["internal/bytealg.CountString", "internal/bytealg.IndexByteString", "internal/bytealg.IndexString", "internal/abi.NoEscape"], named := ["unicode/utf8.first", "unicode/utf8.acceptRanges", "internal/bytealg.MaxLen"], apart := false, laid := [("unicode/utf8.acceptRanges", laid_unicode_utf8_acceptRanges), ("unicode/utf8.first", laid_unicode_utf8_first)], narrowed := true }
def OptionPathsUptoSaid : Prop := optionPathsUptoRow.holds Tryd.pinned (OpenSpec.upto optionPathsSpec)

/-- 'coreseclaw16.OptionUints', WHERE WHAT IT READS IS OF BULK AT MOST 1048576: true; the input reads as it did. -/
def optionUintsUptoRow : OpenClaim := { program := "ytllomdfckciedaadoor", sum := "f8a0bb3fb52ff674e62bbd9b100108c7fb78e3eb6dca18e3e6189c4738bd38d2", func := "coresec/coreseclaw16.OptionUints", spec := "optionUints", inPlace := ["internal/bytealg.CountString", "internal/bytealg.IndexByteString", "internal/bytealg.IndexString", "internal/abi.NoEscape"], named := ["unicode/utf8.first", "unicode/utf8.acceptRanges", "internal/bytealg.MaxLen"], apart := false, laid := [("unicode/utf8.acceptRanges", laid_unicode_utf8_acceptRanges), ("unicode/utf8.first", laid_unicode_utf8_first)], narrowed := true }
def OptionUintsUptoSaid : Prop := optionUintsUptoRow.holds Tryd.pinned (OpenSpec.upto optionUintsSpec)

/-- 'coreseclaw16.OptionSets', WHERE WHAT IT READS IS OF BULK AT MOST 1048576: true; the input reads as it did. -/
def optionSetsUptoRow : OpenClaim := { program := "ytllomdfckciedaadoor", sum := "f8a0bb3fb52ff674e62bbd9b100108c7fb78e3eb6dca18e3e6189c4738bd38d2", func := "coresec/coreseclaw16.OptionSets", spec := "optionSets", inPlace := ["internal/bytealg.CountString", "internal/bytealg.IndexByteString", "internal/bytealg.IndexString", "internal/abi.NoEscape"], named := ["unicode/utf8.first", "unicode/utf8.acceptRanges", "internal/bytealg.MaxLen"], apart := false, laid := [("unicode/utf8.acceptRanges", laid_unicode_utf8_acceptRanges), ("unicode/utf8.first", laid_unicode_utf8_first)], narrowed := true }
def OptionSetsUptoSaid : Prop := optionSetsUptoRow.holds Tryd.pinned (OpenSpec.upto optionSetsSpec)

/-- 'coreseclaw16.OptionBack', WHERE WHAT IT READS IS OF BULK AT MOST 1048576: true; the input reads as it did. -/
def optionBackUptoRow : OpenClaim := { program := "ytllomdfckciedaadoor", sum := "f8a0bb3fb52ff674e62bbd9b100108c7fb78e3eb6dca18e3e6189c4738bd38d2", func := "coresec/coreseclaw16.OptionBack", spec := "optionBack", inPlace := ["internal/bytealg.CountString", "internal/bytealg.IndexByteString", "internal/bytealg.IndexString", "internal/abi.NoEscape"], named := ["unicode/utf8.first", "unicode/utf8.acceptRanges", "internal/bytealg.MaxLen"], apart := false, laid := [("unicode/utf8.acceptRanges", laid_unicode_utf8_acceptRanges), ("unicode/utf8.first", laid_unicode_utf8_first)], narrowed := true }
def OptionBackUptoSaid : Prop := optionBackUptoRow.holds Tryd.pinned (OpenSpec.upto optionBackSpec)

/-- 'coreseclaw16.OptionNumbers', WHERE WHAT IT READS IS OF BULK AT MOST 1048576: true; the input reads as it did. -/
def optionNumbersUptoRow : OpenClaim := { program := "ytllomdfckciedaadoor", sum := "f8a0bb3fb52ff674e62bbd9b100108c7fb78e3eb6dca18e3e6189c4738bd38d2", func := "coresec/coreseclaw16.OptionNumbers", spec := "optionNumbers", inPlace := ["internal/bytealg.CountString", "internal/bytealg.IndexByteString", "internal/bytealg.IndexString", "internal/abi.NoEscape"], named := ["unicode/utf8.first", "unicode/utf8.acceptRanges", "internal/bytealg.MaxLen"], apart := false, laid := [("unicode/utf8.acceptRanges", laid_unicode_utf8_acceptRanges), ("unicode/utf8.first", laid_unicode_utf8_first)], narrowed := true }
def OptionNumbersUptoSaid : Prop := optionNumbersUptoRow.holds Tryd.pinned (OpenSpec.upto optionNumbersSpec)

/-- 'coreseclaw16.OptionChecks', WHERE WHAT IT READS IS OF BULK AT MOST 1048576: true; the input reads as it did. -/
def optionChecksUptoRow : OpenClaim := { program := "ytllomdfckciedaadoor", sum := "f8a0bb3fb52ff674e62bbd9b100108c7fb78e3eb6dca18e3e6189c4738bd38d2", func := "coresec/coreseclaw16.OptionChecks", spec := "optionChecks", inPlace := ["internal/bytealg.CountString", "internal/bytealg.IndexByteString", "internal/bytealg.IndexString", "internal/abi.NoEscape"], named := ["unicode/utf8.first", "unicode/utf8.acceptRanges", "internal/bytealg.MaxLen"], apart := false, laid := [("unicode/utf8.acceptRanges", laid_unicode_utf8_acceptRanges), ("unicode/utf8.first", laid_unicode_utf8_first)], narrowed := true }
def OptionChecksUptoSaid : Prop := optionChecksUptoRow.holds Tryd.pinned (OpenSpec.upto optionChecksSpec)

/-- 'coreseclaw16.OptionKeys', WHERE WHAT IT READS IS OF BULK AT MOST 1048576: true; the input reads as it did. -/
def optionKeysUptoRow : OpenClaim := { program := "ytllomdfckciedaadoor", sum := "f8a0bb3fb52ff674e62bbd9b100108c7fb78e3eb6dca18e3e6189c4738bd38d2", func := "coresec/coreseclaw16.OptionKeys", spec := "optionKeys", inPlace := ["math.Float64frombits", "math.Float64bits", "math.Float32bits", "internal/bytealg.Compare", "internal/bytealg.CountString", "internal/bytealg.IndexByteString", "internal/bytealg.IndexString", "internal/abi.NoEscape"], recurses := true, named := ["unicode/utf8.first", "unicode/utf8.acceptRanges", "internal/bytealg.MaxLen"], apart := false, laid := [("unicode/utf8.acceptRanges", laid_unicode_utf8_acceptRanges), ("unicode/utf8.first", laid_unicode_utf8_first)], narrowed := true }
def OptionKeysUptoSaid : Prop := optionKeysUptoRow.holds Tryd.pinned (OpenSpec.upto optionKeysSpec)

/-- 'coreseclaw16.OptionSame', WHERE WHAT IT READS IS OF BULK AT MOST 1048576: true; the input reads as it did. -/
def optionSameUptoRow : OpenClaim := { program := "ytllomdfckciedaadoor", sum := "f8a0bb3fb52ff674e62bbd9b100108c7fb78e3eb6dca18e3e6189c4738bd38d2", func := "coresec/coreseclaw16.OptionSame", spec := "optionSame", inPlace := ["math.Float64frombits", "math.Float64bits", "math.Float32bits", "internal/bytealg.Compare", "internal/bytealg.CountString", "internal/bytealg.IndexByteString", "internal/bytealg.IndexString", "internal/abi.NoEscape"], recurses := true, named := ["unicode/utf8.first", "unicode/utf8.acceptRanges", "internal/bytealg.MaxLen"], apart := false, laid := [("unicode/utf8.acceptRanges", laid_unicode_utf8_acceptRanges), ("unicode/utf8.first", laid_unicode_utf8_first)], narrowed := true }
def OptionSameUptoSaid : Prop := optionSameUptoRow.holds Tryd.pinned (OpenSpec.upto optionSameSpec)

end Rows
end Go.Proofs.YtllomdfckciedaaDoor
