/-
  No cell of these rows narrows 'for every input' (looked for: loops, veiled, ifaces, maps, wideKeys, modest, calm, conditions, laid).
  DERIVED. THE GIVEN ROWS OF THIS SEAT. 6 by the template 'for every input the law returns true; each argument reads behind the call as it read before'; 0 by the template 'total and deterministic' (their statements: YtaefnnamjphieaaTotals.lean).
  GIVEN WITH THE SEED: the statements are not yours to turn. If you find one false, say at which input.
  Laid BY PROGRAM, IN A SANDBOX (cutbox-rows.mjs): the forced cells as the released guide's own fill.sh prints them over the translation e6f1be501e02630e… (all of the seat's roots in one cut). By AI agents, Wed Nov 11 2026. No macro, syntax, notation, axiom, sorry.
-/
import Derived.Test.YtaefnnamjphieaaChecked
import GoSem.Claim
import GoSem.ClaimJoined
import GoSem.ClaimMapViews
import Derived.JoinedTies
import Derived.KernelRfl
namespace Go.Proofs.Ytaefnnamjphieaa
/- THE CELL 'sum', in the pinned program and in every row, IS THE sha256 OF THE DUMP (.gsa) THAT YtaefnnamjphieaaProg.lean LOADS. Nothing in Lean hashes anything: it is a label: what it is worth is what the hold of that sum in a sandbox is worth. -/
noncomputable def Try.pinned : Pinned := { name := "ytaefnnamjphieaa", sum := "e6f1be501e02630e96375e6435f6bf8b93770a8baa4c836d83eaff55cf31500a", checked := Try.checked }
namespace Rows
def none {H : Type} : Left H := { results := [], args := [] }

/-- 'coreseclaw18.BlockPuts': WHATEVER THE INPUT: true; the input reads as it did. -/
def blockPutsSpec : ChangeSpec := { name := "blockPuts", fn := fun _ => fun
  | [d1, d2, d3, d4, d5, d6, d7] => { results := [.lit (.bool true)], args := [d1, d2, d3, d4, d5, d6, d7] }
  | _ => none }
def blockPutsRow : OpenClaim := { program := "ytaefnnamjphieaa", sum := "e6f1be501e02630e96375e6435f6bf8b93770a8baa4c836d83eaff55cf31500a", func := "coresec/coreseclaw18.BlockPuts", spec := "blockPuts", apart := false }
def BlockPutsSaid : Prop := blockPutsRow.holds Try.pinned (OpenSpec.ofChange blockPutsSpec)

/-- ITS FALSE NEIGHBOUR: 'it returns false'. Refute it at one input. -/
def blockPutsWrong : ChangeSpec := { name := "blockPuts", fn := fun _ => fun
  | [d1, d2, d3, d4, d5, d6, d7] => { results := [.lit (.bool false)], args := [d1, d2, d3, d4, d5, d6, d7] }
  | _ => none }
def BlockPutsWrongFalsely : Prop := blockPutsRow.holds Try.pinned (OpenSpec.ofChange blockPutsWrong)

/-- 'coreseclaw18.BlockLong': WHATEVER THE INPUT: true; the input reads as it did. -/
def blockLongSpec : ChangeSpec := { name := "blockLong", fn := fun _ => fun
  | [d1, d2] => { results := [.lit (.bool true)], args := [d1, d2] }
  | _ => none }
def blockLongRow : OpenClaim := { program := "ytaefnnamjphieaa", sum := "e6f1be501e02630e96375e6435f6bf8b93770a8baa4c836d83eaff55cf31500a", func := "coresec/coreseclaw18.BlockLong", spec := "blockLong", apart := false }
def BlockLongSaid : Prop := blockLongRow.holds Try.pinned (OpenSpec.ofChange blockLongSpec)

/-- ITS FALSE NEIGHBOUR: 'it returns false'. Refute it at one input. -/
def blockLongWrong : ChangeSpec := { name := "blockLong", fn := fun _ => fun
  | [d1, d2] => { results := [.lit (.bool false)], args := [d1, d2] }
  | _ => none }
def BlockLongWrongFalsely : Prop := blockLongRow.holds Try.pinned (OpenSpec.ofChange blockLongWrong)

/-- 'coreseclaw18.BlockWhole': WHATEVER THE INPUT: true; the input reads as it did. -/
def blockWholeSpec : ChangeSpec := { name := "blockWhole", fn := fun _ => fun
  | [d1, d2, d3, d4] => { results := [.lit (.bool true)], args := [d1, d2, d3, d4] }
  | _ => none }
def blockWholeRow : OpenClaim := { program := "ytaefnnamjphieaa", sum := "e6f1be501e02630e96375e6435f6bf8b93770a8baa4c836d83eaff55cf31500a", func := "coresec/coreseclaw18.BlockWhole", spec := "blockWhole", apart := false }
def BlockWholeSaid : Prop := blockWholeRow.holds Try.pinned (OpenSpec.ofChange blockWholeSpec)

/-- ITS FALSE NEIGHBOUR: 'it returns false'. Refute it at one input. -/
def blockWholeWrong : ChangeSpec := { name := "blockWhole", fn := fun _ => fun
  | [d1, d2, d3, d4] => { results := [.lit (.bool false)], args := [d1, d2, d3, d4] }
  | _ => none }
def BlockWholeWrongFalsely : Prop := blockWholeRow.holds Try.pinned (OpenSpec.ofChange blockWholeWrong)

/-- 'coreseclaw18.BlockAgain': WHATEVER THE INPUT: true; the input reads as it did. -/
def blockAgainSpec : ChangeSpec := { name := "blockAgain", fn := fun _ => fun
  | [d1, d2, d3] => { results := [.lit (.bool true)], args := [d1, d2, d3] }
  | _ => none }
def blockAgainRow : OpenClaim := { program := "ytaefnnamjphieaa", sum := "e6f1be501e02630e96375e6435f6bf8b93770a8baa4c836d83eaff55cf31500a", func := "coresec/coreseclaw18.BlockAgain", spec := "blockAgain", apart := false }
def BlockAgainSaid : Prop := blockAgainRow.holds Try.pinned (OpenSpec.ofChange blockAgainSpec)

/-- ITS FALSE NEIGHBOUR: 'it returns false'. Refute it at one input. -/
def blockAgainWrong : ChangeSpec := { name := "blockAgain", fn := fun _ => fun
  | [d1, d2, d3] => { results := [.lit (.bool false)], args := [d1, d2, d3] }
  | _ => none }
def BlockAgainWrongFalsely : Prop := blockAgainRow.holds Try.pinned (OpenSpec.ofChange blockAgainWrong)

/-- 'coreseclaw18.BlockCuts': WHATEVER THE INPUT: true; the input reads as it did. -/
def blockCutsSpec : ChangeSpec := { name := "blockCuts", fn := fun _ => fun
  | [d1, d2, d3, d4] => { results := [.lit (.bool true)], args := [d1, d2, d3, d4] }
  | _ => none }
def blockCutsRow : OpenClaim := { program := "ytaefnnamjphieaa", sum := "e6f1be501e02630e96375e6435f6bf8b93770a8baa4c836d83eaff55cf31500a", func := "coresec/coreseclaw18.BlockCuts", spec := "blockCuts", apart := false }
def BlockCutsSaid : Prop := blockCutsRow.holds Try.pinned (OpenSpec.ofChange blockCutsSpec)

/-- ITS FALSE NEIGHBOUR: 'it returns false'. Refute it at one input. -/
def blockCutsWrong : ChangeSpec := { name := "blockCuts", fn := fun _ => fun
  | [d1, d2, d3, d4] => { results := [.lit (.bool false)], args := [d1, d2, d3, d4] }
  | _ => none }
def BlockCutsWrongFalsely : Prop := blockCutsRow.holds Try.pinned (OpenSpec.ofChange blockCutsWrong)

/-- 'coreseclaw18.BlockValues': WHATEVER THE INPUT: true; the input reads as it did. -/
def blockValuesSpec : ChangeSpec := { name := "blockValues", fn := fun _ => fun
  | [d1, d2, d3, d4] => { results := [.lit (.bool true)], args := [d1, d2, d3, d4] }
  | _ => none }
def blockValuesRow : OpenClaim := { program := "ytaefnnamjphieaa", sum := "e6f1be501e02630e96375e6435f6bf8b93770a8baa4c836d83eaff55cf31500a", func := "coresec/coreseclaw18.BlockValues", spec := "blockValues", apart := false }
def BlockValuesSaid : Prop := blockValuesRow.holds Try.pinned (OpenSpec.ofChange blockValuesSpec)

/-- ITS FALSE NEIGHBOUR: 'it returns false'. Refute it at one input. -/
def blockValuesWrong : ChangeSpec := { name := "blockValues", fn := fun _ => fun
  | [d1, d2, d3, d4] => { results := [.lit (.bool false)], args := [d1, d2, d3, d4] }
  | _ => none }
def BlockValuesWrongFalsely : Prop := blockValuesRow.holds Try.pinned (OpenSpec.ofChange blockValuesWrong)

/- THE SECOND FORM. 'bulk': how many values and letters a reading holds, each counted each time it is reached (what is shared counts as often as it is met; a slice's spare places count too). A statement '..UptoSaid' is the law's where the arguments, and the package variables that the reading takes, are together of bulk at most 1048576: NARROWER than '..Said'. Prove '..Said' where nothing that the law and all that it calls make is longer than what came in: it says more and counts as full. Else prove '..UptoSaid'. A law counts once. -/
mutual
def uptoBulk {H : Type} : DataW H → Nat
  | .lit (.string bytes) => bytes.length + 1
  | .lit _ => 1
  | .nil => 1
  | .ptr d => uptoBulk d + 1
  | .slice elems spare => uptoBulkAll elems + uptoBulkAll spare + 1
  | .agg parts => uptoBulkAll parts + 1
  | .iface _ d => uptoBulk d + 1
  | .map entries => uptoBulkEntries entries + 1
  | .held _ => 1
def uptoBulkAll {H : Type} : List (DataW H) → Nat
  | [] => 0
  | d :: r => uptoBulk d + uptoBulkAll r
def uptoBulkEntries {H : Type} : List (Lit × DataW H) → Nat
  | [] => 0
  | x :: r => uptoBulkEntry x + uptoBulkEntries r
def uptoBulkEntry {H : Type} : Lit × DataW H → Nat
  | (.string bytes, d) => bytes.length + uptoBulk d + 1
  | (_, d) => uptoBulk d + 1
 end
def uptoSmall : (H : Type) → List (DataW H) → Bool := fun _ ds => decide (uptoBulkAll ds ≤ 1048576)
def OpenSpec.upto (s : _root_.Go.ChangeSpec) : _root_.Go.OpenSpec := { _root_.Go.OpenSpec.ofChange s with cond := some uptoSmall }

/-- 'coreseclaw18.BlockPuts', WHERE WHAT IT READS IS OF BULK AT MOST 1048576: true; the input reads as it did. -/
def blockPutsUptoRow : OpenClaim := { program := "ytaefnnamjphieaa", sum := "e6f1be501e02630e96375e6435f6bf8b93770a8baa4c836d83eaff55cf31500a", func := "coresec/coreseclaw18.BlockPuts", spec := "blockPuts", apart := false, narrowed := true }
def BlockPutsUptoSaid : Prop := blockPutsUptoRow.holds Try.pinned (OpenSpec.upto blockPutsSpec)

/-- 'coreseclaw18.BlockLong', WHERE WHAT IT READS IS OF BULK AT MOST 1048576: true; the input reads as it did. -/
def blockLongUptoRow : OpenClaim := { program := "ytaefnnamjphieaa", sum := "e6f1be501e02630e96375e6435f6bf8b93770a8baa4c836d83eaff55cf31500a", func := "coresec/coreseclaw18.BlockLong", spec := "blockLong", apart := false, narrowed := true }
def BlockLongUptoSaid : Prop := blockLongUptoRow.holds Try.pinned (OpenSpec.upto blockLongSpec)

/-- 'coreseclaw18.BlockWhole', WHERE WHAT IT READS IS OF BULK AT MOST 1048576: true; the input reads as it did. -/
def blockWholeUptoRow : OpenClaim := { program := "ytaefnnamjphieaa", sum := "e6f1be501e02630e96375e6435f6bf8b93770a8baa4c836d83eaff55cf31500a", func := "coresec/coreseclaw18.BlockWhole", spec := "blockWhole", apart := false, narrowed := true }
def BlockWholeUptoSaid : Prop := blockWholeUptoRow.holds Try.pinned (OpenSpec.upto blockWholeSpec)

/-- 'coreseclaw18.BlockAgain', WHERE WHAT IT READS IS OF BULK AT MOST 1048576: true; the input reads as it did. -/
def blockAgainUptoRow : OpenClaim := { program := "ytaefnnamjphieaa", sum := "e6f1be501e02630e96375e6435f6bf8b93770a8baa4c836d83eaff55cf31500a", func := "coresec/coreseclaw18.BlockAgain", spec := "blockAgain", apart := false, narrowed := true }
def BlockAgainUptoSaid : Prop := blockAgainUptoRow.holds Try.pinned (OpenSpec.upto blockAgainSpec)

/-- 'coreseclaw18.BlockCuts', WHERE WHAT IT READS IS OF BULK AT MOST 1048576: true; the input reads as it did. -/
def blockCutsUptoRow : OpenClaim := { program := "ytaefnnamjphieaa", sum := "e6f1be501e02630e96375e6435f6bf8b93770a8baa4c836d83eaff55cf31500a", func := "coresec/coreseclaw18.BlockCuts", spec := "blockCuts", apart := false, narrowed := true }
def BlockCutsUptoSaid : Prop := blockCutsUptoRow.holds Try.pinned (OpenSpec.upto blockCutsSpec)

/-- 'coreseclaw18.BlockValues', WHERE WHAT IT READS IS OF BULK AT MOST 1048576: true; the input reads as it did. -/
def blockValuesUptoRow : OpenClaim := { program := "ytaefnnamjphieaa", sum := "e6f1be501e02630e96375e6435f6bf8b93770a8baa4c836d83eaff55cf31500a", func := "coresec/coreseclaw18.BlockValues", spec := "blockValues", apart := false, narrowed := true }
def BlockValuesUptoSaid : Prop := blockValuesUptoRow.holds Try.pinned (OpenSpec.upto blockValuesSpec)

end Rows
end Go.Proofs.Ytaefnnamjphieaa
