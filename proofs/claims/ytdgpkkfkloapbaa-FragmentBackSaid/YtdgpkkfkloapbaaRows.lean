/-
  No cell of these rows narrows 'for every input' (looked for: loops, veiled, ifaces, maps, wideKeys, modest, calm, conditions, laid).
  DERIVED. THE GIVEN ROWS OF THIS SEAT. 4 by the template 'for every input the law returns true; each argument reads behind the call as it read before'; 0 by the template 'total and deterministic' (their statements: YtdgpkkfkloapbaaTotals.lean).
  GIVEN WITH THE SEED: the statements are not yours to turn. If you find one false, say at which input.
  Laid BY PROGRAM, IN A SANDBOX (cutbox-rows.mjs): the forced cells as the released guide's own fill.sh prints them over the translation ca8e4f7e25354c77… (all of the seat's roots in one cut). By AI agents, Wed Nov 11 2026. No macro, syntax, notation, axiom, sorry.
-/
import Derived.Test.YtdgpkkfkloapbaaChecked
import GoSem.Claim
import GoSem.ClaimJoined
import GoSem.ClaimMapViews
import Derived.JoinedTies
import Derived.KernelRfl
namespace Go.Proofs.Ytdgpkkfkloapbaa
/- THE CELL 'sum', in the pinned program and in every row, IS THE sha256 OF THE DUMP (.gsa) THAT YtdgpkkfkloapbaaProg.lean LOADS. Nothing in Lean hashes anything: it is a label: what it is worth is what the hold of that sum in a sandbox is worth. -/
noncomputable def Try.pinned : Pinned := { name := "ytdgpkkfkloapbaa", sum := "ca8e4f7e25354c77dd85aedaf78eb6a52a1a572738c6e07e07a555869191de9d", checked := Try.checked }
namespace Rows
def none {H : Type} : Left H := { results := [], args := [] }

/-- 'coreseclaw33.FragmentAgrees': WHATEVER THE INPUT: true; the input reads as it did. -/
def fragmentAgreesSpec : ChangeSpec := { name := "fragmentAgrees", fn := fun _ => fun
  | [d1, d2, d3, d4, d5] => { results := [.lit (.bool true)], args := [d1, d2, d3, d4, d5] }
  | _ => none }
def fragmentAgreesRow : OpenClaim := { program := "ytdgpkkfkloapbaa", sum := "ca8e4f7e25354c77dd85aedaf78eb6a52a1a572738c6e07e07a555869191de9d", func := "coresec/coreseclaw33.FragmentAgrees", spec := "fragmentAgrees", apart := false }
def FragmentAgreesSaid : Prop := fragmentAgreesRow.holds Try.pinned (OpenSpec.ofChange fragmentAgreesSpec)

/-- ITS FALSE NEIGHBOUR: 'it returns false'. Refute it at one input. -/
def fragmentAgreesWrong : ChangeSpec := { name := "fragmentAgrees", fn := fun _ => fun
  | [d1, d2, d3, d4, d5] => { results := [.lit (.bool false)], args := [d1, d2, d3, d4, d5] }
  | _ => none }
def FragmentAgreesWrongFalsely : Prop := fragmentAgreesRow.holds Try.pinned (OpenSpec.ofChange fragmentAgreesWrong)

/-- 'coreseclaw33.FragmentApart': WHATEVER THE INPUT: true; the input reads as it did. -/
def fragmentApartSpec : ChangeSpec := { name := "fragmentApart", fn := fun _ => fun
  | [d1, d2] => { results := [.lit (.bool true)], args := [d1, d2] }
  | _ => none }
def fragmentApartRow : OpenClaim := { program := "ytdgpkkfkloapbaa", sum := "ca8e4f7e25354c77dd85aedaf78eb6a52a1a572738c6e07e07a555869191de9d", func := "coresec/coreseclaw33.FragmentApart", spec := "fragmentApart", unfollowed := true, recurses := true, apart := false }
def FragmentApartSaid : Prop := fragmentApartRow.holds Try.pinned (OpenSpec.ofChange fragmentApartSpec)

/-- ITS FALSE NEIGHBOUR: 'it returns false'. Refute it at one input. -/
def fragmentApartWrong : ChangeSpec := { name := "fragmentApart", fn := fun _ => fun
  | [d1, d2] => { results := [.lit (.bool false)], args := [d1, d2] }
  | _ => none }
def FragmentApartWrongFalsely : Prop := fragmentApartRow.holds Try.pinned (OpenSpec.ofChange fragmentApartWrong)

/-- 'coreseclaw33.FragmentBack': WHATEVER THE INPUT: true; the input reads as it did. -/
def fragmentBackSpec : ChangeSpec := { name := "fragmentBack", fn := fun _ => fun
  | [d1, d2] => { results := [.lit (.bool true)], args := [d1, d2] }
  | _ => none }
def fragmentBackRow : OpenClaim := { program := "ytdgpkkfkloapbaa", sum := "ca8e4f7e25354c77dd85aedaf78eb6a52a1a572738c6e07e07a555869191de9d", func := "coresec/coreseclaw33.FragmentBack", spec := "fragmentBack", unfollowed := true, recurses := true, apart := false }
def FragmentBackSaid : Prop := fragmentBackRow.holds Try.pinned (OpenSpec.ofChange fragmentBackSpec)

/-- ITS FALSE NEIGHBOUR: 'it returns false'. Refute it at one input. -/
def fragmentBackWrong : ChangeSpec := { name := "fragmentBack", fn := fun _ => fun
  | [d1, d2] => { results := [.lit (.bool false)], args := [d1, d2] }
  | _ => none }
def FragmentBackWrongFalsely : Prop := fragmentBackRow.holds Try.pinned (OpenSpec.ofChange fragmentBackWrong)

/-- 'coreseclaw33.FragmentPuts': WHATEVER THE INPUT: true; the input reads as it did. -/
def fragmentPutsSpec : ChangeSpec := { name := "fragmentPuts", fn := fun _ => fun
  | [d1, d2, d3, d4, d5, d6] => { results := [.lit (.bool true)], args := [d1, d2, d3, d4, d5, d6] }
  | _ => none }
def fragmentPutsRow : OpenClaim := { program := "ytdgpkkfkloapbaa", sum := "ca8e4f7e25354c77dd85aedaf78eb6a52a1a572738c6e07e07a555869191de9d", func := "coresec/coreseclaw33.FragmentPuts", spec := "fragmentPuts", unfollowed := true, recurses := true, apart := false }
def FragmentPutsSaid : Prop := fragmentPutsRow.holds Try.pinned (OpenSpec.ofChange fragmentPutsSpec)

/-- ITS FALSE NEIGHBOUR: 'it returns false'. Refute it at one input. -/
def fragmentPutsWrong : ChangeSpec := { name := "fragmentPuts", fn := fun _ => fun
  | [d1, d2, d3, d4, d5, d6] => { results := [.lit (.bool false)], args := [d1, d2, d3, d4, d5, d6] }
  | _ => none }
def FragmentPutsWrongFalsely : Prop := fragmentPutsRow.holds Try.pinned (OpenSpec.ofChange fragmentPutsWrong)

/- THE SECOND FORM. 'bulk': how many values and letters a reading holds, each counted each time it is reached (what is shared counts as often as it is met; a slice's spare places count too). A statement '..UptoSaid' is the law's where the arguments, and the package variables that the reading takes, are together of bulk at most 1048576: NARROWER than '..Said'. Prove '..Said' where nothing that the law and all that it calls make is longer than what came in: it says more and counts as full. Else prove '..UptoSaid'. A law counts once. -/
mutual
def uptoBulk {H : Type} : DataW H → Nat
  | .lit (.string bytes) => bytes.length + 1
  | .lit _ => 1
  | .nil => 1
  | .ptr d => uptoBulk d + 1
  | .slice elems spare => uptoBulkAll elems + uptoBulkAll spare + 1
  | .agg parts => uptoBulkAll parts + 1
  | .iface _ d => uptoBulk d + 1
  | .map entries => uptoBulkEntries entries + 1
  | .held _ => 1
def uptoBulkAll {H : Type} : List (DataW H) → Nat
  | [] => 0
  | d :: r => uptoBulk d + uptoBulkAll r
def uptoBulkEntries {H : Type} : List (Lit × DataW H) → Nat
  | [] => 0
  | x :: r => uptoBulkEntry x + uptoBulkEntries r
def uptoBulkEntry {H : Type} : Lit × DataW H → Nat
  | (.string bytes, d) => bytes.length + uptoBulk d + 1
  | (_, d) => uptoBulk d + 1
 end
def uptoSmall : (H : Type) → List (DataW H) → Bool := fun _ ds => decide (uptoBulkAll ds ≤ 1048576)
def OpenSpec.upto (s : _root_.Go.ChangeSpec) : _root_.Go.OpenSpec := { _root_.Go.OpenSpec.ofChange s with cond := some uptoSmall }

/-- 'coreseclaw33.FragmentAgrees', WHERE WHAT IT READS IS OF BULK AT MOST 1048576: true; the input reads as it did. -/
def fragmentAgreesUptoRow : OpenClaim := { program := "ytdgpkkfkloapbaa", sum := "ca8e4f7e25354c77dd85aedaf78eb6a52a1a572738c6e07e07a555869191de9d", func := "coresec/coreseclaw33.FragmentAgrees", spec := "fragmentAgrees", apart := false, narrowed := true }
def FragmentAgreesUptoSaid : Prop := fragmentAgreesUptoRow.holds Try.pinned (OpenSpec.upto fragmentAgreesSpec)

/-- 'coreseclaw33.FragmentApart', WHERE WHAT IT READS IS OF BULK AT MOST 1048576: true; the input reads as it did. -/
def fragmentApartUptoRow : OpenClaim := { program := "ytdgpkkfkloapbaa", sum := "ca8e4f7e25354c77dd85aedaf78eb6a52a1a572738c6e07e07a555869191de9d", func := "coresec/coreseclaw33.FragmentApart", spec := "fragmentApart", unfollowed := true, recurses := true, apart := false, narrowed := true }
def FragmentApartUptoSaid : Prop := fragmentApartUptoRow.holds Try.pinned (OpenSpec.upto fragmentApartSpec)

/-- 'coreseclaw33.FragmentBack', WHERE WHAT IT READS IS OF BULK AT MOST 1048576: true; the input reads as it did. -/
def fragmentBackUptoRow : OpenClaim := { program := "ytdgpkkfkloapbaa", sum := "ca8e4f7e25354c77dd85aedaf78eb6a52a1a572738c6e07e07a555869191de9d", func := "coresec/coreseclaw33.FragmentBack", spec := "fragmentBack", unfollowed := true, recurses := true, apart := false, narrowed := true }
def FragmentBackUptoSaid : Prop := fragmentBackUptoRow.holds Try.pinned (OpenSpec.upto fragmentBackSpec)

/-- 'coreseclaw33.FragmentPuts', WHERE WHAT IT READS IS OF BULK AT MOST 1048576: true; the input reads as it did. -/
def fragmentPutsUptoRow : OpenClaim := { program := "ytdgpkkfkloapbaa", sum := "ca8e4f7e25354c77dd85aedaf78eb6a52a1a572738c6e07e07a555869191de9d", func := "coresec/coreseclaw33.FragmentPuts", spec := "fragmentPuts", unfollowed := true, recurses := true, apart := false, narrowed := true }
def FragmentPutsUptoSaid : Prop := fragmentPutsUptoRow.holds Try.pinned (OpenSpec.upto fragmentPutsSpec)

end Rows
end Go.Proofs.Ytdgpkkfkloapbaa
