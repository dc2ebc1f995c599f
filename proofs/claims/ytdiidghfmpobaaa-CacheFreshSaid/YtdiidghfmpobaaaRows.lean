/-
  No cell of these rows narrows 'for every input' (looked for: loops, veiled, ifaces, maps, wideKeys, modest, calm, conditions, laid).
  DERIVED. THE GIVEN ROWS OF THIS SEAT. 5 by the template 'for every input the law returns true; each argument reads behind the call as it read before'; 0 by the template 'total and deterministic' (their statements: YtdiidghfmpobaaaTotals.lean).
  GIVEN WITH THE SEED: the statements are not yours to turn. If you find one false, say at which input.
  Laid BY PROGRAM, IN A SANDBOX (cutbox-rows.mjs): the forced cells as the released guide's own fill.sh prints them over the translation c37cf124ee2e78d1… (all of the seat's roots in one cut). By AI agents, Wed Nov 11 2026. No macro, syntax, notation, axiom, sorry.
-/
import Derived.Test.YtdiidghfmpobaaaChecked
import GoSem.Claim
import GoSem.ClaimJoined
import GoSem.ClaimMapViews
import Derived.JoinedTies
import Derived.KernelRfl
namespace Go.Proofs.Ytdiidghfmpobaaa
/- THE CELL 'sum', in the pinned program and in every row, IS THE sha256 OF THE DUMP (.gsa) THAT YtdiidghfmpobaaaProg.lean LOADS. Nothing in Lean hashes anything: it is a label: what it is worth is what the hold of that sum in a sandbox is worth. -/
noncomputable def Try.pinned : Pinned := { name := "ytdiidghfmpobaaa", sum := "c37cf124ee2e78d1ca457b5e64b174c0f29546e73082b9c8a42e6ebaf6305971", checked := Try.checked }
namespace Rows
def none {H : Type} : Left H := { results := [], args := [] }

/-- 'coreseclaw20.CacheReads': WHATEVER THE INPUT: true; the input reads as it did. -/
def cacheReadsSpec : ChangeSpec := { name := "cacheReads", fn := fun _ => fun
  | [d1, d2, d3, d4] => { results := [.lit (.bool true)], args := [d1, d2, d3, d4] }
  | _ => none }
def cacheReadsRow : OpenClaim := { program := "ytdiidghfmpobaaa", sum := "c37cf124ee2e78d1ca457b5e64b174c0f29546e73082b9c8a42e6ebaf6305971", func := "coresec/coreseclaw20.CacheReads", spec := "cacheReads", apart := false }
def CacheReadsSaid : Prop := cacheReadsRow.holds Try.pinned (OpenSpec.ofChange cacheReadsSpec)

/-- ITS FALSE NEIGHBOUR: 'it returns false'. Refute it at one input. -/
def cacheReadsWrong : ChangeSpec := { name := "cacheReads", fn := fun _ => fun
  | [d1, d2, d3, d4] => { results := [.lit (.bool false)], args := [d1, d2, d3, d4] }
  | _ => none }
def CacheReadsWrongFalsely : Prop := cacheReadsRow.holds Try.pinned (OpenSpec.ofChange cacheReadsWrong)

/-- 'coreseclaw20.CacheOldest': WHATEVER THE INPUT: true; the input reads as it did. -/
def cacheOldestSpec : ChangeSpec := { name := "cacheOldest", fn := fun _ => fun
  | [d1, d2] => { results := [.lit (.bool true)], args := [d1, d2] }
  | _ => none }
def cacheOldestRow : OpenClaim := { program := "ytdiidghfmpobaaa", sum := "c37cf124ee2e78d1ca457b5e64b174c0f29546e73082b9c8a42e6ebaf6305971", func := "coresec/coreseclaw20.CacheOldest", spec := "cacheOldest", apart := false }
def CacheOldestSaid : Prop := cacheOldestRow.holds Try.pinned (OpenSpec.ofChange cacheOldestSpec)

/-- ITS FALSE NEIGHBOUR: 'it returns false'. Refute it at one input. -/
def cacheOldestWrong : ChangeSpec := { name := "cacheOldest", fn := fun _ => fun
  | [d1, d2] => { results := [.lit (.bool false)], args := [d1, d2] }
  | _ => none }
def CacheOldestWrongFalsely : Prop := cacheOldestRow.holds Try.pinned (OpenSpec.ofChange cacheOldestWrong)

/-- 'coreseclaw20.CacheLooks': WHATEVER THE INPUT: true; the input reads as it did. -/
def cacheLooksSpec : ChangeSpec := { name := "cacheLooks", fn := fun _ => fun
  | [d1, d2, d3] => { results := [.lit (.bool true)], args := [d1, d2, d3] }
  | _ => none }
def cacheLooksRow : OpenClaim := { program := "ytdiidghfmpobaaa", sum := "c37cf124ee2e78d1ca457b5e64b174c0f29546e73082b9c8a42e6ebaf6305971", func := "coresec/coreseclaw20.CacheLooks", spec := "cacheLooks", apart := false }
def CacheLooksSaid : Prop := cacheLooksRow.holds Try.pinned (OpenSpec.ofChange cacheLooksSpec)

/-- ITS FALSE NEIGHBOUR: 'it returns false'. Refute it at one input. -/
def cacheLooksWrong : ChangeSpec := { name := "cacheLooks", fn := fun _ => fun
  | [d1, d2, d3] => { results := [.lit (.bool false)], args := [d1, d2, d3] }
  | _ => none }
def CacheLooksWrongFalsely : Prop := cacheLooksRow.holds Try.pinned (OpenSpec.ofChange cacheLooksWrong)

/-- 'coreseclaw20.CacheStores': WHATEVER THE INPUT: true; the input reads as it did. -/
def cacheStoresSpec : ChangeSpec := { name := "cacheStores", fn := fun _ => fun
  | [d1, d2, d3, d4, d5, d6] => { results := [.lit (.bool true)], args := [d1, d2, d3, d4, d5, d6] }
  | _ => none }
def cacheStoresRow : OpenClaim := { program := "ytdiidghfmpobaaa", sum := "c37cf124ee2e78d1ca457b5e64b174c0f29546e73082b9c8a42e6ebaf6305971", func := "coresec/coreseclaw20.CacheStores", spec := "cacheStores", apart := false }
def CacheStoresSaid : Prop := cacheStoresRow.holds Try.pinned (OpenSpec.ofChange cacheStoresSpec)

/-- ITS FALSE NEIGHBOUR: 'it returns false'. Refute it at one input. -/
def cacheStoresWrong : ChangeSpec := { name := "cacheStores", fn := fun _ => fun
  | [d1, d2, d3, d4, d5, d6] => { results := [.lit (.bool false)], args := [d1, d2, d3, d4, d5, d6] }
  | _ => none }
def CacheStoresWrongFalsely : Prop := cacheStoresRow.holds Try.pinned (OpenSpec.ofChange cacheStoresWrong)

/-- 'coreseclaw20.CacheFresh': WHATEVER THE INPUT: true; the input reads as it did. -/
def cacheFreshSpec : ChangeSpec := { name := "cacheFresh", fn := fun _ => fun
  | [d] => { results := [.lit (.bool true)], args := [d] }
  | _ => none }
def cacheFreshRow : OpenClaim := { program := "ytdiidghfmpobaaa", sum := "c37cf124ee2e78d1ca457b5e64b174c0f29546e73082b9c8a42e6ebaf6305971", func := "coresec/coreseclaw20.CacheFresh", spec := "cacheFresh", apart := false }
def CacheFreshSaid : Prop := cacheFreshRow.holds Try.pinned (OpenSpec.ofChange cacheFreshSpec)

/-- ITS FALSE NEIGHBOUR: 'it returns false'. Refute it at one input. -/
def cacheFreshWrong : ChangeSpec := { name := "cacheFresh", fn := fun _ => fun
  | [d] => { results := [.lit (.bool false)], args := [d] }
  | _ => none }
def CacheFreshWrongFalsely : Prop := cacheFreshRow.holds Try.pinned (OpenSpec.ofChange cacheFreshWrong)

/- THE SECOND FORM. 'bulk': how many values and letters a reading holds, each counted each time it is reached (what is shared counts as often as it is met; a slice's spare places count too). A statement '..UptoSaid' is the law's where the arguments, and the package variables that the reading takes, are together of bulk at most 1048576: NARROWER than '..Said'. Prove '..Said' where nothing that the law and all that it calls make is longer than what came in: it says more and counts as full. Else prove '..UptoSaid'. A law counts once. -/
mutual
def uptoBulk {H : Type} : DataW H → Nat
  | .lit (.string bytes) => bytes.length + 1
  | .lit _ => 1
  | .nil => 1
  | .ptr d => uptoBulk d + 1
  | .slice elems spare => uptoBulkAll elems + uptoBulkAll spare + 1
  | .agg parts => uptoBulkAll parts + 1
  | .iface _ d => uptoBulk d + 1
  | .map entries => uptoBulkEntries entries + 1
  | .held _ => 1
def uptoBulkAll {H : Type} : List (DataW H) → Nat
  | [] => 0
  | d :: r => uptoBulk d + uptoBulkAll r
def uptoBulkEntries {H : Type} : List (Lit × DataW H) → Nat
  | [] => 0
  | x :: r => uptoBulkEntry x + uptoBulkEntries r
def uptoBulkEntry {H : Type} : Lit × DataW H → Nat
  | (.string bytes, d) => bytes.length + uptoBulk d + 1
  | (_, d) => uptoBulk d + 1
 end
def uptoSmall : (H : Type) → List (DataW H) → Bool := fun _ ds => decide (uptoBulkAll ds ≤ 1048576)
def OpenSpec.upto (s : _root_.Go.ChangeSpec) : _root_.Go.OpenSpec := { _root_.Go.OpenSpec.ofChange s with cond := some uptoSmall }

/-- 'coreseclaw20.CacheReads', WHERE WHAT IT READS IS OF BULK AT MOST 1048576: true; the input reads as it did. -/
def cacheReadsUptoRow : OpenClaim := { program := "ytdiidghfmpobaaa", sum := "c37cf124ee2e78d1ca457b5e64b174c0f29546e73082b9c8a42e6ebaf6305971", func := "coresec/coreseclaw20.CacheReads", spec := "cacheReads", apart := false, narrowed := true }
def CacheReadsUptoSaid : Prop := cacheReadsUptoRow.holds Try.pinned (OpenSpec.upto cacheReadsSpec)

/-- 'coreseclaw20.CacheOldest', WHERE WHAT IT READS IS OF BULK AT MOST 1048576: true; the input reads as it did. -/
def cacheOldestUptoRow : OpenClaim := { program := "ytdiidghfmpobaaa", sum := "c37cf124ee2e78d1ca457b5e64b174c0f29546e73082b9c8a42e6ebaf6305971", func := "coresec/coreseclaw20.CacheOldest", spec := "cacheOldest", apart := false, narrowed := true }
def CacheOldestUptoSaid : Prop := cacheOldestUptoRow.holds Try.pinned (OpenSpec.upto cacheOldestSpec)

/-- 'coreseclaw20.CacheLooks', WHERE WHAT IT READS IS OF BULK AT MOST 1048576: true; the input reads as it did. -/
def cacheLooksUptoRow : OpenClaim := { program := "ytdiidghfmpobaaa", sum := "c37cf124ee2e78d1ca457b5e64b174c0f29546e73082b9c8a42e6ebaf6305971", func := "coresec/coreseclaw20.CacheLooks", spec := "cacheLooks", apart := false, narrowed := true }
def CacheLooksUptoSaid : Prop := cacheLooksUptoRow.holds Try.pinned (OpenSpec.upto cacheLooksSpec)

/-- 'coreseclaw20.CacheStores', WHERE WHAT IT READS IS OF BULK AT MOST 1048576: true; the input reads as it did. -/
def cacheStoresUptoRow : OpenClaim := { program := "ytdiidghfmpobaaa", sum := "c37cf124ee2e78d1ca457b5e64b174c0f29546e73082b9c8a42e6ebaf6305971", func := "coresec/coreseclaw20.CacheStores", spec := "cacheStores", apart := false, narrowed := true }
def CacheStoresUptoSaid : Prop := cacheStoresUptoRow.holds Try.pinned (OpenSpec.upto cacheStoresSpec)

/-- 'coreseclaw20.CacheFresh', WHERE WHAT IT READS IS OF BULK AT MOST 1048576: true; the input reads as it did. -/
def cacheFreshUptoRow : OpenClaim := { program := "ytdiidghfmpobaaa", sum := "c37cf124ee2e78d1ca457b5e64b174c0f29546e73082b9c8a42e6ebaf6305971", func := "coresec/coreseclaw20.CacheFresh", spec := "cacheFresh", apart := false, narrowed := true }
def CacheFreshUptoSaid : Prop := cacheFreshUptoRow.holds Try.pinned (OpenSpec.upto cacheFreshSpec)

end Rows
end Go.Proofs.Ytdiidghfmpobaaa
