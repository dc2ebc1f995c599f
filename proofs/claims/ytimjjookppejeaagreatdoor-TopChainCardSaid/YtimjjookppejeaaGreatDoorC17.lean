/- A part of the proof of TopChain. No condition. -/
import Derived.Test.YtimjjookppejeaaGreatDoorC16
namespace Go.Proofs.YtimjjookppejeaaGreatDoor
open Go.Gk Go.RowKit
noncomputable section
set_option maxRecDepth 100000
def pj:aW Tryz.prog:=bw 18 [] [.d .bool] Tryz.func18 fS (tb [cP,wJ,ww]) 30 [] [] (.s .n (.s .n (.s .n (.j ⟨[.d 0 .bool],[]⟩ false .n .n)))) (by kernel_rfl) (by kernel_rfl)
def ow:aW Tryz.prog:=bw 49 [.d dA,.d dA] [.d .bool] Tryz.func49 fo (tb []) 60 [] [] (.s .n (.j ⟨[.d 4 .bool],[]⟩ false .n .n)) (by kernel_rfl) (by kernel_rfl)
def ot:aW Tryz.prog:=bw 19 [.d aT,.d aT] [.d .bool] Tryz.func19 fu (tb [ow]) 38 [] [] (.s .n (.j ⟨[.d 4 .bool],[]⟩ false .n .n)) (by kernel_rfl) (by kernel_rfl)
end
end Go.Proofs.YtimjjookppejeaaGreatDoor
