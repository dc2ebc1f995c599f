/- A part of the proof of TopChain. No condition. -/
import Derived.Test.YtimjjookppejeaaGreatDoorC17
namespace Go.Proofs.YtimjjookppejeaaGreatDoor
open Go.Gk Go.RowKit
noncomputable section
set_option maxRecDepth 100000
def nh:aW Tryz.prog:=bw 3 [.d (.sl (.int .i64)),.d (.int .i64),.d (.int .i64)] [.d .bool] Tryz.func3 gn (tb [qg,lQ,kj,qW,lP,tg,wy,n5,dn,rj,rW,n_,kM,sN,pj,ot]) 167 [] [] (.s .n (.s .n (.s .n (.s .n (.s .n (.s .n (.s .n (.s .n (.s .n (.s .n (.s .n (.s .n (.s .n (.s (.j ⟨[.d 119 .bool],[2,8,9,13,14,24,26]⟩ false .n (.c (.s .n .n) .n)) (.s .n (.s .n (.s (.j ⟨[.d 144 .bool],[13,14,28,29,30]⟩ false .n (.c (.j ⟨[.d 6 .bool],[]⟩ false .n .n) .n)) (.j ⟨[.d 6 .bool],[]⟩ false .n .n)))))))))))))))))) (by kernel_rfl) (by kernel_rfl)
end
end Go.Proofs.YtimjjookppejeaaGreatDoor
