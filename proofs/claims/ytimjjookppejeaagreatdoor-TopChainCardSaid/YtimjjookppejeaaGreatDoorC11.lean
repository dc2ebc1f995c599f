/- A part of the proof of TopChain. No condition. -/
import Derived.Test.YtimjjookppejeaaGreatDoorC10
namespace Go.Proofs.YtimjjookppejeaaGreatDoor
open Go.Gk Go.RowKit
noncomputable section
set_option maxRecDepth 100000
def tB:aW Tryz.prog:=bw 124 [.d .tree] [.d dA,.d (.int .i64)] Tryz.func124 dN (tb [bK,vS,cO,oY,nw]) 111 [] [] (.s .n (.s (.s .n (.c (.s .n .n) .n)) (.s .n (.s .z (.s .z (.s (.s .n (.c (.s .n .n) .n)) (.s (.s .n (.b (.l .g ⟨[.d 7 (.int .i64),.b 2 32 dA,.b 4 32 dA],[1,2,4,5,6]⟩ (.s (.s .n (.c .n .n)) (.j ⟨[.b 2 32 dA,.b 4 32 dA],[1,2,4,5,6,7]⟩ true (.b (.s .n (.s .n (.s .n (.j ⟨[.d 71 .bool],[1,2,4,5,6,7,8,9,10,11]⟩ false .n (.c .n (.s .n (.j ⟨[.d 89 .bool],[1,2,4,5,6,7,10,13]⟩ false .n (.c .n (.s .n .n)))))))))) .n))))) (.s (.s .n (.j ⟨[.d 108 .bool],[2,4]⟩ false .n (.c (.s .n .n) .n))) (.s .n .n))))))))) (by kernel_rfl) (by kernel_rfl)
end
end Go.Proofs.YtimjjookppejeaaGreatDoor
