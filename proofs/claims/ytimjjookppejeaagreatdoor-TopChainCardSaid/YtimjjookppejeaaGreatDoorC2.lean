/- A part of the proof of TopChain. No condition. -/
import Derived.Test.YtimjjookppejeaaGreatDoorC1
namespace Go.Proofs.YtimjjookppejeaaGreatDoor
open Go.Gk Go.RowKit
noncomputable section
set_option maxRecDepth 100000
def uh:aW Tryz.prog:=bw 92 [.p 160 (.ar 8 .u64),.d (.sl (.int .u64)),.d (.sl (.int .u8))] [] Tryz.func92 j2 (tb [sO]) 183 [] [31] (.s .n (.s (.s .n (.b (.l .g ⟨[.d 19 (.int .i64),.b 6 247 (.ar 80 .u64)],[0,1,2,6]⟩ (.s .n (.s (.c .n .n) (.j ⟨[.b 6 247 (.ar 80 .u64)],[0,1,2,6,19]⟩ false (.b (.s .n (.s (.s .n (.c (.s (.s .n (.b (.l (.a 32 31) ⟨[.b 6 247 (.ar 80 .u64)],[0,1,2,6,7,19,30,31]⟩ (.s .n (.s (.c .n .n) (.s (.b (.s .n .n)) .n)))))) .n) .n)) (.s .n .n)))) .n)))))) (.s .n (.s (.s .n (.b (.l .g ⟨[.d 87 (.int .i64),.b 12 160 (.ar 8 .u64)],[0,1,6,12]⟩ (.s .n (.s (.c .n .n) (.s (.b (.s .n (.s .n (.s .n (.s .n .n))))) .n)))))) (.s .n (.b (.l .g ⟨[.d 168 (.int .i64),.b 0 160 (.ar 8 .u64)],[0,12]⟩ (.s .n (.s (.c .n .n) (.s (.b (.s .n .n)) .n)))))))))) (by kernel_rfl) (by kernel_rfl)
def o7:aW Tryz.prog:=bw 50 [.d (.sl (.int .u8))] [.d (.sl (.int .u8))] Tryz.func50 gY (tb [rh,vC,uh]) 42 [39] [] (.s .n (.s .n (.s (.s .n (.b (.l .g ⟨[.d 5 (.sl (.int .u8)),.b 4 160 (.ar 8 .u64)],[3,4]⟩ (.s (.s .n (.c .n .n)) (.s (.b .n) .n))))) (.s .n (.s (.s .n (.b (.l .g ⟨[.o 6 5 (.int .u8),.d 26 (.int .i64)],[25]⟩ (.s .n (.s (.c .n .n) (.s (.b (.s .n (.s .n (.b (.l .g ⟨[.o 6 5 (.int .u8),.d 9 (.int .i64)],[8,25,26]⟩ (.s (.s .n (.c .n .n)) (.s (.b .n) .n))))))) .n)))))) (.s .n .n)))))) (by kernel_rfl) (by kernel_rfl)
end
end Go.Proofs.YtimjjookppejeaaGreatDoor
