/- A part of the proof of TopKeys. No condition. -/
import Derived.Test.YtiilbonamnegaaaGreatDoorC11
namespace Go.Proofs.YtiilbonamnegaaaGreatDoor
open Go.Gk Go.RowKit
noncomputable section
set_option maxRecDepth 100000
def pX:bI Tryz.prog:=cJ 239 [.d .fl,.d (.int .i64)] [.d .fl] Tryz.func239 fh (tb [sG,xA]) 11 [] [] (.s .n (.s (.c (.s .n .n) .n) (.s .n .n))) (by kernel_rfl) (by kernel_rfl)
def wK:bI Tryz.prog:=cJ 228 [.d (.int .u16)] [.d (.int .u64)] Tryz.func228 g_ (tb [oW,pX,fV]) 35 [] [] (.s .n (.s .n (.s .n (.j ⟨[.d 3 .fl],[0]⟩ true (.s .n (.b (.s .n (.c (.s (.s .n (.c (.s .n .n) .n)) .n) (.s .n (.c .n .n)))))) (.j ⟨[.d 3 .fl],[]⟩ false (.s .n (.c .n .n)) (.s .n .n)))))) (by kernel_rfl) (by kernel_rfl)
def wG:bI Tryz.prog:=cJ 160 [.d (.int .u8),.d (.int .u64)] [.d .tree,.d (.int .i64)] Tryz.func160 cW (tb [wK,kq]) 52 [] [] (.s .n (.s .n (.j ⟨[.d 6 (.int .u64),.b 4 37 .tree],[0,4]⟩ true (.s .n (.b (.s .n (.c (.s (.s .n (.c (.s .n .n) .n)) (.s .n .n)) (.s .n (.c (.s .n (.j ⟨[.d 28 .bool],[0,4,6]⟩ false .n (.c (.s .n .n) .n))) (.s .n (.c .n (.s .n (.c .n (.s .n .n))))))))))) (.s (.s .n (.c (.s .n .n) .n)) (.s .n .n))))) (by kernel_rfl) (by kernel_rfl)
end
end Go.Proofs.YtiilbonamnegaaaGreatDoor
