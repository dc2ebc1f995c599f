/- A part of the proof of TopKeys. No condition. -/
import Derived.Test.YtiilbonamnegaaaGreatDoorC15
namespace Go.Proofs.YtiilbonamnegaaaGreatDoor
open Go.Gk Go.RowKit
noncomputable section
set_option maxRecDepth 100000
def oI:bI Tryz.prog:=cJ 3 [.d (.sl (.int .i64)),.d (.sl (.int .u8))] [.d .bool] Tryz.func3 jc (tb [pM,pZ,rP,nM,qf,lL,oc,rL,vG,vN,rC,xE,mH,qD,uq,yJ,sI]) 187 [] [] (.s .n (.s (.j ⟨[.d 37 .bool],[0,1]⟩ false .n (.c (.s .n .n) .n)) (.s .n (.s .n (.s .n (.s .n (.s .n (.s .n (.s (.j ⟨[.d 81 .bool],[1,6,7,13]⟩ false .n (.c (.s .n .n) .n)) (.s .n (.s .n (.s .n (.s .n (.s .n (.s .n (.s .n (.s .n (.s .n (.j ⟨[.d 4 .bool],[]⟩ false .n .n))))))))))))))))))) (by kernel_rfl) (by kernel_rfl)
end
end Go.Proofs.YtiilbonamnegaaaGreatDoor
