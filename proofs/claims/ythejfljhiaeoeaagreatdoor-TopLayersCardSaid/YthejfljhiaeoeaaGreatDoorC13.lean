import Derived.Test.YthejfljhiaeoeaaGreatDoorC12
namespace Go.Proofs.YthejfljhiaeoeaaGreatDoor
open Go.Gk Go.RowKit
noncomputable section
set_option maxRecDepth 100000
def qh:bW Tryz.prog:=cZ 21 [] [.d .bool] Tryz.func21 fi (tb [oH,vO,xg]) 30 [] [] (.s .n (.s .n (.s .n (.j ⟨[.d 0 .bool],[]⟩ false .n .n)))) (by kernel_rfl) (by kernel_rfl)
end
end Go.Proofs.YthejfljhiaeoeaaGreatDoor
