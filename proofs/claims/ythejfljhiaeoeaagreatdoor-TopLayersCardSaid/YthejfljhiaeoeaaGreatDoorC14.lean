import Derived.Test.YthejfljhiaeoeaaGreatDoorC13
namespace Go.Proofs.YthejfljhiaeoeaaGreatDoor
open Go.Gk Go.RowKit
noncomputable section
set_option maxRecDepth 100000
def nh:bW Tryz.prog:=cZ 3 [.d (.sl (.int .i64)),.d (.int .i64),.d (.int .i64)] [.d .bool] Tryz.func3 gR (tb [qV,kW,uZ,kU,pQ,sw,qX,lu,ub,yp,yl,qO,sx,u6,o6,pd,yj,qh]) 168 [] [] (.s .n (.s .n (.s .n (.s .n (.s .n (.s .n (.s .n (.s (.j ⟨[.d 68 .bool],[1,2,8,12,14]⟩ false .n (.c (.s .n .n) .n)) (.s .n (.s .n (.s (.s .n (.b (.l (.n 75 74) ⟨[.d 16 (.sl cP)],[1,2,8,12,14,74]⟩ (.s .n (.s (.c .n .n) (.s (.b (.s .n (.s .n (.s .n (.s (.j ⟨[.d 109 .bool],[1,2,8,12,14,21,22,23,74,75]⟩ false .n (.c (.s .n .n) .n)) (.s .n (.s (.s .n (.c .n .n)) (.s .n (.s .n (.s .n (.j ⟨[.d 6 .bool],[]⟩ false .n .n))))))))))) .n)))))) (.s .n .n)))))))))))) (by kernel_rfl) (by kernel_rfl)
end
end Go.Proofs.YthejfljhiaeoeaaGreatDoor
