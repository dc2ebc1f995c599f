import Derived.Test.YthejfljhiaeoeaaGreatDoorC6
namespace Go.Proofs.YthejfljhiaeoeaaGreatDoor
open Go.Gk Go.RowKit
noncomputable section
set_option maxRecDepth 100000
def yl:bW Tryz.prog:=cZ 14 [.d (.sl cP),.d (.int .i64),.d (.sl (.int .u8)),.d mC,.d (.sl (.int .u8)),.d (.int .i64)] [.d (.sl cP),.d (.sl (.int .u8)),.d .bool,.d (.int .i64)] Tryz.func14 jC (tb [uR,oS,ka,tW,pJ,sh]) 177 [] [] (.s .n (.s (.j ⟨[.d 47 .bool],[0,1,2,4,5,9]⟩ false .n (.c (.s .n .n) .n)) (.s .n (.s (.j ⟨[.d 79 .bool],[0,1,2,4,5,9,16]⟩ false .n (.c (.s .n .n) .n)) (.s .n (.s .n (.s .n (.j ⟨[.d 18 (.sl (.int .u8))],[0,1,2,4,5,9,17]⟩ true (.s .n (.c (.s (.j ⟨[.d 109 .bool],[0,1,2,4,5,9,17]⟩ false .n (.c (.s .n .n) .n)) .n) .n)) (.s (.s .n (.c (.s .n .n) .n)) (.s .n (.s (.b (.j ⟨[.d 125 .bool],[0,1,2,5,9,17,18]⟩ false .n (.c (.s .n .n) (.s .n (.c (.s .n .n) (.s .n (.c (.s .n (.s .n .n)) (.s .n (.c (.s .n .n) .n))))))))) (.s .n .n)))))))))))) (by kernel_rfl) (by kernel_rfl)
def oB:bW Tryz.prog:=cZ 188 [.p 182 br,.d (.int .i64)] [.d (.int .u64),.d .bool] Tryz.func188 fK (tb []) 56 [] [] (.s .n (.s (.s .n (.c (.s .n .n) .n)) (.s .n (.s (.s .n (.b (.l (.n 37 36) ⟨[.d 6 (.int .u64)],[0,1,35,36]⟩ (.s .n (.s (.c .n .n) (.s (.b (.s .n .n)) .n)))))) (.s .n (.s .n .n)))))) (by kernel_rfl) (by kernel_rfl)
def pT:bW Tryz.prog:=cZ 154 [.p 182 br] [.d (.int .u8),.d (.int .u64),.d (.int .i64)] Tryz.func154 bG (tb [oB,kq]) 68 [] [] (.s .n (.s (.s .n (.c (.s .n .n) .n)) (.s .n (.s .n (.s (.s .n (.c (.s .n .n) .n)) (.s .n (.s (.s .n (.c (.s .n .n) .n)) (.s .n (.s (.s .n (.c (.s .n .n) .n)) (.s (.j ⟨[.d 65 .bool],[0,2,3]⟩ false .n (.c (.s .n .n) .n)) (.s .n .n))))))))))) (by kernel_rfl) (by kernel_rfl)
def tc:bW Tryz.prog:=cZ 217 [.d (.int .i64)] [.d .fl] Tryz.func217 lZ (tb []) 8 [] [] (.s .n (.s .n (.j ⟨[.d 3 (.int .u64)],[]⟩ false (.s .n (.c .n .n)) (.s .n .n)))) (by kernel_rfl) (by kernel_rfl)
def rO:bW Tryz.prog:=⟨235,[.d .fl,.d (.int .i64)],[.d .fl],⟨Tryz.f235,Tryz.func235,by kernel_rfl,by kernel_rfl⟩,uE,fun a r h=>by cases(show(none:Option _)=some r from h)⟩
def su:bW Tryz.prog:=cZ 253 [.d .fl] [.d .fl] Tryz.func253 mn (tb []) 7 [] [] (.s .n (.s .n .n)) (by kernel_rfl) (by kernel_rfl)
def xO:bW Tryz.prog:=cZ 247 [.d .fl,.d (.int .i64)] [.d .bool] Tryz.func247 lK (tb [su]) 15 [] [] (.s .n (.j ⟨[.d 0 .fl],[]⟩ false (.s .n (.c .n (.s .n (.c .n .n)))) (.s .n .n))) (by kernel_rfl) (by kernel_rfl)
def wm:bW Tryz.prog:=cZ 248 [.d .fl] [.d .bool] Tryz.func248 lH (tb []) 6 [] [] (.s .n (.s .n .n)) (by kernel_rfl) (by kernel_rfl)
def rJ:bW Tryz.prog:=cZ 249 [.d .fl] [.d .fl,.d (.int .i64)] Tryz.func249 iM (tb [su]) 10 [] [] (.s .n (.s (.s .n (.c (.s .n .n) .n)) (.s .n .n))) (by kernel_rfl) (by kernel_rfl)
def mQ:bW Tryz.prog:=cZ 219 [.d .fl,.d .fl] [.d .fl] Tryz.func219 fF (tb []) 13 [] [] (.s .n (.s .n .n)) (by kernel_rfl) (by kernel_rfl)
def xu:bW Tryz.prog:=cZ 236 [.d .fl,.d (.int .i64)] [.d .fl] Tryz.func236 nX (tb [xO,wm,rJ,mQ,tc]) 63 [] [] (.s .n (.s (.b (.s .n (.c (.s .n .n) (.j ⟨[.d 12 .bool],[0,1]⟩ false .n (.c (.s .n .n) .n))))) (.s .n (.s .n (.s .n (.s .n (.s (.s .n (.c (.s .n .n) .n)) (.s (.s .n (.c (.s (.s .n (.c (.s .n .n) .n)) (.s .n .n)) .n)) (.s .n (.j ⟨[.d 1 (.int .i64),.d 7 .fl],[6]⟩ false (.s .n (.c (.s .n .n) .n)) (.s .n (.s .n (.s .n .n))))))))))))) (by kernel_rfl) (by kernel_rfl)
end
end Go.Proofs.YthejfljhiaeoeaaGreatDoor
