import Derived.Test.YthejfljhiaeoeaaGreatDoorC10
namespace Go.Proofs.YthejfljhiaeoeaaGreatDoor
open Go.Gk Go.RowKit
noncomputable section
set_option maxRecDepth 100000
def xW(mf:MF [.r 5 (.int .u8),.d .tree] [.o 5 (.int .u8)])(okf:OF 94 [.r 5 (.int .u8),.d .tree] [.o 5 (.int .u8)] mf):bW Tryz.prog:=xP 94 [.r 5 (.int .u8),.d .tree] [.o 5 (.int .u8)] Tryz.func94 mf (by kernel_rfl) okf
theorem yb(mf:MF [.r 5 (.int .u8),.d .tree] [.o 5 (.int .u8)])(okf:OF 94 [.r 5 (.int .u8),.d .tree] [.o 5 (.int .u8)] mf):OF 94 [.r 5 (.int .u8),.d .tree] [.o 5 (.int .u8)] (rY mf):=G2 Tryz.func94 (tb [jc,xW mf okf]) 146 [24,27,40,54,62,79,81,86,90,103,106,113,132,137,145] [116] (.s .n (.s (.s .n (.b (.s .n (.c (.s .n .n) (.s .n (.c (.s (.s .n (.c (.s .n .n) .n)) (.s .n .n)) (.s .n (.c (.s .n .n) (.s .n (.c (.s .n .n) (.s .n (.c (.s .n (.s .n .n)) (.s .n (.c (.s (.j ⟨[.d 72 .bool],[0,3]⟩ false .n (.c (.s .n .n) .n)) (.s .n .n)) (.s .n (.c (.s .n (.s (.s .n (.b (.l .g ⟨[.o 0 5 (.int .u8),.d 5 (.int .i64)],[3]⟩ (.s (.s .n (.c .n .n)) (.s (.b .n) .n))))) (.s .n .n))) .n)))))))))))))))) (.s .n (.j ⟨[.d 6 (.int .u8),.d 7 (.int .u8)],[0,3]⟩ false (.s .n (.c .n .n)) (.s .n (.s (.s .n (.b (.l (.a 117 116) ⟨[.o 0 5 (.int .u8)],[3,7,115,116]⟩ (.s .n (.s (.c .n .n) (.s (.b (.s .n (.j ⟨[.o 0 5 (.int .u8)],[3,7,9,115,116,117]⟩ false (.b (.j ⟨[.d 122 .bool],[0,3,7,8,9,115,116,117]⟩ false .n (.c .n (.s .n (.c .n .n))))) .n))) .n)))))) (.s .n .n))))))) (by kernel_rfl) (by kernel_rfl)
theorem rb : ∀(n:Nat),OF 94 [.r 5 (.int .u8),.d .tree] [.o 5 (.int .u8)] (oE n)
 |0=>fun a r h=>by cases(show(none:Option _)=some r from h)
 |n+1=>yb (oE n) (rb n)
def vN:bW Tryz.prog:=xP 94 [.r 5 (.int .u8),.d .tree] [.o 5 (.int .u8)] Tryz.func94 iL (by kernel_rfl) (rb 40)
def tF:bW Tryz.prog:=cZ 94 [.r 5 (.int .u8),.d .tree] [.d (.sl (.int .u8))] Tryz.func94 rG (tb [jc,vN]) 146 [27,54,81,90,103,113,132,137] [116] (.s .n (.s (.s .n (.b (.s .n (.c (.s .n .n) (.s .n (.c (.s (.s .n (.c (.s .n .n) .n)) (.s .n .n)) (.s .n (.c (.s .n .n) (.s .n (.c (.s .n .n) (.s .n (.c (.s .n (.s .n .n)) (.s .n (.c (.s (.j ⟨[.d 72 .bool],[0,3]⟩ false .n (.c (.s .n .n) .n)) (.s .n .n)) (.s .n (.c (.s .n (.s (.s .n (.b (.l .g ⟨[.o 0 5 (.int .u8),.d 5 (.int .i64)],[3]⟩ (.s (.s .n (.c .n .n)) (.s (.b .n) .n))))) (.s .n .n))) .n)))))))))))))))) (.s .n (.j ⟨[.d 6 (.int .u8),.d 7 (.int .u8)],[0,3]⟩ false (.s .n (.c .n .n)) (.s .n (.s (.s .n (.b (.l (.a 117 116) ⟨[.o 0 5 (.int .u8)],[3,7,115,116]⟩ (.s .n (.s (.c .n .n) (.s (.b (.s .n (.j ⟨[.o 0 5 (.int .u8)],[3,7,9,115,116,117]⟩ false (.b (.j ⟨[.d 122 .bool],[0,3,7,8,9,115,116,117]⟩ false .n (.c .n (.s .n (.c .n .n))))) .n))) .n)))))) (.s .n .n))))))) (by kernel_rfl) (by kernel_rfl)
def vO:bW Tryz.prog:=cZ 58 [.d .tree] [.d .str,.d (.int .i64)] Tryz.func58 sG (tb [gv,tF]) 10 [] [] (.s .n (.s (.s .n (.c (.s .n .n) .n)) (.s .n .n))) (by kernel_rfl) (by kernel_rfl)
def jr:bW Tryz.prog:=cZ 224 [.d .str,.d .str] [.d .bool] Tryz.func224 fH (tb []) 18 [] [] (.s .n (.j ⟨[.d 4 .bool],[]⟩ false .n .n)) (by kernel_rfl) (by kernel_rfl)
def ju:bW Tryz.prog:=cZ 195 [.d .str,.d .str] [.d .str,.d .bool] Tryz.func195 fL (tb [jr]) 15 [] [] (.s .n (.s (.s .n (.c (.s .n .n) .n)) (.s .n .n))) (by kernel_rfl) (by kernel_rfl)
def oX:bW Tryz.prog:=cZ 158 [.d .str,.d .str] [.d .str,.d .bool] Tryz.func158 lg (tb [ju]) 11 [] [] (.s .n (.s .n .n)) (by kernel_rfl) (by kernel_rfl)
end
end Go.Proofs.YthejfljhiaeoeaaGreatDoor
