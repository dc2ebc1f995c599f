/- A part of the proof of TopChain. No condition. -/
import Derived.Test.YtimjjookppejeaaGreatDoorC14
namespace Go.Proofs.YtimjjookppejeaaGreatDoor
open Go.Gk Go.RowKit
noncomputable section
set_option maxRecDepth 100000
def xg(mf:MF [.r 5 (.int .u8),.d .tree] [.o 5 (.int .u8)])(okf:OF 88 [.r 5 (.int .u8),.d .tree] [.o 5 (.int .u8)] mf):aW Tryz.prog:=Af 88 [.r 5 (.int .u8),.d .tree] [.o 5 (.int .u8)] Tryz.func88 mf (by kernel_rfl) okf
theorem xb(mf:MF [.r 5 (.int .u8),.d .tree] [.o 5 (.int .u8)])(okf:OF 88 [.r 5 (.int .u8),.d .tree] [.o 5 (.int .u8)] mf):OF 88 [.r 5 (.int .u8),.d .tree] [.o 5 (.int .u8)] (sA mf):=Jr Tryz.func88 (tb [il,xg mf okf]) 146 [24,27,40,54,62,79,81,86,90,103,106,113,132,137,145] [116] (.s .n (.s (.s .n (.b (.s .n (.c (.s .n .n) (.s .n (.c (.s (.s .n (.c (.s .n .n) .n)) (.s .n .n)) (.s .n (.c (.s .n .n) (.s .n (.c (.s .n .n) (.s .n (.c (.s .n (.s .n .n)) (.s .n (.c (.s (.j ⟨[.d 72 .bool],[0,3]⟩ false .n (.c (.s .n .n) .n)) (.s .n .n)) (.s .n (.c (.s .n (.s (.s .n (.b (.l .g ⟨[.o 0 5 (.int .u8),.d 5 (.int .i64)],[3]⟩ (.s (.s .n (.c .n .n)) (.s (.b .n) .n))))) (.s .n .n))) .n)))))))))))))))) (.s .n (.j ⟨[.d 6 (.int .u8),.d 7 (.int .u8)],[0,3]⟩ false (.s .n (.c .n .n)) (.s .n (.s (.s .n (.b (.l (.a 117 116) ⟨[.o 0 5 (.int .u8)],[3,7,115,116]⟩ (.s .n (.s (.c .n .n) (.s (.b (.s .n (.j ⟨[.o 0 5 (.int .u8)],[3,7,9,115,116,117]⟩ false (.b (.j ⟨[.d 122 .bool],[0,3,7,8,9,115,116,117]⟩ false .n (.c .n (.s .n (.c .n .n))))) .n))) .n)))))) (.s .n .n))))))) (by kernel_rfl) (by kernel_rfl)
theorem qq : ∀(n:Nat),OF 88 [.r 5 (.int .u8),.d .tree] [.o 5 (.int .u8)] (nM n)
 |0=>fun a r h=>by cases(show(none:Option _)=some r from h)
 |n+1=>xb (nM n) (qq n)
def vu:aW Tryz.prog:=Af 88 [.r 5 (.int .u8),.d .tree] [.o 5 (.int .u8)] Tryz.func88 gV (by kernel_rfl) (qq 40)
def rN:aW Tryz.prog:=bw 88 [.r 5 (.int .u8),.d .tree] [.d (.sl (.int .u8))] Tryz.func88 qS (tb [il,vu]) 146 [27,54,81,90,103,113,132,137] [116] (.s .n (.s (.s .n (.b (.s .n (.c (.s .n .n) (.s .n (.c (.s (.s .n (.c (.s .n .n) .n)) (.s .n .n)) (.s .n (.c (.s .n .n) (.s .n (.c (.s .n .n) (.s .n (.c (.s .n (.s .n .n)) (.s .n (.c (.s (.j ⟨[.d 72 .bool],[0,3]⟩ false .n (.c (.s .n .n) .n)) (.s .n .n)) (.s .n (.c (.s .n (.s (.s .n (.b (.l .g ⟨[.o 0 5 (.int .u8),.d 5 (.int .i64)],[3]⟩ (.s (.s .n (.c .n .n)) (.s (.b .n) .n))))) (.s .n .n))) .n)))))))))))))))) (.s .n (.j ⟨[.d 6 (.int .u8),.d 7 (.int .u8)],[0,3]⟩ false (.s .n (.c .n .n)) (.s .n (.s (.s .n (.b (.l (.a 117 116) ⟨[.o 0 5 (.int .u8)],[3,7,115,116]⟩ (.s .n (.s (.c .n .n) (.s (.b (.s .n (.j ⟨[.o 0 5 (.int .u8)],[3,7,9,115,116,117]⟩ false (.b (.j ⟨[.d 122 .bool],[0,3,7,8,9,115,116,117]⟩ false .n (.c .n (.s .n (.c .n .n))))) .n))) .n)))))) (.s .n .n))))))) (by kernel_rfl) (by kernel_rfl)
def wJ:aW Tryz.prog:=bw 47 [.d .tree] [.d .str,.d (.int .i64)] Tryz.func47 rY (tb [bK,rN]) 10 [] [] (.s .n (.s (.s .n (.c (.s .n .n) .n)) (.s .n .n))) (by kernel_rfl) (by kernel_rfl)
def iO:aW Tryz.prog:=bw 296 [.d .str,.d .str] [.d .bool] Tryz.func296 fc (tb []) 18 [] [] (.s .n (.j ⟨[.d 4 .bool],[]⟩ false .n .n)) (by kernel_rfl) (by kernel_rfl)
def iE:aW Tryz.prog:=bw 262 [.d .str,.d .str] [.d .str,.d .bool] Tryz.func262 eO (tb [iO]) 15 [] [] (.s .n (.s (.s .n (.c (.s .n .n) .n)) (.s .n .n))) (by kernel_rfl) (by kernel_rfl)
def od:aW Tryz.prog:=bw 208 [.d .str,.d .str] [.d .str,.d .bool] Tryz.func208 kP (tb [iE]) 11 [] [] (.s .n (.s .n .n)) (by kernel_rfl) (by kernel_rfl)
end
end Go.Proofs.YtimjjookppejeaaGreatDoor
