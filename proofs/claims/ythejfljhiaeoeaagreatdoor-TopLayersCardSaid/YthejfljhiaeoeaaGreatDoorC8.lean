import Derived.Test.YthejfljhiaeoeaaGreatDoorC7
namespace Go.Proofs.YthejfljhiaeoeaaGreatDoor
open Go.Gk Go.RowKit
noncomputable section
set_option maxRecDepth 100000
def wV:bW Tryz.prog:=cZ 218 [.d .fl,.d (.int .i64)] [.d .fl] Tryz.func218 gN (tb [rO,xu]) 11 [] [] (.s .n (.s (.c (.s .n .n) .n) (.s .n .n))) (by kernel_rfl) (by kernel_rfl)
def wq:bW Tryz.prog:=cZ 189 [.d (.int .u16)] [.d (.int .u64)] Tryz.func189 gK (tb [tc,wV,mQ]) 35 [] [] (.s .n (.s .n (.s .n (.j ⟨[.d 3 .fl],[0]⟩ true (.s .n (.b (.s .n (.c (.s (.s .n (.c (.s .n .n) .n)) .n) (.s .n (.c .n .n)))))) (.j ⟨[.d 3 .fl],[]⟩ false (.s .n (.c .n .n)) (.s .n .n)))))) (by kernel_rfl) (by kernel_rfl)
def vE:bW Tryz.prog:=cZ 155 [.d (.int .u8),.d (.int .u64)] [.d .tree,.d (.int .i64)] Tryz.func155 cC (tb [wq,jS]) 52 [] [] (.s .n (.s .n (.j ⟨[.d 6 (.int .u64),.b 4 36 .tree],[0,4]⟩ true (.s .n (.b (.s .n (.c (.s (.s .n (.c (.s .n .n) .n)) (.s .n .n)) (.s .n (.c (.s .n (.j ⟨[.d 28 .bool],[0,4,6]⟩ false .n (.c (.s .n .n) .n))) (.s .n (.c .n (.s .n (.c .n (.s .n .n))))))))))) (.s (.s .n (.c (.s .n .n) .n)) (.s .n .n))))) (by kernel_rfl) (by kernel_rfl)
end
end Go.Proofs.YthejfljhiaeoeaaGreatDoor
