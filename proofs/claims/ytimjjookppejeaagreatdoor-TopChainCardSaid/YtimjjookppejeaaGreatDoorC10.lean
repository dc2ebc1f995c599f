/- A part of the proof of TopChain. No condition. -/
import Derived.Test.YtimjjookppejeaaGreatDoorC9
namespace Go.Proofs.YtimjjookppejeaaGreatDoor
open Go.Gk Go.RowKit
noncomputable section
set_option maxRecDepth 100000
def kJ(mf:MF [.p 200 bj,.d (.int .i64)] [.d .tree,.d (.int .i64)])(okf:OF 126 [.p 200 bj,.d (.int .i64)] [.d .tree,.d (.int .i64)] mf):aW Tryz.prog:=Af 126 [.p 200 bj,.d (.int .i64)] [.d .tree,.d (.int .i64)] Tryz.func126 mf (by kernel_rfl) okf
def oC(mf:MF [.p 200 bj,.d (.int .i64)] [.d .tree,.d (.int .i64)])(okf:OF 126 [.p 200 bj,.d (.int .i64)] [.d .tree,.d (.int .i64)] mf):aW Tryz.prog:=bw 183 [.p 200 bj,.d (.int .u64),.d (.int .i64)] [.d .tree,.d (.int .i64)] Tryz.func183 (kI mf) (tb [kJ mf okf,gy] [8,77] [(17,3,43)]) 79 [76] [] (.s .n (.s .n (.s .n (.s (.s .n (.b (.l .g ⟨[.d 9 (.sl (.int .u8)),.d 10 (.int .u64),.b 0 200 bj,.b 6 45 .tree,.h 8 45 .tree 3 45 .tree],[0,1,2,6,8]⟩ (.s (.s .n (.c .n .n)) (.s (.b (.s .n (.s .n (.s (.s .n (.c (.s .n .n) .n)) (.s .n (.j ⟨[.b 6 45 .tree],[0,1,2,6,8,10,12,14]⟩ true (.s .n (.c (.s .n (.b (.s .n (.c (.s .n .n) (.s .n (.c (.s .n .n) .n)))))) .n)) (.s .n (.s .n (.s (.s .n (.c (.s .n .n) .n)) .n))))))))) .n))))) (.s .n .n))))) (by kernel_rfl) (by kernel_rfl)
theorem qf(mf:MF [.p 200 bj,.d (.int .i64)] [.d .tree,.d (.int .i64)])(okf:OF 126 [.p 200 bj,.d (.int .i64)] [.d .tree,.d (.int .i64)] mf):OF 126 [.p 200 bj,.d (.int .i64)] [.d .tree,.d (.int .i64)] (lG mf):=Jr Tryz.func126 (tb [pd,cO,fO,oC mf okf,kJ mf okf] [13,163] [(142,3,43)]) 165 [162] [] (.s .n (.s (.s .n (.c (.s .n .n) .n)) (.s .n (.s .n (.s (.s .n (.c (.s .n .n) .n)) (.s .n (.s (.s .n (.b (.j ⟨[.d 43 .bool],[0,1,4,6,7,9,42]⟩ false (.s .n (.c .n .n)) (.c (.s .n .n) (.j ⟨[.d 49 .bool],[0,1,4,6,7,9,42]⟩ false (.s .n (.c .n .n)) (.c (.s (.s .n (.c (.s .n .n) .n)) (.s .n (.s .n (.s (.j ⟨[.d 98 .bool],[0,4,9,10]⟩ false .n (.c (.s .n .n) .n)) (.s .n .n))))) (.s .n (.c (.s .n .n) .n)))))))) (.s (.s .n (.c (.s .n .n) .n)) (.s (.s .n (.b (.s .n (.c (.s .n .n) (.s .n (.c (.s .n (.s (.s .n (.c (.s .n .n) .n)) (.s .n .n))) .n)))))) (.s .n (.j ⟨[.b 0 200 bj,.b 4 45 .tree,.h 13 45 .tree 3 45 .tree],[0,4,13]⟩ true (.b (.l .g ⟨[.d 7 (.int .u64),.b 0 200 bj,.b 4 45 .tree,.h 13 45 .tree 3 45 .tree],[0,1,4,13]⟩ (.s (.s .n (.c .n .n)) (.s (.b (.s .n (.s (.s .n (.c (.s .n .n) .n)) .n))) .n)))) (.s .n .n)))))))))))) (by kernel_rfl) (by kernel_rfl)
theorem kF : ∀(n:Nat),OF 126 [.p 200 bj,.d (.int .i64)] [.d .tree,.d (.int .i64)] (iH n)
 |0=>fun a r h=>by cases(show(none:Option _)=some r from h)
 |n+1=>qf (iH n) (kF n)
def oD:aW Tryz.prog:=Af 126 [.p 200 bj,.d (.int .i64)] [.d .tree,.d (.int .i64)] Tryz.func126 bX (by kernel_rfl) (kF 40)
def uq:aW Tryz.prog:=bw 72 [.d (.sl (.int .u8))] [.d .tree,.d (.int .i64),.d (.int .i64)] Tryz.func72 qu (tb [oD]) 25 [] [] (.s .n (.s .n (.s .n (.s (.s .n (.c (.s .n .n) .n)) (.s .n .n))))) (by kernel_rfl) (by kernel_rfl)
def ky:aW Tryz.prog:=bw 33 [.d (.sl (.int .u8))] [.d .tree,.d (.int .i64)] Tryz.func33 f_ (tb [uq]) 29 [] [] (.s .n (.s (.s .n (.c (.s .n .n) .n)) (.s .n (.s (.b (.s .n (.c (.s .n .n) (.s .n (.c (.s .n .n) .n))))) (.s .n .n))))) (by kernel_rfl) (by kernel_rfl)
def sI:aW Tryz.prog:=bw 122 [.d (.int .i64),.d (.cp .tree)] [.d .str] Tryz.func122 dT (tb [cP,io]) 16 [] [] (.s .n (.s .n (.s .n .n))) (by kernel_rfl) (by kernel_rfl)
def rt:aW Tryz.prog:=bw 123 [.d (.int .i64),.d (.cp .tree)] [.d (.int .i64)] Tryz.func123 dU (tb [cP,io]) 17 [] [] (.s .n (.s .n (.s .n .n))) (by kernel_rfl) (by kernel_rfl)
def vS:aW Tryz.prog:=bw 178 [.d .tree] [.d (.int .i64),.d .bool] Tryz.func178 jp (tb []) 20 [] [] (.s .n (.s (.s .n (.c (.s .n .n) .n)) (.s (.s .n (.b (.s .n (.c (.s .n .n) (.s .n (.c (.s .n .n) .n)))))) (.s .n .n)))) (by kernel_rfl) (by kernel_rfl)
def nw:aW Tryz.prog:=bw 41 [.d .tree,.d .tree] [.d (.int .i64)] Tryz.func41 iG (tb [bK,g_,gy]) 18 [] [] (.s .n (.s (.j ⟨[.d 12 .bool],[2,3]⟩ false .n (.c (.s .n .n) .n)) (.s .n .n))) (by kernel_rfl) (by kernel_rfl)
end
end Go.Proofs.YtimjjookppejeaaGreatDoor
