/- A part of the proof of TopChain. No condition. -/
import Derived.Test.YtimjjookppejeaaGreatDoorC2
namespace Go.Proofs.YtimjjookppejeaaGreatDoor
open Go.Gk Go.RowKit
noncomputable section
set_option maxRecDepth 100000
def mM:aW Tryz.prog:=bw 51 [.d (.ar 32 .u8)] [.d (.ar 4 .u64)] Tryz.func51 iX (tb []) 23 [] [] (.s .n (.s .n (.s (.s .n (.b (.l .g ⟨[.d 4 (.int .i64),.b 3 63 (.ar 4 .u64)],[1,2,3]⟩ (.s (.s .n (.c .n .n)) (.s (.b .n) .n))))) (.s .n .n)))) (by kernel_rfl) (by kernel_rfl)
def lq:aW Tryz.prog:=bw 20 [.d (.sl (.int .u8))] [.d (.ar 4 .u64),.d (.sl (.int .u8))] Tryz.func20 eh (tb [o7,mM]) 25 [] [] (.s .n (.s .n (.s .n (.s .n (.s .n (.s .n .n)))))) (by kernel_rfl) (by kernel_rfl)
def fG:aW Tryz.prog:=bw 161 [.d (.ar 4 .u64),.d (.ar 4 .u64)] [.d (.ar 4 .u64),.d (.int .u64)] Tryz.func161 bV (tb []) 27 [] [] (.s .n (.s .n (.s (.s .n (.b (.l .g ⟨[.d 6 (.int .u64),.d 8 (.int .i64),.b 2 63 (.ar 4 .u64)],[2,3,4]⟩ (.s .n (.s (.c .n .n) (.s (.b (.s .n .n)) .n)))))) (.s .n .n)))) (by kernel_rfl) (by kernel_rfl)
def fX:aW Tryz.prog:=bw 93 [.d (.ar 4 .u64),.d (.ar 4 .u64)] [.d (.ar 4 .u64)] Tryz.func93 bA (tb [fG]) 29 [] [] (.s .n (.s .n (.s .n (.s .n (.s .n .n))))) (by kernel_rfl) (by kernel_rfl)
def jf:aW Tryz.prog:=bw 98 [] [.d (.ar 4 .u64)] Tryz.func98 ea (tb []) 2 [] [] (.s .n (.s .n .n)) (by kernel_rfl) (by kernel_rfl)
def qo:aW Tryz.prog:=bw 162 [.d (.ar 4 .u64),.d (.ar 4 .u64)] [.d (.ar 8 .u64)] Tryz.func162 gF (tb [dX]) 64 [] [] (.s .n (.s .n (.s (.s .n (.b (.l .g ⟨[.d 15 (.int .i64),.b 5 160 (.ar 8 .u64)],[3,4,5,14]⟩ (.s .n (.s (.c .n .n) (.s (.b (.s .n (.s .n (.s (.s .n (.b (.l .g ⟨[.d 8 (.int .u64),.d 20 (.int .i64),.b 5 160 (.ar 8 .u64)],[3,4,5,6,7,14,15,19]⟩ (.s .n (.s (.c .n .n) (.s (.b (.s .n (.s .n (.s .n (.s .n (.s .n .n)))))) .n)))))) .n)))) .n)))))) (.s .n .n)))) (by kernel_rfl) (by kernel_rfl)
def jy:aW Tryz.prog:=bw 96 [.d (.ar 4 .u64),.d (.ar 4 .u64)] [.d (.ar 4 .u64),.d (.int .u64)] Tryz.func96 ck (tb []) 27 [] [] (.s .n (.s .n (.s (.s .n (.b (.l .g ⟨[.d 6 (.int .u64),.d 8 (.int .i64),.b 2 63 (.ar 4 .u64)],[2,3,4]⟩ (.s .n (.s (.c .n .n) (.s (.b (.s .n .n)) .n)))))) (.s .n .n)))) (by kernel_rfl) (by kernel_rfl)
def dS:aW Tryz.prog:=bw 94 [.d (.ar 4 .u64),.d (.ar 4 .u64)] [.d (.ar 4 .u64)] Tryz.func94 aB (tb [qo,dX,jy]) 66 [] [] (.s .n (.s .n (.s .n (.s (.s .n (.b (.l .g ⟨[.d 6 (.int .u64),.d 14 (.int .i64),.b 2 63 (.ar 4 .u64)],[2,4,5]⟩ (.s .n (.s (.c .n .n) (.s (.b (.s .n (.s .n (.s .n (.s .n (.s .n .n)))))) .n)))))) (.s .n (.s .n (.s .n .n))))))) (by kernel_rfl) (by kernel_rfl)
def lZ:aW Tryz.prog:=bw 165 [.d (.ar 4 .u64),.d (.ar 4 .u64)] [.d (.ar 4 .u64)] Tryz.func165 dR (tb [dS]) 28 [] [] (.s .n (.s .n (.s (.s .n (.b (.l .g ⟨[.d 6 (.int .i64),.b 5 63 (.ar 4 .u64)],[2,3,4,5]⟩ (.s (.s .n (.c .n .n)) (.j ⟨[.b 5 63 (.ar 4 .u64)],[2,3,4,5,6]⟩ false (.b (.s .n (.s .n (.c .n .n)))) .n))))) (.s .n .n)))) (by kernel_rfl) (by kernel_rfl)
def iy:aW Tryz.prog:=bw 95 [.d (.ar 4 .u64)] [.d (.ar 4 .u64)] Tryz.func95 fg (tb [jf,fG,lZ]) 14 [] [] (.s .n (.s .n (.s .n .n))) (by kernel_rfl) (by kernel_rfl)
def sq:aW Tryz.prog:=bw 52 [] [.d (.ar 4 .u64)] Tryz.func52 iz (tb [fX,iy,dS]) 7 [] [] (.s .n (.s .n .n)) (by kernel_rfl) (by kernel_rfl)
def kq:aW Tryz.prog:=bw 53 [.d (.ar 4 .u64),.d (.ar 4 .u64)] [.d (.ar 4 .u64)] Tryz.func53 c_ (tb [jy]) 29 [] [] (.s .n (.s .n (.s .n (.s .n (.s .n .n))))) (by kernel_rfl) (by kernel_rfl)
def jb:aW Tryz.prog:=bw 21 [] [.d dl] Tryz.func21 eM (tb [sq,kq]) 8 [] [] (.s .n (.s .n (.s .n .n))) (by kernel_rfl) (by kernel_rfl)
def gx:aW Tryz.prog:=bw 100 [.d (.ar 4 .u64)] [.d (.ar 4 .u64)] Tryz.func100 bt (tb [jy,jf,fG]) 31 [] [] (.s .n (.s .n (.s .n (.s .n (.s (.s .n (.s .n (.c (.s .n .n) .n))) (.s .n .n)))))) (by kernel_rfl) (by kernel_rfl)
def je:aW Tryz.prog:=bw 101 [.d (.ar 4 .u64)] [.d (.ar 32 .u8)] Tryz.func101 dp (tb []) 21 [] [] (.s .n (.s .n (.s (.s .n (.b (.l .g ⟨[.d 5 (.int .i64),.b 3 67 (.ar 32 .u8)],[1,2,3]⟩ (.s .n (.s (.c .n .n) (.s (.b (.s .n .n)) .n)))))) (.s .n .n)))) (by kernel_rfl) (by kernel_rfl)
def ng:aW Tryz.prog:=bw 55 [] [.d (.ar 32 .u8)] Tryz.func55 gR (tb [iy,dS,gx,je]) 7 [] [] (.s .n (.s .n .n)) (by kernel_rfl) (by kernel_rfl)
def mN:aW Tryz.prog:=bw 97 [.d (.ar 4 .u64),.d (.ar 4 .u64)] [.d .bool] Tryz.func97 eU (tb [fG]) 15 [] [] (.s .n (.s .n (.s .n .n))) (by kernel_rfl) (by kernel_rfl)
def tC:aW Tryz.prog:=bw 166 [.d (.ar 4 .u64),.d (.int .i64)] [.d (.ar 4 .u64)] Tryz.func166 fF (tb []) 32 [] [] (.s .n (.s (.s .n (.b (.l .g ⟨[.d 6 (.int .i64),.b 2 63 (.ar 4 .u64)],[1,2,4]⟩ (.s .n (.s (.c .n .n) (.j ⟨[.b 2 63 (.ar 4 .u64)],[1,2,4,6]⟩ false (.b (.s .n (.s .n (.s .n (.c .n .n))))) .n)))))) (.s .n .n))) (by kernel_rfl) (by kernel_rfl)
def lY:aW Tryz.prog:=bw 167 [.d (.ar 4 .u64),.d (.ar 4 .u64)] [.d .bool] Tryz.func167 cQ (tb [gx]) 10 [] [] (.s .n (.s .n .n)) (by kernel_rfl) (by kernel_rfl)
def sR:aW Tryz.prog:=bw 99 [.d (.ar 4 .u64)] [.d (.ar 4 .u64),.d .bool] Tryz.func99 jC (tb [jf,jy,tC,lZ,dS,lY,fG,gx,fX]) 55 [] [] (.s .n (.s .n (.s .n (.j ⟨[.b 6 63 (.ar 4 .u64)],[1,2,6]⟩ false (.s .n (.c (.s .n .n) .n)) (.s (.s .n (.c (.s .n .n) .n)) (.s .n (.j ⟨[.b 6 63 (.ar 4 .u64)],[2,6]⟩ false (.s .n (.c .n .n)) (.s .n .n)))))))) (by kernel_rfl) (by kernel_rfl)
def iq:aW Tryz.prog:=bw 54 [.d dl,.d (.ar 32 .u8)] [.d aZ,.d .bool] Tryz.func54 cC (tb [mM,jf,mN,dS,fX,kq,iy,sR]) 69 [] [] (.s .n (.s .n (.s .n (.s .n (.s (.s .n (.c (.s .n .n) .n)) (.s .n (.s .n (.s (.j ⟨[.d 55 .bool],[4,6,7,8,10]⟩ false .n (.c (.s .n .n) .n)) (.j ⟨[.b 10 63 (.ar 4 .u64)],[4,7,8,10]⟩ false (.s .n (.c .n .n)) (.s .n .n)))))))))) (by kernel_rfl) (by kernel_rfl)
def qc:aW Tryz.prog:=bw 102 [] [.d aZ] Tryz.func102 jo (tb []) 4 [] [] (.s .n (.s .n .n)) (by kernel_rfl) (by kernel_rfl)
end
end Go.Proofs.YtimjjookppejeaaGreatDoor
