/- A part of the proof of TopChain. No condition. -/
import Derived.Test.YtimjjookppejeaaGreatDoorC3
namespace Go.Proofs.YtimjjookppejeaaGreatDoor
open Go.Gk Go.RowKit
noncomputable section
set_option maxRecDepth 100000
def gk:aW Tryz.prog:=bw 103 [.d dl,.d aZ,.d aZ] [.d aZ] Tryz.func103 bz (tb [fX,dS,kq]) 78 [] [] (.s .n (.s .n (.s .n (.s .n (.s .n (.s .n (.s .n (.s .n .n)))))))) (by kernel_rfl) (by kernel_rfl)
def iV:aW Tryz.prog:=bw 56 [.d dl,.d (.ar 4 .u64),.d aZ] [.d aZ] Tryz.func56 cI (tb [qc,gk]) 32 [] [] (.s .n (.s .n (.s (.s .n (.b (.l .g ⟨[.d 8 (.int .i64),.b 7 115 aZ],[3,4,5,6,7]⟩ (.s (.s .n (.c .n .n)) (.j ⟨[.b 7 115 aZ],[3,4,5,6,7,8]⟩ false (.b (.s .n (.s .n (.c .n .n)))) .n))))) (.s .n .n)))) (by kernel_rfl) (by kernel_rfl)
def ij:aW Tryz.prog:=bw 57 [.d aZ] [.d (.ar 32 .u8)] Tryz.func57 db (tb [iy,dS,gx,je]) 29 [] [] (.s .n (.s .n (.s .n (.s .n (.s .n .n))))) (by kernel_rfl) (by kernel_rfl)
def gJ:aW Tryz.prog:=bw 22 [.d dl,.d (.ar 4 .u64)] [.d (.ar 32 .u8)] Tryz.func22 cf (tb [ng,iq,iV,ij]) 18 [] [] (.s .n (.s .n (.s .n .n))) (by kernel_rfl) (by kernel_rfl)
def qW:aW Tryz.prog:=bw 6 [.d (.sl (.int .u8))] [.d (.sl (.int .u8)),.d (.int .i64)] Tryz.func6 fC (tb [lq,jb,gJ]) 19 [] [] (.s .n (.s (.s .n (.c (.s .n .n) .n)) (.s .n (.s .n (.s .n .n))))) (by kernel_rfl) (by kernel_rfl)
def nF:aW Tryz.prog:=bw 104 [.d (.ar 32 .u8)] [.d (.ar 32 .u8)] Tryz.func104 eW (tb []) 13 [] [] (.s .n (.s .n (.s .n (.s .n .n)))) (by kernel_rfl) (by kernel_rfl)
end
end Go.Proofs.YtimjjookppejeaaGreatDoor
