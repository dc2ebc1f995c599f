/- A part of the proof of TopKeys. No condition. -/
import Derived.Test.YtiilbonamnegaaaGreatDoorC6
namespace Go.Proofs.YtiilbonamnegaaaGreatDoor
open Go.Gk Go.RowKit
noncomputable section
set_option maxRecDepth 100000
def j_:bI Tryz.prog:=cJ 76 [.d (.sl .tree)] [.d .tree,.d (.int .i64)] Tryz.func76 eG (tb [fi,iZ,gb,iJ]) 103 [77,88] [17] (.s .n (.s (.s .n (.c (.s .n .n) .n)) (.j ⟨[.b 2 37 .tree],[0,2]⟩ true (.s .n (.b (.l (.a 18 17) ⟨[.b 2 37 .tree],[0,2,16,17]⟩ (.s .n (.s (.c .n .n) (.s (.b (.s .n (.s .n (.c (.s .n .n) .n)))) .n)))))) (.s .n (.s .n (.j ⟨[.d 6 (.sl .tree),.d 7 .bool],[2]⟩ false (.s .n (.b (.l .g ⟨[.d 6 (.sl .tree),.d 7 .bool,.d 8 (.int .i64)],[0,2]⟩ (.s (.s .n (.c .n .n)) (.j ⟨[.d 6 (.sl .tree),.d 7 .bool],[0,2,8]⟩ false (.b (.s .n (.j ⟨[.d 9 (.int .i64)],[0,2,6,7,8]⟩ false (.b (.l .g ⟨[.d 9 (.int .i64)],[0,2,6,7,8]⟩ (.s (.j ⟨[.d 51 .bool],[0,2,6,7,8,9]⟩ false .n (.c .n .n)) (.b .n)))) (.j ⟨[.d 7 .bool],[0,2,6,8,9]⟩ false .n .n)))) .n))))) (.s (.s .n (.c (.s .n .n) .n)) (.s .n (.s (.s .n (.c (.s .n .n) .n)) (.s .n .n)))))))))) (by kernel_rfl) (by kernel_rfl)
def p9:bI Tryz.prog:=cJ 34 [.d aQ,.d .bool,.d (.int .i64),.d .tree] [.d aQ,.d (.int .i64)] Tryz.func34 bZ (tb [oS,fi,kD,pJ,eK,j_]) 64 [42] [] (.s .n (.s (.j ⟨[.d 22 .bool],[1,2,4,7,8]⟩ false .n (.c (.s .n .n) .n)) (.s (.s .n (.s .n (.c (.s .n .n) .n))) (.s .n (.s .n (.j ⟨[.b 13 37 .tree],[1,2,7,8,12,13]⟩ false (.s .n (.c .n .n)) (.s .n (.s (.s .n (.c (.s .n .n) .n)) (.j ⟨[.b 12 39 aQ],[8,12]⟩ false (.s .n (.c .n .n)) (.s (.s .n (.c (.s .n .n) .n)) (.s .n .n))))))))))) (by kernel_rfl) (by kernel_rfl)
def kx:bI Tryz.prog:=cJ 36 [.d (.sl (.int .u8))] [.d .tree] Tryz.func36 eF (tb []) 6 [] [] (.s .n (.s .n .n)) (by kernel_rfl) (by kernel_rfl)
def mi:bI Tryz.prog:=cJ 77 [.p 66 ao] [.d (.int .u64)] Tryz.func77 dv (tb [bV]) 20 [] [] (.s .n (.s (.s .n (.b (.s .n (.c (.s .n .n) (.s .n (.c (.s .n .n) .n)))))) (.s .n .n))) (by kernel_rfl) (by kernel_rfl)
def nh:bI Tryz.prog:=cJ 79 [.p 66 ao,.d (.int .i64)] [.d .str] Tryz.func79 eO (tb [bV]) 23 [] [] (.s .n (.s .n (.s (.s .n (.b (.l .g ⟨[.d 5 .str,.d 6 (.int .i64),.b 0 66 ao],[0]⟩ (.s (.s .n (.c .n .n)) (.s (.b .n) .n))))) (.s .n .n)))) (by kernel_rfl) (by kernel_rfl)
def pO:bI Tryz.prog:=cJ 78 [.d .str] [.d .tree] Tryz.func78 gE (tb []) 6 [] [] (.s .n (.s .n .n)) (by kernel_rfl) (by kernel_rfl)
def pL:bI Tryz.prog:=cJ 80 [.d .tree] [.d .tree] Tryz.func80 dY (tb [fi]) 8 [] [] (.s .n (.s (.s .n (.c (.s .n .n) .n)) (.s .n .n))) (by kernel_rfl) (by kernel_rfl)
def pd:bI Tryz.prog:=cJ 124 [.d (.int .u64),.d (.int .i64),.d (.int .i64)] [.d (.int .u64)] Tryz.func124 eL (tb []) 108 [] [] (.s .n (.s .n (.s .n (.s (.b (.s .n (.c (.s .n .n) (.j ⟨[.d 57 .bool],[2,7,8,9,11]⟩ false .n (.c (.s .n .n) (.s .n (.c (.s .n (.j ⟨[.d 12 (.int .i64)],[2,7,9,11]⟩ false (.b (.l .g ⟨[.d 12 (.int .i64)],[2,7,9,11]⟩ (.s (.s .n (.c .n .n)) (.b .n)))) (.s .n .n))) .n))))))) (.s .n .n))))) (by kernel_rfl) (by kernel_rfl)
def m_:bI Tryz.prog:=cJ 81 [.p 66 ao] [.d (.int .u64)] Tryz.func81 eo (tb [bV,pd,im]) 41 [] [] (.s .n (.s .n (.s (.s .n (.b (.s .n (.c (.s .n .n) (.s .n (.c (.s .n .n) (.s .n (.c (.s .n .n) .n)))))))) (.s .n (.s (.s .n (.c (.s .n .n) .n)) (.s .n .n)))))) (by kernel_rfl) (by kernel_rfl)
def nZ(mf:MF [.p 66 ao,.d (.int .i64)] [.d .tree])(okf:OF 37 [.p 66 ao,.d (.int .i64)] [.d .tree] mf):bI Tryz.prog:=tA 37 [.p 66 ao,.d (.int .i64)] [.d .tree] Tryz.func37 mf (by kernel_rfl) okf
theorem nN(mf:MF [.p 66 ao,.d (.int .i64)] [.d .tree])(okf:OF 37 [.p 66 ao,.d (.int .i64)] [.d .tree] mf):OF 37 [.p 66 ao,.d (.int .i64)] [.d .tree] (eR mf):=DM Tryz.func37 (tb [bV,mi,ja,kx,nh,pO,nZ mf okf,pL,m_,j_]) 104 [79,88] [] (.s .n (.s .n (.j ⟨[.d 5 (.int .i64)],[0,1,4]⟩ false (.j ⟨[.d 21 .bool],[0,1,4,5]⟩ false .n (.c .n .n)) (.s .n (.s (.s .n (.b (.j ⟨[.d 23 .bool],[0,1,4,5,6,22]⟩ false (.s .n (.c .n .n)) (.c (.s .n .n) (.s .n (.c (.s .n .n) (.s .n (.c (.s .n .n) (.s .n (.c (.s .n .n) (.s .n (.c (.s .n .n) (.s .n (.c (.s .n .n) .n)))))))))))))) (.j ⟨[.o 6 37 .tree,.b 0 66 ao],[0,4,5]⟩ false (.s .n (.b (.l .g ⟨[.o 6 37 .tree,.d 7 (.int .i64),.b 0 66 ao],[0,1,4,5]⟩ (.s (.s .n (.c .n .n)) (.j ⟨[.o 6 37 .tree,.b 0 66 ao],[0,1,4,5,7]⟩ false (.b (.s .n (.s .n (.c .n .n)))) .n))))) (.s (.s .n (.c (.s .n .n) .n)) (.s .n (.s (.s .n (.c (.s .n .n) .n)) (.s .n .n)))))))))) (by kernel_rfl) (by kernel_rfl)
theorem jL : ∀(n:Nat),OF 37 [.p 66 ao,.d (.int .i64)] [.d .tree] (cZ n)
 |0=>fun a r h=>by cases(show(none:Option _)=some r from h)
 |n+1=>nN (cZ n) (jL n)
def nj:bI Tryz.prog:=tA 37 [.p 66 ao,.d (.int .i64)] [.d .tree] Tryz.func37 cI (by kernel_rfl) (jL 40)
def pI:bI Tryz.prog:=cJ 38 [.d (.sl .tree)] [.d .tree] Tryz.func38 jF (tb [iJ]) 6 [] [] (.s .n (.s .n .n)) (by kernel_rfl) (by kernel_rfl)
end
end Go.Proofs.YtiilbonamnegaaaGreatDoor
