/- A part of the proof of TopKeys. No condition. -/
import Derived.Test.YtiilbonamnegaaaGreatDoorC7
namespace Go.Proofs.YtiilbonamnegaaaGreatDoor
open Go.Gk Go.RowKit
noncomputable section
set_option maxRecDepth 100000
def lL:bI Tryz.prog:=cJ 10 [.p 66 ao,.d (.int .i64)] [.d aQ] Tryz.func10 dW (tb [oD,bV,eK,p9,ja,kx,nj,pI]) 83 [] [] (.s .n (.s .n (.j ⟨[.b 0 66 ao,.b 5 39 aQ],[0,4,5]⟩ false (.s .n (.c .n .n)) (.s (.s .n (.b (.l .g ⟨[.d 6 (.int .i64),.b 0 66 ao,.b 5 39 aQ],[0,4,5]⟩ (.s (.s .n (.c .n .n)) (.j ⟨[.b 0 66 ao,.b 5 39 aQ],[0,4,5,6]⟩ false (.b (.s .n (.s .n (.j ⟨[.b 0 66 ao,.b 8 37 .tree],[0,4,5,6,7,8]⟩ false (.s .n (.c .n .n)) (.s .n (.s .n (.c .n .n))))))) .n))))) (.j ⟨[.b 0 66 ao,.b 5 39 aQ],[0,4,5]⟩ false (.s .n (.j ⟨[.d 69 .bool,.b 0 66 ao],[0,4,5,11]⟩ false .n (.c (.s .n (.s .n (.s .n (.c .n .n)))) .n))) (.s .n .n)))))) (by kernel_rfl) (by kernel_rfl)
def uA:bI Tryz.prog:=cJ 62 [.d .tree] [.d (.sl iC)] Tryz.func62 gO (tb []) 29 [27] [] (.s .n (.s .n (.s (.s .n (.b (.l .g ⟨[.o 3 113 iC,.d 4 (.int .i64)],[1]⟩ (.s (.s .n (.c .n .n)) (.s (.b .n) .n))))) (.s .n .n)))) (by kernel_rfl) (by kernel_rfl)
def tj:bI Tryz.prog:=cJ 115 [.d .tree] [.d .bool] Tryz.func115 eS (tb []) 16 [] [] (.s .n (.j ⟨[.d 2 .bool],[]⟩ false .n .n)) (by kernel_rfl) (by kernel_rfl)
def p7:bI Tryz.prog:=cJ 63 [.d iC] [.d .bool] Tryz.func63 fu (tb [tj]) 47 [] [] (.s .n (.s (.b (.s .n (.c (.s .n .n) (.s .n (.c (.s .n .n) (.s .n (.c (.s .n .n) .n))))))) (.s (.s .n (.b (.s .n (.c (.j ⟨[.d 2 .bool],[]⟩ false .n .n) (.j ⟨[.d 38 .bool],[1]⟩ false (.s .n (.c .n (.s .n (.c .n (.s .n (.c .n .n)))))) (.c (.s .n .n) .n)))))) (.s .n .n)))) (by kernel_rfl) (by kernel_rfl)
def rX:bI Tryz.prog:=cJ 64 [.d .tree,.d .tree] [.d .tree,.d .bool] Tryz.func64 fT (tb [dB,jr,fQ,lK]) 47 [] [] (.s .n (.s (.j ⟨[.d 20 .bool],[2,3,4]⟩ false .n (.c (.s .n .n) .n)) (.s .n (.s (.s .n (.b (.l .g ⟨[.d 7 (.int .i64),.b 4 37 .tree],[2,4,6]⟩ (.s (.s .n (.c .n .n)) (.s (.b (.s .n (.c (.s .n .n) .n))) .n))))) (.s .n .n))))) (by kernel_rfl) (by kernel_rfl)
def pD:bI Tryz.prog:=cJ 65 [.d aQ,.d (.int .i64)] [.d .tree,.d .bool] Tryz.func65 iA (tb [ko,rX]) 25 [] [] (.s .n (.s (.s .n (.s .n (.c (.s .n .n) .n))) (.s .n .n))) (by kernel_rfl) (by kernel_rfl)
end
end Go.Proofs.YtiilbonamnegaaaGreatDoor
