/- A part of the proof of TopKeys. No condition. -/
import Derived.Test.YtiilbonamnegaaaGreatDoorC10
namespace Go.Proofs.YtiilbonamnegaaaGreatDoor
open Go.Gk Go.RowKit
noncomputable section
set_option maxRecDepth 100000
def vN:bI Tryz.prog:=cJ 13 [.d (.sl (.int .u8))] [.d eA,.d (.int .i64)] Tryz.func13 k_ (tb [lp,fP,oZ,qd,pE,fQ] [4,87,5000050,5000096] [(39,4,47)]) 113 [86] [] (.s .n (.s (.b (.s .n (.c (.s .n .n) (.s .n (.c (.s .n .n) .n))))) (.s .n (.s .n (.s .n (.s .n (.j ⟨[.h 4 49 eA 4 89 eY,.b 5 86 gc],[0,2,4,5]⟩ false (.b (.l .g ⟨[.d 6 (.int .i64),.h 4 49 eA 4 89 eY,.b 5 86 gc],[0,2,4,5]⟩ (.s (.s .n (.c .n .n)) (.b (.s .n (.s .n (.s .n .n))))))) (.j ⟨[.h 4 49 eA 4 89 eY],[0,2,4,5]⟩ false (.s .n (.c .n .n)) (.s (.s .n (.c (.s .n .n) .n)) (.s .n .n)))))))))) (by kernel_rfl) (by kernel_rfl)
def oL:bI Tryz.prog:=cJ 227 [.p 194 bR,.d (.int .i64)] [.d (.int .u64),.d .bool] Tryz.func227 f5 (tb []) 56 [] [] (.s .n (.s (.s .n (.c (.s .n .n) .n)) (.s .n (.s (.s .n (.b (.l (.n 37 36) ⟨[.d 6 (.int .u64)],[0,1,35,36]⟩ (.s .n (.s (.c .n .n) (.s (.b (.s .n .n)) .n)))))) (.s .n (.s .n .n)))))) (by kernel_rfl) (by kernel_rfl)
def pV:bI Tryz.prog:=cJ 159 [.p 194 bR] [.d (.int .u8),.d (.int .u64),.d (.int .i64)] Tryz.func159 cf (tb [oL,lg]) 68 [] [] (.s .n (.s (.s .n (.c (.s .n .n) .n)) (.s .n (.s .n (.s (.s .n (.c (.s .n .n) .n)) (.s .n (.s (.s .n (.c (.s .n .n) .n)) (.s .n (.s (.s .n (.c (.s .n .n) .n)) (.s (.j ⟨[.d 65 .bool],[0,2,3]⟩ false .n (.c (.s .n .n) .n)) (.s .n .n))))))))))) (by kernel_rfl) (by kernel_rfl)
def oW:bI Tryz.prog:=cJ 238 [.d (.int .i64)] [.d .fl] Tryz.func238 kY (tb []) 8 [] [] (.s .n (.s .n (.j ⟨[.d 3 (.int .u64)],[]⟩ false (.s .n (.c .n .n)) (.s .n .n)))) (by kernel_rfl) (by kernel_rfl)
def sG:bI Tryz.prog:=⟨267,[.d .fl,.d (.int .i64)],[.d .fl],⟨Tryz.f267,Tryz.func267,by kernel_rfl,by kernel_rfl⟩,uM,fun a r h=>by cases(show(none:Option _)=some r from h)⟩
def sL:bI Tryz.prog:=cJ 282 [.d .fl] [.d .fl,.d (.int .i64)] Tryz.func282 jv (tb [pg]) 10 [] [] (.s .n (.s (.s .n (.c (.s .n .n) .n)) (.s .n .n))) (by kernel_rfl) (by kernel_rfl)
def xA:bI Tryz.prog:=cJ 268 [.d .fl,.d (.int .i64)] [.d .fl] Tryz.func268 oU (tb [mJ,mD,sL,fV,oW]) 63 [] [] (.s .n (.s (.b (.s .n (.c (.s .n .n) (.j ⟨[.d 12 .bool],[0,1]⟩ false .n (.c (.s .n .n) .n))))) (.s .n (.s .n (.s .n (.s .n (.s (.s .n (.c (.s .n .n) .n)) (.s (.s .n (.c (.s (.s .n (.c (.s .n .n) .n)) (.s .n .n)) .n)) (.s .n (.j ⟨[.d 1 (.int .i64),.d 7 .fl],[6]⟩ false (.s .n (.c (.s .n .n) .n)) (.s .n (.s .n (.s .n .n))))))))))))) (by kernel_rfl) (by kernel_rfl)
end
end Go.Proofs.YtiilbonamnegaaaGreatDoor
