/- A part of the proof of TopKeys. No condition. -/
import Derived.Test.YtiilbonamnegaaaGreatDoorC13
namespace Go.Proofs.YtiilbonamnegaaaGreatDoor
open Go.Gk Go.RowKit
noncomputable section
set_option maxRecDepth 100000
def uS:bI Tryz.prog:=cJ 49 [.d .tree] [.d ee,.d (.int .i64)] Tryz.func49 jf (tb [dB,yp,fP,mH,AY]) 111 [] [] (.s .n (.s (.s .n (.c (.s .n .n) .n)) (.s .n (.s .z (.s .z (.s (.s .n (.c (.s .n .n) .n)) (.s (.s .n (.b (.l .g ⟨[.d 7 (.int .i64),.b 2 29 ee,.b 4 29 ee],[1,2,4,5,6]⟩ (.s (.s .n (.c .n .n)) (.j ⟨[.b 2 29 ee,.b 4 29 ee],[1,2,4,5,6,7]⟩ true (.b (.s .n (.s .n (.s .n (.j ⟨[.d 71 .bool],[1,2,4,5,6,7,8,9,10,11]⟩ false .n (.c .n (.s .n (.j ⟨[.d 89 .bool],[1,2,4,5,6,7,10,13]⟩ false .n (.c .n (.s .n .n)))))))))) .n))))) (.s (.s .n (.j ⟨[.d 108 .bool],[2,4]⟩ false .n (.c (.s .n .n) .n))) (.s .n .n))))))))) (by kernel_rfl) (by kernel_rfl)
def xE:bI Tryz.prog:=cJ 15 [.d (.sl (.int .u8))] [.d ee,.d (.int .i64)] Tryz.func15 ma (tb [pA,uS]) 19 [] [] (.s .n (.s .n (.s (.s .n (.c (.s .n .n) .n)) (.s .n .n)))) (by kernel_rfl) (by kernel_rfl)
def pG:bI Tryz.prog:=cJ 185 [.d (.int .u64)] [.d (.int .i64)] Tryz.func185 dX (tb []) 15 [] [] (.s .n (.s (.b (.s .n (.c (.s .n .n) (.s .n (.c (.s .n .n) (.s .n (.c (.s .n .n) (.s .n (.c (.s .n .n) .n))))))))) (.s .n .n))) (by kernel_rfl) (by kernel_rfl)
def ez:bI Tryz.prog:=cJ 137 [.p 103 am,.d (.int .u8)] [.d aL,.d (.int .i64)] Tryz.func137 bk (tb [pG]) 198 [] [] (.s .n (.s (.s .n (.c (.s .n .n) .n)) (.s .n (.s (.s .n (.c (.s .n .n) .n)) (.s .n (.s (.j ⟨[.d 74 .bool],[0,1,4,6]⟩ false .n (.c (.s .n .n) .n)) (.s (.j ⟨[.d 88 .bool],[0,4,6]⟩ false .n (.c (.s .n .n) .n)) (.s .n (.s (.s .n (.c (.s .n (.s .n .n)) .n)) (.s .n (.j ⟨[.b 0 103 am,.b 4 212 aL,.b 6 212 aL],[0,4,6]⟩ true (.s .n (.c (.s .n (.s (.s .n (.c (.s .n .n) .n)) (.s .n (.s (.s .n (.b (.l (.n 145 144) ⟨[.b 6 212 aL],[0,4,6,7,143,144]⟩ (.s .n (.s (.c .n .n) (.s (.b (.s .n .n)) .n)))))) .n)))) .n)) (.s (.j ⟨[.d 181 .bool],[0,4,6]⟩ false .n (.c (.s .n .n) .n)) (.j ⟨[.b 0 103 am],[0,4,6]⟩ false (.j ⟨[.d 193 .bool],[0,4,6]⟩ false .n (.c .n .n)) (.s .n .n)))))))))))))) (by kernel_rfl) (by kernel_rfl)
def jQ:bI Tryz.prog:=cJ 186 [.p 103 am,.d aL] [.d (.sl (.int .u8)),.d (.int .i64)] Tryz.func186 ct (tb [fP,e_]) 61 [] [] (.s .n (.s (.s .n (.c (.s .n .n) .n)) (.s .n (.s .n (.j ⟨[.b 0 103 am],[0,6]⟩ false (.j ⟨[.d 56 .bool],[0,6]⟩ false .n (.c .n .n)) (.s .n .n)))))) (by kernel_rfl) (by kernel_rfl)
end
end Go.Proofs.YtiilbonamnegaaaGreatDoor
