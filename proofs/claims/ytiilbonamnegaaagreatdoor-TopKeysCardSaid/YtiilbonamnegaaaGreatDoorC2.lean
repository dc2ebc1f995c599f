/- A part of the proof of TopKeys. No condition. -/
import Derived.Test.YtiilbonamnegaaaGreatDoorC1
namespace Go.Proofs.YtiilbonamnegaaaGreatDoor
open Go.Gk Go.RowKit
noncomputable section
set_option maxRecDepth 100000
def yH(mf:MF [.r 5 (.int .u8),.d .tree] [.o 5 (.int .u8)])(okf:OF 54 [.r 5 (.int .u8),.d .tree] [.o 5 (.int .u8)] mf):bI Tryz.prog:=tA 54 [.r 5 (.int .u8),.d .tree] [.o 5 (.int .u8)] Tryz.func54 mf (by kernel_rfl) okf
theorem yG(mf:MF [.r 5 (.int .u8),.d .tree] [.o 5 (.int .u8)])(okf:OF 54 [.r 5 (.int .u8),.d .tree] [.o 5 (.int .u8)] mf):OF 54 [.r 5 (.int .u8),.d .tree] [.o 5 (.int .u8)] (jn mf):=DM Tryz.func54 (tb [jM,oz,yH mf okf]) 146 [24,27,35,40,54,62,79,81,86,90,103,106,113,132,137,145] [116] (.s .n (.s (.s .n (.b (.s .n (.c (.s .n .n) (.s .n (.c (.s (.s .n (.c (.s .n .n) .n)) (.s .n .n)) (.s .n (.c (.s .n .n) (.s .n (.c (.s .n .n) (.s .n (.c (.s .n (.s .n .n)) (.s .n (.c (.s (.j ⟨[.d 72 .bool],[0,3]⟩ false .n (.c (.s .n .n) .n)) (.s .n .n)) (.s .n (.c (.s .n (.s (.s .n (.b (.l .g ⟨[.o 0 5 (.int .u8),.d 5 (.int .i64)],[3]⟩ (.s (.s .n (.c .n .n)) (.s (.b .n) .n))))) (.s .n .n))) .n)))))))))))))))) (.s .n (.j ⟨[.d 6 (.int .u8),.d 7 (.int .u8)],[0,3]⟩ false (.s .n (.c .n .n)) (.s .n (.s (.s .n (.b (.l (.a 117 116) ⟨[.o 0 5 (.int .u8)],[3,7,115,116]⟩ (.s .n (.s (.c .n .n) (.s (.b (.s .n (.j ⟨[.o 0 5 (.int .u8)],[3,7,9,115,116,117]⟩ false (.b (.j ⟨[.d 122 .bool],[0,3,7,8,9,115,116,117]⟩ false .n (.c .n (.s .n (.c .n .n))))) .n))) .n)))))) (.s .n .n))))))) (by kernel_rfl) (by kernel_rfl)
theorem rV : ∀(n:Nat),OF 54 [.r 5 (.int .u8),.d .tree] [.o 5 (.int .u8)] (l8 n)
 |0=>fun a r h=>by cases(show(none:Option _)=some r from h)
 |n+1=>yG (l8 n) (rV n)
def yf:bI Tryz.prog:=tA 54 [.r 5 (.int .u8),.d .tree] [.o 5 (.int .u8)] Tryz.func54 fZ (by kernel_rfl) (rV 40)
def t8:bI Tryz.prog:=cJ 54 [.r 5 (.int .u8),.d .tree] [.d (.sl (.int .u8))] Tryz.func54 mY (tb [jM,oz,yf]) 146 [27,35,54,81,90,103,113,132,137] [116] (.s .n (.s (.s .n (.b (.s .n (.c (.s .n .n) (.s .n (.c (.s (.s .n (.c (.s .n .n) .n)) (.s .n .n)) (.s .n (.c (.s .n .n) (.s .n (.c (.s .n .n) (.s .n (.c (.s .n (.s .n .n)) (.s .n (.c (.s (.j ⟨[.d 72 .bool],[0,3]⟩ false .n (.c (.s .n .n) .n)) (.s .n .n)) (.s .n (.c (.s .n (.s (.s .n (.b (.l .g ⟨[.o 0 5 (.int .u8),.d 5 (.int .i64)],[3]⟩ (.s (.s .n (.c .n .n)) (.s (.b .n) .n))))) (.s .n .n))) .n)))))))))))))))) (.s .n (.j ⟨[.d 6 (.int .u8),.d 7 (.int .u8)],[0,3]⟩ false (.s .n (.c .n .n)) (.s .n (.s (.s .n (.b (.l (.a 117 116) ⟨[.o 0 5 (.int .u8)],[3,7,115,116]⟩ (.s .n (.s (.c .n .n) (.s (.b (.s .n (.j ⟨[.o 0 5 (.int .u8)],[3,7,9,115,116,117]⟩ false (.b (.j ⟨[.d 122 .bool],[0,3,7,8,9,115,116,117]⟩ false .n (.c .n (.s .n (.c .n .n))))) .n))) .n)))))) (.s .n .n))))))) (by kernel_rfl) (by kernel_rfl)
def qD:bI Tryz.prog:=cJ 17 [.d .tree] [.d .str,.d (.int .i64)] Tryz.func17 ju (tb [dB,t8]) 10 [] [] (.s .n (.s (.s .n (.c (.s .n .n) .n)) (.s .n .n))) (by kernel_rfl) (by kernel_rfl)
def jT:bI Tryz.prog:=cJ 254 [.d .str,.d .str] [.d .bool] Tryz.func254 fW (tb []) 18 [] [] (.s .n (.j ⟨[.d 4 .bool],[]⟩ false .n .n)) (by kernel_rfl) (by kernel_rfl)
def jV:bI Tryz.prog:=cJ 209 [.d .str,.d .str] [.d .str,.d .bool] Tryz.func209 f9 (tb [jT]) 15 [] [] (.s .n (.s (.s .n (.c (.s .n .n) .n)) (.s .n .n))) (by kernel_rfl) (by kernel_rfl)
def pF:bI Tryz.prog:=cJ 145 [.d .str,.d .str] [.d .str,.d .bool] Tryz.func145 lT (tb [jV]) 11 [] [] (.s .n (.s .n .n)) (by kernel_rfl) (by kernel_rfl)
end
end Go.Proofs.YtiilbonamnegaaaGreatDoor
