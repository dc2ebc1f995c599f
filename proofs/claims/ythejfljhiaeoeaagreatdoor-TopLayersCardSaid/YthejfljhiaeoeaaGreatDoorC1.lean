import Derived.Test.YthejfljhiaeoeaaGreatDoorC0
namespace Go.Proofs.YthejfljhiaeoeaaGreatDoor
open Go.Gk Go.RowKit
noncomputable section
set_option maxRecDepth 100000
def nH:bW Tryz.prog:=cZ 65 [.d aI] [.d .bool] Tryz.func65 cK (tb [eQ,oh,n7,iY,d7,fo,j1]) 119 [] [40] (.s .n (.s .n (.s (.j ⟨[.d 36 .bool],[1,3,4]⟩ false .n (.c (.s .n .n) .n)) (.j ⟨[],[1,3,4]⟩ true (.s .n (.b (.l (.a 41 40) ⟨[],[1,3,4,39,40]⟩ (.s .n (.s (.c .n .n) (.j ⟨[],[1,3,4,39,40,41]⟩ true (.b (.s .n (.s .n (.b (.l .g ⟨[.d 7 (.int .i64)],[1,3,4,6,39,40,41]⟩ (.s (.s .n (.c .n .n)) (.s (.b (.j ⟨[.d 74 .bool],[1,3,4,6,7,39,40,41]⟩ false .n (.c (.s .n .n) .n))) .n))))))) .n)))))) (.j ⟨[],[1]⟩ true (.s .n (.b (.l .g ⟨[.d 8 (.int .i64)],[1,3,4]⟩ (.s (.s .n (.c .n .n)) (.s (.b (.s .n (.j ⟨[.d 102 .bool],[1,3,4,8]⟩ false .n (.c (.s .n .n) .n)))) .n))))) (.s .n (.s .n (.j ⟨[.d 2 .bool],[]⟩ false .n .n)))))))) (by kernel_rfl) (by kernel_rfl)
def pV(mf:MF [.d .tree] [.d .tree])(okf:OF 75 [.d .tree] [.d .tree] mf):bW Tryz.prog:=xP 75 [.d .tree] [.d .tree] Tryz.func75 mf (by kernel_rfl) okf
theorem qc(mf:MF [.d .tree] [.d .tree])(okf:OF 75 [.d .tree] [.d .tree] mf):OF 75 [.d .tree] [.d .tree] (gb mf):=G2 Tryz.func75 (tb [pV mf okf]) 31 [26] [17] (.s .n (.s .n (.s .n (.s (.s .n (.b (.l (.a 18 17) ⟨[.o 4 36 .tree],[2,3,16,17]⟩ (.s .n (.s (.c .n .n) (.s (.b (.s .n .n)) .n)))))) (.s .n (.s .n .n)))))) (by kernel_rfl) (by kernel_rfl)
theorem kO : ∀(n:Nat),OF 75 [.d .tree] [.d .tree] (fX n)
 |0=>fun a r h=>by cases(show(none:Option _)=some r from h)
 |n+1=>qc (fX n) (kO n)
def iq:bW Tryz.prog:=xP 75 [.d .tree] [.d .tree] Tryz.func75 cw (by kernel_rfl) (kO 40)
def pf:bW Tryz.prog:=cZ 68 [.d aI] [.d aI] Tryz.func68 gj (tb [iq]) 10 [] [] (.s .n (.s .n .n)) (by kernel_rfl) (by kernel_rfl)
end
end Go.Proofs.YthejfljhiaeoeaaGreatDoor
