/- A part of the proof of TopKeys. No condition. -/
import Derived.Test.YtiilbonamnegaaaGreatDoorC5
namespace Go.Proofs.YtiilbonamnegaaaGreatDoor
open Go.Gk Go.RowKit
noncomputable section
set_option maxRecDepth 100000
def oS:bI Tryz.prog:=cJ 72 [.d aQ] [.d .bool] Tryz.func72 dg (tb [fi,oE,pb,jC,eK,iI,kD]) 119 [] [40] (.s .n (.s .n (.s (.j ⟨[.d 36 .bool],[1,3,4]⟩ false .n (.c (.s .n .n) .n)) (.j ⟨[],[1,3,4]⟩ true (.s .n (.b (.l (.a 41 40) ⟨[],[1,3,4,39,40]⟩ (.s .n (.s (.c .n .n) (.j ⟨[],[1,3,4,39,40,41]⟩ true (.b (.s .n (.s .n (.b (.l .g ⟨[.d 7 (.int .i64)],[1,3,4,6,39,40,41]⟩ (.s (.s .n (.c .n .n)) (.s (.b (.j ⟨[.d 74 .bool],[1,3,4,6,7,39,40,41]⟩ false .n (.c (.s .n .n) .n))) .n))))))) .n)))))) (.j ⟨[],[1]⟩ true (.s .n (.b (.l .g ⟨[.d 8 (.int .i64)],[1,3,4]⟩ (.s (.s .n (.c .n .n)) (.s (.b (.s .n (.j ⟨[.d 102 .bool],[1,3,4,8]⟩ false .n (.c (.s .n .n) .n)))) .n))))) (.s .n (.s .n (.j ⟨[.d 2 .bool],[]⟩ false .n .n)))))))) (by kernel_rfl) (by kernel_rfl)
def qI(mf:MF [.d .tree] [.d .tree])(okf:OF 82 [.d .tree] [.d .tree] mf):bI Tryz.prog:=tA 82 [.d .tree] [.d .tree] Tryz.func82 mf (by kernel_rfl) okf
theorem qb(mf:MF [.d .tree] [.d .tree])(okf:OF 82 [.d .tree] [.d .tree] mf):OF 82 [.d .tree] [.d .tree] (gD mf):=DM Tryz.func82 (tb [qI mf okf]) 31 [26] [17] (.s .n (.s .n (.s .n (.s (.s .n (.b (.l (.a 18 17) ⟨[.o 4 37 .tree],[2,3,16,17]⟩ (.s .n (.s (.c .n .n) (.s (.b (.s .n .n)) .n)))))) (.s .n (.s .n .n)))))) (by kernel_rfl) (by kernel_rfl)
theorem lk : ∀(n:Nat),OF 82 [.d .tree] [.d .tree] (gA n)
 |0=>fun a r h=>by cases(show(none:Option _)=some r from h)
 |n+1=>qb (gA n) (lk n)
def iJ:bI Tryz.prog:=tA 82 [.d .tree] [.d .tree] Tryz.func82 cQ (by kernel_rfl) (lk 40)
def pJ:bI Tryz.prog:=cJ 75 [.d aQ] [.d aQ] Tryz.func75 gz (tb [iJ]) 10 [] [] (.s .n (.s .n .n)) (by kernel_rfl) (by kernel_rfl)
end
end Go.Proofs.YtiilbonamnegaaaGreatDoor
