/- A part of the proof of TopChain. No condition. -/
import Derived.Test.YtimjjookppejeaaGreatDoorC0
namespace Go.Proofs.YtimjjookppejeaaGreatDoor
open Go.Gk Go.RowKit
noncomputable section
set_option maxRecDepth 100000
def vW:aW Tryz.prog:=bw 158 [.d (.int .i64)] [.d (.sl (.int .u64))] Tryz.func158 nC (tb []) 34 [32] [] (.s .n (.s .n (.s (.s .n (.b (.l .g ⟨[.o 3 42 (.int .u64),.d 4 (.int .u64)],[0]⟩ (.s (.s .n (.c .n .n)) (.j ⟨[.o 3 42 (.int .u64)],[0,4]⟩ false (.b (.s .n (.s (.s .n (.b (.l (.n 16 15) ⟨[.d 5 .bool],[0,3,4,14,15]⟩ (.s .n (.s (.c .n .n) (.s (.b (.s .n .n)) .n)))))) (.s .n (.c .n .n))))) .n))))) (.s .n .n)))) (by kernel_rfl) (by kernel_rfl)
def xL:aW Tryz.prog:=bw 214 [.d .fl] [.d .fl] Tryz.func214 uc (tb []) 5 [] [] (.s .n (.s .n .n)) (by kernel_rfl) (by kernel_rfl)
def r9:aW Tryz.prog:=⟨279,[.d .fl],[.d .fl],⟨Tryz.f279,Tryz.func279,by kernel_rfl,by kernel_rfl⟩,ui,fun a r h=>by cases(show(none:Option _)=some r from h)⟩
def oN:aW Tryz.prog:=bw 306 [.d .fl] [.d .bool] Tryz.func306 nX (tb []) 6 [] [] (.s .n (.s .n .n)) (by kernel_rfl) (by kernel_rfl)
def rH:aW Tryz.prog:=bw 321 [.d .fl] [.d .fl] Tryz.func321 qK (tb []) 7 [] [] (.s .n (.s .n .n)) (by kernel_rfl) (by kernel_rfl)
def oO:aW Tryz.prog:=bw 307 [.d .fl,.d (.int .i64)] [.d .bool] Tryz.func307 nv (tb [rH]) 15 [] [] (.s .n (.j ⟨[.d 0 .fl],[]⟩ false (.s .n (.c .n (.s .n (.c .n .n)))) (.s .n .n))) (by kernel_rfl) (by kernel_rfl)
def xJ:aW Tryz.prog:=bw 280 [.d .fl] [.d .fl] Tryz.func280 ua (tb [oN,oO]) 87 [] [] (.s .n (.s (.b (.j ⟨[.d 8 .bool],[0]⟩ false .n (.c (.s .n .n) .n))) (.s .n (.j ⟨[.d 0 .fl,.d 3 .bool],[]⟩ false (.s .n (.c (.s .n .n) .n)) (.s .n (.j ⟨[.d 4 .fl],[0,3]⟩ false (.s .n (.c (.s .n (.s .n .n)) .n)) (.s .n (.s .n (.s .n (.s .n (.s .n (.s .n (.s .n (.s .n (.s .n (.j ⟨[.d 4 .fl],[]⟩ false (.s .n (.c .n .n)) (.s .n .n))))))))))))))))) (by kernel_rfl) (by kernel_rfl)
def xB:aW Tryz.prog:=bw 215 [.d .fl] [.d .fl] Tryz.func215 tU (tb [r9,xJ]) 7 [] [] (.s .n (.s (.c (.s .n .n) .n) (.s .n .n))) (by kernel_rfl) (by kernel_rfl)
def mr:aW Tryz.prog:=bw 233 [.d .fl,.d .fl] [.d .fl] Tryz.func233 kA (tb []) 13 [] [] (.s .n (.s .n .n)) (by kernel_rfl) (by kernel_rfl)
def u_:aW Tryz.prog:=bw 327 [.d .fl] [.d .fl] Tryz.func327 zi (tb [rH,mr]) 26 [] [] (.s .n (.s (.s .n (.c (.s .n .n) .n)) (.s .n (.s .n (.j ⟨[.d 3 (.int .u64)],[]⟩ false (.s .n (.c .n .n)) (.s .n .n)))))) (by kernel_rfl) (by kernel_rfl)
def vo:aW Tryz.prog:=bw 322 [.d .fl] [.d .fl] Tryz.func322 sF (tb [u_]) 7 [] [] (.s .n (.s (.c (.s .n .n) .n) (.s .n .n))) (by kernel_rfl) (by kernel_rfl)
def xu:aW Tryz.prog:=bw 308 [.d .fl] [.d .fl,.d .fl] Tryz.func308 ud (tb [vo,mr]) 11 [] [] (.s .n (.s .n (.s .n .n))) (by kernel_rfl) (by kernel_rfl)
def wL:aW Tryz.prog:=bw 282 [.d .fl] [.d .fl] Tryz.func282 zb (tb [oN,oO,xu]) 38 [] [] (.s .n (.s (.j ⟨[.d 16 .bool],[0]⟩ false .n (.c (.s .n .n) .n)) (.s (.s .n (.c (.s .n (.j ⟨[.d 3 .fl],[]⟩ false (.s .n (.c .n .n)) (.s .n .n))) .n)) (.s .n (.s .n .n))))) (by kernel_rfl) (by kernel_rfl)
def vz:aW Tryz.prog:=bw 216 [.d .fl] [.d .fl] Tryz.func216 rU (tb [wL]) 7 [] [] (.s .n (.s (.c (.s .n .n) .n) (.s .n .n))) (by kernel_rfl) (by kernel_rfl)
def qE:aW Tryz.prog:=bw 217 [.d (.ar 4 .u64)] [.d .fl] Tryz.func217 gW (tb []) 17 [] [] (.s .n (.s .n (.s (.s .n (.b (.l .g ⟨[.d 3 .fl,.d 4 (.int .i64)],[1]⟩ (.s (.s .n (.c .n .n)) (.s (.b .n) .n))))) (.s .n .n)))) (by kernel_rfl) (by kernel_rfl)
theorem PV(x y:UInt64):x.toNat*y.toNat/18446744073709551616<18446744073709551616:=by
 have h:=Nat.mul_lt_mul'' x.toNat_lt y.toNat_lt
 omega
def dX:aW Tryz.prog:=⟨163,[.d (.int .u64),.d (.int .u64)],[.d (.int .u64),.d (.int .u64)],⟨Tryz.f163,Tryz.func163,by kernel_rfl,by kernel_rfl⟩,au,by
 intro a r h k kp gp lab w vs t _ _ hk hargs
 match vs,hargs with
 | [v1,v2],hargs=>
  obtain⟨h1,h2,_⟩:=hargs
  obtain rfl:=aV.int (k:=.u64) h1
  obtain rfl:=aV.int (k:=.u64) h2
  have h:au a.1 a.2.1=some r:=h
  cases h
  refine(Tryz.bits_Mul64 (UInt64.toNat a.1) (UInt64.toNat a.2.1) (UInt64.toNat_lt a.1) (UInt64.toNat_lt a.2.1) w).mono ?_
  rintro e w' ⟨rfl,rfl⟩
  exact⟨lab,[_,_],rfl,gu.refl t,nu (PV a.1 a.2.1),nu (Nat.mod_lt _ (by omega)),trivial⟩⟩
def xG:aW Tryz.prog:=bw 283 [.d (.ar 4 .u64),.d (.ar 4 .u64)] [.d (.ar 4 .u64)] Tryz.func283 tV (tb [dX]) 59 [] [] (.s .n (.s .n (.s (.s .n (.b (.l .g ⟨[.d 12 (.int .i64),.b 5 313 (.ar 4 .u64)],[2,3,4,5]⟩ (.s .n (.s (.c .n .n) (.s (.b (.s .n (.s .n (.s .n (.b (.l .g ⟨[.d 7 (.int .u64),.d 8 (.int .i64),.b 5 313 (.ar 4 .u64)],[2,3,4,5,6,12]⟩ (.s (.s .n (.c .n .n)) (.s (.b (.s .n (.s .n (.s .n (.s .n .n))))) .n)))))))) .n)))))) (.s .n .n)))) (by kernel_rfl) (by kernel_rfl)
def xF:aW Tryz.prog:=bw 218 [.d (.ar 4 .u64),.d (.int .i64)] [.d (.ar 4 .u64)] Tryz.func218 mm (tb [xG]) 15 [] [] (.s .n (.s .n (.s (.s .n (.b (.l (.n 8 7) ⟨[.b 5 313 (.ar 4 .u64)],[2,4,5,7]⟩ (.s .n (.s (.c .n .n) (.s (.b .n) .n)))))) (.s .n .n)))) (by kernel_rfl) (by kernel_rfl)
def zy:aW Tryz.prog:=bw 219 [.d (.ar 4 .u64),.d (.ar 4 .u64)] [.d .bool] Tryz.func219 nV (tb []) 24 [] [] (.s .n (.s (.s .n (.b (.l .g ⟨[.d 5 (.int .i64)],[2,3]⟩ (.s (.s .n (.c .n .n)) (.s (.b (.s .n (.c (.s .n .n) .n))) .n))))) (.s .n .n))) (by kernel_rfl) (by kernel_rfl)
def xI:aW Tryz.prog:=bw 221 [.d (.ar 4 .u64),.d (.ar 4 .u64)] [.d (.ar 4 .u64)] Tryz.func221 ph (tb []) 25 [] [] (.s .n (.s .n (.s (.s .n (.b (.l .g ⟨[.d 5 (.int .u64),.d 7 (.int .i64),.b 2 313 (.ar 4 .u64)],[2,3,4]⟩ (.s .n (.s (.c .n .n) (.s (.b (.s .n .n)) .n)))))) (.s .n .n)))) (by kernel_rfl) (by kernel_rfl)
def xH:aW Tryz.prog:=bw 220 [.d (.ar 4 .u64),.d (.int .u64)] [.d (.ar 4 .u64)] Tryz.func220 pe (tb []) 20 [] [] (.s .n (.s .n (.s .n (.s .n (.s .n .n))))) (by kernel_rfl) (by kernel_rfl)
def xn:aW Tryz.prog:=bw 222 [.d (.ar 4 .u64),.d (.int .u64)] [.d (.ar 4 .u64)] Tryz.func222 mi (tb []) 20 [] [] (.s .n (.s .n (.s .n (.s .n (.s .n .n))))) (by kernel_rfl) (by kernel_rfl)
def s_:aW Tryz.prog:=bw 159 [.d (.int .u64),.d (.int .i64)] [.d (.int .u64)] Tryz.func159 ac (tb [xL,xB,vz,qE,xF,zy,xI,xH,xn]) 86 [] [] (.s .n (.s .n (.s .n (.s .n (.j ⟨[.d 6 .fl],[1,5]⟩ false (.s .n (.c .n .n)) (.s .n (.s .n (.s .n (.s (.s .n (.b (.l (.n 37 36) ⟨[.d 9 .fl],[1,5,8,36]⟩ (.s .n (.s (.c .n .n) (.s (.b .n) .n)))))) (.j ⟨[.b 8 313 (.ar 4 .u64)],[1,5,8]⟩ false (.s .n (.s .n (.c .n .n))) (.j ⟨[.b 8 313 (.ar 4 .u64)],[1,5,8]⟩ false (.b (.l .g ⟨[.b 8 313 (.ar 4 .u64)],[1,5,8]⟩ (.s (.s .n (.c .n .n)) (.b .n)))) (.j ⟨[.b 8 313 (.ar 4 .u64)],[8]⟩ false (.b (.l .g ⟨[.b 8 313 (.ar 4 .u64)],[1,5,8]⟩ (.s (.s .n (.c .n .n)) (.b .n)))) (.s .n .n))))))))))))) (by kernel_rfl) (by kernel_rfl)
def rh:aW Tryz.prog:=bw 90 [.d (.int .i64)] [.d (.sl (.int .u64)),.d (.ar 8 .u64)] Tryz.func90 iC (tb [vW,s_]) 28 [18] [8] (.s .n (.s (.s .n (.b (.l (.a 9 8) ⟨[.o 2 42 (.int .u64),.b 3 160 (.ar 8 .u64)],[3,7,8]⟩ (.s .n (.s (.c .n .n) (.j ⟨[.o 2 42 (.int .u64),.b 3 160 (.ar 8 .u64)],[3,7,8,9]⟩ false (.b (.s .n (.s .n (.s .n (.c .n .n))))) .n)))))) (.s .n .n))) (by kernel_rfl) (by kernel_rfl)
def vC:aW Tryz.prog:=bw 91 [.d (.sl (.int .u8)),.d (.int .i64),.d (.int .i64)] [.d (.sl (.int .u8))] Tryz.func91 lc (tb []) 64 [15,17,19,29,47,53,62] [] (.s .n (.s .n (.j ⟨[.o 7 5 (.int .u8)],[0,2]⟩ false (.b (.l .g ⟨[.o 7 5 (.int .u8)],[0,1,2]⟩ (.s (.s .n (.c .n .n)) (.b .n)))) (.s .n (.s (.s .n (.b (.l .g ⟨[.o 7 5 (.int .u8),.d 9 (.int .i64)],[8]⟩ (.s (.s .n (.c .n .n)) (.j ⟨[.o 7 5 (.int .u8)],[8,9]⟩ false (.b (.b (.s .n (.c .n (.s .n (.c .n .n)))))) .n))))) (.s .n .n)))))) (by kernel_rfl) (by kernel_rfl)
def li:aW Tryz.prog:=bw 223 [.d (.int .u64),.d (.int .i64)] [.d (.int .u64)] Tryz.func223 fh (tb []) 17 [] [] (.s .n (.s .n (.s .n .n))) (by kernel_rfl) (by kernel_rfl)
def sO:aW Tryz.prog:=bw 160 [.d (.int .u64),.d (.int .i64)] [.d (.int .u64)] Tryz.func160 bv (tb [li]) 9 [] [] (.s .n (.s .n .n)) (by kernel_rfl) (by kernel_rfl)
end
end Go.Proofs.YtimjjookppejeaaGreatDoor
