/- A part of the proof of TopChain. No condition. -/
import Derived.Test.YtimjjookppejeaaGreatDoorC15
namespace Go.Proofs.YtimjjookppejeaaGreatDoor
open Go.Gk Go.RowKit
noncomputable section
set_option maxRecDepth 100000
def gK:aW Tryz.prog:=bw 150 [.p 158 aK,.d .str] [.d .bool] Tryz.func150 aX (tb [od]) 22 [] [] (.s .n (.s .n (.j ⟨[.b 0 158 aK],[0,6]⟩ false (.s .n (.c .n .n)) (.s .n .n)))) (by kernel_rfl) (by kernel_rfl)
def ki:aW Tryz.prog:=bw 155 [.p 158 aK,.d .str] [] Tryz.func155 eC (tb [gK]) 17 [] [] .n (by kernel_rfl) (by kernel_rfl)
theorem xM{l:List UInt8}{u:Nat}(h:Lib.parseUintB 64 l = .ok u):u<18446744073709551616:=by
 unfold Lib.parseUintB at h
 split at h
 ·cases h
 ·rw[show(2:Nat)^64-1=18446744073709551615 by decide,Lib.parseUintM_64]at h
  exact Lib.parseUint10_lt l 0 u (by omega) h
theorem qh{w:World}(a0:List UInt8)(a1 a2:Int)(r:UInt64×Bool)(h:fp a0 a1 a2=some r):
  Calls Tryz.prog 157 [dG a0,.int .i64 a1,.int .i64 a2].toArray w fun e w'=>e = .returned (.tuple #[.int .u64 (r.1.toNat:Int),.nilIface])∧r.2=false∧Below w.heap.size w w':=by
 unfold fp at h
 cases hb:(decide (a0.length≤281474976710656)&&(a2==64&&a1==10))with
 |false=>rw[hb]at h;cases h
 |true=>
  rw[hb]at h
  simp only[Bool.and_eq_true,decide_eq_true_eq,beq_iff_eq]at hb
  obtain⟨hl,rfl,rfl⟩:=hb
  have hs:(⟨a0.toArray⟩:ByteArray).size≤281474976710656:=by show a0.toArray.size≤_;rw[List.size_toArray];exact hl
  rcases hp:Lib.parseUintB 64 a0 with u |_ |_
  ·rw[hp]at h
   cases h
   refine(Tryz.strconv_ParseUint_10_at64_ok ⟨a0.toArray⟩ (by omega) u hp w).mono ?_
   rintro e w' ⟨rfl,hw⟩
   refine⟨by simp only[];rw[UInt64.toNat_ofNat_of_lt' (xM hp)],rfl,?_⟩
   rcases hw with rfl |rfl
   ·exact Below.refl _ _
   ·exact Lib.bytesWorld_below _ _ _
  ·rw[hp]at h;cases h
  ·rw[hp]at h;cases h
def jJ:aW Tryz.prog:=⟨157,[.d .str,.d (.int .i64),.d (.int .i64)],[.d (.int .u64),.d .err],⟨Tryz.f157,Tryz.func157,by kernel_rfl,by kernel_rfl⟩,fp,by
 intro a r h k kp gp lab w vs t gl _ hk hargs
 match vs,hargs with
 | [v1,v2,v3],hargs=>
  obtain⟨h1,h2,h3,_⟩:=hargs
  obtain rfl:=aV.str h1
  obtain rfl:=aV.int (k:=.i64) h2
  obtain rfl:=aV.int (k:=.i64) h3
  refine(qh a.1 a.2.1 a.2.2.1 r h).mono ?_
  rintro e w' ⟨rfl,hv,hB⟩
  have hste:i7 lab 0 w lab w':=⟨hB.os,hB.tape,hB.output,hB.size,fun b hb _=>hB.block b hb,fun _ _=>rfl,fun b hb=>t b (Nat.le_trans hB.size hb)⟩
  obtain⟨r1,r2⟩:=r
  have hv:r2=false:=hv
  subst hv
  exact⟨lab,[_,.nilIface],rfl,hste.stp (.inr rfl),aV.ofInt (k:=.u64) r1,⟨[.nilIface],rfl,rfl⟩,trivial⟩⟩
def nT:aW Tryz.prog:=bw 154 [.p 158 aK] [.d (.int .u64)] Tryz.func154 eZ (tb [jJ]) 76 [] [] (.s .n (.s .n (.j ⟨[.d 3 (.int .i64)],[0]⟩ false (.b (.l .g ⟨[.d 3 (.int .i64)],[0]⟩ (.s (.j ⟨[.d 30 .bool],[0,3]⟩ false .n (.c .n .n)) (.b .n)))) (.s .n (.j ⟨[.b 0 158 aK],[0,3,4]⟩ false .n (.s .n (.s .n .n))))))) (by kernel_rfl) (by kernel_rfl)
def kH(mf:MF [.p 158 aK,.d (.int .i64)] [.d .tree])(okf:OF 89 [.p 158 aK,.d (.int .i64)] [.d .tree] mf):aW Tryz.prog:=Af 89 [.p 158 aK,.d (.int .i64)] [.d .tree] Tryz.func89 mf (by kernel_rfl) okf
def ql(mf:MF [.p 158 aK,.d (.int .i64)] [.d .tree])(okf:OF 89 [.p 158 aK,.d (.int .i64)] [.d .tree] mf):aW Tryz.prog:=bw 153 [.p 158 aK,.d .str,.d .bool,.d (.int .i64)] [.d (.sl .tree)] Tryz.func153 (iD mf) (tb [gK,ki,kH mf okf]) 42 [31,40] [] (.s .n (.s .n (.j ⟨[.o 9 45 .tree,.b 0 158 aK],[0]⟩ false (.b (.l .g ⟨[.o 9 45 .tree,.b 0 158 aK],[0,1,2,3]⟩ (.s (.j ⟨[.d 20 .bool,.b 0 158 aK],[0,1,2,3,9]⟩ false .n (.c .n .n)) (.b (.j ⟨[.b 0 158 aK],[0,1,2,3,9]⟩ false (.s .n (.c .n .n)) (.s .n (.s .n (.c (.s .n .n) .n)))))))) (.s .n .n)))) (by kernel_rfl) (by kernel_rfl)
theorem p9(mf:MF [.p 158 aK,.d (.int .i64)] [.d .tree])(okf:OF 89 [.p 158 aK,.d (.int .i64)] [.d .tree] mf):OF 89 [.p 158 aK,.d (.int .i64)] [.d .tree] (lu mf):=Jr Tryz.func89 (tb [gK,ql mf okf,nT,ki,jJ,kH mf okf]) 157 [] [] (.s .n (.s .n (.s (.j ⟨[.d 35 .bool],[0,1,4]⟩ false .n (.c (.s .n (.s .n .n)) .n)) (.s (.b (.s .n (.c (.s .n .n) (.s .n (.c (.s .n .n) (.s .n (.c (.s .n .n) (.s .n (.c (.s .n .n) (.s .n (.c (.s .n (.s .n (.s .n .n))) (.s .n (.c (.s .n (.s .n (.j ⟨[.b 0 158 aK],[0,4,7]⟩ false .n (.s .n .n)))) (.s .n (.c (.s (.s .n (.c (.s .n .n) .n)) (.s .n (.j ⟨[.b 0 158 aK],[0,4,9]⟩ false .n (.s .n .n)))) .n))))))))))))))) (.s (.s .n (.b (.l .g ⟨[.d 128 (.int .i64),.b 0 158 aK,.b 4 45 .tree],[0,1,4,127]⟩ (.s .n (.s (.c .n .n) (.s (.b (.s .n (.s .n (.c (.s .n .n) .n)))) .n)))))) (.s .n (.s (.s .n (.c (.s .n .n) .n)) (.s .n (.s .n (.s .n .n)))))))))) (by kernel_rfl) (by kernel_rfl)
theorem kO : ∀(n:Nat),OF 89 [.p 158 aK,.d (.int .i64)] [.d .tree] (iJ n)
 |0=>fun a r h=>by cases(show(none:Option _)=some r from h)
 |n+1=>p9 (iJ n) (kO n)
def oX:aW Tryz.prog:=Af 89 [.p 158 aK,.d (.int .i64)] [.d .tree] Tryz.func89 bW (by kernel_rfl) (kO 40)
def ww:aW Tryz.prog:=bw 48 [.d .str] [.d .tree,.d (.int .i64)] Tryz.func48 sD (tb [oX,bK,rN]) 29 [] [] (.s .n (.s .n (.s .n (.s (.j ⟨[.d 20 .bool],[0,2,5]⟩ false .n (.c (.s .n .n) .n)) (.s (.s .n (.c (.s .n .n) .n)) (.s .n .n)))))) (by kernel_rfl) (by kernel_rfl)
end
end Go.Proofs.YtimjjookppejeaaGreatDoor
