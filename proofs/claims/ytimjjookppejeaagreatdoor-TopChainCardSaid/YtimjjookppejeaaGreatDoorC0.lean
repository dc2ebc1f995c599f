/- A part of the proof of TopChain. No condition. -/
import Derived.Test.YtimjjookppejeaaGreatDoorZv
namespace Go.Proofs.YtimjjookppejeaaGreatDoor
open Go.Gk Go.RowKit
noncomputable section
set_option maxRecDepth 100000
def tb(cs:List (aW Tryz.prog))(hold:List Nat:=[])(ni:List (Nat×Nat×TypeId):=[])(so:List (Sp Tryz.prog):=[])(ch:List (xk Tryz.prog):=[]):jF Tryz.prog:=⟨tes,zY,Ul,Uz,cs,hold,UG,ni,Us,Uq,UF,so,Uw,Uk,ch,UA,Uy⟩
abbrev MF(ps:List PK)(rs:List RK):=du ps (Option (na (rs++fT ps)))
abbrev OF(fid:Nat)(ps:List PK)(rs:List RK)(m:MF ps rs):Prop:=∀a r,qm ps m a=some r→Sn Tryz.prog fid ps rs a (ef _ r)
def OA (fn : Func) : Bool := !(fn.name == "runtime.NumGoroutine") && !fn.body.isNone
def Tn(fn:Func)(ps:List PK)(N:Nat):Bool:=OA fn&&(Nat.beq fn.ntmps N&&(Nat.ble ps.length N&&C' ps))
theorem Tz{fid:Nat}{fn:Func}(hf:Tryz.prog.funcs[fid]?=some fn)(e:OA fn=true):OJ Tryz.prog fid:=by
 unfold OA at e
 obtain⟨a,b⟩:=f8 e
 exact ⟨fn, hf, by revert a; cases (fn.name == "runtime.NumGoroutine") <;> simp, by revert b; cases fn.body.isNone <;> simp⟩
theorem Jr{fid:Nat}{ps:List PK}{rs:List RK}{fn:Func}(hf:Tryz.prog.funcs[fid]?=some fn){m:MF ps rs}(T:jF Tryz.prog)(N:Nat)(own rng:List Nat)(h:rM)(e:Tn fn ps N=true)(em:(fun a=>TY T N own rng (qI fn) h fn.results.toList ps rs a)=fun a=>qm ps m a):OF fid ps rs m:=fun a r hm=>by
 unfold Tn at e
 obtain⟨a0,b⟩:=f8 e
 obtain⟨b1,b2⟩:=f8 b
 unfold OA at a0
 obtain⟨_,a2⟩:=f8 a0
 have hb:fn.body=some (qI fn):=by
  unfold qI
  cases h:fn.body with
  |some c=>rfl
  |none=>rw[h]at a2;cases a2
 exact Pr (qs:=fn.results.toList) R5 hf hb b1 (by simp) b2 a r ((congrFun em a).trans hm)
def bw(fid:Nat)(ps:List PK)(rs:List RK){fn:Func}(hf:Tryz.prog.funcs[fid]?=some fn)(m:MF ps rs)(T:jF Tryz.prog)(N:Nat)(own rng:List Nat)(h:rM)(e:Tn fn ps N=true)(em:(fun a=>TY T N own rng (qI fn) h fn.results.toList ps rs a)=fun a=>qm ps m a):aW Tryz.prog:=⟨fid,ps,rs,Tz hf (f8 e).1,m,Jr hf T N own rng h e em⟩
def Af(fid:Nat)(ps:List PK)(rs:List RK){fn:Func}(hf:Tryz.prog.funcs[fid]?=some fn)(m:MF ps rs)(e:OA fn=true)(ok:OF fid ps rs m):aW Tryz.prog:=⟨fid,ps,rs,Tz hf e,m,ok⟩
def P'(fn:Func)(ps:List PT)(N:Nat):Bool:=OA fn&&(Nat.beq fn.ntmps N&&Nat.blt ps.length N)
def P3(fid:Nat)(ps rs:List PT)(B:Nat)(t0:PT)(off E:Nat)(t:PT){fn:Func}(hf:Tryz.prog.funcs[fid]?=some fn)(m:du (ps.map PK.d) (den t0→List (den t)→Option (den t0×(List (den t)×na (rs.map RK.d)))))(T:jF Tryz.prog)(N:Nat)(own rng:List Nat)(h:rM)(e:P' fn ps N=true)(em:(fun a X xs=>T7 T N own rng (qI fn) h fn.results.toList ps rs B t0 off E t a X xs)=fun a X xs=>qm (ps.map PK.d) m a X xs):xk Tryz.prog:=
 ⟨fid,ps,rs,B,t0,off,E,t,Tz hf (f8 e).1,m,fun a X xs X' ys r hm=>by
  unfold P' at e
  obtain⟨a0,b⟩:=f8 e
  obtain⟨b1,b3⟩:=f8 b
  unfold OA at a0
  obtain⟨_,a2⟩:=f8 a0
  have hb:fn.body=some (qI fn):=by
   unfold qI
   cases h:fn.body with
   |some c=>rfl
   |none=>rw[h]at a2;cases a2
  exact Oo (qs:=fn.results.toList) R5 hf hb b1 (by simp) b3 a X xs X' ys r ((congrFun (congrFun (congrFun em a) X) xs).trans hm)⟩
def qg:aW Tryz.prog:=bw 4 [.d (.sl (.int .i64))] [.p 61 fQ] Tryz.func4 mw (tb []) 6 [] [] (.s .n (.s .n .n)) (by kernel_rfl) (by kernel_rfl)
def kM:aW Tryz.prog:=bw 16 [.d (.int .i64),.d (.int .i64)] [.d (.int .i64)] Tryz.func16 eS (tb []) 15 [] [] (.s .n (.s .n (.j ⟨[.d 5 (.int .i64)],[]⟩ false (.s .n (.c .n .n)) (.s .n .n)))) (by kernel_rfl) (by kernel_rfl)
def lQ:aW Tryz.prog:=bw 5 [.p 61 fQ,.d (.int .i64)] [.d (.int .i64)] Tryz.func5 cR (tb [kM]) 35 [] [] (.s .n (.s (.s .n (.c (.s .n .n) .n)) (.s .n (.s .n .n)))) (by kernel_rfl) (by kernel_rfl)
def kj:aW Tryz.prog:=bw 7 [.d (.int .i64)] [.d (.sl (.int .u8))] Tryz.func7 dz (tb []) 26 [23] [] (.s .n (.s .n (.s (.s .n (.b (.l .g ⟨[.o 3 5 (.int .u8),.d 5 (.int .i64)],[0]⟩ (.s .n (.s (.c .n .n) (.s (.b (.s .n .n)) .n)))))) (.s .n .n)))) (by kernel_rfl) (by kernel_rfl)
end
end Go.Proofs.YtimjjookppejeaaGreatDoor
