import Derived.Test.YthejfljhiaeoeaaGreatDoorC3
namespace Go.Proofs.YthejfljhiaeoeaaGreatDoor
open Go.Gk Go.RowKit
noncomputable section
set_option maxRecDepth 100000
def pN(mf:MF [.p 153 bZ,.d .tree,.d (.int .i64)] [.d .bool])(okf:OF 106 [.p 153 bZ,.d .tree,.d (.int .i64)] [.d .bool] mf):bW Tryz.prog:=xP 106 [.p 153 bZ,.d .tree,.d (.int .i64)] [.d .bool] Tryz.func106 mf (by kernel_rfl) okf
theorem pv(mf:MF [.p 153 bZ,.d .tree,.d (.int .i64)] [.d .bool])(okf:OF 106 [.p 153 bZ,.d .tree,.d (.int .i64)] [.d .bool] mf):OF 106 [.p 153 bZ,.d .tree,.d (.int .i64)] [.d .bool] (gg mf):=G2 Tryz.func106 (tb [xo,od,pN mf okf,rz]) 122 [] [102] (.s .n (.s .n (.s (.j ⟨[.d 34 .bool],[0,2,4]⟩ false .n (.c (.s .n .n) .n)) (.s (.s .n (.s .n (.c (.j ⟨[.d 6 .bool,.b 0 153 bZ],[0]⟩ false .n .n) .n))) (.s (.j ⟨[.d 64 .bool],[0,2,4]⟩ false .n (.c (.s .n .n) .n)) (.s (.j ⟨[.d 95 .bool],[0,2,4]⟩ false .n (.c (.s .n .n) .n)) (.s (.s .n (.c (.s .n .n) .n)) (.s (.s .n (.b (.l (.a 103 102) ⟨[.b 0 153 bZ],[0,2,4,101,102]⟩ (.s .n (.s (.c .n .n) (.s (.b (.s .n (.s .n (.c (.s .n .n) .n)))) .n)))))) (.j ⟨[.d 6 .bool],[0]⟩ false .n .n))))))))) (by kernel_rfl) (by kernel_rfl)
theorem kI : ∀(n:Nat),OF 106 [.p 153 bZ,.d .tree,.d (.int .i64)] [.d .bool] (gc n)
 |0=>fun a r h=>by cases(show(none:Option _)=some r from h)
 |n+1=>pv (gc n) (kI n)
def pc:bW Tryz.prog:=xP 106 [.p 153 bZ,.d .tree,.d (.int .i64)] [.d .bool] Tryz.func106 eH (by kernel_rfl) (kI 40)
def gv:bW Tryz.prog:=cZ 76 [.d .tree] [.d .bool] Tryz.func76 bX (tb [pc]) 6 [] [] (.s .n (.s .n (.s .n .n))) (by kernel_rfl) (by kernel_rfl)
def ut:bW Tryz.prog:=cZ 77 [.d .tree] [.d (.sl ij)] Tryz.func77 gq (tb []) 29 [27] [] (.s .n (.s .n (.s (.s .n (.b (.l .g ⟨[.o 3 124 ij,.d 4 (.int .i64)],[1]⟩ (.s (.s .n (.c .n .n)) (.s (.b .n) .n))))) (.s .n .n)))) (by kernel_rfl) (by kernel_rfl)
def rZ:bW Tryz.prog:=cZ 107 [.d .tree] [.d .bool] Tryz.func107 ey (tb []) 16 [] [] (.s .n (.j ⟨[.d 2 .bool],[]⟩ false .n .n)) (by kernel_rfl) (by kernel_rfl)
def pK:bW Tryz.prog:=cZ 78 [.d ij] [.d .bool] Tryz.func78 fb (tb [rZ]) 47 [] [] (.s .n (.s (.b (.s .n (.c (.s .n .n) (.s .n (.c (.s .n .n) (.s .n (.c (.s .n .n) .n))))))) (.s (.s .n (.b (.s .n (.c (.j ⟨[.d 2 .bool],[]⟩ false .n .n) (.j ⟨[.d 38 .bool],[1]⟩ false (.s .n (.c .n (.s .n (.c .n (.s .n (.c .n .n)))))) (.c (.s .n .n) .n)))))) (.s .n .n)))) (by kernel_rfl) (by kernel_rfl)
def fx:bW Tryz.prog:=cZ 55 [.d (.sl (.int .u8)),.d (.sl (.int .u8))] [.d .bool] Tryz.func55 bD (tb []) 10 [] [] (.s .n (.s .n .n)) (by kernel_rfl) (by kernel_rfl)
theorem Ak:Tryz.prog.underlying 25=some (.slice 5):=by kernel_rfl
theorem uC:iZ Tryz.prog 25 5 1 1 (.int .u8 0):=⟨by kernel_rfl,ji (by kernel_rfl),by kernel_rfl,by decide⟩
theorem xU{lab:bg}{w:World}{a0:List UInt8}{r:List UInt8}(hm:aY a0=some r)(t:dv lab w){oa:Option Addr}{c:Nat}(s:SL bV.u8 lab w oa c a0):
  Calls Tryz.prog 45 [.slice oa a0.length c].toArray w (fun e w'=>∃(oa':Option Addr) (c':Nat),e = .returned (.slice oa' r.length c')∧iI lab 0 w lab w'∧SL bV.u8 lab w' oa' c' r∧True):=by
 have hm':bnd (cO ([]:List UInt8) a0) some=some r:=by unfold aY at hm;rw[hm];rfl
 refine enter Tryz.func45 rfl 8 rfl rfl ?_
 refine CW.sub (G:=[(0,.slice oa a0.length c)]) ⟨rfl,trivial⟩ ?_
 refine CW.seq ?_
 refine CW.region ?_
 refine LW.assign wn rfl rfl ?_
 refine LW.nil ?_
 refine EW.seq_n ?_
 refine CW.seq ?_
 refine CW.seq ?_
 refine CW.region ?_
 refine LW.move wn rfl rfl ?_
 refine LW.eqnil Ak wn rfl rfl rfl ?_
 refine LW.nil ?_
 refine EW.seq_n ?_
 refine CW.cond (b:=oa.isNone) rfl (fun hb=>?_) (fun hb=>?_)
 ·cases oa with
  |some _=>cases hb
  |none=>
   have h0:a0 = []:=(SL.flat' s).1 rfl
   subst h0
   have hr:r = []:=by simp[cO,bnd,xR]at hm';exact hm'
   subst hr
   refine CW.seq ?_
   refine CW.region ?_
   refine LW.assign wn rfl rfl ?_
   refine LW.nil ?_
   refine EW.seq_n ?_
   refine CW.ret ?_
   refine EW.seq_r ?_
   exact EW.ret1 rfl rfl ⟨none,0,rfl,⟨rfl,rfl,rfl,Nat.le_refl _,fun _ _ _=>rfl,fun _ _=>rfl,t⟩,SL.nil,trivial⟩
 ·refine CW.skip ?_
  refine EW.seq_n ?_
  refine CW.seq ?_
  refine CW.region ?_
  have cx:=Cx.start t
  replace s:=s.keep bw.lin
  refine LW.buildOwn (k:=2) (ρ:=bV.u8) (vs:=[]) (css:=[]) (xs:=[]) rfl uC vu (by kernel_rfl) rfl rfl trivial cx.top wn rfl ?_
  intro oa1 c1 lab1 w1 e1 o1
  replace cx:=cx.step e1 rfl;replace s:=s.step e1
  refine LW.move wn rfl rfl ?_
  refine LW.append (ρ:=bV.u8) (xs:=[]) (ys:=a0) hm' o1 (SL.flat' s) cx.top rfl uC rfl wn rfl rfl rfl ?_
  intro zs oa2 c2 lab2 w2 hz e2 o2
  cases hz
  replace cx:=cx.step e2 rfl
  refine LW.assign wn rfl rfl ?_
  refine LW.nil ?_
  refine EW.seq_n ?_
  refine CW.ret ?_
  exact EW.ret1 rfl rfl ⟨_,_,rfl,cx.ste t,o2.sl (cx.keeps t) (cx.own0 t rfl),trivial⟩
theorem xI{lab:bg}{w:World}{a0:List UInt8}{r:List UInt8}{k:Nat}(hm:aY a0=some r)(t:dv lab w){oa:Option Addr}{c:Nat}(s:SL bV.u8 lab w oa c a0):
  Calls Tryz.prog 45 [.slice oa a0.length c].toArray w (fun e w'=>∃(lab':bg) (oa':Option Addr) (c':Nat),e = .returned (.slice oa' r.length c')∧iI lab 0 w lab' w'∧ee bV.u8 lab' w' k 5 oa' c' r∧True):=by
 have hm':bnd (cO ([]:List UInt8) a0) some=some r:=by unfold aY at hm;rw[hm];rfl
 refine enter Tryz.func45 rfl 8 rfl rfl ?_
 refine CW.sub (G:=[(0,.slice oa a0.length c)]) ⟨rfl,trivial⟩ ?_
 refine CW.seq ?_
 refine CW.region ?_
 refine LW.assign wn rfl rfl ?_
 refine LW.nil ?_
 refine EW.seq_n ?_
 refine CW.seq ?_
 refine CW.seq ?_
 refine CW.region ?_
 refine LW.move wn rfl rfl ?_
 refine LW.eqnil Ak wn rfl rfl rfl ?_
 refine LW.nil ?_
 refine EW.seq_n ?_
 refine CW.cond (b:=oa.isNone) rfl (fun hb=>?_) (fun hb=>?_)
 ·cases oa with
  |some _=>cases hb
  |none=>
   have h0:a0 = []:=(SL.flat' s).1 rfl
   subst h0
   have hr:r = []:=by simp[cO,bnd,xR]at hm';exact hm'
   subst hr
   refine CW.seq ?_
   refine CW.region ?_
   refine LW.assign wn rfl rfl ?_
   refine LW.nil ?_
   refine EW.seq_n ?_
   refine CW.ret ?_
   refine EW.seq_r ?_
   exact EW.ret1 rfl rfl ⟨lab,none,0,rfl,⟨rfl,rfl,rfl,Nat.le_refl _,fun _ _ _=>rfl,fun _ _=>rfl,t⟩,ee.nil,trivial⟩
 ·refine CW.skip ?_
  refine EW.seq_n ?_
  refine CW.seq ?_
  refine CW.region ?_
  have cx:=Cx.start t
  replace s:=s.keep bw.lin
  refine LW.buildOwn (k:=2) (ρ:=bV.u8) (vs:=[]) (css:=[]) (xs:=[]) rfl uC vu (by kernel_rfl) rfl rfl trivial cx.top wn rfl ?_
  intro oa1 c1 lab1 w1 e1 o1
  replace cx:=cx.step e1 rfl;replace s:=s.step e1
  refine LW.move wn rfl rfl ?_
  refine LW.append (ρ:=bV.u8) (xs:=[]) (ys:=a0) hm' o1 (SL.flat' s) cx.top rfl uC rfl wn rfl rfl rfl ?_
  intro zs oa2 c2 lab2 w2 hz e2 o2
  cases hz
  replace cx:=cx.step e2 rfl
  refine LW.assign wn rfl rfl ?_
  refine LW.nil ?_
  refine EW.seq_n ?_
  refine CW.ret ?_
  obtain⟨lab_,ste_,own_⟩:=o2.out cx t rfl k
  exact EW.ret1 rfl rfl ⟨_,_,_,rfl,ste_,own_,trivial⟩
def g_:bW Tryz.prog:=⟨45,[.d (.sl (.int .u8))],[.d (.sl (.int .u8))],⟨Tryz.f45,Tryz.func45,by kernel_rfl,by kernel_rfl⟩,aY,by
 intro a r h k kp gp lab w vs t _ _ hk hargs
 match vs,hargs with
 | [v],hargs=>
  obtain⟨hd,_⟩:=hargs
  obtain⟨oa,c,rfl,s⟩:=bh.sl hd
  refine(xU (a0:=a.1) (r:=r) h t s).mono ?_
  rintro e w' ⟨oa',c',rfl,hs,s',_⟩
  exact⟨lab,[_],rfl,hs.stp (.inr rfl),bh.ofSl (t:=.int .u8) s',trivial⟩⟩
def sh:bW Tryz.prog:=⟨45,[.d (.sl (.int .u8))],[.o 5 (.int .u8)],⟨Tryz.f45,Tryz.func45,by kernel_rfl,by kernel_rfl⟩,aY,by
 intro a r h k kp gp lab w vs t _ _ hk hargs
 match vs,hargs with
 | [v],hargs=>
  obtain⟨hd,_⟩:=hargs
  obtain⟨oa,c,rfl,s⟩:=bh.sl hd
  refine(xI (a0:=a.1) (r:=r) (k:=k) h t s).mono ?_
  rintro e w' ⟨lab',oa',c',rfl,hs,o,_⟩
  exact⟨lab',[_],rfl,hs.stp (.inr rfl),⟨oa',c',rfl,o⟩,trivial⟩⟩
def wF(mf:MF [.d .tree] [.d .tree])(okf:OF 108 [.d .tree] [.d .tree] mf):bW Tryz.prog:=xP 108 [.d .tree] [.d .tree] Tryz.func108 mf (by kernel_rfl) okf
theorem xf(mf:MF [.d .tree] [.d .tree])(okf:OF 108 [.d .tree] [.d .tree] mf):OF 108 [.d .tree] [.d .tree] (kB mf):=G2 Tryz.func108 (tb [g_,wF mf okf]) 35 [13] [16] (.s .n (.s .n (.s .n (.s (.s .n (.b (.l (.a 17 16) ⟨[.o 3 36 .tree],[1,2,15,16]⟩ (.s .n (.s (.c .n .n) (.s (.b (.s .n .n)) .n)))))) (.s .n (.j ⟨[.b 1 36 .tree],[1,2]⟩ false (.s .n (.c .n .n)) (.s .n .n))))))) (by kernel_rfl) (by kernel_rfl)
theorem pA : ∀(n:Nat),OF 108 [.d .tree] [.d .tree] (kz n)
 |0=>fun a r h=>by cases(show(none:Option _)=some r from h)
 |n+1=>xf (kz n) (pA n)
def la:bW Tryz.prog:=xP 108 [.d .tree] [.d .tree] Tryz.func108 cQ (by kernel_rfl) (pA 40)
def rh:bW Tryz.prog:=cZ 79 [.d .tree,.d .tree] [.d .tree,.d .bool] Tryz.func79 fO (tb [gv,lM,fx,la]) 47 [] [] (.s .n (.s (.j ⟨[.d 20 .bool],[2,3,4]⟩ false .n (.c (.s .n .n) .n)) (.s .n (.s (.s .n (.b (.l .g ⟨[.d 7 (.int .i64),.b 4 36 .tree],[2,4,6]⟩ (.s (.s .n (.c .n .n)) (.s (.b (.s .n (.c (.s .n .n) .n))) .n))))) (.s .n .n))))) (by kernel_rfl) (by kernel_rfl)
def yh:bW Tryz.prog:=cZ 95 [.d (.int .u64)] [.d .tree] Tryz.func95 uH (tb []) 5 [] [] (.s .n (.s .n .n)) (by kernel_rfl) (by kernel_rfl)
def oH:bW Tryz.prog:=cZ 59 [.d (.int .i64)] [.d .tree] Tryz.func59 iA (tb [yh]) 12 [] [] (.s .n (.s (.s .n (.c (.s .n .n) .n)) (.s .n .n))) (by kernel_rfl) (by kernel_rfl)
def oU:bW Tryz.prog:=cZ 80 [.d aI,.d (.int .i64)] [.d .tree,.d .bool] Tryz.func80 ia (tb [oH,rh]) 25 [] [] (.s .n (.s (.s .n (.s .n (.c (.s .n .n) .n))) (.s .n .n))) (by kernel_rfl) (by kernel_rfl)
end
end Go.Proofs.YthejfljhiaeoeaaGreatDoor
