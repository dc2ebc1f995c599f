/- A part of the proof of TopKeys. No condition. -/
import Derived.Test.YtiilbonamnegaaaGreatDoorC3
namespace Go.Proofs.YtiilbonamnegaaaGreatDoor
open Go.Gk Go.RowKit
noncomputable section
set_option maxRecDepth 100000
def pZ:bI Tryz.prog:=cJ 5 [] [.d .bool] Tryz.func5 fD (tb [ko,qD,yr]) 30 [] [] (.s .n (.s .n (.s .n (.j ⟨[.d 0 .bool],[]⟩ false .n .n)))) (by kernel_rfl) (by kernel_rfl)
def rP:bI Tryz.prog:=cJ 6 [.d (.sl (.int .i64))] [.p 66 ao] Tryz.func6 nB (tb []) 6 [] [] (.s .n (.s .n .n)) (by kernel_rfl) (by kernel_rfl)
def rF:bI Tryz.prog:=cJ 60 [.d (.int .i64),.d (.int .i64)] [.d (.int .i64)] Tryz.func60 iO (tb []) 15 [] [] (.s .n (.s .n (.j ⟨[.d 5 (.int .i64)],[]⟩ false (.s .n (.c .n .n)) (.s .n .n)))) (by kernel_rfl) (by kernel_rfl)
def bV:bI Tryz.prog:=cJ 24 [.p 66 ao,.d (.int .i64)] [.d (.int .i64)] Tryz.func24 aj (tb [rF]) 35 [] [] (.s .n (.s (.s .n (.c (.s .n .n) .n)) (.s .n (.s .n .n)))) (by kernel_rfl) (by kernel_rfl)
def ja:bI Tryz.prog:=cJ 23 [.p 66 ao,.d (.int .i64)] [.d (.sl (.int .u8))] Tryz.func23 cw (tb [bV]) 22 [20] [] (.s .n (.s .n (.s (.s .n (.b (.l .g ⟨[.o 5 5 (.int .u8),.d 6 (.int .i64),.b 0 66 ao],[0]⟩ (.s (.s .n (.c .n .n)) (.s (.b .n) .n))))) (.s .n .n)))) (by kernel_rfl) (by kernel_rfl)
def lE:bI Tryz.prog:=cJ 23 [.p 66 ao,.d (.int .i64)] [.o 5 (.int .u8)] Tryz.func23 ce (tb [bV]) 22 [20] [] (.s .n (.s .n (.s (.s .n (.b (.l .g ⟨[.o 5 5 (.int .u8),.d 6 (.int .i64),.b 0 66 ao],[0]⟩ (.s (.s .n (.c .n .n)) (.s (.b .n) .n))))) (.s .n .n)))) (by kernel_rfl) (by kernel_rfl)
def qF:bI Tryz.prog:=cJ 25 [.d (.int .i64)] [.d (.sl (.int .u8))] Tryz.func25 dH (tb []) 26 [23] [] (.s .n (.s .n (.s (.s .n (.b (.l .g ⟨[.o 3 5 (.int .u8),.d 5 (.int .i64)],[0]⟩ (.s .n (.s (.c .n .n) (.s (.b (.s .n .n)) .n)))))) (.s .n .n)))) (by kernel_rfl) (by kernel_rfl)
def nM:bI Tryz.prog:=cJ 7 [.p 66 ao] [.d ee] Tryz.func7 eZ (tb [lE,bV,qF]) 52 [] [] (.s .n (.s .n (.s (.s .n (.c (.s .n (.s .n .n)) .n)) (.s .n (.j ⟨[.b 0 66 ao,.b 3 29 ee],[0,2,3]⟩ false (.s .n (.b (.s .n (.c .n (.s .n (.c .n .n)))))) (.s .n .n)))))) (by kernel_rfl) (by kernel_rfl)
def yN:bI Tryz.prog:=cJ 88 [.d (.sl (.int .u8))] [.d .bool] Tryz.func88 f7 (tb []) 11 [] [] (.s .n (.j ⟨[.d 2 .bool],[]⟩ false .n .n)) (by kernel_rfl) (by kernel_rfl)
def rY:bI Tryz.prog:=cJ 50 [.d ee] [.d .bool] Tryz.func50 lq (tb [yN]) 82 [] [] (.s .n (.s (.j ⟨[.d 16 .bool],[1]⟩ false .n (.c (.s .n .n) .n)) (.s (.s .n (.b (.s .n (.c (.j ⟨[.d 2 .bool],[]⟩ false .n .n) (.s .n (.c (.j ⟨[.d 2 .bool],[]⟩ false .n .n) .n)))))) (.s .n .n)))) (by kernel_rfl) (by kernel_rfl)
theorem wj:Tryz.prog.underlying 23=some (.slice 5):=by kernel_rfl
theorem Bd:iK Tryz.prog 23 5 1 1 (.int .u8 0):=⟨by kernel_rfl,kg (by kernel_rfl),by kernel_rfl,by decide⟩
theorem nO{lab:bN}{w:World}{a0:List UInt8}{r:List UInt8}(hm:cP a0=some r)(t:c_ lab w){oa:Option Addr}{c:Nat}(s:SL cL.u8 lab w oa c a0):
  Calls Tryz.prog 83 [.slice oa a0.length c].toArray w (fun e w'=>∃(oa':Option Addr) (c':Nat),e = .returned (.slice oa' r.length c')∧j4 lab 0 w lab w'∧SL cL.u8 lab w' oa' c' r∧True):=by
 have hm':bnd (app ([]:List UInt8) a0) some=some r:=by unfold cP at hm;rw[hm];rfl
 refine enter Tryz.func83 rfl 8 rfl rfl ?_
 refine CW.sub (G:=[(0,.slice oa a0.length c)]) ⟨rfl,trivial⟩ ?_
 refine CW.seq ?_
 refine CW.region ?_
 refine LW.assign wn rfl rfl ?_
 refine LW.nil ?_
 refine EW.seq_n ?_
 refine CW.seq ?_
 refine CW.seq ?_
 refine CW.region ?_
 refine LW.move wn rfl rfl ?_
 refine LW.eqnil wj wn rfl rfl rfl ?_
 refine LW.nil ?_
 refine EW.seq_n ?_
 refine CW.cond (b:=oa.isNone) rfl (fun hb=>?_) (fun hb=>?_)
 ·cases oa with
  |some _=>cases hb
  |none=>
   have h0:a0 = []:=(SL.flat' s).1 rfl
   subst h0
   have hr:r = []:=by simp[app,bnd,zJ]at hm';exact hm'
   subst hr
   refine CW.seq ?_
   refine CW.region ?_
   refine LW.assign wn rfl rfl ?_
   refine LW.nil ?_
   refine EW.seq_n ?_
   refine CW.ret ?_
   refine EW.seq_r ?_
   exact EW.ret1 rfl rfl ⟨none,0,rfl,⟨rfl,rfl,rfl,Nat.le_refl _,fun _ _ _=>rfl,fun _ _=>rfl,t⟩,SL.nil,trivial⟩
 ·refine CW.skip ?_
  refine EW.seq_n ?_
  refine CW.seq ?_
  refine CW.region ?_
  have cx:=Cx.start t
  replace s:=s.keep bQ.lin
  refine LW.buildOwn (k:=2) (ρ:=cL.u8) (vs:=[]) (css:=[]) (xs:=[]) rfl Bd AP (by kernel_rfl) rfl rfl trivial cx.top wn rfl ?_
  intro oa1 c1 lab1 w1 e1 o1
  replace cx:=cx.step e1 rfl;replace s:=s.step e1
  refine LW.move wn rfl rfl ?_
  refine LW.append (ρ:=cL.u8) (xs:=[]) (ys:=a0) hm' o1 (SL.flat' s) cx.top rfl Bd rfl wn rfl rfl rfl ?_
  intro zs oa2 c2 lab2 w2 hz e2 o2
  cases hz
  replace cx:=cx.step e2 rfl
  refine LW.assign wn rfl rfl ?_
  refine LW.nil ?_
  refine EW.seq_n ?_
  refine CW.ret ?_
  exact EW.ret1 rfl rfl ⟨_,_,rfl,cx.ste t,o2.sl (cx.keeps t) (cx.own0 t rfl),trivial⟩
def mw:bI Tryz.prog:=⟨83,[.d (.sl (.int .u8))],[.d (.sl (.int .u8))],⟨Tryz.f83,Tryz.func83,by kernel_rfl,by kernel_rfl⟩,cP,by
 intro a r h k kp gp lab w vs t _ _ hk hargs
 match vs,hargs with
 | [v],hargs=>
  obtain⟨hd,_⟩:=hargs
  obtain⟨oa,c,rfl,s⟩:=br.sl hd
  refine(nO (a0:=a.1) (r:=r) h t s).mono ?_
  rintro e w' ⟨oa',c',rfl,hs,s',_⟩
  exact⟨lab,[_],rfl,hs.stp (.inr rfl),br.ofSl (t:=.int .u8) s',trivial⟩⟩
def mO:bI Tryz.prog:=cJ 40 [.d (.sl (.int .u8))] [.d .tree] Tryz.func40 ej (tb [mw]) 6 [] [] (.s .n (.s .n .n)) (by kernel_rfl) (by kernel_rfl)
def vH:yY Tryz.prog:=QO 93 [(.int .i64),(.sl (.int .u8))] [] 35 ((.sl .tree)) 0 37 .tree Tryz.func93 f_ (tb [ko,mO] [2]) 19 [15] [] (.s .n (.c .n .n)) (by kernel_rfl) (by kernel_rfl)
def yL:bI Tryz.prog:=cJ 52 [.d ee] [.d (.sl .tree)] Tryz.func52 nF (tb [ko] [3,4000003] [] [] [vH]) 57 [9,25,44] [] (.s .n (.s .n (.s .n (.s .y (.j ⟨[.h 3 35 (.sl .tree) 0 37 .tree],[1,3,4]⟩ false (.s .n (.c .n .n)) (.s (.s .n (.c (.s .y (.s .n .n)) .n)) (.s .n (.s .y (.s .y (.s .n .n)))))))))) (by kernel_rfl) (by kernel_rfl)
theorem yD.idxSz{N:Nat}{T E:TypeId}{F:List (Nat×Value)}{w:World}{ty:TypeId}{pos:String}{af:Array Edge}{d n c i m:Nat}{x y:Operand}{p:Addr}{k:IntKind}(hT:Tryz.prog.underlying T=some (.slice E))(hE : ∀w,(sizeOf E).run Tryz.prog w = .ok m w)(hi:i<n)(hx:ev F x=some (.slice (some p) n c))(hy:ev F y=some (.int k (i:Int))):yD Tryz.prog N ⟨some d,.indexAddr T x y,ty,pos,af,none⟩ F w (.pointer (some (p.add (i*m)))):=fun a ha=>by
 have h1:(i:Int)<(n:Int):=by omega
 simp[execOp,ha.eval hx,ha.eval hy,Instr.indexAt,asIntOf,run_underlying hT,h1,hi,Nat.not_le_of_lt hi,hE w]
theorem B2{lab:bN}{W:World}{oa:Option Addr}{c i:Nat}{xs:List aU}{x:aU}(s:SL (rep dZ) lab W oa c xs)(hx:xs[i]?=some x): ∃ad kv kc,oa=some ad∧W.cell? ((ad.add (i*9)).add 0)=some (.slice kv x.1.length kc)∧SL cL.u8 lab W kv kc x.1:=by
 obtain⟨ad,cs,h1,h2,h3⟩:=s.at_ hx
 have hz:(rep dZ).sz=9:=bS dZ
 rw[hz]at h3
 obtain⟨c1,c2,rfl,h4,_⟩ : ∃c1 c2,cs=c1++c2∧(rep (.sl (.int .u8))).rd lab W c1 x.1∧(rep (.pr .tree .tree)).rd lab W c2 x.2:=h2
 obtain⟨kv,kc,rfl,h5⟩ : ∃oa c,c1 = [.slice oa x.1.length c]∧SL cL.u8 lab W oa c x.1:=h4
 exact⟨ad,kv,kc,h1,(h3 0 _ rfl).2,h5⟩
theorem GS{lab:bN}{W:World}{G i j n c:Nat}{ad:Addr}{kv kv':Option Addr}{kc kc':Nat}{x y:List UInt8}(hi:i<n)(hj:j<n)(hG:W.cell? ⟨G,0,none⟩=some (.slice (some ad) n c))
  (hc1:W.cell? ((ad.add (i*9)).add 0)=some (.slice kv x.length kc)) (s1:SL cL.u8 lab W kv kc x) (hc2:W.cell? ((ad.add (j*9)).add 0)=some (.slice kv' y.length kc')) (s2:SL cL.u8 lab W kv' kc' y) :
  Calls Tryz.prog 90 [.int .i64 (i:Int),.int .i64 (j:Int),.pointer (some ⟨G,0,none⟩)].toArray W fun e W'=>e = .returned (.bool (decide (Lib.compareBytes x y<0)))∧∃q,W'=W.drewN q:=by
 have u172:Tryz.prog.underlying 140=some (.slice 142):=by kernel_rfl
 have z174 : ∀w,(sizeOf 142).run Tryz.prog w = .ok 9 w:=fun w=>by kernel_rfl
 have o172:lA Tryz.prog 140:=⟨fun w=>by kernel_rfl,fun w=>by kernel_rfl⟩
 have o25:lA Tryz.prog 23:=⟨fun w=>by kernel_rfl,fun w=>by kernel_rfl⟩
 have f174:wW Tryz.prog 142 0 0:=fun w a=>by kernel_rfl
 refine enter Tryz.func90 rfl 18 rfl rfl ?_
 refine CW.seq ?_
 refine CW.region ?_
 refine LW.assign wn rfl rfl ?_
 refine LW.nil ?_
 refine EW.seq_n ?_
 refine CW.seq ?_
 refine CW.still 12 (by decide) (by kernel_rfl) ?_
 refine LS.st (yD.load o172 rfl hG) rfl ?_
 refine LS.st (yD.move rfl) rfl ?_
 refine LS.st (yD.idxSz u172 z174 hi rfl rfl) rfl ?_
 refine LS.st (yD.fld f174 rfl) rfl ?_
 refine LS.st (yD.load o25 rfl hc1) rfl ?_
 refine LS.st (yD.load o172 rfl hG) rfl ?_
 refine LS.st (yD.move rfl) rfl ?_
 refine LS.st (yD.idxSz u172 z174 hj rfl rfl) rfl ?_
 refine LS.st (yD.fld f174 rfl) rfl ?_
 refine LS.st (yD.load o25 rfl hc2) rfl ?_
 refine LS.call ⟨Tryz.f91,Tryz.func91,by kernel_rfl,by kernel_rfl⟩ (v:=.int .i64 (Lib.compareBytes x y)) (vs:=[.slice kv x.length kc,.slice kv' y.length kc']) (pz (s1.keep ⟨Nat.le_refl _,fun _ _ h=>⟨h,rfl⟩⟩) (s2.keep ⟨Nat.le_refl _,fun _ _ h=>⟨h,rfl⟩⟩)) rfl rfl ?_
 refine LS.st (yD.bin (v:=.int .i64 0) (q:=.bool (decide (Lib.compareBytes x y<0))) (by rw[binOp_lss];rfl) rfl rfl rfl) rfl ?_
 refine LS.nil ?_
 refine LW.assign wn rfl rfl ?_
 refine LW.nil ?_
 refine EW.seq_n ?_
 refine CW.ret ?_
 exact EW.ret1 rfl rfl ⟨rfl,1,rfl⟩
theorem CI:Lu Tryz.prog dZ 90 vZ:=by
 intro lab W G oa c xs i j x y hx hy t h1 h2 hat hsl
 have hi:i<xs.length:=(List.getElem?_eq_some_iff.1 hx).1
 have hj:j<xs.length:=(List.getElem?_eq_some_iff.1 hy).1
 obtain⟨ad,kv,kc,hoa,hc1,s1⟩:=B2 hsl hx
 obtain⟨ad',kv',kc',hoa',hc2,s2⟩:=B2 hsl hy
 subst hoa
 cases hoa'
 have hG:W.cell? ⟨G,0,none⟩=some (.slice (some ad) xs.length c):=by have:=(hat 0 _ rfl).2;simpa [Addr.add]using this
 exact GS hi hj hG hc1 s1 hc2 s2
noncomputable def SU:TypeInfo:=(Tryz.prog.info? 140).get (by kernel_rfl)
noncomputable def Ic:TypeInfo:=(Tryz.prog.info? 142).get (by kernel_rfl)
theorem Tg(n:Nat)(h2:2≤n):Lib.swapperK n Ic 25=9:=by
 have a:Ic.hasPointers=true:=by kernel_rfl
 have b:(Ic.bytes==8)=false:=by kernel_rfl
 have c:(n==0)=false:=by simp;omega
 have d:(n==1)=false:=by simp;omega
 simp[Lib.swapperK,a,b,c,d]
theorem ST (n : Nat) : ∃ f, Tryz.prog.funcs.findIdx? (·.name == "internal/reflectlite" ++ ".Swapper$" ++ toString (Lib.swapperK n Ic 25)) = some f ∧ (2 ≤ n → ∃ gS, ∀ args W, (callFunc f args).run Tryz.prog W = ((Extern.ReflectliteSwapper.swap gS args).run Tryz.prog W).andThen fun v w' => .ok (.value v) w') := by
 match n with
 |0=>exact⟨162,by kernel_rfl,fun h=>by omega⟩
 |1=>exact⟨163,by kernel_rfl,fun h=>by omega⟩
 |n+2=>exact⟨170,by rw[Tg _ (by omega)];kernel_rfl,fun _=>⟨false,fun args W=>run_callFunc_extern Tryz.func170 (by kernel_rfl) (by kernel_rfl) (by kernel_rfl) (e:=Extern.ReflectliteSwapper.swap false) (by kernel_rfl) args W⟩⟩
noncomputable def My:Sp Tryz.prog:=⟨89,90,140,142,dZ,pT,by kernel_rfl,⟨Tryz.f89,Tryz.func89,by kernel_rfl,by kernel_rfl⟩,fun hl tp gl hk o hc hGk hG0=>by
 have h:=IM Tryz.laysGg6 (t:=dZ) (T:=140) (e:=142) (E:=142) (i:=SU) (ie:=Ic) (by kernel_rfl) (by kernel_rfl) (by kernel_rfl) (by kernel_rfl) (ke:=25) (fun _=>by kernel_rfl) (by kernel_rfl) (fun _=>by kernel_rfl) IF (clo:=90) (enters_of Tryz.func90 (by kernel_rfl) rfl) ST CI hl tp gl hk o hc hGk hG0
 refine h.mono ?_
 rintro e w' ⟨rfl,lab',ys,h1,h2,h3⟩
 exact⟨rfl,lab',ys,h1,h1.1.length_eq,h2,h3⟩⟩
def fQ:bI Tryz.prog:=cJ 45 [.d (.sl (.int .u8)),.d (.sl (.int .u8))] [.d .bool] Tryz.func45 bF (tb []) 10 [] [] (.s .n (.s .n .n)) (by kernel_rfl) (by kernel_rfl)
theorem yW{lab:bN}{w:World}{a0:List UInt8}{r:List UInt8}(hm:aJ a0=some r)(t:c_ lab w){oa:Option Addr}{c:Nat}(s:SL cL.u8 lab w oa c a0):
  Calls Tryz.prog 31 [.slice oa a0.length c].toArray w (fun e w'=>∃(oa':Option Addr) (c':Nat),e = .returned (.slice oa' r.length c')∧j4 lab 0 w lab w'∧SL cL.u8 lab w' oa' c' r∧True):=by
 have hm':bnd (app ([]:List UInt8) a0) some=some r:=by unfold aJ at hm;rw[hm];rfl
 refine enter Tryz.func31 rfl 8 rfl rfl ?_
 refine CW.sub (G:=[(0,.slice oa a0.length c)]) ⟨rfl,trivial⟩ ?_
 refine CW.seq ?_
 refine CW.region ?_
 refine LW.assign wn rfl rfl ?_
 refine LW.nil ?_
 refine EW.seq_n ?_
 refine CW.seq ?_
 refine CW.seq ?_
 refine CW.region ?_
 refine LW.move wn rfl rfl ?_
 refine LW.eqnil wj wn rfl rfl rfl ?_
 refine LW.nil ?_
 refine EW.seq_n ?_
 refine CW.cond (b:=oa.isNone) rfl (fun hb=>?_) (fun hb=>?_)
 ·cases oa with
  |some _=>cases hb
  |none=>
   have h0:a0 = []:=(SL.flat' s).1 rfl
   subst h0
   have hr:r = []:=by simp[app,bnd,zJ]at hm';exact hm'
   subst hr
   refine CW.seq ?_
   refine CW.region ?_
   refine LW.assign wn rfl rfl ?_
   refine LW.nil ?_
   refine EW.seq_n ?_
   refine CW.ret ?_
   refine EW.seq_r ?_
   exact EW.ret1 rfl rfl ⟨none,0,rfl,⟨rfl,rfl,rfl,Nat.le_refl _,fun _ _ _=>rfl,fun _ _=>rfl,t⟩,SL.nil,trivial⟩
 ·refine CW.skip ?_
  refine EW.seq_n ?_
  refine CW.seq ?_
  refine CW.region ?_
  have cx:=Cx.start t
  replace s:=s.keep bQ.lin
  refine LW.buildOwn (k:=2) (ρ:=cL.u8) (vs:=[]) (css:=[]) (xs:=[]) rfl Bd AP (by kernel_rfl) rfl rfl trivial cx.top wn rfl ?_
  intro oa1 c1 lab1 w1 e1 o1
  replace cx:=cx.step e1 rfl;replace s:=s.step e1
  refine LW.move wn rfl rfl ?_
  refine LW.append (ρ:=cL.u8) (xs:=[]) (ys:=a0) hm' o1 (SL.flat' s) cx.top rfl Bd rfl wn rfl rfl rfl ?_
  intro zs oa2 c2 lab2 w2 hz e2 o2
  cases hz
  replace cx:=cx.step e2 rfl
  refine LW.assign wn rfl rfl ?_
  refine LW.nil ?_
  refine EW.seq_n ?_
  refine CW.ret ?_
  exact EW.ret1 rfl rfl ⟨_,_,rfl,cx.ste t,o2.sl (cx.keeps t) (cx.own0 t rfl),trivial⟩
def fP:bI Tryz.prog:=⟨31,[.d (.sl (.int .u8))],[.d (.sl (.int .u8))],⟨Tryz.f31,Tryz.func31,by kernel_rfl,by kernel_rfl⟩,aJ,by
 intro a r h k kp gp lab w vs t _ _ hk hargs
 match vs,hargs with
 | [v],hargs=>
  obtain⟨hd,_⟩:=hargs
  obtain⟨oa,c,rfl,s⟩:=br.sl hd
  refine(yW (a0:=a.1) (r:=r) h t s).mono ?_
  rintro e w' ⟨oa',c',rfl,hs,s',_⟩
  exact⟨lab,[_],rfl,hs.stp (.inr rfl),br.ofSl (t:=.int .u8) s',trivial⟩⟩
def ym(mf:MF [.d .tree] [.d .tree])(okf:OF 92 [.d .tree] [.d .tree] mf):bI Tryz.prog:=tA 92 [.d .tree] [.d .tree] Tryz.func92 mf (by kernel_rfl) okf
theorem xU(mf:MF [.d .tree] [.d .tree])(okf:OF 92 [.d .tree] [.d .tree] mf):OF 92 [.d .tree] [.d .tree] (lf mf):=DM Tryz.func92 (tb [fP,ym mf okf]) 35 [13] [16] (.s .n (.s .n (.s .n (.s (.s .n (.b (.l (.a 17 16) ⟨[.o 3 37 .tree],[1,2,15,16]⟩ (.s .n (.s (.c .n .n) (.s (.b (.s .n .n)) .n)))))) (.s .n (.j ⟨[.b 1 37 .tree],[1,2]⟩ false (.s .n (.c .n .n)) (.s .n .n))))))) (by kernel_rfl) (by kernel_rfl)
theorem qz : ∀(n:Nat),OF 92 [.d .tree] [.d .tree] (lc n)
 |0=>fun a r h=>by cases(show(none:Option _)=some r from h)
 |n+1=>xU (lc n) (qz n)
def lK:bI Tryz.prog:=tA 92 [.d .tree] [.d .tree] Tryz.func92 dm (by kernel_rfl) (qz 40)
end
end Go.Proofs.YtiilbonamnegaaaGreatDoor
