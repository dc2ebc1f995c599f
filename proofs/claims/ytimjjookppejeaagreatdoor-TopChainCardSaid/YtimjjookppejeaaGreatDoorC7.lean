/- A part of the proof of TopChain. No condition. -/
import Derived.Test.YtimjjookppejeaaGreatDoorC6
namespace Go.Proofs.YtimjjookppejeaaGreatDoor
open Go.Gk Go.RowKit
noncomputable section
set_option maxRecDepth 100000
def oF(mf:MF [.p 138 bI,.d .tree,.d (.int .i64)] [.d .bool])(okf:OF 75 [.p 138 bI,.d .tree,.d (.int .i64)] [.d .bool] mf):aW Tryz.prog:=Af 75 [.p 138 bI,.d .tree,.d (.int .i64)] [.d .bool] Tryz.func75 mf (by kernel_rfl) okf
theorem px(mf:MF [.p 138 bI,.d .tree,.d (.int .i64)] [.d .bool])(okf:OF 75 [.p 138 bI,.d .tree,.d (.int .i64)] [.d .bool] mf):OF 75 [.p 138 bI,.d .tree,.d (.int .i64)] [.d .bool] (kL mf):=Jr Tryz.func75 (tb [wS,nE,oF mf okf,qJ]) 122 [] [102] (.s .n (.s .n (.s (.j ⟨[.d 34 .bool],[0,2,4]⟩ false .n (.c (.s .n .n) .n)) (.s (.s .n (.s .n (.c (.j ⟨[.d 6 .bool,.b 0 138 bI],[0]⟩ false .n .n) .n))) (.s (.j ⟨[.d 64 .bool],[0,2,4]⟩ false .n (.c (.s .n .n) .n)) (.s (.j ⟨[.d 95 .bool],[0,2,4]⟩ false .n (.c (.s .n .n) .n)) (.s (.s .n (.c (.s .n .n) .n)) (.s (.s .n (.b (.l (.a 103 102) ⟨[.b 0 138 bI],[0,2,4,101,102]⟩ (.s .n (.s (.c .n .n) (.s (.b (.s .n (.s .n (.c (.s .n .n) .n)))) .n)))))) (.j ⟨[.d 6 .bool],[0]⟩ false .n .n))))))))) (by kernel_rfl) (by kernel_rfl)
theorem ko : ∀(n:Nat),OF 75 [.p 138 bI,.d .tree,.d (.int .i64)] [.d .bool] (ia n)
 |0=>fun a r h=>by cases(show(none:Option _)=some r from h)
 |n+1=>px (ia n) (ko n)
def oy:aW Tryz.prog:=Af 75 [.p 138 bI,.d .tree,.d (.int .i64)] [.d .bool] Tryz.func75 fB (by kernel_rfl) (ko 40)
def bK:aW Tryz.prog:=bw 36 [.d .tree] [.d .bool] Tryz.func36 aG (tb [oy]) 6 [] [] (.s .n (.s .n (.s .n .n))) (by kernel_rfl) (by kernel_rfl)
theorem w_.idxSz{N:Nat}{T E:TypeId}{F:List (Nat×Value)}{w:World}{ty:TypeId}{pos:String}{af:Array Edge}{d n c i m:Nat}{x y:Operand}{p:Addr}{k:IntKind}(hT:Tryz.prog.underlying T=some (.slice E))(hE : ∀w,(sizeOf E).run Tryz.prog w = .ok m w)(hi:i<n)(hx:ev F x=some (.slice (some p) n c))(hy:ev F y=some (.int k (i:Int))):w_ Tryz.prog N ⟨some d,.indexAddr T x y,ty,pos,af,none⟩ F w (.pointer (some (p.add (i*m)))):=fun a ha=>by
 have h1:(i:Int)<(n:Int):=by omega
 simp[execOp,ha.eval hx,ha.eval hy,Instr.indexAt,asIntOf,run_underlying hT,h1,hi,Nat.not_le_of_lt hi,hE w]
theorem AD{lab:bf}{W:World}{oa:Option Addr}{c i:Nat}{xs:List av}{x:av}(s:SL (rep cG) lab W oa c xs)(hx:xs[i]?=some x): ∃ad kv kc,oa=some ad∧W.cell? ((ad.add (i*9)).add 0)=some (.slice kv x.1.length kc)∧SL bF.u8 lab W kv kc x.1:=by
 obtain⟨ad,cs,h1,h2,h3⟩:=s.at_ hx
 have hz:(rep cG).sz=9:=a_ cG
 rw[hz]at h3
 obtain⟨c1,c2,rfl,h4,_⟩ : ∃c1 c2,cs=c1++c2∧(rep (.sl (.int .u8))).rd lab W c1 x.1∧(rep (.pr .tree .tree)).rd lab W c2 x.2:=h2
 obtain⟨kv,kc,rfl,h5⟩ : ∃oa c,c1 = [.slice oa x.1.length c]∧SL bF.u8 lab W oa c x.1:=h4
 exact⟨ad,kv,kc,h1,(h3 0 _ rfl).2,h5⟩
theorem FU{lab:bf}{W:World}{G i j n c:Nat}{ad:Addr}{kv kv':Option Addr}{kc kc':Nat}{x y:List UInt8}(hi:i<n)(hj:j<n)(hG:W.cell? ⟨G,0,none⟩=some (.slice (some ad) n c))
  (hc1:W.cell? ((ad.add (i*9)).add 0)=some (.slice kv x.length kc)) (s1:SL bF.u8 lab W kv kc x) (hc2:W.cell? ((ad.add (j*9)).add 0)=some (.slice kv' y.length kc')) (s2:SL bF.u8 lab W kv' kc' y) :
  Calls Tryz.prog 144 [.int .i64 (i:Int),.int .i64 (j:Int),.pointer (some ⟨G,0,none⟩)].toArray W fun e W'=>e = .returned (.bool (decide (Lib.compareBytes x y<0)))∧∃q,W'=W.drewN q:=by
 have u172:Tryz.prog.underlying 224=some (.slice 226):=by kernel_rfl
 have z174 : ∀w,(sizeOf 226).run Tryz.prog w = .ok 9 w:=fun w=>by kernel_rfl
 have o172:iS Tryz.prog 224:=⟨fun w=>by kernel_rfl,fun w=>by kernel_rfl⟩
 have o25:iS Tryz.prog 26:=⟨fun w=>by kernel_rfl,fun w=>by kernel_rfl⟩
 have f174:vI Tryz.prog 226 0 0:=fun w a=>by kernel_rfl
 refine enter Tryz.func144 rfl 18 rfl rfl ?_
 refine CW.seq ?_
 refine CW.region ?_
 refine LW.assign wn rfl rfl ?_
 refine LW.nil ?_
 refine EW.seq_n ?_
 refine CW.seq ?_
 refine CW.still 12 (by decide) (by kernel_rfl) ?_
 refine LS.st (w_.load o172 rfl hG) rfl ?_
 refine LS.st (w_.move rfl) rfl ?_
 refine LS.st (w_.idxSz u172 z174 hi rfl rfl) rfl ?_
 refine LS.st (w_.fld f174 rfl) rfl ?_
 refine LS.st (w_.load o25 rfl hc1) rfl ?_
 refine LS.st (w_.load o172 rfl hG) rfl ?_
 refine LS.st (w_.move rfl) rfl ?_
 refine LS.st (w_.idxSz u172 z174 hj rfl rfl) rfl ?_
 refine LS.st (w_.fld f174 rfl) rfl ?_
 refine LS.st (w_.load o25 rfl hc2) rfl ?_
 refine LS.call ⟨Tryz.f82,Tryz.func82,by kernel_rfl,by kernel_rfl⟩ (v:=.int .i64 (Lib.compareBytes x y)) (vs:=[.slice kv x.length kc,.slice kv' y.length kc']) (n8 (s1.keep ⟨Nat.le_refl _,fun _ _ h=>⟨h,rfl⟩⟩) (s2.keep ⟨Nat.le_refl _,fun _ _ h=>⟨h,rfl⟩⟩)) rfl rfl ?_
 refine LS.st (w_.bin (v:=.int .i64 0) (q:=.bool (decide (Lib.compareBytes x y<0))) (by rw[binOp_lss];rfl) rfl rfl rfl) rfl ?_
 refine LS.nil ?_
 refine LW.assign wn rfl rfl ?_
 refine LW.nil ?_
 refine EW.seq_n ?_
 refine CW.ret ?_
 exact EW.ret1 rfl rfl ⟨rfl,1,rfl⟩
theorem BG:HF Tryz.prog cG 144 nD:=by
 intro lab W G oa c xs i j x y hx hy t h1 h2 hat hsl
 have hi:i<xs.length:=(List.getElem?_eq_some_iff.1 hx).1
 have hj:j<xs.length:=(List.getElem?_eq_some_iff.1 hy).1
 obtain⟨ad,kv,kc,hoa,hc1,s1⟩:=AD hsl hx
 obtain⟨ad',kv',kc',hoa',hc2,s2⟩:=AD hsl hy
 subst hoa
 cases hoa'
 have hG:W.cell? ⟨G,0,none⟩=some (.slice (some ad) xs.length c):=by have:=(hat 0 _ rfl).2;simpa [Addr.add]using this
 exact FU hi hj hG hc1 s1 hc2 s2
noncomputable def Ta:TypeInfo:=(Tryz.prog.info? 224).get (by kernel_rfl)
noncomputable def H9:TypeInfo:=(Tryz.prog.info? 226).get (by kernel_rfl)
theorem SS(n:Nat)(h2:2≤n):Lib.swapperK n H9 25=9:=by
 have a:H9.hasPointers=true:=by kernel_rfl
 have b:(H9.bytes==8)=false:=by kernel_rfl
 have c:(n==0)=false:=by simp;omega
 have d:(n==1)=false:=by simp;omega
 simp[Lib.swapperK,a,b,c,d]
theorem TT (n : Nat) : ∃ f, Tryz.prog.funcs.findIdx? (·.name == "internal/reflectlite" ++ ".Swapper$" ++ toString (Lib.swapperK n H9 25)) = some f ∧ (2 ≤ n → ∃ gS, ∀ args W, (callFunc f args).run Tryz.prog W = ((Extern.ReflectliteSwapper.swap gS args).run Tryz.prog W).andThen fun v w' => .ok (.value v) w') := by
 match n with
 |0=>exact⟨239,by kernel_rfl,fun h=>by omega⟩
 |1=>exact⟨240,by kernel_rfl,fun h=>by omega⟩
 |n+2=>exact⟨247,by rw[SS _ (by omega)];kernel_rfl,fun _=>⟨false,fun args W=>run_callFunc_extern Tryz.func247 (by kernel_rfl) (by kernel_rfl) (by kernel_rfl) (e:=Extern.ReflectliteSwapper.swap false) (by kernel_rfl) args W⟩⟩
noncomputable def EH:Sp Tryz.prog:=⟨143,144,224,226,cG,j6,by kernel_rfl,⟨Tryz.f143,Tryz.func143,by kernel_rfl,by kernel_rfl⟩,fun hl tp gl hk o hc hGk hG0=>by
 have h:=Iq Tryz.laysGg6 (t:=cG) (T:=224) (e:=226) (E:=226) (i:=Ta) (ie:=H9) (by kernel_rfl) (by kernel_rfl) (by kernel_rfl) (by kernel_rfl) (ke:=25) (fun _=>by kernel_rfl) (by kernel_rfl) (fun _=>by kernel_rfl) G9 (clo:=144) (enters_of Tryz.func144 (by kernel_rfl) rfl) TT BG hl tp gl hk o hc hGk hG0
 refine h.mono ?_
 rintro e w' ⟨rfl,lab',ys,h1,h2,h3⟩
 exact⟨rfl,lab',ys,h1,h1.1.length_eq,h2,h3⟩⟩
def dm:aW Tryz.prog:=bw 45 [.d (.sl (.int .u8)),.d (.sl (.int .u8))] [.d .bool] Tryz.func45 ci (tb []) 10 [] [] (.s .n (.s .n .n)) (by kernel_rfl) (by kernel_rfl)
theorem xx{lab:bf}{w:World}{a0:List UInt8}{r:List UInt8}(hm:aI a0=some r)(t:cm lab w){oa:Option Addr}{c:Nat}(s:SL bF.u8 lab w oa c a0):
  Calls Tryz.prog 28 [.slice oa a0.length c].toArray w (fun e w'=>∃(oa':Option Addr) (c':Nat),e = .returned (.slice oa' r.length c')∧i7 lab 0 w lab w'∧SL bF.u8 lab w' oa' c' r∧True):=by
 have hm':bnd (app ([]:List UInt8) a0) some=some r:=by unfold aI at hm;rw[hm];rfl
 refine enter Tryz.func28 rfl 8 rfl rfl ?_
 refine CW.sub (G:=[(0,.slice oa a0.length c)]) ⟨rfl,trivial⟩ ?_
 refine CW.seq ?_
 refine CW.region ?_
 refine LW.assign wn rfl rfl ?_
 refine LW.nil ?_
 refine EW.seq_n ?_
 refine CW.seq ?_
 refine CW.seq ?_
 refine CW.region ?_
 refine LW.move wn rfl rfl ?_
 refine LW.eqnil DP wn rfl rfl rfl ?_
 refine LW.nil ?_
 refine EW.seq_n ?_
 refine CW.cond (b:=oa.isNone) rfl (fun hb=>?_) (fun hb=>?_)
 ·cases oa with
  |some _=>cases hb
  |none=>
   have h0:a0 = []:=(SL.flat' s).1 rfl
   subst h0
   have hr:r = []:=by simp[app,bnd,wZ]at hm';exact hm'
   subst hr
   refine CW.seq ?_
   refine CW.region ?_
   refine LW.assign wn rfl rfl ?_
   refine LW.nil ?_
   refine EW.seq_n ?_
   refine CW.ret ?_
   refine EW.seq_r ?_
   exact EW.ret1 rfl rfl ⟨none,0,rfl,⟨rfl,rfl,rfl,Nat.le_refl _,fun _ _ _=>rfl,fun _ _=>rfl,t⟩,SL.nil,trivial⟩
 ·refine CW.skip ?_
  refine EW.seq_n ?_
  refine CW.seq ?_
  refine CW.region ?_
  have cx:=Cx.start t
  replace s:=s.keep bd.lin
  refine LW.buildOwn (k:=2) (ρ:=bF.u8) (vs:=[]) (css:=[]) (xs:=[]) rfl zG Dq (by kernel_rfl) rfl rfl trivial cx.top wn rfl ?_
  intro oa1 c1 lab1 w1 e1 o1
  replace cx:=cx.step e1 rfl;replace s:=s.step e1
  refine LW.move wn rfl rfl ?_
  refine LW.append (ρ:=bF.u8) (xs:=[]) (ys:=a0) hm' o1 (SL.flat' s) cx.top rfl zG rfl wn rfl rfl rfl ?_
  intro zs oa2 c2 lab2 w2 hz e2 o2
  cases hz
  replace cx:=cx.step e2 rfl
  refine LW.assign wn rfl rfl ?_
  refine LW.nil ?_
  refine EW.seq_n ?_
  refine CW.ret ?_
  exact EW.ret1 rfl rfl ⟨_,_,rfl,cx.ste t,o2.sl (cx.keeps t) (cx.own0 t rfl),trivial⟩
def cO:aW Tryz.prog:=⟨28,[.d (.sl (.int .u8))],[.d (.sl (.int .u8))],⟨Tryz.f28,Tryz.func28,by kernel_rfl,by kernel_rfl⟩,aI,by
 intro a r h k kp gp lab w vs t _ _ hk hargs
 match vs,hargs with
 | [v],hargs=>
  obtain⟨hd,_⟩:=hargs
  obtain⟨oa,c,rfl,s⟩:=aV.sl hd
  refine(xx (a0:=a.1) (r:=r) h t s).mono ?_
  rintro e w' ⟨oa',c',rfl,hs,s',_⟩
  exact⟨lab,[_],rfl,hs.stp (.inr rfl),aV.ofSl (t:=.int .u8) s',trivial⟩⟩
def wc(mf:MF [.d .tree] [.d .tree])(okf:OF 73 [.d .tree] [.d .tree] mf):aW Tryz.prog:=Af 73 [.d .tree] [.d .tree] Tryz.func73 mf (by kernel_rfl) okf
theorem vJ(mf:MF [.d .tree] [.d .tree])(okf:OF 73 [.d .tree] [.d .tree] mf):OF 73 [.d .tree] [.d .tree] (qv mf):=Jr Tryz.func73 (tb [cO,wc mf okf]) 35 [13] [16] (.s .n (.s .n (.s .n (.s (.s .n (.b (.l (.a 17 16) ⟨[.o 3 45 .tree],[1,2,15,16]⟩ (.s .n (.s (.c .n .n) (.s (.b (.s .n .n)) .n)))))) (.s .n (.j ⟨[.b 1 45 .tree],[1,2]⟩ false (.s .n (.c .n .n)) (.s .n .n))))))) (by kernel_rfl) (by kernel_rfl)
theorem pl : ∀(n:Nat),OF 73 [.d .tree] [.d .tree] (mQ n)
 |0=>fun a r h=>by cases(show(none:Option _)=some r from h)
 |n+1=>vJ (mQ n) (pl n)
def iw:aW Tryz.prog:=Af 73 [.d .tree] [.d .tree] Tryz.func73 ec (by kernel_rfl) (pl 40)
def sB:aW Tryz.prog:=bw 73 [.d .tree] [.h .tree 3 45 .tree] Tryz.func73 kB (tb [cO,iw] [2,29,33,2000001,5000009]) 35 [13] [16] (.s .n (.s .n (.s .n (.s (.s .n (.b (.l (.a 17 16) ⟨[.o 3 45 .tree],[1,2,15,16]⟩ (.s .n (.s (.c .n .n) (.s (.b (.s .n .n)) .n)))))) (.s .n (.j ⟨[.h 1 45 .tree 3 45 .tree],[1,2]⟩ false (.s .n (.c .n .n)) (.s .n .n))))))) (by kernel_rfl) (by kernel_rfl)
end
end Go.Proofs.YtimjjookppejeaaGreatDoor
