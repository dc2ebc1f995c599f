import Derived.Test.YthejfljhiaeoeaaGreatDoorC4
namespace Go.Proofs.YthejfljhiaeoeaaGreatDoor
open Go.Gk Go.RowKit
noncomputable section
set_option maxRecDepth 100000
def gm:bW Tryz.prog:=cZ 34 [.d aI] [.d .bool] Tryz.func34 d8 (tb [gv,ut,pK,rh,oU,oH]) 130 [] [28,43,56,106] (.s .n (.j ⟨[],[1]⟩ true (.s .n (.b (.l (.a 29 28) ⟨[],[1,27,28]⟩ (.s .n (.s (.c .n .n) (.j ⟨[],[1,27,28,29]⟩ true (.b (.s .n (.s (.j ⟨[.d 40 .bool],[1,4,27,28,29]⟩ false .n (.c (.s .n .n) .n)) (.s .n (.b (.l (.a 44 43) ⟨[],[1,27,28,29,42,43]⟩ (.s .n (.s (.c .n .n) (.s (.b (.s .n (.s .n (.c (.s .n .n) .n)))) .n))))))))) .n)))))) (.j ⟨[],[1]⟩ true (.s .n (.b (.l (.a 57 56) ⟨[],[1,55,56]⟩ (.s .n (.s (.c .n .n) (.s (.b (.s .n (.s .n (.s .n (.c (.s .n .n) .n))))) .n)))))) (.s .n (.s .n (.s (.s .n (.j ⟨[.d 94 .bool],[1]⟩ false .n (.c (.s .n .n) .n))) (.s .n (.s (.s .n (.c (.s .n .n) .n)) (.j ⟨[],[17]⟩ true (.s .n (.b (.l (.a 107 106) ⟨[],[1,17,105,106]⟩ (.s .n (.s (.c .n .n) (.s (.b (.s .n (.s .n (.s .n (.c (.s .n .n) .n))))) .n)))))) (.j ⟨[.d 2 .bool],[]⟩ false .n .n)))))))))) (by kernel_rfl) (by kernel_rfl)
def wj:bW Tryz.prog:=cZ 81 [.d aI,.d (.int .i64)] [.d .tree,.d .bool] Tryz.func81 nN (tb [gm,oU]) 15 [] [] (.s .n (.s (.s .n (.c (.s .n .n) .n)) (.s .n .n))) (by kernel_rfl) (by kernel_rfl)
def pB:bW Tryz.prog:=cZ 36 [.d aI] [.d (.int .i64)] Tryz.func36 jX (tb [wj]) 24 [] [] (.s .n (.s .n (.s (.b (.s .n (.c (.s .n .n) (.s .n (.c (.s .n .n) .n))))) (.s .n .n)))) (by kernel_rfl) (by kernel_rfl)
def j3:bW Tryz.prog:=cZ 35 [.d (.int .i64)] [.d (.int .i64)] Tryz.func35 fZ (tb []) 8 [] [] (.s .n (.s (.s .n (.b (.s .n (.c (.s .n .n) (.s .n (.c (.s .n .n) .n)))))) (.s .n .n))) (by kernel_rfl) (by kernel_rfl)
def kY:bW Tryz.prog:=cZ 42 [.d .tree] [.d (.sl (.int .u8)),.d (.int .i64)] Tryz.func42 im (tb [gv,lM]) 9 [] [] (.s .n (.s (.s .n (.c (.s .n .n) .n)) (.s .n .n))) (by kernel_rfl) (by kernel_rfl)
def kG:bW Tryz.prog:=cZ 40 [.d aI] [.d (.sl (.int .u8)),.d (.int .i64)] Tryz.func40 e_ (tb [gm,kY]) 19 [] [] (.s .n (.s (.b (.s .n (.c (.s .n .n) (.s .n (.c (.s .n .n) .n))))) (.s .n .n))) (by kernel_rfl) (by kernel_rfl)
def kS:bW Tryz.prog:=cZ 109 [.d .str] [.d (.int .u64)] Tryz.func109 bi (tb []) 59 [] [] (.s .n (.s (.c (.s .n .n) .n) (.s .n .n))) (by kernel_rfl) (by kernel_rfl)
def kX:bW Tryz.prog:=cZ 82 [.d .str] [.d .bool] Tryz.func82 eW (tb [kS]) 169 [] [] (.s .n (.j ⟨[],[]⟩ true (.b (.l .g ⟨[.d 0 .str],[]⟩ (.s (.s .n (.c .n .n)) (.b (.s .n (.s (.s .n (.c (.s .n (.s (.j ⟨[.d 24 .bool],[0]⟩ false .n (.c (.s .n (.j ⟨[.d 39 .bool],[0]⟩ false .n (.c (.s .n (.b (.l .g ⟨[.d 0 .str],[]⟩ (.s (.j ⟨[.d 62 .bool],[0]⟩ false .n (.c .n .n)) (.b .n))))) .n))) .n)) .n)) .n)) (.s .n (.s .n (.s .n (.s .n (.b (.s .n (.c (.s (.j ⟨[.d 94 .bool],[0]⟩ false .n (.c (.s .n .n) .n)) .n) (.s .n (.c (.s (.j ⟨[.d 125 .bool],[0]⟩ false .n (.c (.s .n .n) .n)) .n) (.s .n (.c (.s (.j ⟨[.d 166 .bool],[0]⟩ false .n (.c (.s .n .n) .n)) .n) (.s .n .n)))))))))))))))))) (.s .n .n))) (by kernel_rfl) (by kernel_rfl)
def yo:bW Tryz.prog:=cZ 83 [.d .str] [.d .tree] Tryz.func83 qj (tb []) 6 [] [] (.s .n (.s .n .n)) (by kernel_rfl) (by kernel_rfl)
theorem nk{lab:bg}{w:World}{a0:List UInt8}{r:List UInt8}(hm:cr a0=some r)(t:dv lab w){oa:Option Addr}{c:Nat}(s:SL bV.u8 lab w oa c a0):
  Calls Tryz.prog 90 [.slice oa a0.length c].toArray w (fun e w'=>∃(oa':Option Addr) (c':Nat),e = .returned (.slice oa' r.length c')∧iI lab 0 w lab w'∧SL bV.u8 lab w' oa' c' r∧True):=by
 have hm':bnd (cO ([]:List UInt8) a0) some=some r:=by unfold cr at hm;rw[hm];rfl
 refine enter Tryz.func90 rfl 8 rfl rfl ?_
 refine CW.sub (G:=[(0,.slice oa a0.length c)]) ⟨rfl,trivial⟩ ?_
 refine CW.seq ?_
 refine CW.region ?_
 refine LW.assign wn rfl rfl ?_
 refine LW.nil ?_
 refine EW.seq_n ?_
 refine CW.seq ?_
 refine CW.seq ?_
 refine CW.region ?_
 refine LW.move wn rfl rfl ?_
 refine LW.eqnil Ak wn rfl rfl rfl ?_
 refine LW.nil ?_
 refine EW.seq_n ?_
 refine CW.cond (b:=oa.isNone) rfl (fun hb=>?_) (fun hb=>?_)
 ·cases oa with
  |some _=>cases hb
  |none=>
   have h0:a0 = []:=(SL.flat' s).1 rfl
   subst h0
   have hr:r = []:=by simp[cO,bnd,xR]at hm';exact hm'
   subst hr
   refine CW.seq ?_
   refine CW.region ?_
   refine LW.assign wn rfl rfl ?_
   refine LW.nil ?_
   refine EW.seq_n ?_
   refine CW.ret ?_
   refine EW.seq_r ?_
   exact EW.ret1 rfl rfl ⟨none,0,rfl,⟨rfl,rfl,rfl,Nat.le_refl _,fun _ _ _=>rfl,fun _ _=>rfl,t⟩,SL.nil,trivial⟩
 ·refine CW.skip ?_
  refine EW.seq_n ?_
  refine CW.seq ?_
  refine CW.region ?_
  have cx:=Cx.start t
  replace s:=s.keep bw.lin
  refine LW.buildOwn (k:=2) (ρ:=bV.u8) (vs:=[]) (css:=[]) (xs:=[]) rfl uC vu (by kernel_rfl) rfl rfl trivial cx.top wn rfl ?_
  intro oa1 c1 lab1 w1 e1 o1
  replace cx:=cx.step e1 rfl;replace s:=s.step e1
  refine LW.move wn rfl rfl ?_
  refine LW.append (ρ:=bV.u8) (xs:=[]) (ys:=a0) hm' o1 (SL.flat' s) cx.top rfl uC rfl wn rfl rfl rfl ?_
  intro zs oa2 c2 lab2 w2 hz e2 o2
  cases hz
  replace cx:=cx.step e2 rfl
  refine LW.assign wn rfl rfl ?_
  refine LW.nil ?_
  refine EW.seq_n ?_
  refine CW.ret ?_
  exact EW.ret1 rfl rfl ⟨_,_,rfl,cx.ste t,o2.sl (cx.keeps t) (cx.own0 t rfl),trivial⟩
def mu:bW Tryz.prog:=⟨90,[.d (.sl (.int .u8))],[.d (.sl (.int .u8))],⟨Tryz.f90,Tryz.func90,by kernel_rfl,by kernel_rfl⟩,cr,by
 intro a r h k kp gp lab w vs t _ _ hk hargs
 match vs,hargs with
 | [v],hargs=>
  obtain⟨hd,_⟩:=hargs
  obtain⟨oa,c,rfl,s⟩:=bh.sl hd
  refine(nk (a0:=a.1) (r:=r) h t s).mono ?_
  rintro e w' ⟨oa',c',rfl,hs,s',_⟩
  exact⟨lab,[_],rfl,hs.stp (.inr rfl),bh.ofSl (t:=.int .u8) s',trivial⟩⟩
def qa:bW Tryz.prog:=cZ 41 [.d (.sl (.int .u8))] [.d .tree] Tryz.func41 eM (tb [mu]) 6 [] [] (.s .n (.s .n .n)) (by kernel_rfl) (by kernel_rfl)
def xi:bW Tryz.prog:=cZ 84 [.d (.sl .tree)] [.d .tree] Tryz.func84 lN (tb [la] [3,19] [(6,3,34)]) 22 [18] [8] (.s .n (.s .n (.s (.s .n (.b (.l (.a 9 8) ⟨[.h 3 36 .tree 3 36 .tree],[2,3,7,8]⟩ (.s .n (.s (.c .n .n) (.s (.b (.s .n .n)) .n)))))) (.s .n .n)))) (by kernel_rfl) (by kernel_rfl)
def lU:bW Tryz.prog:=cZ 37 [.d .str,.d aI,.d (.sl (.int .u8)),.d (.sl (.sl (.int .u8)))] [.d (.sl (.int .u8)),.d (.int .i64)] Tryz.func37 gw (tb [kG,kX,yo,qa,xi,kY]) 57 [35,46] [37] (.s .n (.s .n (.s (.b (.s .n (.c (.s .n .n) (.s .n (.c (.s .n .n) .n))))) (.s .n (.s (.s .n (.b (.l (.a 38 37) ⟨[.o 12 36 .tree],[36,37]⟩ (.s .n (.s (.c .n .n) (.s (.b (.s .n .n)) .n)))))) (.s .n (.s (.s .n (.c (.s .n .n) .n)) (.s .n .n)))))))) (by kernel_rfl) (by kernel_rfl)
def ye:bW Tryz.prog:=cZ 85 [.d (.sl (.int .u8)),.d (.sl (.int .u8)),.d (.int .i64)] [.d .bool] Tryz.func85 eR (tb []) 33 [] [] (.s .n (.j ⟨[.d 6 .bool],[]⟩ false .n .n)) (by kernel_rfl) (by kernel_rfl)
theorem J1{lab lab':bg}{w w':World}(s:jM [] lab w lab' w'):Fr [] w w':=⟨s.os,s.tape,s.output,s.size,fun b hb _=>s.block b hb (.inr rfl)⟩
theorem Dy{lab:bg}{w w':World}(t:dv lab w)(f:Fr [] w w'):jM [] lab w lab w':=⟨f.os,f.tape,f.output,f.size,fun b hb _=>f.block b hb (by simp),fun _ _ _=>rfl,fun b hb=>t b (Nat.le_trans f.size hb)⟩
theorem Ni{lab:bg}{w w':World}{E:TypeId}{oa:Option Addr}{c:Nat}{bs:List UInt8}(t:dv lab w)(h:OB E w.heap.size w' oa c bs):SL (rep (.int .u8)) lab w' oa c bs:=
 h.ds.sl fun p hp=>by
  rcases h with⟨rfl,_⟩ | ⟨g,rest,rfl,h2,_⟩
  ·cases hp
  ·cases hp
   exact t g h2
theorem Cl{lab:bg}{w:World}{key nonce:List UInt8}{kv nv:Value}{z:Int}{v:Bool}(hm:eR key nonce z=some v)(t:dv lab w)(gl:GL lab w)(dk:bh (.sl (.int .u8)) key lab w kv)(dn:bh (.sl (.int .u8)) nonce lab w nv):
  Calls Tryz.prog 85 [kv,nv,.int .i64 z].toArray w fun e w'=>e = .returned (.bool v)∧Fr [] w w':=by
 have hz:bh (.int .i64) z lab w (.int .i64 z):=bh.ofInt (k:=.i64) z
 have hc:=ye.ok (key,nonce,z,()) v hm 3 3 0 lab w [kv,nv,.int .i64 z] t gl (fun h=>by cases h) (by decide) ⟨dk,dn,hz,trivial⟩
 refine hc.mono ?_
 rintro e w' ⟨lab',us,rfl,hs,hr⟩
 match us,hr with
 | [u],⟨hb,_⟩=>
  obtain rfl:=bh.bool hb
  exact⟨rfl,J1 hs⟩
def Ax:bW Tryz.prog:=⟨38,[.d (.sl (.int .u8)),.d (.sl (.int .u8)),.d (.sl (.int .u8)),.d (.sl (.int .u8)),.d (.int .i64)],[.d (.sl (.int .u8)),.d (.int .i64)],⟨Tryz.f38,Tryz.func38,by kernel_rfl,by kernel_rfl⟩,oG,by
 intro a r h k kp gp lab w vs t gl _ hk hargs
 match vs,hargs with
 | [v0,v1,v2,v3,v4],⟨h0,h1,h2,h3,h4,_⟩=>
  obtain⟨key,nonce,aad,plain,z,_⟩:=a
  obtain⟨v,hv,hr⟩:=cX (show bnd (eR key nonce z) (fun v=>some (GY v key nonce aad plain z.toNat))=some r from h)
  have hr:GY v key nonce aad plain z.toNat=r:=Option.some.inj hr
  have hV:=Cl hv t gl h0 h1
  obtain⟨o0,c0,rfl,s0⟩:=bh.sl h0
  obtain⟨o1,c1,rfl,s1⟩:=bh.sl h1
  obtain⟨o2,c2,rfl,s2⟩:=bh.sl h2
  obtain⟨o3,c3,rfl,s3⟩:=bh.sl h3
  obtain rfl:v4 = .int .i64 z:=bh.int (k:=.i64) h4
  refine(Mb hV (fun e=>ze (e▸hv)) (DS.ofSL s0) (DS.ofSL s1) (DS.ofSL s2) (DS.ofSL s3)).mono ?_
  rintro e w' ⟨oo,co,rfl,f,ob⟩
  rw[hr]at ob
  rw[hr]
  exact⟨lab,[.slice oo r.1.length co,.int .i64 r.2],rfl,Dy t f,bh.ofSl (t:=.int .u8) (Ni t ob),bh.ofInt (k:=.i64) r.2,trivial⟩⟩
theorem aG.idxSz{N:Nat}{T E:TypeId}{F:List (Nat×Value)}{w:World}{ty:TypeId}{pos:String}{af:Array Edge}{d n c i m:Nat}{x y:Operand}{p:Addr}{k:IntKind}(hT:Tryz.prog.underlying T=some (.slice E))(hE : ∀w,(sizeOf E).run Tryz.prog w = .ok m w)(hi:i<n)(hx:ev F x=some (.slice (some p) n c))(hy:ev F y=some (.int k (i:Int))):aG Tryz.prog N ⟨some d,.indexAddr T x y,ty,pos,af,none⟩ F w (.pointer (some (p.add (i*m)))):=fun a ha=>by
 have h1:(i:Int)<(n:Int):=by omega
 simp[execOp,ha.eval hx,ha.eval hy,Instr.indexAt,asIntOf,run_underlying hT,h1,hi,Nat.not_le_of_lt hi,hE w]
theorem Bz{lab:bg}{W:World}{oa:Option Addr}{c i:Nat}{xs:List cI}{x:cI}(s:SL (rep dL) lab W oa c xs)(hx:xs[i]?=some x): ∃ad kv kc,oa=some ad∧W.cell? ((ad.add (i*9)).add 0)=some (.slice kv x.1.length kc)∧SL bV.u8 lab W kv kc x.1:=by
 obtain⟨ad,cs,h1,h2,h3⟩:=s.at_ hx
 have hz:(rep dL).sz=9:=bO dL
 rw[hz]at h3
 obtain⟨c1,c2,rfl,h4,_⟩ : ∃c1 c2,cs=c1++c2∧(rep (.sl (.int .u8))).rd lab W c1 x.1∧(rep (.pr .tree .tree)).rd lab W c2 x.2:=h2
 obtain⟨kv,kc,rfl,h5⟩ : ∃oa c,c1 = [.slice oa x.1.length c]∧SL bV.u8 lab W oa c x.1:=h4
 exact⟨ad,kv,kc,h1,(h3 0 _ rfl).2,h5⟩
theorem Gg{lab:bg}{W:World}{G i j n c:Nat}{ad:Addr}{kv kv':Option Addr}{kc kc':Nat}{x y:List UInt8}(hi:i<n)(hj:j<n)(hG:W.cell? ⟨G,0,none⟩=some (.slice (some ad) n c))
  (hc1:W.cell? ((ad.add (i*9)).add 0)=some (.slice kv x.length kc)) (s1:SL bV.u8 lab W kv kc x) (hc2:W.cell? ((ad.add (j*9)).add 0)=some (.slice kv' y.length kc')) (s2:SL bV.u8 lab W kv' kc' y) :
  Calls Tryz.prog 116 [.int .i64 (i:Int),.int .i64 (j:Int),.pointer (some ⟨G,0,none⟩)].toArray W fun e W'=>e = .returned (.bool (decide (Lib.compareBytes x y<0)))∧∃q,W'=W.drewN q:=by
 have u172:Tryz.prog.underlying 172=some (.slice 174):=by kernel_rfl
 have z174 : ∀w,(sizeOf 174).run Tryz.prog w = .ok 9 w:=fun w=>by kernel_rfl
 have o172:lX Tryz.prog 172:=⟨fun w=>by kernel_rfl,fun w=>by kernel_rfl⟩
 have o25:lX Tryz.prog 25:=⟨fun w=>by kernel_rfl,fun w=>by kernel_rfl⟩
 have f174:rl Tryz.prog 174 0 0:=fun w a=>by kernel_rfl
 refine enter Tryz.func116 rfl 18 rfl rfl ?_
 refine CW.seq ?_
 refine CW.region ?_
 refine LW.assign wn rfl rfl ?_
 refine LW.nil ?_
 refine EW.seq_n ?_
 refine CW.seq ?_
 refine CW.still 12 (by decide) (by kernel_rfl) ?_
 refine LS.st (aG.load o172 rfl hG) rfl ?_
 refine LS.st (aG.move rfl) rfl ?_
 refine LS.st (aG.idxSz u172 z174 hi rfl rfl) rfl ?_
 refine LS.st (aG.fld f174 rfl) rfl ?_
 refine LS.st (aG.load o25 rfl hc1) rfl ?_
 refine LS.st (aG.load o172 rfl hG) rfl ?_
 refine LS.st (aG.move rfl) rfl ?_
 refine LS.st (aG.idxSz u172 z174 hj rfl rfl) rfl ?_
 refine LS.st (aG.fld f174 rfl) rfl ?_
 refine LS.st (aG.load o25 rfl hc2) rfl ?_
 refine LS.call ⟨Tryz.f117,Tryz.func117,by kernel_rfl,by kernel_rfl⟩ (v:=.int .i64 (Lib.compareBytes x y)) (vs:=[.slice kv x.length kc,.slice kv' y.length kc']) (oT (s1.keep ⟨Nat.le_refl _,fun _ _ h=>⟨h,rfl⟩⟩) (s2.keep ⟨Nat.le_refl _,fun _ _ h=>⟨h,rfl⟩⟩)) rfl rfl ?_
 refine LS.st (aG.bin (v:=.int .i64 0) (q:=.bool (decide (Lib.compareBytes x y<0))) (by rw[binOp_lss];rfl) rfl rfl rfl) rfl ?_
 refine LS.nil ?_
 refine LW.assign wn rfl rfl ?_
 refine LW.nil ?_
 refine EW.seq_n ?_
 refine CW.ret ?_
 exact EW.ret1 rfl rfl ⟨rfl,1,rfl⟩
theorem Cs:Ht Tryz.prog dL 116 vr:=by
 intro lab W G oa c xs i j x y hx hy t h1 h2 hat hsl
 have hi:i<xs.length:=(List.getElem?_eq_some_iff.1 hx).1
 have hj:j<xs.length:=(List.getElem?_eq_some_iff.1 hy).1
 obtain⟨ad,kv,kc,hoa,hc1,s1⟩:=Bz hsl hx
 obtain⟨ad',kv',kc',hoa',hc2,s2⟩:=Bz hsl hy
 subst hoa
 cases hoa'
 have hG:W.cell? ⟨G,0,none⟩=some (.slice (some ad) xs.length c):=by have:=(hat 0 _ rfl).2;simpa [Addr.add]using this
 exact Gg hi hj hG hc1 s1 hc2 s2
noncomputable def Si:TypeInfo:=(Tryz.prog.info? 172).get (by kernel_rfl)
noncomputable def HW:TypeInfo:=(Tryz.prog.info? 174).get (by kernel_rfl)
theorem Sg(n:Nat)(h2:2≤n):Lib.swapperK n HW 25=9:=by
 have a:HW.hasPointers=true:=by kernel_rfl
 have b:(HW.bytes==8)=false:=by kernel_rfl
 have c:(n==0)=false:=by simp;omega
 have d:(n==1)=false:=by simp;omega
 simp[Lib.swapperK,a,b,c,d]
theorem R7 (n : Nat) : ∃ f, Tryz.prog.funcs.findIdx? (·.name == "internal/reflectlite" ++ ".Swapper$" ++ toString (Lib.swapperK n HW 25)) = some f ∧ (2 ≤ n → ∃ gS, ∀ args W, (callFunc f args).run Tryz.prog W = ((Extern.ReflectliteSwapper.swap gS args).run Tryz.prog W).andThen fun v w' => .ok (.value v) w') := by
 match n with
 |0=>exact⟨169,by kernel_rfl,fun h=>by omega⟩
 |1=>exact⟨170,by kernel_rfl,fun h=>by omega⟩
 |n+2=>exact⟨177,by rw[Sg _ (by omega)];kernel_rfl,fun _=>⟨false,fun args W=>run_callFunc_extern Tryz.func177 (by kernel_rfl) (by kernel_rfl) (by kernel_rfl) (e:=Extern.ReflectliteSwapper.swap false) (by kernel_rfl) args W⟩⟩
noncomputable def K4:Rj Tryz.prog:=⟨115,116,172,174,dL,pR,by kernel_rfl,⟨Tryz.f115,Tryz.func115,by kernel_rfl,by kernel_rfl⟩,fun hl tp gl hk o hc hGk hG0=>by
 have h:=HK Tryz.laysGg6 (t:=dL) (T:=172) (e:=174) (E:=174) (i:=Si) (ie:=HW) (by kernel_rfl) (by kernel_rfl) (by kernel_rfl) (by kernel_rfl) (ke:=25) (fun _=>by kernel_rfl) (by kernel_rfl) (fun _=>by kernel_rfl) Jh (clo:=116) (enters_of Tryz.func116 (by kernel_rfl) rfl) R7 Cs hl tp gl hk o hc hGk hG0
 refine h.mono ?_
 rintro e w' ⟨rfl,lab',ys,h1,h2,h3⟩
 exact⟨rfl,lab',ys,h1,h1.1.length_eq,h2,h3⟩⟩
end
end Go.Proofs.YthejfljhiaeoeaaGreatDoor
