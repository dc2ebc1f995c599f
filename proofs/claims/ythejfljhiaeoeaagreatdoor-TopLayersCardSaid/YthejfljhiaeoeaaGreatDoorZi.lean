import Derived.Test.YthejfljhiaeoeaaGreatDoorZh
import Derived.Test.YthejfljhiaeoeaaGreatDoorZf
namespace Go.Proofs.YthejfljhiaeoeaaGreatDoor
open Go.Gk Go.RowKit
set_option maxRecDepth 100000
theorem Hb{w:World}{C:Nat}:
  Calls Tryz.prog 114 [.pointer (some ⟨C,0,none⟩)].toArray w fun e w'=>∃X CB,e = .returned (.func (.func 142) #[] ([.pointer (some ⟨X,0,none⟩),.pointer (some ⟨CB,0,none⟩)]:List Value).toArray)∧w.heap.size≤X∧w.heap.size≤CB∧CB≠X∧ed w' X 132 (bd (List.replicate 16 0))∧ed w' CB 130 [.pointer (some ⟨C,0,none⟩)]∧Fr [] w w':=by
 refine enter Tryz.func114 rfl 5 rfl rfl ?_
 refine CW.seq ?_
 refine CW.region ?_
 refine LW.boxC [.pointer (some ⟨C,0,none⟩)] rfl rfl rfl fun w1 f1 b1 hs1=>?_
 refine LW.assign wn rfl rfl ?_
 refine LW.nil ?_
 refine EW.seq_n ?_
 refine CW.seq ?_
 refine CW.region ?_
 refine LW.allocC (bd (List.replicate 16 0)) mU rfl rfl fun w2 f2 x2 hs2=>?_
 have b2:=b1.fr f2 (by simp)
 refine LW.nil ?_
 refine EW.seq_n ?_
 refine CW.seq ?_
 refine CW.region ?_
 refine LW.st (v:=.func (.func 142) #[] ([.pointer (some ⟨w1.heap.size,0,none⟩),.pointer (some ⟨w.heap.size,0,none⟩)]:List Value).toArray) (fun a ha=>by simp only[execOp,Instr.makeFunc,ha.eval (show ev _ (.tmp 3)=some (.pointer (some ⟨w1.heap.size,0,none⟩))from rfl),ha.eval (show ev _ (.tmp 1)=some (.pointer (some ⟨w.heap.size,0,none⟩))from rfl),Sem.run_bind,Sem.run_pure,Result.andThen_ok,List.map_toArray,List.map_cons,List.map_nil]) rfl ?_
 refine LW.assign wn rfl rfl ?_
 refine LW.nil ?_
 refine EW.seq_n ?_
 refine CW.ret ?_
 exact EW.ret1 rfl rfl ⟨w1.heap.size,w.heap.size,rfl,by omega,by omega,by omega,x2,b2,f1.tr f2⟩
def Qi(tag nl:Nat):UInt8:=ar ((8*(tag/2-1)+14-nl:Nat):Int)
def OK(tag nl al:Nat):UInt8:=if 0<al then Qi tag nl+64 else Qi tag nl
def PY(n:Nat):List UInt8:=[ar ((n/256:Nat):Int),ar (n:Int)]
noncomputable def Rf (cb nonce:List UInt8) (tag al pl:Nat):List UInt8:=EO cb 17 (List.replicate 16 0) (DW (OK tag nonce.length al) nonce pl)
noncomputable def Pv (cb aad x1:List UInt8):List UInt8:=if 0<aad.length then EO cb (aad.length+3) x1 (PY aad.length++aad)else x1
noncomputable def Nf (cb nonce aad plain:List UInt8) (tag:Nat):List UInt8:=EO cb (plain.length+1) (Pv cb aad (Rf cb nonce tag aad.length plain.length)) plain
theorem Eu(cb nonce:List UInt8)(tag al pl:Nat):(Rf cb nonce tag al pl).length=16:=mI _ _ _ _ (by simp)
theorem D'{cb aad x1:List UInt8}(h:x1.length=16):(Pv cb aad x1).length=16:=by
 unfold Pv
 split
 ·exact mI _ _ _ _ h
 ·exact h
theorem sr(cb nonce aad plain:List UInt8)(tag:Nat):(Nf cb nonce aad plain tag).length=16:=mI _ _ _ _ (D' (Eu _ _ _ _ _))
set_option maxHeartbeats 2000000 in
theorem Fd{w:World}{C TC:Nat}{cb nonce aad plain:List UInt8}{on oa op:Option Addr}{cn ca cp tag:Nat}(hcl:cb.length=688)(hn1:1≤nonce.length)(hn2:nonce.length≤13)(ht1:4≤tag)(ht2:tag≤16)(hal:aad.length≤4096)(hpl:plain.length≤65536)
  (cx:ed w C TC (bd cb)) (dn:DS w (.slice on nonce.length cn) nonce) (da:DS w (.slice oa aad.length ca) aad) (dp:DS w (.slice op plain.length cp) plain) :
  Calls Tryz.prog 88 [.pointer (some ⟨C,0,none⟩),.slice on nonce.length cn,.slice oa aad.length ca,.slice op plain.length cp,.int .i64 (tag:Int)].toArray w fun e w'=>e = .returned (.agg (bd (Nf cb nonce aad plain tag)).toArray)∧Fr [] w w':=by
 refine enter Tryz.func88 rfl 56 rfl rfl ?_
 refine CW.seq ?_
 refine CW.region ?_
 refine LW.allocC (bd (List.replicate 16 0)) mU rfl rfl fun w1 f1 r1 hs1=>?_
 obtain⟨R,hR⟩ : ∃R,R=w.heap.size:=⟨_,rfl⟩
 rw[←hR]at r1⊢
 have hCl:=cx.lt
 refine LW.nil ?_
 refine EW.seq_n ?_
 refine CW.seq ?_
 refine CW.region ?_
 refine LW.move wn rfl rfl ?_
 refine LW.call ⟨Tryz.f114,Tryz.func114,by kernel_rfl,by kernel_rfl⟩ (Hb (C:=C)) wn rfl rfl ?_
 rintro e2 w2 ⟨X,CB,rfl,hX,hCB,hBX,x2,b2,f2⟩
 refine⟨_,rfl,?_⟩
 have r2:=r1.fr f2 (by simp)
 have hRX:R≠X:=by omega
 have hCX:C≠X:=by omega
 have g2:=f1.tr f2
 have hXs : ∀{q},w2.heap.size≤q→q≠X:=fun h e=>by have:=x2.lt;omega
 refine LW.assign wn rfl rfl ?_
 refine LW.nil ?_
 refine EW.seq_n ?_
 refine CW.seq ?_
 refine CW.region ?_
 refine LW.move wn rfl rfl ?_
 refine LW.st (aG.bin (vp (a:=tag) (b:=2) (by decide) (by omega)) rfl rfl rfl) rfl ?_
 refine LW.st (aG.bin (lF (a:=tag/2) (b:=1) (by omega) (by omega)) rfl rfl rfl) rfl ?_
 refine LW.st (aG.bin (vd (a:=8) (b:=tag/2-1) (by omega)) rfl rfl rfl) rfl ?_
 refine LW.st (aG.bin (lB (a:=8*(tag/2-1)) (b:=14) (by omega)) rfl rfl rfl) rfl ?_
 refine LW.move wn rfl rfl ?_
 refine LW.len fv wn rfl rfl ?_
 refine LW.st (aG.bin (lF (a:=8*(tag/2-1)+14) (b:=nonce.length) (by omega) (by omega)) rfl rfl rfl) rfl ?_
 refine LW.st (v:=.int .u8 ((Qi tag nonce.length).toNat:Int)) (fun a ha=>by simp only[execOp,ha.eval (show ev _ (.tmp 23)=some (.int .i64 ((8*(tag/2-1)+14-nonce.length:Nat):Int))from rfl),Sem.run_bind,lI (P:=Tryz.prog) (S:=3) (by kernel_rfl) Hk,wrap_u8,Result.andThen_ok,Sem.run_pure,Qi]) rfl ?_
 refine LW.assign wn rfl rfl ?_
 refine LW.nil ?_
 refine EW.seq_n ?_
 refine CW.seq_join (fun F' w'=>w'=w2∧sub [(12,.int .u8 ((OK tag nonce.length aad.length).toNat:Int)),(11,.func (.func 142) #[] ([.pointer (some ⟨X,0,none⟩),.pointer (some ⟨CB,0,none⟩)]:List Value).toArray),(10,.pointer (some ⟨R,0,none⟩)),(0,.pointer (some ⟨C,0,none⟩)),(1,.slice on nonce.length cn),(2,.slice oa aad.length ca),(3,.slice op plain.length cp)] F') ?_ ?_
 ·skip
  refine CW.seq ?_
  refine CW.region ?_
  refine LW.move wn rfl rfl ?_
  refine LW.len fv wn rfl rfl ?_
  refine LW.st (aG.bin (ly (a:=aad.length) (b:=0)) rfl rfl rfl) rfl ?_
  refine LW.nil ?_
  refine EW.seq_n ?_
  refine CW.cond (b:=decide (0<aad.length)) rfl (fun hc0=>?_) (fun hc0=>?_)
  ·have h0:0<aad.length:=of_decide_eq_true hc0
   refine CW.region ?_
   refine LW.move wn rfl rfl ?_
   refine LW.st (aG.bin (MP (Qi tag nonce.length) 64) rfl rfl rfl) rfl ?_
   refine LW.assign wn rfl rfl ?_
   refine LW.nil ?_
   rw[OK,if_pos h0]
   exact EW.join_n ⟨rfl,rfl,rfl,rfl,rfl,rfl,rfl,rfl,trivial⟩
  ·have h0 : ¬0<aad.length:=of_decide_eq_false hc0
   refine CW.skip ?_
   rw[OK,if_neg h0]
   exact EW.join_n ⟨rfl,rfl,rfl,rfl,rfl,rfl,rfl,rfl,trivial⟩
 ·rintro F9 w2 ⟨rfl,hs9⟩
  refine CW.sub hs9 ?_
  refine CW.seq ?_
  refine CW.region ?_
  refine LW.move wn rfl rfl ?_
  refine LW.move wn rfl rfl ?_
  refine LW.move wn rfl rfl ?_
  refine LW.len fv wn rfl rfl ?_
  refine LW.call ⟨Tryz.f113,Tryz.func113,by kernel_rfl,by kernel_rfl⟩ (DR (n:=plain.length) hn1 (by omega) (dn.fr g2)) wn rfl rfl ?_
  rintro e3 w3 ⟨rfl,f3⟩
  refine⟨_,rfl,?_⟩
  have hbl:=oK (f:=OK tag nonce.length aad.length) (nonce:=nonce) (n:=plain.length) (by omega)
  refine LW.allocC (bd (List.replicate 16 0)) mU rfl rfl fun w4 f4 d4 hs4=>?_
  obtain⟨D,hD⟩ : ∃D,D=w3.heap.size:=⟨_,rfl⟩
  rw[←hD]at d4⊢
  have hDX:D≠X:=by have:=f3.size;exact hXs (by omega)
  have hDw:w2.heap.size≤D:=by have:=f3.size;omega
  have hDB:CB≠D:=fun e=>by have:=b2.lt;omega
  have hDR:R≠D:=fun e=>by have:=r2.lt;omega
  have hDC:C≠D:=fun e=>by have:=g2.size;omega
  refine LW.storeN (n:=16) d4 lO (by rw[an,hbl]) (by rw[an];decide) (dB _) rfl rfl fun w5 f5 d5=>?_
  rw[eO (by rw[an];decide)]at d5
  have f25:Fr [] w2 w5:=(f3.tr f4).trans f5 (fun q hq=>.inr (by have:q=D:=(by simpa using hq);omega))
  have x5:=x2.fr f25 (by simp)
  have b5:=b2.fr f25 (by simp)
  have r5:=r2.fr f25 (by simp)
  have c5:=(cx.fr g2 (by simp)).fr f25 (by simp)
  have g5:=g2.tr f25
  refine LW.nil ?_
  refine EW.seq_n ?_
  refine CW.seq ?_
  refine CW.region ?_
  refine LW.move wn rfl rfl ?_
  refine LW.st (aG.sliceAll GS FL (by decide) Pt rfl) rfl ?_
  refine LW.callC (vs:=[.slice (some ⟨D,0,none⟩) 16 16]) (ps:=[.pointer (some ⟨X,0,none⟩),.pointer (some ⟨CB,0,none⟩)]) ⟨Tryz.f142,Tryz.func142,by kernel_rfl,by kernel_rfl⟩ (by have:=zH (b0:=DW (OK tag nonce.length aad.length) nonce plain.length) (oa0:=some ⟨D,0,none⟩) (c0:=16) (by simp) hcl x5 b5 c5 hCX hBX (DS.ofCel d5 rfl (by rw[List.take_of_length_le (by omega)]) (by omega) (by decide)) (.inr hDX);rw[hbl]at this;exact this) wn rfl rfl rfl ?_
  rintro e6 w6 ⟨rfl,f6,x6⟩
  refine⟨_,rfl,?_⟩
  have b6:=b5.fr f6 (by simpa using hBX)
  have r6:=r5.fr f6 (by simpa using hRX)
  have c6:=c5.fr f6 (by simpa using hCX)
  have g6:Fr [] w w6:=g5.trans f6 (fun q hq=>.inr (by have:q=X:=(by simpa using hq);omega))
  have e1:EO cb (16+1) (List.replicate 16 0) (DW (OK tag nonce.length aad.length) nonce plain.length)=Rf cb nonce tag aad.length plain.length:=rfl
  rw[e1]at x6
  have hx1:=Eu cb nonce tag aad.length plain.length
  generalize hx1e:Rf cb nonce tag aad.length plain.length=x1 at x6 hx1
  refine LW.nil ?_
  refine EW.seq_n ?_
  refine CW.seq_join (fun F' w'=>Fr [] w w'∧ed w' X 132 (bd (Pv cb aad x1))∧ed w' CB 130 [.pointer (some ⟨C,0,none⟩)]∧ed w' R 132 (bd (List.replicate 16 0))∧ed w' C TC (bd cb)∧sub [(11,.func (.func 142) #[] ([.pointer (some ⟨X,0,none⟩),.pointer (some ⟨CB,0,none⟩)]:List Value).toArray),(10,.pointer (some ⟨R,0,none⟩)),(3,.slice op plain.length cp)] F') ?_ ?_
  ·skip
   refine CW.seq ?_
   refine CW.region ?_
   refine LW.move wn rfl rfl ?_
   refine LW.len fv wn rfl rfl ?_
   refine LW.st (aG.bin (ly (a:=aad.length) (b:=0)) rfl rfl rfl) rfl ?_
   refine LW.nil ?_
   refine EW.seq_n ?_
   refine CW.cond (b:=decide (0<aad.length)) rfl (fun hc1=>?_) (fun hc1=>?_)
   ·have h1:0<aad.length:=of_decide_eq_true hc1
    refine CW.region ?_
    refine LW.move wn rfl rfl ?_
    refine LW.move wn rfl rfl ?_
    refine LW.len fv wn rfl rfl ?_
    refine LW.st (aG.bin (CH aad.length) rfl rfl rfl) rfl ?_
    refine LW.st (v:=.int .u8 ((ar ((aad.length/256:Nat):Int)).toNat:Int)) (fun a ha=>by simp only[execOp,ha.eval (show ev _ (.tmp 44)=some (.int .i64 ((aad.length/256:Nat):Int))from rfl),Sem.run_bind,lI (P:=Tryz.prog) (S:=3) (by kernel_rfl) Hk,wrap_u8,Result.andThen_ok,Sem.run_pure]) rfl ?_
    refine LW.move wn rfl rfl ?_
    refine LW.len fv wn rfl rfl ?_
    refine LW.st (v:=.int .u8 ((ar (aad.length:Int)).toNat:Int)) (fun a ha=>by simp only[execOp,ha.eval (show ev _ (.tmp 47)=some (.int .i64 (aad.length:Int))from rfl),Sem.run_bind,lI (P:=Tryz.prog) (S:=3) (by kernel_rfl) Hk,wrap_u8,Result.andThen_ok,Sem.run_pure]) rfl ?_
    refine LW.buildOwn (lab:=fun _=>0) (ρ:=bV.u8) (xs:=PY aad.length) (css:=[[.int .u8 ((ar ((aad.length/256:Nat):Int)).toNat:Int)],[.int .u8 ((ar (aad.length:Int)).toNat:Int)]]) (vs:=[(0,_),(1,_)]) 1 (mD rfl (mD rfl Az)) Ap.ok Ap.zok (by first |rfl |kernel_rfl) (by decide) rfl ⟨rfl,rfl,trivial⟩ (fun _ _=>rfl) wn rfl fun o7 k7 lab7 w7 s7 own7=>?_
    have f7:Fr [] w6 w7:=⟨s7.os,s7.tape,s7.output,s7.size,fun b hb _=>s7.block b hb (.inl rfl)⟩
    refine LW.move wn rfl rfl ?_
    refine LW.append (kk:=some) (ys:=aad) (r:=PY aad.length++aad) (by rw[aD (by show 2+aad.length≤4294967296;omega)];rfl) own7 ((((da.fr g6).fr f7).sl (fun p hp=>?_)).flat') s7.top rfl Ap.ok Ap.hb wn rfl rfl rfl fun zs o8 k8 lab8 w8 hzs s8 C9=>?_
    ·subst hp
     obtain⟨oa',c',hv,_,hh⟩:=da.ex
     cases hv
     obtain⟨ad,hadp,hlt,_⟩:=hh 0 _ (r_ h1)
     cases hadp
     rw[s7.same _ (Nat.lt_of_lt_of_le hlt g6.size)]
    obtain rfl:=Option.some.inj hzs
    have f8:Fr [] w6 w8:=Fr.of0 s7 s8 (by decide)
    have ds8:=DS.ofOwn C9
    have ho8:yc X o8:=by
     obtain⟨css,_,h⟩:=C9
     rcases h with⟨rfl,_,_⟩ | ⟨g,dS,rfl,hg,_,_,_,_,nQ⟩
     ·trivial
     ·intro e
      have e:g=X:=e
      have hXl:=x6.lt
      have q1:=s8.same X (Nat.lt_of_lt_of_le hXl s7.size)
      have q2:=s7.same X hXl
      rw[e,q1,q2]at nQ
      cases nQ
    have x8:=x6.fr f8 (by simp)
    have b8:=b6.fr f8 (by simp)
    have r8:=r6.fr f8 (by simp)
    have c8:=c6.fr f8 (by simp)
    refine LW.callC (vs:=[.slice o8 (PY aad.length++aad).length k8]) (ps:=[.pointer (some ⟨X,0,none⟩),.pointer (some ⟨CB,0,none⟩)]) ⟨Tryz.f142,Tryz.func142,by kernel_rfl,by kernel_rfl⟩ (zH (x0:=x1) (b0:=PY aad.length++aad) hx1 hcl x8 b8 c8 hCX hBX ds8 (.inr ho8)) wn rfl rfl rfl ?_
    rintro e9 w9 ⟨rfl,f9,x9⟩
    refine⟨_,rfl,?_⟩
    refine LW.nil ?_
    rw[Pv,if_pos h1]
    exact EW.join_n ⟨(g6.tr f8).trans f9 (fun q hq=>.inr (by have:q=X:=(by simpa using hq);omega)),x9,b8.fr f9 (by simpa using hBX),r8.fr f9 (by simpa using hRX),c8.fr f9 (by simpa using hCX),⟨rfl,rfl,rfl,trivial⟩⟩
   ·have h1 : ¬0<aad.length:=of_decide_eq_false hc1
    refine CW.skip ?_
    rw[Pv,if_neg h1]
    exact EW.join_n ⟨g6,x6,b6,r6,c6,⟨rfl,rfl,rfl,trivial⟩⟩
  ·rintro F9 wA ⟨gA,xA,bA,rA,cA,hs9⟩
   refine CW.sub hs9 ?_
   refine CW.seq ?_
   refine CW.region ?_
   refine LW.move wn rfl rfl ?_
   refine LW.move wn rfl rfl ?_
   refine LW.callC (vs:=[.slice op plain.length cp]) (ps:=[.pointer (some ⟨X,0,none⟩),.pointer (some ⟨CB,0,none⟩)]) ⟨Tryz.f142,Tryz.func142,by kernel_rfl,by kernel_rfl⟩ (zH (b0:=plain) (D' hx1) hcl xA bA cA hCX hBX (dp.fr gA) (Oe dp (by omega))) wn rfl rfl rfl ?_
   rintro eB wB ⟨rfl,fB,xB⟩
   refine⟨_,rfl,?_⟩
   have rB:=rA.fr fB (by simpa using hRX)
   rw[←hx1e]
   refine LW.storeN (vs:=bd (Nf cb nonce aad plain tag)) (n:=16) rB lO (by rw[an,sr]) (by rw[an];decide) (dB _) rfl rfl fun wC fC rC=>?_
   rw[eO (by rw[an];decide)]at rC
   refine LW.nil ?_
   refine EW.seq_n ?_
   refine CW.ret ?_
   refine EW.retc rfl (rC.box.rv lO (by rw[an,sr];rfl) rfl) ⟨rfl,?_⟩
   exact(gA.trans fB (fun q hq=>.inr (by have:q=X:=(by simpa using hq);omega))).trans fC (fun q hq=>.inr (by have:q=R:=(by simpa using hq);omega))
set_option maxRecDepth 100000
def xz(a0:List UInt8):Option (List UInt8):=cO ([]:List UInt8) a0
theorem Hc:Tryz.prog.underlying 25=some (.slice 5):=by kernel_rfl
theorem Ey:iZ Tryz.prog 25 5 1 1 (.int .u8 0):=⟨by kernel_rfl,ji (by kernel_rfl),by kernel_rfl,by decide⟩
theorem Ib:gO Tryz.prog 5 (.int .u8 0):=fun w=>by kernel_rfl
theorem F3{lab:bg}{w:World}{a0:List UInt8}{r:List UInt8}{k:Nat}(hm:xz a0=some r)(t:dv lab w){oa:Option Addr}{c:Nat}(s:SL bV.u8 lab w oa c a0):
  Calls Tryz.prog 45 [.slice oa a0.length c].toArray w (fun e w'=>∃(lab':bg) (oa':Option Addr) (c':Nat),e = .returned (.slice oa' r.length c')∧iI lab 0 w lab' w'∧ee bV.u8 lab' w' k 5 oa' c' r∧True):=by
 have hm':bnd (cO ([]:List UInt8) a0) some=some r:=by unfold xz at hm;rw[hm];rfl
 refine enter Tryz.func45 rfl 8 rfl rfl ?_
 refine CW.sub (G:=[(0,.slice oa a0.length c)]) ⟨rfl,trivial⟩ ?_
 refine CW.seq ?_
 refine CW.region ?_
 refine LW.assign wn rfl rfl ?_
 refine LW.nil ?_
 refine EW.seq_n ?_
 refine CW.seq ?_
 refine CW.seq ?_
 refine CW.region ?_
 refine LW.move wn rfl rfl ?_
 refine LW.eqnil Hc wn rfl rfl rfl ?_
 refine LW.nil ?_
 refine EW.seq_n ?_
 refine CW.cond (b:=oa.isNone) rfl (fun hb=>?_) (fun hb=>?_)
 ·cases oa with
  |some _=>cases hb
  |none=>
   have h0:a0 = []:=(SL.flat' s).1 rfl
   subst h0
   have hr:r = []:=by simp[cO,bnd,xR]at hm';exact hm'
   subst hr
   refine CW.seq ?_
   refine CW.region ?_
   refine LW.assign wn rfl rfl ?_
   refine LW.nil ?_
   refine EW.seq_n ?_
   refine CW.ret ?_
   refine EW.seq_r ?_
   exact EW.ret1 rfl rfl ⟨lab,none,0,rfl,⟨rfl,rfl,rfl,Nat.le_refl _,fun _ _ _=>rfl,fun _ _=>rfl,t⟩,ee.nil,trivial⟩
 ·refine CW.skip ?_
  refine EW.seq_n ?_
  refine CW.seq ?_
  refine CW.region ?_
  have cx:=Cx.start t
  replace s:=s.keep bw.lin
  refine LW.buildOwn (k:=2) (ρ:=bV.u8) (vs:=[]) (css:=[]) (xs:=[]) rfl Ey Ib (by kernel_rfl) rfl rfl trivial cx.top wn rfl ?_
  intro oa1 c1 lab1 w1 e1 o1
  replace cx:=cx.step e1 rfl;replace s:=s.step e1
  refine LW.move wn rfl rfl ?_
  refine LW.append (ρ:=bV.u8) (xs:=[]) (ys:=a0) hm' o1 (SL.flat' s) cx.top rfl Ey rfl wn rfl rfl rfl ?_
  intro zs oa2 c2 lab2 w2 hz e2 o2
  cases hz
  replace cx:=cx.step e2 rfl
  refine LW.assign wn rfl rfl ?_
  refine LW.nil ?_
  refine EW.seq_n ?_
  refine CW.ret ?_
  obtain⟨lab_,ste_,own_⟩:=o2.out cx t rfl k
  exact EW.ret1 rfl rfl ⟨_,_,_,rfl,ste_,own_,trivial⟩
theorem HF{w:World}{oa:Option Addr}{c:Nat}{bs:List UInt8}(hl:bs.length≤4294967296)(ds:DS w (.slice oa bs.length c) bs):
  Calls Tryz.prog 45 [.slice oa bs.length c].toArray w fun e w'=>∃oa' c',e = .returned (.slice oa' bs.length c')∧Fr [] w w'∧OB 5 w.heap.size w' oa' c' bs:=
 (F3 (lab:=fun _=>0) (k:=1) (r:=bs) (by unfold xz;rw[aD (by simpa using hl)];rfl) (fun _ _=>rfl) (ds.sl fun _ _=>rfl)).mono fun e w' ⟨lab',oa',c',h1,s,o,_⟩=>
  ⟨oa',c',h1,⟨s.os,s.tape,s.output,s.size,fun b hb _=>s.block b hb (.inl rfl)⟩,OB.ofOwn s o⟩
def Fj(nl:Nat):UInt8:=ar ((14-nl:Nat):Int)
noncomputable def PO (cb nonce:List UInt8) (p:Nat):UInt8:=(KF cb (DW (Fj nonce.length) nonce (p/16+1))).getD (p%16) 0
noncomputable def AS (cb nonce text:List UInt8) (i:Nat):List UInt8:=text.mapIdx fun p b=>if p<i then b ^^^ PO cb nonce p else b
theorem nZ(cb nonce text:List UInt8)(i:Nat):(AS cb nonce text i).length=text.length:=by simp[AS]
theorem IJ(cb nonce text:List UInt8):AS cb nonce text 0=text:=by
 apply List.ext_getElem
 ·simp[AS]
 ·intro i h1 h2;simp[AS]
theorem Jp{cb nonce text:List UInt8}{i:Nat}(h:i<text.length):(AS cb nonce text i).set i ((AS cb nonce text i).getD i 0 ^^^ PO cb nonce i)=AS cb nonce text (i+1):=by
 apply List.ext_getElem
 ·simp[AS]
 ·intro p h1 h2
  simp only[AS,List.length_mapIdx]at h2
  rw[List.getElem_set]
  simp only[AS,List.getElem_mapIdx,List.getD_eq_getElem?_getD]
  by_cases hp:i=p
  ·subst hp
   rw[if_pos rfl,List.getElem?_eq_getElem (by simpa using h),Option.getD_some,List.getElem_mapIdx,if_neg (by omega),if_pos (by omega)]
  ·rw[if_neg hp]
   by_cases hlt:p<i
   ·rw[if_pos hlt,if_pos (by omega)]
   ·rw[if_neg hlt,if_neg (by omega)]
noncomputable def tB (cb nonce text:List UInt8):List UInt8:=AS cb nonce text text.length
noncomputable def uK (cb nonce tg:List UInt8):List UInt8:=nL tg (KF cb (DW (Fj nonce.length) nonce 0)) 16
theorem lw{cb nonce tg:List UInt8}(h:tg.length=16):(uK cb nonce tg).length=16:=by rw[uK,i7,h]
set_option maxHeartbeats 4000000 in
theorem y9{w:World}{C TC:Nat}{cb nonce text tg:List UInt8}{on ot:Option Addr}{cn ct:Nat}(hcl:cb.length=688)(hn1:1≤nonce.length)(hn2:nonce.length≤13)(htl:text.length≤65536)(htg:tg.length=16)
  (cx:ed w C TC (bd cb)) (dn:DS w (.slice on nonce.length cn) nonce) (dt:DS w (.slice ot text.length ct) text) :
  Calls Tryz.prog 87 [.pointer (some ⟨C,0,none⟩),.slice on nonce.length cn,.slice ot text.length ct,.agg (bd tg).toArray].toArray w fun e w'=>∃oo co,e = .returned (.tuple ([.slice oo text.length co,.agg (bd (uK cb nonce tg)).toArray]:List Value).toArray)∧Fr [] w w'∧OB 5 w.heap.size w' oo co (tB cb nonce text):=by
 refine enter Tryz.func87 rfl 77 rfl rfl ?_
 refine CW.seq ?_
 refine CW.region ?_
 refine LW.boxC (bd tg) rfl rfl rfl fun w1 f1 b1 hs1=>?_
 obtain⟨B,hB⟩ : ∃B,B=w.heap.size:=⟨_,rfl⟩
 rw[←hB]at b1⊢
 refine LW.assign wn rfl rfl ?_
 refine LW.allocC (bd (List.replicate 16 0)) mU rfl rfl fun w2 f2 r2 hs2=>?_
 have b2:=b1.fr f2 (by simp)
 obtain⟨R,hR⟩ : ∃R,R=w1.heap.size:=⟨_,rfl⟩
 rw[←hR]at r2⊢
 have hRB:R≠B:=by omega
 have g2:=f1.tr f2
 refine LW.nil ?_
 refine EW.seq_n ?_
 refine CW.seq ?_
 refine CW.region ?_
 refine LW.move wn rfl rfl ?_
 refine LW.call ⟨Tryz.f45,Tryz.func45,by kernel_rfl,by kernel_rfl⟩ (HF (by omega) (dt.fr g2)) wn rfl rfl ?_
 rintro e3 w3 ⟨oo,co,rfl,f3,ob3⟩
 refine⟨_,rfl,?_⟩
 have b3:=b2.fr f3 (by simp)
 have r3:=r2.fr f3 (by simp)
 have c3:=(cx.fr g2 (by simp)).fr f3 (by simp)
 have hCl:=cx.lt
 have g3:=g2.tr f3
 have dn3:=dn.fr g3
 refine LW.assign wn rfl rfl ?_
 refine LW.nil ?_
 refine EW.seq_n ?_
 refine CW.seq ?_
 refine CW.region ?_
 refine LW.move wn rfl rfl ?_
 refine LW.len fv wn rfl rfl ?_
 refine LW.st (aG.bin (lF (a:=14) (b:=nonce.length) (by omega) (by omega)) rfl rfl rfl) rfl ?_
 refine LW.st (v:=.int .u8 ((Fj nonce.length).toNat:Int)) (fun a ha=>by simp only[execOp,ha.eval (show ev _ (.tmp 21)=some (.int .i64 ((14-nonce.length:Nat):Int))from rfl),Sem.run_bind,lI (P:=Tryz.prog) (S:=3) (by kernel_rfl) Hk,wrap_u8,Result.andThen_ok,Sem.run_pure,Fj]) rfl ?_
 refine LW.assign wn rfl rfl ?_
 refine LW.nil ?_
 refine EW.seq_n ?_
 refine CW.seq ?_
 refine CW.seq ?_
 refine CW.region ?_
 refine LW.assign wn rfl rfl ?_
 refine LW.nil ?_
 refine EW.seq_n ?_
 refine CW.block ?_
 have ob3o:yc B oo:=by
  rcases ob3 with⟨rfl,_⟩ | ⟨g,rest,rfl,hg,_⟩
  ·trivial
  ·show g≠B
   have:=b2.lt
   omega
 have ob3r:yc R oo:=by
  rcases ob3 with⟨rfl,_⟩ | ⟨g,rest,rfl,hg,_⟩
  ·trivial
  ·show g≠R
   have:=r2.lt
   omega
 refine CW.loop (fun n F' w'=>∃t,n=text.length-16*t∧16*t≤text.length+15∧sub [(12,.int .i64 ((16*t:Nat):Int)),(0,.pointer (some ⟨C,0,none⟩)),(1,.slice on nonce.length cn),(7,.pointer (some ⟨B,0,none⟩)),(9,.pointer (some ⟨R,0,none⟩)),(11,.int .u8 ((Fj nonce.length).toNat:Int)),(10,.slice oo text.length co)] F'∧Fr [] w w'∧OB 5 w2.heap.size w' oo co (AS cb nonce text (min text.length (16*t)))∧ed w' B 132 (bd tg)∧ed w' R 132 (bd (List.replicate 16 0))∧ed w' C TC (bd cb)) text.length ⟨0,by omega,by omega,⟨rfl,rfl,rfl,rfl,rfl,rfl,rfl,trivial⟩,g3,by rw[Nat.mul_zero,Nat.min_zero,IJ];exact ob3,b3,r3,c3⟩ ?_
 rintro n0 F0 w4 ⟨t,hn0,ht16,hs0,g4,ob4,b4,r4,c4⟩
 refine CW.sub hs0 ?_
 have dn4:=dn.fr g4
 refine CW.seq ?_
 refine CW.seq ?_
 refine CW.region ?_
 refine LW.move wn rfl rfl ?_
 refine LW.move wn rfl rfl ?_
 refine LW.len fv wn rfl rfl ?_
 refine LW.st (aG.bin (gQ (a:=16*t) (b:=text.length)) rfl rfl rfl) rfl ?_
 refine LW.nil ?_
 refine EW.seq_n ?_
 refine CW.cond (b:=decide (16*t<text.length)) rfl (fun hc0=>?_) (fun hc0=>?_)
 ·have hlt0:16*t<text.length:=of_decide_eq_true hc0
  refine CW.skip ?_
  refine EW.seq_n ?_
  refine CW.seq ?_
  refine CW.block ?_
  refine CW.seq ?_
  refine CW.region ?_
  refine LW.move wn rfl rfl ?_
  refine LW.move wn rfl rfl ?_
  refine LW.move wn rfl rfl ?_
  refine LW.move wn rfl rfl ?_
  refine LW.st (aG.bin (q:=.int .i64 (t:Int)) (by have:=vp (P:=Tryz.prog) (w:=w4) (T:=3) (a:=16*t) (b:=16) (by decide) (by omega);rwa [Nat.mul_div_cancel_left t (by decide)]at this) rfl rfl rfl) rfl ?_
  refine LW.st (aG.bin (lB (a:=t) (b:=1) (by omega)) rfl rfl rfl) rfl ?_
  refine LW.call ⟨Tryz.f113,Tryz.func113,by kernel_rfl,by kernel_rfl⟩ (DR (f:=Fj nonce.length) (n:=t+1) hn1 (by omega) dn4) wn rfl rfl ?_
  rintro e5 w5 ⟨rfl,f5⟩
  refine⟨_,rfl,?_⟩
  have hbl:=oK (f:=Fj nonce.length) (nonce:=nonce) (n:=t+1) (by omega)
  refine LW.call ⟨Tryz.f112,Tryz.func112,by kernel_rfl,by kernel_rfl⟩ (uf hbl hcl (c4.fr f5 (by simp))) wn rfl rfl ?_
  rintro e6 w6 ⟨rfl,f6⟩
  refine⟨_,rfl,?_⟩
  have hel:=tJ (cb:=cb) hbl
  refine LW.allocC (bd (List.replicate 16 0)) mU rfl rfl fun w7 f7 s7 hs7=>?_
  have f47:=(f5.tr f6).tr f7
  obtain⟨S,hS⟩ : ∃S,S=w6.heap.size:=⟨_,rfl⟩
  have hS4:w4.heap.size≤S:=by have:=f5.size;have:=f6.size;omega
  rw[←hS]at s7⊢
  have hSo:yc S oo:=ob4.off hS4
  refine LW.storeN (n:=16) s7 lO (by rw[an,hel]) (by rw[an];decide) (dB _) rfl rfl fun w8 f8 s8=>?_
  rw[eO (by rw[an];decide)]at s8
  have hne : ∀{q},q<w4.heap.size→q≠S:=fun h e=>by omega
  have f48:Fr [] w4 w8:=f47.trans f8 (fun q hq=>.inr (by have:q=S:=(by simpa using hq);omega))
  have ob8:=ob4.fr f48
  have b8:=b4.fr f48 (by simp)
  have r8:=r4.fr f48 (by simp)
  have c8:=c4.fr f48 (by simp)
  obtain⟨ks,hks⟩ : ∃ks,ks=KF cb (DW (Fj nonce.length) nonce (t+1)):=⟨_,rfl⟩
  rw[←hks]at s8 hel
  refine LW.nil ?_
  refine EW.seq_n ?_
  refine CW.seq ?_
  refine CW.region ?_
  refine LW.move wn rfl rfl ?_
  refine LW.assign wn rfl rfl ?_
  refine LW.nil ?_
  refine EW.seq_n ?_
  refine CW.block ?_
  refine CW.loop (fun n F' w'=>∃k,n=min text.length (16*t+16)-k∧16*t≤k∧k≤min text.length (16*t+16)∧sub [(14,.int .i64 (k:Int)),(13,.pointer (some ⟨S,0,none⟩)),(12,.int .i64 ((16*t:Nat):Int)),(0,.pointer (some ⟨C,0,none⟩)),(1,.slice on nonce.length cn),(7,.pointer (some ⟨B,0,none⟩)),(9,.pointer (some ⟨R,0,none⟩)),(11,.int .u8 ((Fj nonce.length).toNat:Int)),(10,.slice oo text.length co)] F'∧Fr [] w w'∧OB 5 w2.heap.size w' oo co (AS cb nonce text k)∧ed w' B 132 (bd tg)∧ed w' R 132 (bd (List.replicate 16 0))∧ed w' C TC (bd cb)∧ed w' S 132 (bd ks)) (min text.length (16*t+16)-16*t) ⟨16*t,rfl,by omega,by omega,⟨rfl,rfl,rfl,rfl,rfl,rfl,rfl,rfl,rfl,trivial⟩,g4.tr f48,by rw[show min text.length (16*t)=16*t by omega]at ob8;exact ob8,b8,r8,c8,s8⟩ ?_
  rintro n1 F1 w9 ⟨k,hn1',hk1,hk2,hs1',g9,ob9,b9,r9,c9,s9⟩
  refine CW.sub hs1' ?_
  refine CW.seq ?_
  refine CW.seq ?_
  refine CW.region ?_
  refine LW.move wn rfl rfl ?_
  refine LW.move wn rfl rfl ?_
  refine LW.len fv wn rfl rfl ?_
  refine LW.move wn rfl rfl ?_
  refine LW.st (aG.bin (lB (a:=16*t) (b:=16) (by omega)) rfl rfl rfl) rfl ?_
  refine LW.minN (a:=text.length) (b:=16*t+16) rfl rfl rfl ?_
  refine LW.st (aG.bin (gQ (a:=k) (b:=min text.length (16*t+16))) rfl rfl rfl) rfl ?_
  refine LW.nil ?_
  refine EW.seq_n ?_
  refine CW.cond (b:=decide (k<min text.length (16*t+16))) rfl (fun hc1=>?_) (fun hc1=>?_)
  ·have hlt1:k<min text.length (16*t+16):=of_decide_eq_true hc1
   obtain⟨g,rest,rfl,hgl,o9,hc9,hm9⟩ : ∃g rest,oo=some ⟨g,0,none⟩∧w2.heap.size≤g∧ed w9 g 5 (bd (AS cb nonce text k)++rest)∧(AS cb nonce text k).length+rest.length=co∧co≤maxLen:=by
    rcases ob9 with⟨_,_,h⟩ |h
    ·have:(AS cb nonce text k).length=0:=by rw[h];rfl
     rw[nZ]at this;omega
    ·exact h
   have hgB:g≠B:=ob3o
   have hgR:g≠R:=ob3r
   have hgS:g≠S:=hSo
   have hgC:g≠C:=by have:=g2.size;omega
   refine CW.skip ?_
   refine EW.seq_n ?_
   refine CW.seq ?_
   refine CW.block ?_
   refine CW.still 11 (by decide) (by kernel_rfl) ?_
   refine LS.st (aG.move rfl) rfl ?_
   refine LS.st (aG.move rfl) rfl ?_
   refine LS.st (aG.idxS0 (i:=k) fv (fun w=>by kernel_rfl) (by omega) rfl rfl) rfl ?_
   refine LS.st (aG.loadC (o9.drawn _) ch (by rw[List.getElem?_append_left (by rw[an,nZ];omega)];exact b_ (by rw[nZ];omega)) rfl) rfl ?_
   refine LS.st (aG.move rfl) rfl ?_
   refine LS.st (aG.move rfl) rfl ?_
   refine LS.st (aG.bin (lF (a:=k) (b:=16*t) (by omega) (by omega)) rfl rfl rfl) rfl ?_
   refine LS.st (aG.idx0 (i:=k-16*t) De (by omega) rfl rfl) rfl ?_
   refine LS.st (aG.loadC (s9.drawn _) ch (b_ (by rw[hel];omega)) rfl) rfl ?_
   refine LS.st (aG.bin (kZ _ _) rfl rfl rfl) rfl ?_
   refine LS.st (aG.idxS0 (i:=k) fv (fun w=>by kernel_rfl) (by omega) rfl rfl) rfl ?_
   refine LS.nil ?_
   refine LW.store1 (o9.drawn _) ch (by rw[List.length_append,an,nZ];omega) rfl rfl rfl rfl fun wA fA oA=>?_
   have hkk:ks.getD (k-16*t) 0=PO cb nonce k:=by rw[PO,hks,show k/16+1=t+1 by omega,show k%16=k-16*t by omega]
   rw[List.set_append_left _ _ (by rw[an,nZ];omega),iQ,hkk,Jp (by omega)]at oA
   refine LW.nil ?_
   refine EW.block_n ?_
   refine EW.seq_n ?_
   refine CW.region ?_
   refine LW.move wn rfl rfl ?_
   refine LW.add_lit (c:=((k+1:Nat):Int)) (sD (by omega)) wn rfl rfl rfl ?_
   refine LW.assign wn rfl rfl ?_
   refine LW.nil ?_
   exact EW.join_n ⟨n1-1,by omega,k+1,by omega,by omega,by omega,⟨rfl,rfl,rfl,rfl,rfl,rfl,rfl,rfl,rfl,trivial⟩,g9.trans fA.ofDraw (fun q hq=>.inr (by have:q=g:=(by simpa using hq);have:=g2.size;omega)),.inr ⟨g,rest,rfl,hgl,oA,by rw[nZ]at hc9⊢;exact hc9,hm9⟩,(b9.drawn _).fr fA (by simpa using hgB.symm),(r9.drawn _).fr fA (by simpa using hgR.symm),(c9.drawn _).fr fA (by simpa using hgC.symm),(s9.drawn _).fr fA (by simpa using hgS.symm)⟩
  ·have hge1:k=min text.length (16*t+16):=by have:=of_decide_eq_false hc1;omega
   subst hge1
   refine CW.exit ?_
   refine EW.seq_x ?_
   refine EW.join_x ?_
   refine EW.block_x ?_
   refine EW.block_n ?_
   refine EW.seq_n ?_
   refine CW.region ?_
   refine LW.move wn rfl rfl ?_
   refine LW.st (aG.bin (q:=.int .i64 ((16*(t+1):Nat):Int)) (by have:=lB (P:=Tryz.prog) (w:=w9) (T:=3) (a:=16*t) (b:=16) (by omega);rwa [show 16*t+16=16*(t+1) by omega]at this) rfl rfl rfl) rfl ?_
   refine LW.assign wn rfl rfl ?_
   refine LW.nil ?_
   exact EW.join_n ⟨text.length-16*(t+1),by omega,t+1,rfl,by omega,⟨rfl,rfl,rfl,rfl,rfl,rfl,rfl,trivial⟩,g9,by rw[show 16*t+16=16*(t+1) by omega]at ob9;exact ob9,b9,r9,c9⟩
 ·have hge0:text.length≤16*t:=by have:=of_decide_eq_false hc0;omega
  have hfin:AS cb nonce text (min text.length (16*t))=tB cb nonce text:=by rw[Nat.min_eq_left hge0];rfl
  refine CW.exit ?_
  refine EW.seq_x ?_
  refine EW.join_x ?_
  refine EW.block_x ?_
  refine EW.seq_n ?_
  refine CW.seq ?_
  refine CW.region ?_
  refine LW.move wn rfl rfl ?_
  refine LW.move wn rfl rfl ?_
  refine LW.move wn rfl rfl ?_
  refine LW.call ⟨Tryz.f113,Tryz.func113,by kernel_rfl,by kernel_rfl⟩ (DR (f:=Fj nonce.length) (n:=0) hn1 (by omega) dn4) wn rfl rfl ?_
  rintro e5 w5 ⟨rfl,f5⟩
  refine⟨_,rfl,?_⟩
  have hbl:=oK (f:=Fj nonce.length) (nonce:=nonce) (n:=0) (by omega)
  refine LW.call ⟨Tryz.f112,Tryz.func112,by kernel_rfl,by kernel_rfl⟩ (uf hbl hcl (c4.fr f5 (by simp))) wn rfl rfl ?_
  rintro e6 w6 ⟨rfl,f6⟩
  refine⟨_,rfl,?_⟩
  have hel:=tJ (cb:=cb) hbl
  refine LW.allocC (bd (List.replicate 16 0)) mU rfl rfl fun w7 f7 s7 hs7=>?_
  have f47:=(f5.tr f6).tr f7
  obtain⟨S,hS⟩ : ∃S,S=w6.heap.size:=⟨_,rfl⟩
  have hS4:w4.heap.size≤S:=by have:=f5.size;have:=f6.size;omega
  rw[←hS]at s7⊢
  have hSo:yc S oo:=ob4.off hS4
  refine LW.storeN (n:=16) s7 lO (by rw[an,hel]) (by rw[an];decide) (dB _) rfl rfl fun w8 f8 s8=>?_
  rw[eO (by rw[an];decide)]at s8
  have hne : ∀{q},q<w4.heap.size→q≠S:=fun h e=>by omega
  have f48:Fr [] w4 w8:=f47.trans f8 (fun q hq=>.inr (by have:q=S:=(by simpa using hq);omega))
  have ob8:=ob4.fr f48
  have b8:=b4.fr f48 (by simp)
  have r8:=r4.fr f48 (by simp)
  have hSB:S≠B:=(hne b4.lt).symm
  have hoB:yc B oo:=ob3o
  obtain⟨ks,hks⟩ : ∃ks,ks=KF cb (DW (Fj nonce.length) nonce 0):=⟨_,rfl⟩
  rw[←hks]at s8 hel
  refine LW.nil ?_
  refine EW.seq_n ?_
  refine CW.seq ?_
  refine CW.seq ?_
  refine CW.region ?_
  refine LW.move wn rfl rfl ?_
  refine LW.nil ?_
  refine EW.seq_n ?_
  refine CW.block ?_
  refine CW.loop (fun n F' w'=>∃i,n=16-i∧i≤16∧sub [(63,.int .i64 (i:Int)),(15,.pointer (some ⟨S,0,none⟩)),(7,.pointer (some ⟨B,0,none⟩)),(9,.pointer (some ⟨R,0,none⟩)),(10,.slice oo text.length co)] F'∧Fr [B] w8 w'∧OB 5 w2.heap.size w' oo co (tB cb nonce text)∧ed w' B 132 (bd (nL tg ks i))∧ed w' R 132 (bd (List.replicate 16 0))∧ed w' S 132 (bd ks)) 16 ⟨0,by omega,by omega,⟨rfl,rfl,rfl,rfl,rfl,trivial⟩,Fr.refl,by rw[hfin]at ob8;exact ob8,b8,r8,s8⟩ ?_
  rintro n2 F2 w9 ⟨i,hn2',hi2,hs2',f9,ob9,b9,r9,s9⟩
  refine CW.sub hs2' ?_
  refine CW.seq ?_
  refine CW.region ?_
  refine LW.st (aG.bin (gQ (a:=i) (b:=16)) rfl rfl rfl) rfl ?_
  refine LW.nil ?_
  refine EW.seq_n ?_
  refine CW.seq ?_
  refine CW.cond (b:=decide (i<16)) rfl (fun hc2=>?_) (fun hc2=>?_)
  ·have hlt2:i<16:=of_decide_eq_true hc2
   refine CW.skip ?_
   refine EW.seq_n ?_
   refine CW.seq ?_
   refine CW.block ?_
   refine CW.seq ?_
   refine CW.region ?_
   refine LW.move wn rfl rfl ?_
   refine LW.assign wn rfl rfl ?_
   refine LW.nil ?_
   refine EW.seq_n ?_
   refine CW.still 8 (by decide) (by kernel_rfl) ?_
   refine LS.st (aG.move rfl) rfl ?_
   refine LS.st (aG.idx0 (i:=i) De (by omega) rfl rfl) rfl ?_
   refine LS.st (aG.loadC (b9.drawn _) ch (b_ (by rw[i7,htg];omega)) rfl) rfl ?_
   refine LS.st (aG.move rfl) rfl ?_
   refine LS.st (aG.idx0 (i:=i) De (by omega) rfl rfl) rfl ?_
   refine LS.st (aG.loadC (s9.drawn _) ch (b_ (by rw[hel];omega)) rfl) rfl ?_
   refine LS.st (aG.bin (kZ _ _) rfl rfl rfl) rfl ?_
   refine LS.st (aG.idx0 (i:=i) De (by omega) rfl rfl) rfl ?_
   refine LS.nil ?_
   refine LW.store1 (b9.drawn _) ch (by rw[an,i7,htg];omega) rfl rfl rfl rfl fun wA fA bA=>?_
   rw[iQ,←nA]at bA
   refine LW.nil ?_
   refine EW.block_n ?_
   refine EW.seq_n ?_
   refine CW.region ?_
   refine LW.add_lit (c:=((i+1:Nat):Int)) (sD (by omega)) wn rfl rfl rfl ?_
   refine LW.move wn rfl rfl ?_
   refine LW.nil ?_
   exact EW.join_n ⟨16-(i+1),by omega,i+1,rfl,by omega,⟨rfl,rfl,rfl,rfl,rfl,trivial⟩,f9.tr fA.ofDraw,(show OB 5 w2.heap.size { w9 with drawn:=w9.drawn+1 } oo co _ from ob9).frX fA hoB,bA,(r9.drawn _).fr fA (by simpa using hRB),(s9.drawn _).fr fA (by simpa using hSB)⟩
  ·have hge2:i=16:=by have:=of_decide_eq_false hc2;omega
   subst hge2
   have e9:nL tg ks 16=uK cb nonce tg:=by rw[uK,hks]
   rw[e9]at b9
   refine CW.exit ?_
   refine EW.seq_x ?_
   refine EW.join_x ?_
   refine EW.block_x ?_
   refine EW.seq_n ?_
   refine CW.seq ?_
   refine CW.still 3 (by decide) (by kernel_rfl) ?_
   refine LS.st (aG.move rfl) rfl ?_
   refine LS.st (aG.loadCn (vs:=bd (uK cb nonce tg)) (b9.drawn _) lO (by rw[an,lw htg]) (eT (lw htg)) rfl) rfl ?_
   refine LS.st (aG.assign rfl) rfl ?_
   refine LS.nil ?_
   refine LW.storeN (vs:=bd (uK cb nonce tg)) (n:=16) (r9.drawn _) lO (by rw[an,lw htg]) (by rw[an];decide) (dB _) rfl rfl fun wC fC rC=>?_
   rw[eO (by rw[an];decide)]at rC
   refine LW.nil ?_
   refine EW.seq_n ?_
   refine CW.ret ?_
   refine EW.rets (qs:=[.tmp 8,.cell 9 132]) (vs:=[.slice oo text.length co,.agg (bd (uK cb nonce tg)).toArray]) rfl ⟨rfl,rC.box.rv lO (by rw[an,lw htg];rfl) rfl,trivial⟩ rfl ⟨oo,co,rfl,?_,?_⟩
   ·exact((g4.tr f48).trans f9 (fun q hq=>.inr (by have:q=B:=(by simpa using hq);omega))).trans fC.ofDraw (fun q hq=>.inr (by have:q=R:=(by simpa using hq);omega))
   ·have hob:OB 5 w2.heap.size wC oo co (tB cb nonce text):=(show OB 5 w2.heap.size { w9 with drawn:=w9.drawn+1 } oo co _ from ob9).frX fC ob3r
    rcases hob with h | ⟨g,rest,h1,h2,h3⟩
    ·exact .inl h
    ·exact .inr ⟨g,rest,h1,by have:=g2.size;have:=h2;omega,h3⟩
set_option maxRecDepth 100000
noncomputable def GY (v:Bool) (key nonce aad plain:List UInt8) (t:Nat):List UInt8×Int:=
 bif v then(bif (decide (4096<aad.length)||decide (4096<plain.length))then([],8)else(tB (tK key) nonce plain++(uK (tK key) nonce (Nf (tK key) nonce aad plain t)).take t,0))else([],1)
theorem mO(cb nonce text:List UInt8):(tB cb nonce text).length=text.length:=nZ _ _ _ _
set_option maxHeartbeats 2000000 in
theorem Mb{w:World}{v:Bool}{key nonce aad plain:List UInt8}{kv:Value}{on oa op:Option Addr}{cn ca cp:Nat}{z:Int}
  (hV:Calls Tryz.prog 85 [kv,.slice on nonce.length cn,.int .i64 z].toArray w fun e w'=>e = .returned (.bool v)∧Fr [] w w') (hv:v=true→∃t:Nat,z=t∧key.length=16∧7≤nonce.length∧nonce.length≤13∧4≤t∧t≤16)
  (dk:DS w kv key) (dn:DS w (.slice on nonce.length cn) nonce) (da:DS w (.slice oa aad.length ca) aad) (dp:DS w (.slice op plain.length cp) plain) :
  Calls Tryz.prog 38 [kv,.slice on nonce.length cn,.slice oa aad.length ca,.slice op plain.length cp,.int .i64 z].toArray w fun e w'=>∃oo co,e = .returned (.tuple ([.slice oo (GY v key nonce aad plain z.toNat).1.length co,.int .i64 (GY v key nonce aad plain z.toNat).2]:List Value).toArray)∧Fr [] w w'∧OB 5 w.heap.size w' oo co (GY v key nonce aad plain z.toNat).1:=by
 refine enter Tryz.func38 rfl 49 rfl rfl ?_
 refine CW.seq ?_
 refine CW.region ?_
 refine LW.assign wn rfl rfl ?_
 refine LW.assign wn rfl rfl ?_
 refine LW.nil ?_
 refine EW.seq_n ?_
 refine CW.seq ?_
 refine CW.block ?_
 refine CW.seq ?_
 refine CW.region ?_
 refine LW.move wn rfl rfl ?_
 refine LW.move wn rfl rfl ?_
 refine LW.move wn rfl rfl ?_
 refine LW.call ⟨Tryz.f85,Tryz.func85,by kernel_rfl,by kernel_rfl⟩ hV wn rfl rfl ?_
 rintro e1 w1 ⟨rfl,f1⟩
 refine⟨_,rfl,?_⟩
 refine LW.not (k:=some) (r:=!v) rfl wn rfl rfl fun nv hnv=>?_
 obtain rfl:=Option.some.inj hnv
 refine LW.assign wn rfl rfl ?_
 refine LW.nil ?_
 refine EW.seq_n ?_
 refine CW.cond (b:=!v) rfl (fun hc0=>?_) (fun hc0=>?_)
 ·have hvf:v=false:=by cases v with |false=>rfl |true=>cases hc0
  subst hvf
  refine CW.seq ?_
  refine CW.region ?_
  refine LW.assign wn rfl rfl ?_
  refine LW.assign wn rfl rfl ?_
  refine LW.nil ?_
  refine EW.seq_n ?_
  refine CW.ret ?_
  refine EW.block_r ?_
  refine EW.seq_r ?_
  exact EW.rets (qs:=[.tmp 10,.tmp 11]) (vs:=[.slice none 0 0,.int .i64 1]) rfl ⟨rfl,rfl,trivial⟩ rfl ⟨none,0,rfl,f1,.inl ⟨rfl,rfl,rfl⟩⟩
 ·have hvt:v=true:=by cases v with |true=>rfl |false=>cases hc0
  subst hvt
  obtain⟨t,rfl,hkl,hn7,hn13,ht4,ht16⟩:=hv rfl
  refine CW.seq ?_
  refine CW.viaR [(21,.bool (decide (4096<aad.length)||decide (4096<plain.length))),(0,kv),(1,.slice on nonce.length cn),(2,.slice oa aad.length ca),(3,.slice op plain.length cp),(4,.int .i64 (t:Int))] ?_ ?_
  ·refine LW.move wn rfl rfl ?_
   refine LW.len fv wn rfl rfl ?_
   refine LW.st (aG.bin (ly (a:=aad.length) (b:=4096)) rfl rfl rfl) rfl ?_
   refine LW.move wn rfl rfl ?_
   cases hg:decide (4096<aad.length)with
   |false=>
    refine LW.move (ws 25 rfl rfl) rfl rfl ?_
    refine LW.len fv (ws 25 rfl rfl) rfl rfl ?_
    refine LW.val rfl (ws 25 rfl rfl) rfl rfl (fun a ha=>dm _ _ _ (ha.eval rfl) (ha.eval rfl) rfl (ly (a:=plain.length) (b:=4096))) ?_
    refine LW.pick_f wn rfl rfl rfl ?_
    refine LW.assign wn rfl rfl ?_
    exact LW.viaNil ⟨rfl,rfl,rfl,rfl,rfl,rfl,trivial⟩
   |true=>
    refine LW.skip 25 rfl rfl rfl rfl ?_
    refine LW.skip 25 rfl rfl rfl rfl ?_
    refine LW.skip 25 rfl rfl rfl rfl ?_
    refine LW.pick_t wn rfl rfl rfl ?_
    refine LW.assign wn rfl rfl ?_
    exact LW.viaNil ⟨rfl,rfl,rfl,rfl,rfl,rfl,trivial⟩
  refine EW.seq_n ?_
  refine CW.cond (b:=decide (4096<aad.length)||decide (4096<plain.length)) rfl (fun hc1=>?_) (fun hc1=>?_)
  ·skip
   refine CW.seq ?_
   refine CW.region ?_
   refine LW.assign wn rfl rfl ?_
   refine LW.assign wn rfl rfl ?_
   refine LW.nil ?_
   refine EW.seq_n ?_
   refine CW.ret ?_
   refine EW.block_r ?_
   refine EW.seq_r ?_
   have e8:GY true key nonce aad plain (t:Int).toNat=([],8):=by rw[GY];simp only[hc1,cond_true]
   rw[e8]
   exact EW.rets (qs:=[.tmp 10,.tmp 11]) (vs:=[.slice none 0 0,.int .i64 8]) rfl ⟨rfl,rfl,trivial⟩ rfl ⟨none,0,rfl,f1,.inl ⟨rfl,rfl,rfl⟩⟩
  ·have hsz:aad.length≤4096∧plain.length≤4096:=by
    simp only[Bool.or_eq_false_iff,decide_eq_false_iff_not]at hc1
    omega
   obtain⟨hsa,hsp⟩:=hsz
   refine CW.skip ?_
   refine EW.block_n ?_
   refine EW.seq_n ?_
   refine CW.seq ?_
   refine CW.region ?_
   refine LW.move wn rfl rfl ?_
   refine LW.call ⟨Tryz.f86,Tryz.func86,by kernel_rfl,by kernel_rfl⟩ (I9 hkl (dk.fr f1)) wn rfl rfl ?_
   rintro e2 w2 ⟨C,rfl,hC,c2,f2⟩
   refine⟨_,rfl,?_⟩
   have hcl:=EU hkl
   generalize hcb:tK key=cb at c2 hcl
   have g2:=f1.tr f2
   have hCl:=c2.lt
   refine LW.assign wn rfl rfl ?_
   refine LW.nil ?_
   refine EW.seq_n ?_
   refine CW.seq ?_
   refine CW.region ?_
   refine LW.move wn rfl rfl ?_
   refine LW.move wn rfl rfl ?_
   refine LW.move wn rfl rfl ?_
   refine LW.move wn rfl rfl ?_
   refine LW.move wn rfl rfl ?_
   refine LW.move wn rfl rfl ?_
   refine LW.move wn rfl rfl ?_
   refine LW.move wn rfl rfl ?_
   refine LW.call ⟨Tryz.f88,Tryz.func88,by kernel_rfl,by kernel_rfl⟩ (Fd (tag:=t) hcl (by omega) hn13 ht4 ht16 (by omega) (by omega) c2 (dn.fr g2) (da.fr g2) (dp.fr g2)) wn rfl rfl ?_
   rintro e3 w3 ⟨rfl,f3⟩
   refine⟨_,rfl,?_⟩
   have g3:=g2.tr f3
   have hal:=sr cb nonce aad plain t
   generalize hau:Nf cb nonce aad plain t=au at hal
   refine LW.call ⟨Tryz.f87,Tryz.func87,by kernel_rfl,by kernel_rfl⟩ (y9 hcl (by omega) hn13 (by omega) hal (c2.fr f3 (by simp)) (dn.fr g3) (dp.fr g3)) wn rfl rfl ?_
   rintro e4 w4 ⟨o4,k4,rfl,f4,ob4⟩
   refine⟨_,rfl,?_⟩
   have g4:=g3.tr f4
   have htl:=lw (cb:=cb) (nonce:=nonce) hal
   generalize htg:uK cb nonce au=tg at htl
   refine LW.move wn rfl rfl ?_
   refine LW.extract wn rfl rfl rfl ?_
   refine LW.extract wn rfl rfl rfl ?_
   refine LW.allocC (bd (List.replicate 16 0)) mU rfl rfl fun w5 f5 t5 hs5=>?_
   obtain⟨T,hT⟩ : ∃T,T=w4.heap.size:=⟨_,rfl⟩
   rw[←hT]at t5⊢
   have hTo:yc T o4:=ob4.off (by omega)
   refine LW.assign wn rfl rfl ?_
   refine LW.storeN (n:=16) t5 lO (by rw[an,htl]) (by rw[an];decide) (dB _) rfl rfl fun w6 f6 t6=>?_
   rw[eO (by rw[an];decide)]at t6
   have ob6:=(ob4.fr f5).frX f6 hTo
   have g6:Fr [] w w6:=(g4.tr f5).trans f6 (fun q hq=>.inr (by have:q=T:=(by simpa using hq);have:=g4.size;omega))
   refine LW.nil ?_
   refine EW.seq_n ?_
   refine CW.seq ?_
   refine CW.region ?_
   refine LW.move wn rfl rfl ?_
   refine LW.move wn rfl rfl ?_
   refine LW.st (aG.sliceHigh (h:=t) GS FL (by omega) (by decide) Pt rfl rfl) rfl ?_
   have hss:(tB cb nonce plain).length=plain.length:=mO _ _ _
   refine LW.appendOB (xs:=tB cb nonce plain) (ys:=tg.take t) g6 (g3.size) (by have:=f4.size;have:=f5.size;have:=f6.size;omega) ob6 (DS.ofCel t6 (n:=t) (by rw[List.length_take];omega) rfl (by omega) (by decide)) (fun g hg=>?_) (by rw[List.length_take,hss];omega) Ap.ok Ap.hb rfl (by rw[hss];rfl) (by rw[List.length_take,htl,Nat.min_eq_left (by omega)];rfl) fun w7 o7 k7 f7 ob7=>?_
   ·subst hg
    intro e
    exact hTo e.symm
   refine LW.assign wn rfl rfl ?_
   refine LW.assign wn rfl rfl ?_
   refine LW.nil ?_
   refine EW.seq_n ?_
   refine CW.ret ?_
   have e9:GY true key nonce aad plain (t:Int).toNat=(tB cb nonce plain++tg.take t,0):=by rw[GY,Int.toNat_natCast,hcb,hau,htg];simp only[hc1,cond_true,cond_false]
   rw[e9]
   refine EW.rets (qs:=[.tmp 10,.tmp 11]) (vs:=[.slice o7 (tB cb nonce plain++tg.take t).length k7,.int .i64 0]) rfl ⟨rfl,rfl,trivial⟩ rfl ⟨o7,k7,rfl,f7,?_⟩
   rcases ob7 with h | ⟨g,rest,h1,h2,h3⟩
   ·exact .inl h
   ·exact .inr ⟨g,rest,h1,Nat.le_trans g3.size h2,h3⟩
set_option maxRecDepth 100000
noncomputable def CL (v:Bool) (key nonce aad cip:List UInt8) (t:Nat):List UInt8×Int:=
 bif v then(bif (decide (4096<aad.length)||decide (4096+t<cip.length))then([],8)else bif decide (cip.length<t)then([],2)else
  bif ((uK (tK key) nonce (cip.drop (cip.length-t)++List.replicate (16-t) 0)).take t==(Nf (tK key) nonce aad (tB (tK key) nonce (cip.take (cip.length-t))) t).take t)then(tB (tK key) nonce (cip.take (cip.length-t)),0)else([],11))else([],1)
set_option maxHeartbeats 8000000 in
theorem KW{w:World}{v:Bool}{key nonce aad cip:List UInt8}{kv:Value}{on oa op:Option Addr}{cn ca cp:Nat}{z:Int}
  (hE : ∀(w1:World),Fr [] w w1→∀(x y:List UInt8) (vx vy:Value),DS w1 vx x→DS w1 vy y→Calls Tryz.prog 55 [vx,vy].toArray w1 fun e w'=>e = .returned (.bool (x==y))∧Fr [] w1 w')
  (hV:Calls Tryz.prog 85 [kv,.slice on nonce.length cn,.int .i64 z].toArray w fun e w'=>e = .returned (.bool v)∧Fr [] w w') (hv:v=true→∃t:Nat,z=t∧key.length=16∧7≤nonce.length∧nonce.length≤13∧4≤t∧t≤16)
  (dk:DS w kv key) (dn:DS w (.slice on nonce.length cn) nonce) (da:DS w (.slice oa aad.length ca) aad) (dp:DS w (.slice op cip.length cp) cip) :
  Calls Tryz.prog 52 [kv,.slice on nonce.length cn,.slice oa aad.length ca,.slice op cip.length cp,.int .i64 z].toArray w fun e w'=>∃oo co,e = .returned (.tuple ([.slice oo (CL v key nonce aad cip z.toNat).1.length co,.int .i64 (CL v key nonce aad cip z.toNat).2]:List Value).toArray)∧Fr [] w w'∧OB 5 w.heap.size w' oo co (CL v key nonce aad cip z.toNat).1:=by
 refine enter Tryz.func52 rfl 74 rfl rfl ?_
 refine CW.seq ?_
 refine CW.region ?_
 refine LW.assign wn rfl rfl ?_
 refine LW.assign wn rfl rfl ?_
 refine LW.nil ?_
 refine EW.seq_n ?_
 refine CW.seq ?_
 refine CW.block ?_
 refine CW.seq ?_
 refine CW.region ?_
 refine LW.move wn rfl rfl ?_
 refine LW.move wn rfl rfl ?_
 refine LW.move wn rfl rfl ?_
 refine LW.call ⟨Tryz.f85,Tryz.func85,by kernel_rfl,by kernel_rfl⟩ hV wn rfl rfl ?_
 rintro e1 w1 ⟨rfl,f1⟩
 refine⟨_,rfl,?_⟩
 refine LW.not (k:=some) (r:=!v) rfl wn rfl rfl fun nv hnv=>?_
 obtain rfl:=Option.some.inj hnv
 refine LW.assign wn rfl rfl ?_
 refine LW.nil ?_
 refine EW.seq_n ?_
 refine CW.cond (b:=!v) rfl (fun hc0=>?_) (fun hc0=>?_)
 ·have hvf:v=false:=by cases v with |false=>rfl |true=>cases hc0
  subst hvf
  refine CW.seq ?_
  refine CW.region ?_
  refine LW.assign wn rfl rfl ?_
  refine LW.assign wn rfl rfl ?_
  refine LW.nil ?_
  refine EW.seq_n ?_
  refine CW.ret ?_
  refine EW.block_r ?_
  refine EW.seq_r ?_
  exact EW.rets (qs:=[.tmp 10,.tmp 11]) (vs:=[.slice none 0 0,.int .i64 1]) rfl ⟨rfl,rfl,trivial⟩ rfl ⟨none,0,rfl,f1,.inl ⟨rfl,rfl,rfl⟩⟩
 ·have hvt:v=true:=by cases v with |true=>rfl |false=>cases hc0
  subst hvt
  obtain⟨t,rfl,hkl,hn7,hn13,ht4,ht16⟩:=hv rfl
  refine CW.seq ?_
  refine CW.viaR [(24,.bool (decide (4096<aad.length)||decide (4096+t<cip.length))),(0,kv),(1,.slice on nonce.length cn),(2,.slice oa aad.length ca),(3,.slice op cip.length cp),(4,.int .i64 (t:Int))] ?_ ?_
  ·refine LW.move wn rfl rfl ?_
   refine LW.len fv wn rfl rfl ?_
   refine LW.st (aG.bin (ly (a:=aad.length) (b:=4096)) rfl rfl rfl) rfl ?_
   refine LW.move wn rfl rfl ?_
   cases hg:decide (4096<aad.length)with
   |false=>
    refine LW.move (ws 28 rfl rfl) rfl rfl ?_
    refine LW.len fv (ws 28 rfl rfl) rfl rfl ?_
    refine LW.move (ws 28 rfl rfl) rfl rfl ?_
    refine LW.val rfl (ws 28 rfl rfl) rfl rfl (fun a ha=>dm _ _ _ (ha.eval rfl) (ha.eval rfl) rfl (lB (a:=4096) (b:=t) (by omega))) ?_
    refine LW.val rfl (ws 28 rfl rfl) rfl rfl (fun a ha=>dm _ _ _ (ha.eval rfl) (ha.eval rfl) rfl (ly (a:=cip.length) (b:=4096+t))) ?_
    refine LW.pick_f wn rfl rfl rfl ?_
    refine LW.assign wn rfl rfl ?_
    exact LW.viaNil ⟨rfl,rfl,rfl,rfl,rfl,rfl,trivial⟩
   |true=>
    refine LW.skip 28 rfl rfl rfl rfl ?_
    refine LW.skip 28 rfl rfl rfl rfl ?_
    refine LW.skip 28 rfl rfl rfl rfl ?_
    refine LW.skip 28 rfl rfl rfl rfl ?_
    refine LW.skip 28 rfl rfl rfl rfl ?_
    refine LW.pick_t wn rfl rfl rfl ?_
    refine LW.assign wn rfl rfl ?_
    exact LW.viaNil ⟨rfl,rfl,rfl,rfl,rfl,rfl,trivial⟩
  refine EW.seq_n ?_
  refine CW.cond (b:=decide (4096<aad.length)||decide (4096+t<cip.length)) rfl (fun hc1=>?_) (fun hc1=>?_)
  ·skip
   refine CW.seq ?_
   refine CW.region ?_
   refine LW.assign wn rfl rfl ?_
   refine LW.assign wn rfl rfl ?_
   refine LW.nil ?_
   refine EW.seq_n ?_
   refine CW.ret ?_
   refine EW.block_r ?_
   refine EW.seq_r ?_
   have e8:CL true key nonce aad cip (t:Int).toNat=([],8):=by rw[CL,Int.toNat_natCast];simp only[hc1,cond_true]
   rw[e8]
   exact EW.rets (qs:=[.tmp 10,.tmp 11]) (vs:=[.slice none 0 0,.int .i64 8]) rfl ⟨rfl,rfl,trivial⟩ rfl ⟨none,0,rfl,f1,.inl ⟨rfl,rfl,rfl⟩⟩
  ·have hsz:aad.length≤4096∧cip.length≤4096+t:=by
    simp only[Bool.or_eq_false_iff,decide_eq_false_iff_not]at hc1
    omega
   obtain⟨hsa,hsp⟩:=hsz
   refine CW.seq ?_
   refine CW.region ?_
   refine LW.move wn rfl rfl ?_
   refine LW.len fv wn rfl rfl ?_
   refine LW.move wn rfl rfl ?_
   refine LW.st (aG.bin (gQ (a:=cip.length) (b:=t)) rfl rfl rfl) rfl ?_
   refine LW.assign wn rfl rfl ?_
   refine LW.nil ?_
   refine EW.seq_n ?_
   refine CW.cond (b:=decide (cip.length<t)) rfl (fun hc2=>?_) (fun hc2=>?_)
   ·skip
    refine CW.seq ?_
    refine CW.region ?_
    refine LW.assign wn rfl rfl ?_
    refine LW.assign wn rfl rfl ?_
    refine LW.nil ?_
    refine EW.seq_n ?_
    refine CW.ret ?_
    refine EW.block_r ?_
    refine EW.seq_r ?_
    have e8:CL true key nonce aad cip (t:Int).toNat=([],2):=by rw[CL,Int.toNat_natCast];simp only[hc1,hc2,cond_true,cond_false]
    rw[e8]
    exact EW.rets (qs:=[.tmp 10,.tmp 11]) (vs:=[.slice none 0 0,.int .i64 2]) rfl ⟨rfl,rfl,trivial⟩ rfl ⟨none,0,rfl,f1,.inl ⟨rfl,rfl,rfl⟩⟩
   ·have hlt:t≤cip.length:=by have:=of_decide_eq_false hc2;omega
    refine CW.skip ?_
    refine EW.block_n ?_
    refine EW.seq_n ?_
    refine CW.seq ?_
    refine CW.region ?_
    refine LW.move wn rfl rfl ?_
    refine LW.len fv wn rfl rfl ?_
    refine LW.move wn rfl rfl ?_
    refine LW.st (aG.bin (lF (a:=cip.length) (b:=t) (by omega) (by omega)) rfl rfl rfl) rfl ?_
    refine LW.assign wn rfl rfl ?_
    refine LW.nil ?_
    refine EW.seq_n ?_
    refine CW.seq ?_
    refine CW.region ?_
    refine LW.move wn rfl rfl ?_
    refine LW.call ⟨Tryz.f86,Tryz.func86,by kernel_rfl,by kernel_rfl⟩ (I9 hkl (dk.fr f1)) wn rfl rfl ?_
    rintro e2 w2 ⟨C,rfl,hC,c2,f2⟩
    refine⟨_,rfl,?_⟩
    have hcl:=EU hkl
    generalize hcb:tK key=cb at c2 hcl
    have g2:=f1.tr f2
    have hCl:=c2.lt
    obtain⟨nn,hnn⟩ : ∃nn,nn=cip.length-t:=⟨_,rfl⟩
    rw[←hnn]
    refine LW.assign wn rfl rfl ?_
    refine LW.nil ?_
    refine EW.seq_n ?_
    refine CW.seq ?_
    refine CW.region ?_
    refine LW.allocC (bd (List.replicate 16 0)) mU rfl rfl fun w3 f3 b3 hs3=>?_
    obtain⟨B,hB⟩ : ∃B,B=w2.heap.size:=⟨_,rfl⟩
    rw[←hB]at b3⊢
    have g3:=g2.tr f3
    have c3:=c2.fr f3 (by simp)
    have hCB:C≠B:=by omega
    have dtail:=((dp.fr g3).drop (m:=nn) (by omega))
    have htll:(cip.drop nn).length=t:=by rw[List.length_drop];omega
    refine LW.nil ?_
    refine EW.seq_n ?_
    refine CW.seq ?_
    refine CW.still 4 (by decide) (by kernel_rfl) ?_
    refine LS.st (aG.sliceAll GS FL (by decide) Pt rfl) rfl ?_
    refine LS.st (aG.move rfl) rfl ?_
    refine LS.st (aG.move rfl) rfl ?_
    refine LS.st (aG.cutL (l:=nn) Af LB (by omega) rfl rfl) rfl ?_
    refine LS.nil ?_
    obtain⟨oq,cq,hvq,_,hhq⟩:=dtail.ex
    obtain⟨adq,hadq,_,_⟩:=hhq 0 _ (r_ (by omega))
    have hvq1:(if cp=nn then op else op.map (·.add (nn*1)))=some adq:=by injection hvq with h1;rw[h1,hadq]
    rw[hvq1]at dtail⊢
    refine LW.copyA (ad:=adq) (vs:=bd (cip.drop nn)) (n:=t) (b3.drawn _) fv Og (by rw[an,htll]) (by omega) (fun j v hj=>?_) (by rw[an];simp;omega) (dB _) rfl rfl rfl fun w4 f4 gt=>?_
    ·obtain⟨oq2,cq2,hvq2,_,hh2⟩:=dtail.ex
     injection hvq2 with h1
     obtain⟨ad2,g1,_,g3⟩:=hh2 j v hj
     rw[←h1]at g1
     cases g1
     exact g3
    have hgot:(bd (List.replicate 16 (0:UInt8))).take 0++bd (cip.drop nn)++(bd (List.replicate 16 0)).drop (0+t)=bd (cip.drop nn++List.replicate (16-t) 0):=by
     have e16:bd (List.replicate 16 (0:UInt8))=List.replicate 16 (.int .u8 0):=rfl
     rw[e16,Nat.zero_add,List.drop_replicate,List.take_zero,List.nil_append,MV]
     congr 1
     rw[bd,List.map_replicate];rfl
    rw[hgot]at gt
    obtain⟨got,hgt⟩ : ∃got,got=cip.drop nn++List.replicate (16-t) 0:=⟨_,rfl⟩
    rw[←hgt]at gt
    have hgl:got.length=16:=by rw[hgt,List.length_append,htll,List.length_replicate];omega
    have c4:=(c3.drawn _).fr f4 (by simpa using hCB)
    have g4:Fr [] w w4:=g3.trans f4.ofDraw (fun q hq=>.inr (by have:q=B:=(by simpa using hq);have:=g2.size;omega))
    obtain⟨txt,htx⟩ : ∃txt,txt=cip.take nn:=⟨_,rfl⟩
    have htl:txt.length=nn:=by rw[htx,List.length_take];omega
    have dtx:DS w (.slice op txt.length cp) txt:=by rw[htl,htx];exact dp.take (by omega)
    refine LW.nil ?_
    refine EW.seq_n ?_
    refine CW.seq ?_
    refine CW.drawW 12 (fun j wz v=>match j with
     |0=>v = .pointer (some ⟨C,0,none⟩)
     |1=>v = .slice on nonce.length cn
     |2=>v = .slice op cip.length cp
     |3=>v = .int .i64 (nn:Int)
     |4=>v = .slice op nn cp
     |5=>v = .agg (bd got).toArray
     |6 |7=>∃oo co,v = .tuple ([.slice oo txt.length co,.agg (bd (uK cb nonce got)).toArray]:List Value).toArray∧OB 5 w4.heap.size wz oo co (tB cb nonce txt)
     |8 |11=>∃oo co,v = .slice oo txt.length co∧OB 5 w4.heap.size wz oo co (tB cb nonce txt)
     |9=>v = .agg (bd (uK cb nonce got)).toArray
     |10=>∃S,v = .pointer (some ⟨S,0,none⟩)∧ed wz S 132 (bd (List.replicate 16 0))∧w4.heap.size≤S
     |_=>True) (fun wz=>Fr [] w4 wz) (by decide) (by kernel_rfl) ?_ (fun w1 h=>h) ?_ ?_
    ·intro j wz wz' v hs hb hr
     have fz:Fr [] wz { wz' with os:=wz.os,tape:=wz.tape,output:=wz.output }:=⟨rfl,rfl,rfl,hs,fun b h _=>hb b h⟩
     match j,hr with
     |0,hr |1,hr |2,hr |3,hr |4,hr |5,hr |9,hr=>exact hr
     |6,⟨oo,co,h1,h2⟩ |7,⟨oo,co,h1,h2⟩ |8,⟨oo,co,h1,h2⟩ |11,⟨oo,co,h1,h2⟩=>exact⟨oo,co,h1,(show OB 5 w4.heap.size { wz' with os:=wz.os,tape:=wz.tape,output:=wz.output } oo co _ from h2.fr fz)⟩
     |10,⟨S,h1,h2,h3⟩=>exact⟨S,h1,(show ed { wz' with os:=wz.os,tape:=wz.tape,output:=wz.output } S _ _ from h2.fr fz (by simp)),h3⟩
     |n+12,_=>trivial
    ·exact aR (aR (aR (aR (aR (aR (aR (aR (aR (aR (aR (aR (I5) (⟨_,_,rfl,rfl,fun F lab w hF hj hq=>LW.move wn rfl (hF 13 _ rfl) (LW.nil fun a ha=>⟨rfl,lab,_,ha,rfl,Ke.refl,hq⟩)⟩)) (⟨_,_,rfl,rfl,fun F lab w hF hj hq=>LW.move wn rfl (hF 1 _ rfl) (LW.nil fun a ha=>⟨rfl,lab,_,ha,rfl,Ke.refl,hq⟩)⟩)) (⟨_,_,rfl,rfl,fun F lab w hF hj hq=>LW.move wn rfl (hF 3 _ rfl) (LW.nil fun a ha=>⟨rfl,lab,_,ha,rfl,Ke.refl,hq⟩)⟩)) (⟨_,_,rfl,rfl,fun F lab w hF hj hq=>LW.move wn rfl (hF 12 _ rfl) (LW.nil fun a ha=>⟨rfl,lab,_,ha,rfl,Ke.refl,hq⟩)⟩)) (⟨_,_,rfl,rfl,fun F lab w hF hj hq=>by
      obtain⟨v2,h2,rfl⟩:=hj 2 (by decide) (by kernel_rfl)
      obtain⟨v3,h3,rfl⟩:=hj 3 (by decide) (by kernel_rfl)
      exact LW.st (aG.cutH (h:=nn) Af LB (by have:=dp.len.2;omega) h2 h3) rfl (LW.nil fun a ha=>⟨rfl,lab,_,ha,rfl,Ke.refl,hq⟩)⟩)) (⟨_,_,rfl,rfl,fun F lab w hF hj hq=>LW.st (aG.loadCn (vs:=bd got) (gt.fr hq (by simp)) lO (by rw[an,hgl]) (eT hgl) (hF 14 _ rfl)) rfl (LW.nil fun a ha=>⟨rfl,lab,_,ha,rfl,Ke.refl,hq⟩)⟩)) (⟨_,_,rfl,rfl,fun F lab wx hF hj hq=>by
      obtain⟨v0,h0,rfl⟩:=hj 0 (by decide) (by kernel_rfl)
      obtain⟨v1,h1,rfl⟩:=hj 1 (by decide) (by kernel_rfl)
      obtain⟨v4,h4,rfl⟩:=hj 4 (by decide) (by kernel_rfl)
      obtain⟨v5,h5,rfl⟩:=hj 5 (by decide) (by kernel_rfl)
      refine LW.call ⟨Tryz.f87,Tryz.func87,by kernel_rfl,by kernel_rfl⟩ (vs:=[_,_,_,_]) (y9 (text:=txt) hcl (by omega) hn13 (by omega) hgl (c4.fr hq (by simp)) (dn.fr (g4.tr hq)) ((dtx.fr (g4.tr hq)))) wn rfl (p8 h0 (p8 h1 (p8 (by rw[htl]at *;exact h4) (p8 h5 Me)))) ?_
      rintro e5 w5 ⟨o5,k5,rfl,f5,ob5⟩
      refine⟨_,rfl,LW.nil fun a ha=>⟨rfl,lab,_,ha,⟨o5,k5,rfl,?_⟩,f5.ke,hq.tr f5⟩⟩
      rcases ob5 with h | ⟨g,rest,e1,e2,e3⟩
      ·exact .inl h
      ·exact .inr ⟨g,rest,e1,Nat.le_trans hq.size e2,e3⟩⟩)) (⟨_,_,rfl,rfl,fun F lab w hF hj hq=>by
      obtain⟨v6,h6,hr6⟩:=hj 6 (by decide) (by kernel_rfl)
      exact LW.move wn rfl h6 (LW.nil fun a ha=>⟨rfl,lab,_,ha,hr6,Ke.refl,hq⟩)⟩)) (⟨_,_,rfl,rfl,fun F lab w hF hj hq=>by
      obtain⟨v7,h7,o7,k7,rfl,ob7⟩:=hj 7 (by decide) (by kernel_rfl)
      exact LW.extract wn rfl h7 rfl (LW.nil fun a ha=>⟨rfl,lab,_,ha,⟨o7,k7,rfl,ob7⟩,Ke.refl,hq⟩)⟩)) (⟨_,_,rfl,rfl,fun F lab w hF hj hq=>by
      obtain⟨v7,h7,o7,k7,rfl,ob7⟩:=hj 7 (by decide) (by kernel_rfl)
      exact LW.extract wn rfl h7 rfl (LW.nil fun a ha=>⟨rfl,lab,_,ha,rfl,Ke.refl,hq⟩)⟩)) (⟨_,_,rfl,rfl,fun F lab wx hF hj hq=>LW.allocC (bd (List.replicate 16 0)) mU rfl rfl fun w6 f6 c6 hs6=>LW.nil fun a ha=>⟨rfl,lab,_,ha,⟨_,rfl,c6,hq.size⟩,f6.ke,hq.tr f6⟩⟩)) (⟨_,_,rfl,rfl,fun F lab w hF hj hq=>by
      obtain⟨v8,h8,o8,k8,rfl,ob8⟩:=hj 8 (by decide) (by kernel_rfl)
      exact LW.assign wn rfl h8 (LW.nil fun a ha=>⟨rfl,lab,_,ha,⟨o8,k8,rfl,ob8⟩,Ke.refl,hq⟩)⟩)
    intro F w6 hF hV g46
    obtain⟨vb,hvb,ob,kb,rfl,obb⟩:=hV 11 (by decide)
    obtain⟨vs,hvs,S,rfl,sS,hSl⟩:=hV 10 (by decide)
    obtain⟨vt,hvt,rfl⟩:=hV 9 (by decide)
    have htgl:=lw (cb:=cb) (nonce:=nonce) hgl
    generalize htg:uK cb nonce got=tg at htgl hvt
    have hSo:yc S ob:=by
     rcases obb with⟨rfl,_⟩ | ⟨g,rest,rfl,_,hc,_⟩
     ·trivial
     ·intro e
      have e:g=S:=e
      subst e
      have h1:=hc.symm.trans sS
      injection h1 with h1
      injection h1 with _ h2
      cases h2
    refine LW.storeN (vs:=bd tg) (n:=16) sS lO (by rw[an,htgl]) (by rw[an];decide) (dB _) hvs hvt fun w7 f7 s7=>?_
    rw[eO (by rw[an];decide)]at s7
    have ob7:=obb.frX f7 hSo
    have g7:Fr [] w4 w7:=g46.trans f7 (fun q hq=>.inr (by have:q=S:=(by simpa using hq);omega))
    refine LW.nil ?_
    refine EW.seq_n ?_
    refine CW.sub (G:=[(15,.slice ob txt.length kb),(16,.pointer (some ⟨S,0,none⟩)),(13,.pointer (some ⟨C,0,none⟩)),(1,.slice on nonce.length cn),(2,.slice oa aad.length ca),(4,.int .i64 (t:Int))]) ⟨hvb,hvs,hF 13 _ rfl,hF 1 _ rfl,hF 2 _ rfl,hF 4 _ rfl,trivial⟩ ?_
    refine CW.seq ?_
    refine CW.region ?_
    refine LW.move wn rfl rfl ?_
    refine LW.move wn rfl rfl ?_
    refine LW.move wn rfl rfl ?_
    refine LW.move wn rfl rfl ?_
    refine LW.move wn rfl rfl ?_
    refine LW.call ⟨Tryz.f88,Tryz.func88,by kernel_rfl,by kernel_rfl⟩ (Fd (tag:=t) (plain:=tB cb nonce txt) hcl (by omega) hn13 ht4 ht16 (by omega) (by rw[mO];omega) (c4.fr g7 (by simp)) (dn.fr (g4.tr g7)) (da.fr (g4.tr g7)) ob7.ds) wn rfl (by rw[mO];rfl) ?_
    rintro e8 w8 ⟨rfl,f8⟩
    refine⟨_,rfl,?_⟩
    have hal:=sr cb nonce aad (tB cb nonce txt) t
    generalize hau:Nf cb nonce aad (tB cb nonce txt) t=au at hal
    have ob8:=ob7.fr f8
    have s8:=s7.fr f8 (by simp)
    refine LW.allocC (bd (List.replicate 16 0)) mU rfl rfl fun w9 f9 u9 hs9=>?_
    obtain⟨U,hU⟩ : ∃U,U=w8.heap.size:=⟨_,rfl⟩
    rw[←hU]at u9⊢
    have hUo:yc U ob:=ob8.off (by omega)
    have hSU:S≠U:=fun e=>by have:=s8.lt;omega
    refine LW.storeN (vs:=bd au) (n:=16) u9 lO (by rw[an,hal]) (by rw[an];decide) (dB _) rfl rfl fun wA fA uA=>?_
    rw[eO (by rw[an];decide)]at uA
    have sA:=(s8.fr f9 (by simp)).fr fA (by simpa using hSU)
    have obA:=(ob8.fr f9).frX fA hUo
    have gA:Fr [] w wA:=(((g4.tr g7).tr f8).tr f9).trans fA (fun q hq=>.inr (by have:q=U:=(by simpa using hq);have:=((g4.tr g7).tr f8).size;omega))
    refine LW.nil ?_
    refine EW.seq_n ?_
    refine CW.seq ?_
    refine CW.seq ?_
    refine CW.still 4 (by decide) (by kernel_rfl) ?_
    refine LS.st (aG.move rfl) rfl ?_
    refine LS.st (aG.sliceHigh (h:=t) GS FL (by omega) (by decide) Pt rfl rfl) rfl ?_
    refine LS.st (aG.move rfl) rfl ?_
    refine LS.st (aG.sliceHigh (h:=t) GS FL (by omega) (by decide) Pt rfl rfl) rfl ?_
    refine LS.nil ?_
    refine LW.call ⟨Tryz.f55,Tryz.func55,by kernel_rfl,by kernel_rfl⟩ (hE _ (gA.tr (Fr.draw _ _)) (tg.take t) (au.take t) _ _ (DS.ofCel (sA.drawn _) (n:=t) (by rw[List.length_take];omega) rfl (by omega) (by decide)) (DS.ofCel (uA.drawn _) (n:=t) (by rw[List.length_take];omega) rfl (by omega) (by decide))) wn rfl rfl ?_
    rintro eB wB ⟨rfl,fB⟩
    have gB:=gA.tr fB.ofDraw
    refine⟨_,rfl,?_⟩
    refine LW.not (k:=some) (r:=!(tg.take t==au.take t)) rfl wn rfl rfl fun nv hnv=>?_
    obtain rfl:=Option.some.inj hnv
    refine LW.nil ?_
    refine EW.seq_n ?_
    refine CW.cond (b:=!(tg.take t==au.take t)) rfl (fun hc3=>?_) (fun hc3=>?_)
    ·skip
     refine CW.seq ?_
     refine CW.region ?_
     refine LW.assign wn rfl rfl ?_
     refine LW.assign wn rfl rfl ?_
     refine LW.nil ?_
     refine EW.seq_n ?_
     refine CW.ret ?_
     refine EW.seq_r ?_
     have hq:(tg.take t==au.take t)=false:=by simpa using hc3
     have e8:CL true key nonce aad cip (t:Int).toNat=([],11):=by rw[CL,Int.toNat_natCast,←hnn,←hgt,←htx,hcb,htg,hau];simp only[hc1,hc2,hq,cond_true,cond_false]
     rw[e8]
     exact EW.rets (qs:=[.tmp 10,.tmp 11]) (vs:=[.slice none 0 0,.int .i64 11]) rfl ⟨rfl,rfl,trivial⟩ rfl ⟨none,0,rfl,gB,.inl ⟨rfl,rfl,rfl⟩⟩
    ·skip
     refine CW.skip ?_
     refine EW.seq_n ?_
     refine CW.seq ?_
     refine CW.region ?_
     refine LW.move wn rfl rfl ?_
     refine LW.assign wn rfl rfl ?_
     refine LW.assign wn rfl rfl ?_
     refine LW.nil ?_
     refine EW.seq_n ?_
     refine CW.ret ?_
     have hq:(tg.take t==au.take t)=true:=by simpa using hc3
     have e8:CL true key nonce aad cip (t:Int).toNat=(tB cb nonce txt,0):=by rw[CL,Int.toNat_natCast,←hnn,←hgt,←htx,hcb,htg,hau];simp only[hc1,hc2,hq,cond_true,cond_false]
     rw[e8]
     refine EW.rets (qs:=[.tmp 10,.tmp 11]) (vs:=[.slice ob (tB cb nonce txt).length kb,.int .i64 0]) rfl ⟨by rw[mO];rfl,rfl,trivial⟩ rfl ⟨ob,kb,rfl,gB,?_⟩
     have obB:=(show OB 5 w4.heap.size { wA with drawn:=wA.drawn+1 } ob kb _ from obA).fr fB
     rcases obB with h | ⟨g,rest,h1,h2,h3⟩
     ·exact .inl h
     ·exact .inr ⟨g,rest,h1,Nat.le_trans g4.size h2,h3⟩
end Go.Proofs.YthejfljhiaeoeaaGreatDoor
