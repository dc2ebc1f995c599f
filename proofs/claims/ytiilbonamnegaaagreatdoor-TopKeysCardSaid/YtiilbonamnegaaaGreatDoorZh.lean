/- A part of the proof of TopKeys. No condition. -/
import Derived.Test.YtiilbonamnegaaaGreatDoorZg
namespace Go.Proofs.YtiilbonamnegaaaGreatDoor
open Go.Gk Go.RowKit
set_option maxRecDepth 100000
def Bp:List UInt8:=[77,65,67,48]
theorem Lv:bw Bp=some true:=by kernel_rfl
theorem Nq:fG Bp=some true:=by kernel_rfl
noncomputable def PB (p:Tr) (c:List UInt8):Tr:=Tr.mk 4 0 [] [Tr.mk 3 0 Bp [],Tr.mk 2 0 (jO p) [],Tr.mk 2 0 [1] [],Tr.mk 2 0 c []]
theorem FL{p u:Tr}(h:EH p u){c:List UInt8}(hc:c.length≤2000):eU (PB p c)=true:=by
 have o1:eU (Tr.mk 3 0 Bp [])=true:=Jo Lv (by decide)
 have o2:eU (Tr.mk 2 0 (jO p) [])=true:=ld (by have:=h.pl;omega)
 have o3:eU (Tr.mk 2 0 [1] [])=true:=ld (by simp)
 have o4:eU (Tr.mk 2 0 c [])=true:=ld (by omega)
 have n1:=(de 3 0 Bp 0).2
 have n2:=(de 2 0 (jO p) 0).2
 have n3:=(de 2 0 [1] 0).2
 have n4:=(de 2 0 c 0).2
 have e4:Bp.length=4:=rfl
 refine OS (c:=0) (n:=0) ?_ ?_ ?_ ?_
 ·intro y hy
  simp only[List.mem_cons,List.not_mem_nil,or_false]at hy
  rcases hy with rfl |rfl |rfl |rfl<;>assumption
 ·intro y hy
  simp only[List.mem_cons,List.not_mem_nil,or_false]at hy
  rcases hy with rfl |rfl |rfl |rfl
  ·exact qt o1 rfl rfl 7
  ·exact qt o2 rfl rfl 7
  ·exact qt o3 rfl rfl 7
  ·exact qt o4 rfl rfl 7
 ·rw[bC,bC,bC,bC,cU,dD,dD,dD,dD];omega
 ·rw[bh,bh,bh,bh,bP,cV,cV,cV,cV]
  simp only[List.length_append,List.length_nil,List.length_cons]at n1 n2 n3 n4⊢
  have:=h.pl
  omega
theorem PC{p u:Tr}(h:EH p u){c:List UInt8}(hc:c.length≤2000):jk [77,65,67,48] (p,u) [1] [c]=some (aG (PB p c),0):=by
 have o1:eU (Tr.mk 3 0 Bp [])=true:=Jo Lv (by decide)
 have o2:eU (Tr.mk 2 0 (jO p) [])=true:=ld (by have:=h.pl;omega)
 have o3:eU (Tr.mk 2 0 [1] [])=true:=ld (by simp)
 have o4:eU (Tr.mk 2 0 c [])=true:=ld (by omega)
 unfold jk
 refine ac (zL h.hv) ?_
 rw[ab]
 show cond false _ _=_
 rw[aw]
 refine ac Nq ?_
 rw[ab,Bool.not_true,aw]
 refine ac (y:=Tr.mk 3 0 Bp []) ?_ ?_
 ·unfold qw;rw[aF (by decide)];rfl
 refine ac (sP (by have:=h.pl;show(jO p).length≤_;omega)) (ac (sP (b:=[1]) (by simp)) ?_)
 rw[bT,sP (b:=c) (by omega),ae,aF (by simp),ae,eP]
 refine ac (Ls (l:=[Tr.mk 3 0 Bp [],Tr.mk 2 0 (jO p) [],Tr.mk 2 0 [1] [],Tr.mk 2 0 c []]) ?_ (by simp)) ?_
 ·intro y hy
  simp only[List.mem_cons,List.not_mem_nil,or_false]at hy
  rcases hy with rfl |rfl |rfl |rfl<;>assumption
 refine ac (qa (FL h hc)) ?_
 rfl
theorem Te{p u:Tr}(h:EH p u):jh (p,u)=some (p,u):=by
 unfold jh
 exact ac (su h.hv.k1 h.hv.o1) (ac (su h.hv.k2 h.hv.o2) rfl)
theorem Hm{p u:Tr}(h:EH p u){key c:List UInt8}(hk:1≤key.length)(hk2:key.length≤600)(hc:c.length≤2000):
  ∃t:List UInt8,t.length=32∧gQ (p,u) [1] c key=some (((p,u),(c,t)),0)∧gL ((p,u),(c,t)) [1] key=some 0:=by
 have hl:=(cT.1 (FL h hc)).2.2
 obtain⟨t,ht,tl⟩:=L0 (a:=key) (b:=aG (PB p c)) (by omega) (by omega)
 have hcut:Gk.cut t 0 32=some t:=by
  have:=iF (xs:=t) (lo:=0) (hi:=32) (by omega) (by omega)
  rw[List.drop_zero,List.take_of_length_le (by omega)]at this
  exact this
 have hm:gQ (p,u) [1] c key=some (((p,u),(c,t)),0):=by
  unfold gQ
  refine ac (oQ h.hv) ?_
  rw[ab,Bool.not_true,aw]
  refine ac (y:=32) ?_ ?_
  ·exact ac (Lq h.hv h.alg) rfl
  refine ac (y:=false) ?_ ?_
  ·rw[ab]
   refine bo rfl ?_
   rw[ab]
   refine congrArg some ?_
   rw[←Bool.not_eq_true,beq_iff_eq];omega
  rw[aw,ab]
  refine bo (decide_eq_false (by omega)) ?_
  refine ac (PC h hc) ?_
  rw[ab]
  refine bo rfl ?_
  refine ac (Te h) (ac (hD (by omega)) (ac ht ?_))
  rw[hcut,ae,hcut,ae]
 refine⟨t,tl,hm,?_⟩
 unfold gL
 refine ac hm ?_
 rw[ab]
 refine bo rfl ?_
 refine ac (y:=true) ?_ rfl
 unfold bF
 rw[ab]
 exact congrArg some (beq_self_eq_true t)
noncomputable def u7 (p u:Tr) (c t:List UInt8):Tr:=Tr.mk 6 17 [] [Tr.mk 4 0 [] [Tr.mk 2 0 (jO p) [],u,Tr.mk 2 0 c [],Tr.mk 2 0 t []]]
theorem Br{p u:Tr}(h:EH p u){c t:List UInt8}(hc:c.length≤600)(ht:t.length≤100):eU (u7 p u c t)=true∧(aG (u7 p u c t)).length≤3000∧1≤(aG (u7 p u c t)).length:=by
 have o2:eU (Tr.mk 2 0 (jO p) [])=true:=ld (by have:=h.pl;omega)
 have o3:eU (Tr.mk 2 0 c [])=true:=ld (by omega)
 have o4:eU (Tr.mk 2 0 t [])=true:=ld (by omega)
 have n2:=(de 2 0 (jO p) 0).2
 have n3:=(de 2 0 c 0).2
 have n3':=(de 2 0 t 0).2
 have n4:=(de 4 0 [] (0+1+1+1+1)).2
 have n6:=de 6 17 [] (0+1)
 rw[List.length_nil]at n4 n6
 have hpl:=h.pl
 have hul:=h.ul
 have huc:=h.uc
 have hlen:(aG (u7 p u c t)).length≤3000∧1≤(aG (u7 p u c t)).length:=by
  unfold u7
  rw[fJ,bh,bP,fJ,bh,bh,bh,bh,bP,cV,cV,cV]
  simp only[List.length_append,List.length_nil,List.length_cons]at n2 n3 n3' n4 n6⊢
  omega
 refine⟨cT.2 ⟨?_,?_,by omega⟩,hlen⟩
 ·unfold u7
  have hv:vT (Tr.mk 4 0 [] [Tr.mk 2 0 (jO p) [],u,Tr.mk 2 0 c [],Tr.mk 2 0 t []]) 7=true:=by
   rw[od,Bool.or_eq_true]
   refine .inr ?_
   rw[Bool.and_eq_true,Bool.and_eq_true]
   refine⟨⟨rfl,I2 fun y hy=>?_⟩,rfl⟩
   simp only[List.mem_cons,List.not_mem_nil,or_false]at hy
   rcases hy with rfl |rfl |rfl |rfl
   ·exact qt o2 rfl rfl 6
   ·exact h.ud
   ·exact qt o3 rfl rfl 6
   ·exact qt o4 rfl rfl 6
  rw[od,Bool.or_eq_true]
  refine .inr ?_
  rw[Bool.and_eq_true,Bool.and_eq_true,fH,kV,hv]
  exact⟨⟨rfl,rfl⟩,rfl⟩
 ·unfold u7
  rw[fc,bC,cU,fc,bC,bC,bC,bC,cU,dD,dD,dD];omega
theorem Cv{p u:Tr}(h:EH p u){c t:List UInt8}(hc:c.length≤600)(ht:t.length≤100):iP 17 ((p,u),(c,t))=some (aG (u7 p u c t),0):=by
 unfold iP
 refine ac (zL h.hv) ?_
 refine ac (y:=false) rfl ?_
 rw[aw]
 refine ac (sP (by have:=h.pl;show(jO p).length≤_;omega)) (ac (sP (b:=c) (by omega)) ?_)
 refine ac (y:=[Tr.mk 2 0 (jO p) [],u,Tr.mk 2 0 c [],Tr.mk 2 0 t []]) ?_ ?_
 ·rw[ab]
  refine eQ rfl ?_
  exact ac (sP (b:=t) (by omega)) (ac (aF (by simp)) rfl)
 rw[ab]
 have e17:aB 17=17:=rfl
 rw[e17]
 refine ac (qa (Br h hc ht).1) ?_
 rfl
theorem C8{p u:Tr}(h:EH p u){c t:List UInt8}(hc:c.length≤600)(ht:t.length≤100):iS (aG (u7 p u c t))=some (17,(((p,u),(c,t)),0)):=by
 have hf:iR (u7 p u c t)=some (17,[Tr.mk 2 0 (jO p) [],u,Tr.mk 2 0 c [],Tr.mk 2 0 t []]):=by
  unfold iR u7
  refine ac (y:=false) rfl ?_
  rw[aw]
  refine ac (y:=[2,5,2,2]) rfl ?_
  refine ac (y:=Tr.mk 4 0 [] [Tr.mk 2 0 (jO p) [],u,Tr.mk 2 0 c [],Tr.mk 2 0 t []]) rfl ?_
  rw[ab]
  show cond false _ _=_
  rw[aw,bT]
  show cF _ _ [5,2,2] 1 ()=_
  rw[bT]
  show(letm (u.k != 5) fun x20=>cond x20 _ _)=_
  rw[ab,h.hv.k2]
  rfl
 unfold iS
 refine ac (nf (Br h hc ht).1) ?_
 rw[ab]
 show cond false _ _=_
 rw[aw]
 refine ac hf ?_
 refine ac (y:=false) rfl ?_
 rw[aw]
 refine ac (y:=(Tr.mk 5 0 [] [],Tr.mk 5 0 [] [])) rfl ?_
 refine ac (y:=Tr.mk 2 0 c []) rfl (ac (y:=u) rfl ?_)
 refine fF (y:=((((Tr.mk 0 0 [] []),(Tr.mk 0 0 [] [])),([],[])),((p,u),(c,[])))) ?_ ?_
 ·refine ac (y:=Tr.mk 2 0 (jO p) []) rfl ?_
  rw[ab]
  show cond (decide (0<((jO p).length:Int))) _ _=_
  obtain⟨pe,_,_⟩:=ji h.hv.k1 h.hv.o1
  unfold jO
  cases hl:p.l with
  |nil=>
   show some (Sum.inr _)=_
   rw[pe,hl];rfl
  |cons a b=>
   have hpos:1≤(aG p).length:=by have:=IZ p;rw[wr,List.length_append];omega
   show cond (decide (0<((aG p).length:Int))) _ _=_
   rw[decide_eq_true (by omega),bf]
   refine ac (y:=Tr.mk 2 0 (aG p) []) rfl ?_
   refine ac (nf h.hv.o1) ?_
   refine ac (y:=false) ?_ ?_
   ·show(letm ((p.l.length:Int)==0) fun x13=>some x13)=some false
    rw[ab,hl,List.length_cons]
    refine congrArg some ?_
    rw[←Bool.not_eq_true,beq_iff_eq];omega
   ·rfl
 ·refine ac (y:=((p,u),(c,t))) ?_ ?_
  ·rw[ab]
   refine eQ rfl ?_
   exact ac (y:=Tr.mk 2 0 t []) rfl rfl
  refine ac (oQ h.hv) ?_
  rfl
theorem PV{c:List UInt8}(h:c.length≤3000):Ev (0,(2,(0,([],([],c)))))=true:=by
 have hlen:(uH (0,(2,(0,([],([],c)))))).length≤3100:=by
  have e5:(nY c).length≤c.length+1:=by
   unfold nY
   cases decide (0<(c.length:Int))with
   |true=>rw[cond_true,List.length_cons];omega
   |false=>simp
  have e4:=B9 [] 0
  unfold uH
  simp only[List.length_append,List.length_cons,List.length_nil]at e4⊢
  have e6:Jc []=0:=rfl
  omega
 unfold Ev
 rw[Bool.and_eq_true]
 constructor
 ·unfold Dx
  show(!(decide ((0:Int)<0))&&!(decide ((3:Int)<0))&&!(decide ((2:Int)<0))&&!(decide ((255:Int)<2))&&O5 (2/32)&&!(decide ((0:Int)<0))&&!(decide ((65535:Int)<0))&&!(decide ((8:Int)<0))&&!(decide ((32:Int)<0))&&n8 0 []&&!(((2:Int)==0)&&_)&&!(((0:Int)==3)&&!((2:Int)==0))&&decide ((c.length:Int)≤4096))=true
  rw[decide_eq_true (p:=(c.length:Int)≤4096) (by omega)]
  rfl
 ·exact decide_eq_true (by omega)
set_option maxRecDepth 100000
theorem zy:fD=some true:=by kernel_rfl
theorem zR{d:ah}(h:bM d){n:Nat}(hn:n≤100): ∃r,ce d (n:Int)=some r∧r.1.length≤n∧bM r.2:=by
 unfold ce
 obtain⟨v,d1,e1,v0,v1,h1⟩:=bB h (n:=(n:Int)+1) (by omega) (by omega)
 rw[ab,an (x:=(n:Int)+1) (by omega) (by omega),e1,ae]
 refine fy (S:=List UInt8×(Int×ah)) (R:=List UInt8×ah) (fun m s=>(s.2.1=(m:Int))∧s.1.length+m≤n∧bM s.2.2) (fun r=>r.1.length≤n∧bM r.2) ?_ bA v.toNat ([],(v,d1)) (by rw[cG];omega) ⟨by show v=_;omega,by show 0+v.toNat≤n;omega,h1⟩
 rintro m s self ⟨i1,i2,i3⟩ ih
 refine bH (dt (fun hc=>?_) (fun hc=>⟨_,rfl,(show s.1.length≤n by omega),i3⟩))
 have hc:0<s.2.1:=of_decide_eq_true hc
 obtain⟨w,d2,e2,w0,w1,h2⟩:=bB i3 (n:=256) (by omega) (by omega)
 rw[e2,ae]
 refine bH ?_
 rw[aF (xs:=s.1) (by simp only[List.length_cons,List.length_nil];omega),ae]
 refine bH ?_
 rw[an (x:=s.2.1-1) (by omega) (by omega)]
 exact ih (m-1) _ (by omega) ⟨by show s.2.1-1=_;omega,by show(s.1 ++ [_]).length+_≤n;rw[List.length_append];simp only[List.length_cons,List.length_nil];omega,h2⟩
theorem wa(z:Int): ∃b,dH z=some b∧b.length=32:=by
 unfold dH
 refine fy (S:=List UInt8×Int) (fun n s=>s.2+(n:Int)=32∧0≤s.2∧(s.1.length:Int)=s.2) (fun b:List UInt8=>b.length=32) ?_ bA 32 ([],0) (by rw[cG];omega) ⟨by omega,by omega,rfl⟩
 rintro n ⟨b,i⟩ self ⟨h1,h2,h3⟩ ih
 have h1:i+(n:Int)=32:=h1
 have h2:0≤i:=h2
 have h3:(b.length:Int)=i:=h3
 refine bH (dt (fun hc=>?_) (fun hc=>?_))
 ·have hc:i<32:=of_decide_eq_true hc
  obtain⟨j,rfl⟩ : ∃j:Nat,i=(j:Int):=⟨i.toNat,by omega⟩
  have hr:Gk.rem ((j:Nat):Int) 8=some ((j%8:Nat):Int):=FA (a:=j) (b:=8) (by omega)
  have hq:quo ((j:Nat):Int) 8=some ((j/8:Nat):Int):=NI (a:=j) (b:=8) (by omega) (by omega)
  refine bH ?_
  rw[hr,ae]
  refine bH (bH ?_)
  obtain⟨y,hy⟩:=F8 (aB z) (8*aB ((j%8:Nat):Int))
  refine gh (fun _=>True) ⟨y,hy,trivial⟩ (fun y _=>?_)
  refine B4 (fun _=>?_)
  rw[hq,ae]
  refine bH (B4 (fun _=>B4 (fun _=>?_)))
  refine HP (by simp only[List.length_cons,List.length_nil];omega) (fun q hq=>bH ?_)
  simp only[List.length_cons,List.length_nil]at hq
  rw[an (x:=(j:Int)+1) (by omega) (by omega)]
  exact ih (n-1) _ (by omega) ⟨by show(j:Int)+1+_=_;omega,by show 0≤(j:Int)+1;omega,by show(q.length:Int)=_;omega⟩
 ·have hc : ¬i<32:=of_decide_eq_false hc
  exact⟨b,rfl,by omega⟩
theorem G0{d:ah}(h:bM d): ∃r,eZ d=some r∧KV r.1∧bM r.2:=by
 obtain⟨x1,e1,l1,h1⟩:=zR h (n:=4) (by omega)
 have e1:ce d 4=some x1:=e1
 unfold eZ
 rw[e1,ae]
 obtain⟨v2,d2,e2,a2,b2,h2⟩:=bB h1 (n:=5) (by omega) (by omega)
 rw[e2,ae]
 obtain⟨x3,e3,m3⟩:=oB [(0:Int),0,10,-8,5] a2 b2
 have m3:x3∈([0,10,-8,5]:List Int):=by
  simp only[List.mem_cons,List.not_mem_nil,or_false]at m3⊢
  rcases m3 with e |e |e |e |e<;>simp[e]
 rw[e3,ae]
 obtain⟨v4,d4,e4,a4,b4,h4⟩:=bB h2 (n:=3) (by omega) (by omega)
 rw[e4,ae]
 refine bH (dt (fun _=>?_) (fun _=>?_))
 ·obtain⟨x6,e6,l6,h6⟩:=zR h4 (n:=20) (by omega)
  have e6:ce d4 20=some x6:=e6
  rw[e6,ae]
  refine HP (by simp only[List.length_cons,List.length_nil];omega) (fun x7 h7=>⟨_,rfl,⟨l1,m3,.inl ⟨rfl,rfl,rfl,rfl,?_,?_⟩⟩,h6⟩)
  ·simp only[List.length_cons,List.length_nil]at h7;show 1≤x7.length;omega
  ·simp only[List.length_cons,List.length_nil]at h7;show x7.length≤32;omega
 ·obtain⟨v8,d8,e8,a8,b8,h8⟩:=bB h4 (n:=2) (by omega) (by omega)
  rw[e8,ae]
  obtain⟨x9,e9,m9⟩:=oB [(4:Int),6] a8 b8
  have m9:x9=4∨x9=6:=by simpa using m9
  rw[e9,ae]
  refine gh (fun v:ah×aD=>KV v.2∧bM v.1) ?_ (fun v hv=>⟨_,rfl,hv.1,hv.2⟩)
  obtain⟨v10,d10,e10,a10,b10,h10⟩:=bB h8 (n:=3) (by omega) (by omega)
  rw[e10,ae]
  refine bH (dt (fun _=>?_) (fun _=>bH (dt (fun _=>?_) (fun _=>?_))))
  ·obtain⟨v12,d12,e12,_,_,h12⟩:=bB h10 (n:=1073741824) (by omega) (by omega)
   obtain⟨s,es,ls⟩:=wa v12
   rw[e12,ae,es,ae]
   exact⟨_,rfl,⟨l1,m3,.inr ⟨rfl,m9,.inr ls,.inl rfl,.inl ls,rfl⟩⟩,h12⟩
  ·obtain⟨v12,d12,e12,_,_,h12⟩:=bB h10 (n:=1073741824) (by omega) (by omega)
   obtain⟨s,es,ls⟩:=wa v12
   rw[e12,ae,es,ae]
   exact⟨_,rfl,⟨l1,m3,.inr ⟨rfl,m9,.inl rfl,.inr ls,.inr ls,rfl⟩⟩,h12⟩
  ·obtain⟨v12,d12,e12,_,_,h12⟩:=bB h10 (n:=1073741824) (by omega) (by omega)
   obtain⟨s,es,ls⟩:=wa v12
   rw[e12,ae,es,ae]
   obtain⟨v13,d13,e13,_,_,h13⟩:=bB h12 (n:=1073741824) (by omega) (by omega)
   obtain⟨s2,es2,ls2⟩:=wa v13
   rw[e13,ae,es2,ae]
   exact⟨_,rfl,⟨l1,m3,.inr ⟨rfl,m9,.inr ls,.inr ls2,.inl ls,rfl⟩⟩,h13⟩
theorem JE{k:aD}(h:KV k): ∃r,lz k=some r∧True:=by
 unfold lz
 rw[zx h,ae]
 refine bH (dt (fun _=>⟨_,rfl,trivial⟩) (fun _=>?_))
 have go:KV (k.1,(k.2.1,(0,([],(k.2.2.2.2.1,([],k.2.2.2.2.2.2))))))→∃r,(bnd (jm (k.1,(k.2.1,(0,([],(k.2.2.2.2.1,([],k.2.2.2.2.2.2))))))) fun x6=>bnd (f0 x6.1) fun x7=>some (x7,(0:Int)))=some r∧True:=by
  intro h2
  have hl:=yv h2
  obtain⟨t,ht,_⟩:=BL (b:=aG (iX (k.1,(k.2.1,(0,([],(k.2.2.2.2.1,([],k.2.2.2.2.2.2)))))))) (by omega)
  rw[xo h2,ae]
  exact⟨_,ac ht rfl,trivial⟩
 rcases h.kind with⟨k1,k2,k3,k4,k5,k6⟩ | ⟨k1,k2,k3,k4,k5,k6⟩
 ·have h2:KV (k.1,(k.2.1,(0,([],(k.2.2.2.2.1,([],k.2.2.2.2.2.2)))))):=⟨by simp,by simp,.inl ⟨k1,k2,k3,rfl,k5,k6⟩⟩
  refine gh (fun v=>v=false) ?_ (fun v hv=>?_)
  ·refine bH (dt (fun hc=>?_) (fun _=>⟨_,rfl,rfl⟩))
   rw[k1]at hc;cases hc
  ·subst hv;rw[aw];exact go h2
 ·rcases k3 with k3 |k3
  ·refine gh (fun v=>v=true) ?_ (fun v hv=>?_)
   ·refine bH (dt (fun _=>bH ⟨_,rfl,?_⟩) (fun hc=>?_))
    ·rw[k3];rfl
    ·rw[k1]at hc;cases hc
   ·subst hv;rw[bf];exact⟨_,rfl,trivial⟩
  ·have h2:KV (k.1,(k.2.1,(0,([],(k.2.2.2.2.1,([],k.2.2.2.2.2.2)))))):=⟨by simp,by simp,.inr ⟨k1,k2,.inr k3,.inl rfl,.inl k3,k6⟩⟩
   refine gh (fun v=>v=false) ?_ (fun v hv=>?_)
   ·refine bH (dt (fun _=>bH ⟨_,rfl,?_⟩) (fun _=>⟨_,rfl,rfl⟩))
    rw[k3];rfl
   ·subst hv;rw[aw];exact go h2
theorem BF(a0:List Int)(a1:List UInt8)(h0:a0.length≤maxLen):jc a0 a1=some true:=by
 unfold jc
 have hsh:jD a1=some (decide ((a1.length:Int)≤600)):=rfl
 by_cases hs:a1.length≤600∧1≤a1.length
 ·refine ac (y:=false) ?_ ?_
  ·rw[hsh,ae,decide_eq_true (by omega),ab,Bool.not_true,aw,ab]
   refine congrArg some ?_
   rw[←Bool.not_eq_true,beq_iff_eq];omega
  rw[aw]
  have h1:bM (a0,0):=NX h0
  obtain⟨⟨k,d2⟩,e2,hk,h2⟩:=G0 h1
  have hk:KV k:=hk
  obtain⟨⟨⟨p,u⟩,d3⟩,e3,h3,g3⟩:=AS h2
  have EHd:EH p u:=HS.eh g3
  have hlen:=yv hk
  obtain⟨t,lt,em,ec⟩:=Hm EHd (key:=a1) (c:=aG (iX k)) hs.2 hs.1 (by omega)
  have eE:=Cv EHd (c:=aG (iX k)) (t:=t) (by omega) (by omega)
  have eD:=C8 EHd (c:=aG (iX k)) (t:=t) (by omega) (by omega)
  obtain⟨_,el,_⟩:=Br EHd (c:=aG (iX k)) (t:=t) (by omega) (by omega)
  generalize hB:aG (u7 p u (aG (iX k)) t)=B at eE eD el
  obtain⟨me,md,_⟩:=SK (PV (c:=B) el)
  obtain⟨ps,ep⟩:=Eg hk
  obtain⟨q,eq,_⟩:=JE hk
  refine ac (y:=(a0,0)) rfl (ac e2 (ac (xo hk) (ac e3 (ac em (ac eE (ac me ?_))))))
  refine ac (y:=false) rfl ?_
  rw[aw]
  refine ac md (ac eD (ac (EL hk) (ac (uX hk) (ac ep (ac (Q_ hk) (ac ep (ac eq (ac eq ?_))))))))
  refine ac (y:=true) ?_ rfl
  show(bnd (gL ((p,u),(aG (iX k),t)) [1] a1) fun x36=>letm ((x36==0)) fun x37=>cond x37 (letm ((ps==ps)) fun x38=>cond x38 (letm ((q.2==q.2)) fun x39=>cond x39 (letm ((q.1==q.1)) fun x40=>cond x40 (bnd (fD) fun x41=>some x41) (some false)) (some false)) (some false)) (some false))=_
  refine ac ec ?_
  rw[ab]
  refine eQ rfl ?_
  rw[ab,beq_self_eq_true,bf,ab,beq_self_eq_true,bf,ab,beq_self_eq_true,bf,zy,ae]
 ·refine ac (y:=true) ?_ ?_
  ·rw[hsh,ae]
   by_cases h6:a1.length≤600
   ·rw[decide_eq_true (by omega),ab,Bool.not_true,aw,ab]
    refine congrArg some ?_
    rw[beq_iff_eq];omega
   ·rw[decide_eq_false (by omega),ab,Bool.not_false,bf]
  ·rw[bf,zy,ae]
end Go.Proofs.YtiilbonamnegaaaGreatDoor
