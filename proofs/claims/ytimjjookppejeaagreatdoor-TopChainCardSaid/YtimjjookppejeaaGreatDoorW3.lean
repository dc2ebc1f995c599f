/- A part of the proof of TopChain. No condition. -/
import Derived.Test.YtimjjookppejeaaGreatDoorZm
namespace Go.Proofs.YtimjjookppejeaaGreatDoor
open Go.Gk Go.RowKit
open Go.Ed (K kv iv dK t6 jH pO uB bP nB Ex jq)
set_option maxRecDepth 100000
def PA(p:ak):Ex:=⟨kf p.1,kf p.2.1,kf p.2.2.1,kf p.2.2.2⟩
def PR(p:ak)(P:K×K):Prop:=(p.1.length=4∧p.2.1.length=4∧p.2.2.1.length=4∧p.2.2.2.length=4)∧(PA p).reps P
def GR(g:aJ):Prop:=(g.1.length=4∧g.2.length=4)∧kf g.1=dK∧kf g.2=dK+dK
theorem Hc{f:List UInt64}{x:K}(h:vl f=x.val):kf f=x:=by unfold kf;rw[h,Go.Ed.kv_of]
theorem Jv(x:UInt64):kf [x,ab 0,ab 0,ab 0]=kv x.toNat:=by unfold kf;rw[Js]
theorem Ec{a b c:K}(hc:c≠0)(h:b*c=a):a*iv c=b:=by rw[←h,Fin.mul_assoc,Go.Ed.mul_iv hc,Fin.mul_one]
theorem Jp : ∃d,iz=some d∧d.length=4∧kf d=dK:=by
 obtain⟨a,a1,a2,a3⟩:=mO (f:=List.replicate 4 (0:UInt64)) (g:=[121665,ab 0,ab 0,ab 0]) rfl rfl
 obtain⟨b,b1,b2,b3⟩:=Aa (f:=[121666,ab 0,ab 0,ab 0]) rfl
 obtain⟨c,c1,c2,c3⟩:=eK a2 b2
 refine⟨c,?_,c2,?_⟩
 ·unfold iz
  rw[a1,ae,b1,ae,c1,ae]
 ·rw[c3,a3,b3,Jv,Jv,nz]
  exact Ec (by decide +kernel) (by decide +kernel)
theorem AR : ∃g,eM=some g∧GR g:=by
 obtain⟨a,a1,a2,a3⟩:=Jp
 obtain⟨b,b1,b2,b3⟩:=qD a2 a2
 exact⟨(a,b),by unfold eM;rw[a1,ae,b1,ae],⟨a2,b2⟩,a3,by rw[←a3];exact b3⟩
theorem Db : ∃p,jo=some p∧PR p pO:=by
 refine⟨_,rfl,⟨rfl,rfl,rfl,rfl⟩,?_⟩
 unfold PA
 rw[sM,nz]
 exact Go.Ed.exO_reps
theorem py{g:aJ}{p q:ak}{P Q:K×K}(hg:GR g)(hp:PR p P)(hq:PR q Q)(oP:t6 P)(oQ:t6 Q): ∃r,bz g p q=some r∧PR r (jH P Q):=by
 obtain⟨⟨g1,g2⟩,g3,g4⟩:=hg
 obtain⟨⟨p1,p2,p3,p4⟩,p5⟩:=hp
 obtain⟨⟨q1,q2,q3,q4⟩,q5⟩:=hq
 obtain⟨x3,a3,b3,c3⟩:=mO p2 p1
 obtain⟨x4,a4,b4,c4⟩:=mO q2 q1
 obtain⟨x5,a5,b5,c5⟩:=eK b3 b4
 obtain⟨x6,a6,b6,c6⟩:=qD p2 p1
 obtain⟨x7,a7,b7,c7⟩:=qD q2 q1
 obtain⟨x8,a8,b8,c8⟩:=eK b6 b7
 obtain⟨x9,a9,b9,c9⟩:=eK p4 g2
 obtain⟨x10,a10,b10,c10⟩:=eK b9 q4
 obtain⟨x11,a11,b11,c11⟩:=eK p3 q3
 obtain⟨x12,a12,b12,c12⟩:=qD b11 b11
 obtain⟨x13,a13,b13,c13⟩:=mO b8 b5
 obtain⟨x14,a14,b14,c14⟩:=mO b12 b10
 obtain⟨x15,a15,b15,c15⟩:=qD b12 b10
 obtain⟨x16,a16,b16,c16⟩:=qD b8 b5
 obtain⟨x17,a17,b17,c17⟩:=eK b13 b14
 obtain⟨x18,a18,b18,c18⟩:=eK b15 b16
 obtain⟨x19,a19,b19,c19⟩:=eK b14 b15
 obtain⟨x20,a20,b20,c20⟩:=eK b13 b16
 refine⟨(x17,x18,x19,x20),?_,⟨b17,b18,b19,b20⟩,?_⟩
 ·unfold bz
  rw[a3,ae,a4,ae,a5,ae,a6,ae,a7,ae,a8,ae,a9,ae,a10,ae,a11,ae,a12,ae,a13,ae,a14,ae,a15,ae,a16,ae,a17,ae,a18,ae,a19,ae,a20,ae]
 ·have h:=Go.Ed.exAdd_reps p5 q5 oP oQ
  have e:PA (x17,x18,x19,x20)=jq (PA p) (PA q):=by
   unfold PA jq
   dsimp only
   rw[c17,c18,c19,c20,c13,c14,c15,c16,c12,c11,c10,c9,c8,c7,c6,c5,c4,c3,g4]
  rw[e]
  exact h
theorem wD{g:aJ}{k:List UInt64}{p:ak}{a:Nat}(hg:GR g)(hk:k.length=4)(hp:PR p (nB a)): ∃r,cI g k p=some r∧PR r (nB (vl k*a)):=by
 obtain⟨o,o1,o2⟩:=Db
 unfold cI
 rw[o1,ae]
 refine dL (fun n (s:Int×ak)=>s.1+1=(n:Int)∧n≤256∧PR s.2 (nB (vl k/2^n*a))) _ ?_ bk 256 _ (by rw[eP];omega) ⟨rfl,by omega,?_⟩
 ·rintro n ⟨j,z⟩ self ⟨hj,hn,hz⟩ ih
  have hj:j+1=(n:Int):=hj
  refine bO (gT (fun hc=>?_) (fun hc=>?_))
  ·have hc:0≤j:=of_decide_eq_true hc
   obtain⟨i,rfl⟩ : ∃i:Nat,j=(i:Int):=⟨j.toNat,by omega⟩
   obtain⟨z2,m1,v1⟩:=py hg hz hz (Go.Ed.on_nB _) (Go.Ed.on_nB _)
   rw[Go.Ed.nB_add,←Nat.add_mul]at v1
   have e2:vl k/2^i=vl k/2^n+vl k/2^n+(vl k/2^i)%2:=by
    have:vl k/2^n=vl k/2^i/2:=by rw[Nat.div_div_eq_div_mul,←Nat.pow_succ];congr 2;omega
    omega
   refine lb (fun v:ak=>PR v (nB (vl k/2^i*a))) ?_ ?_
   ·show ∃y,bnd (bz g z z) _=some y∧_
    rw[m1,ae]
    show ∃y,(bnd (quo (i:Int) 64) _)=some y∧_
    rw[Gn (l:=k) (i:=i) (n:=4) hk (by omega) (by omega)]
    by_cases hb:(vl k/2^i)%2=1
    ·rw[hb]at e2
     rw[hb]
     obtain⟨z3,m2,v2⟩:=py hg v1 hp (Go.Ed.on_nB _) (Go.Ed.on_nB _)
     rw[Go.Ed.nB_add,←Nat.succ_mul]at v2
     refine⟨z3,?_,?_⟩
     ·show bnd (bz g z2 p) _=_
      rw[m2];rfl
     ·rw[e2]
      exact v2
    ·have hb:(vl k/2^i)%2=0:=by omega
     rw[hb]at e2
     rw[hb]
     exact⟨z2,rfl,by rw[e2,Nat.add_zero];exact v1⟩
   ·rintro v h1
    refine bO ?_
    rw[cn (by show _≤(i:Int)-1∧(i:Int)-1<_;omega)]
    exact ih i _ (by omega) ⟨by show(i:Int)-1+1=_;omega,by omega,h1⟩
  ·have hc : ¬0≤j:=of_decide_eq_false hc
   obtain rfl:n=0:=by omega
   rw[Nat.pow_zero,Nat.div_one]at hz
   exact⟨z,rfl,hz⟩
 ·have:vl k/2^256=0:=Nat.div_eq_of_lt (by have:=dJ hk;exact this)
  rw[this,Nat.zero_mul]
  exact o2
theorem Kk{p:ak}{P:K×K}(hp:PR p P): ∃r,dE p=some r∧PR r (uB P):=by
 obtain⟨⟨p1,p2,p3,p4⟩,p5,p6,p7,p8⟩:=hp
 obtain⟨x1,a1,b1,c1⟩:=mO uP p1
 obtain⟨x2,a2,b2,c2⟩:=mO uP p4
 refine⟨(x1,p.2.1,p.2.2.1,x2),?_,⟨b1,p2,p3,b2⟩,p5,?_,p7,?_⟩
 ·unfold dE
  rw[a1,ae,a2,ae]
 ·have p6:kf p.1=P.1*kf p.2.2.1:=p6
  show kf x1 = -P.1*kf p.2.2.1
  rw[c1,nz,p6]
  grind -linarith -lia (splits:=0)
 ·have p8:kf p.2.2.2=P.1*P.2*kf p.2.2.1:=p8
  show kf x2 = -P.1*P.2*kf p.2.2.1
  rw[c2,nz,p8]
  grind -linarith -lia (splits:=0)
theorem OL(a:Nat):uB (nB a)=nB ((Go.Ed.pL-1)*a):=Go.Ed.pNeg_eq ⟨a,by
 rw[Nat.sub_mul,Nat.one_mul]
 have:a≤Go.Ed.pL*a:=Nat.le_mul_of_pos_left a (by decide)
 omega⟩
def enc(P:K×K):Nat:=P.2.val+57896044618658097711785492504343953926634992332820282019728792003956564819968*(P.1.val%2)
theorem SY{x b:Nat}(hx:x<9223372036854775808):x ||| 9223372036854775808*b=x+9223372036854775808*b:=by
 have:=Nat.two_pow_add_eq_or_of_lt (i:=63) (b:=x) (by show x<9223372036854775808;omega) b
 rw[show(2:Nat)^63=9223372036854775808 from rfl]at this
 rw[Nat.or_comm,←this,Nat.add_comm]
theorem Si(x:UInt64)(h:x.toNat<2): ∃y:UInt64,@Eq (Option UInt64) (gE .u64 x (UInt64.toNat 63:Int)) (some y)∧y.toNat=9223372036854775808*x.toNat:=by
 refine⟨ab ((x.toNat:Int)*9223372036854775808),rfl,?_⟩
 have h1:=gH ((x.toNat:Int)*9223372036854775808)
 omega
theorem yo{p:ak}{P:K×K}(hp:PR p P): ∃b,db p=some b∧b.length=32∧bn b=enc P:=by
 obtain⟨⟨p1,p2,p3,p4⟩,p5,p6,p7,p8⟩:=hp
 have p5:kf p.2.2.1≠0:=p5
 have p6:kf p.1=P.1*kf p.2.2.1:=p6
 have p7:kf p.2.1=P.2*kf p.2.2.1:=p7
 obtain⟨i,i1,i2,i3⟩:=Aa p3
 obtain⟨u,u1,u2,u3⟩:=eK p1 i2
 obtain⟨x,x1,x2,x3,_⟩:=jU u2
 obtain⟨v,v1,v2,v3⟩:=eK p2 i2
 obtain⟨y,y1,y2,y3,_⟩:=jU v2
 rw[u3,i3,Ec p5 p6.symm]at x3
 rw[v3,i3,Ec p5 p7.symm]at y3
 obtain⟨a0,a1,a2,a3,rfl⟩:=l4 x2
 obtain⟨c0,c1,c2,c3,rfl⟩:=l4 y2
 have hy:vl [c0,c1,c2,c3]<Go.Ed.pP:=by rw[y3];exact P.2.isLt
 have hPd:Go.Ed.pP=57896044618658097711785492504343953926634992332820282019728792003956564819949:=rfl
 have hand:(xi a0 1).toNat=P.1.val%2:=by
  rw[Jm,←x3,tX]
  have:a0.toNat &&& UInt64.toNat 1=a0.toNat%2:=Nat.and_two_pow_sub_one_eq_mod a0.toNat 1
  rw[this];omega
 obtain⟨s,s1,s2⟩:=Si (xi a0 1) (by rw[hand];omega)
 rw[hand]at s2
 have hor:(lf c3 s).toNat=c3.toNat+9223372036854775808*(P.1.val%2):=by
  rw[Mo,s2]
  exact SY (by rw[tX,hPd]at hy;omega)
 obtain⟨b,b1,b2,b3⟩:=wG (f:=[c0,c1,c2,lf c3 s]) rfl
 refine⟨b,?_,b2,?_⟩
 ·unfold db
  rw[i1,ae,u1,ae,x1,ae,v1,ae,y1,ae]
  have q1:b_ 4 3=some 3:=rfl
  have q2:az [c0,c1,c2,c3] (0+((3:Nat):Int))=some c3:=rfl
  have q3:b_ 4 0=some 0:=rfl
  have q4:az [a0,a1,a2,a3] (0+((0:Nat):Int))=some a0:=rfl
  rw[q1,ae,q2,ae,q3,ae,q4,ae]
  show(letm (xi a0 1) fun x10:UInt64=>bnd (gE .u64 x10 (UInt64.toNat 63:Int):Option UInt64) fun x11:UInt64=>letm (lf c3 x11) fun x12:UInt64=>bnd (some 3) fun x13:Nat=>bnd (az [c0,c1,c2,c3] (0+(x13:Int))) fun _=>letm ([c0,c1,c2,c3].set (0+x13) x12) fun x15=>bnd (dp x15) fun x16=>some x16)=some b
  rw[ao]
  refine an s1 ?_
  show(letm (lf c3 s) fun x12:UInt64=>bnd (some 3) fun x13:Nat=>bnd (az [c0,c1,c2,c3] (0+(x13:Int))) fun _=>letm ([c0,c1,c2,c3].set (0+x13) x12) fun x15=>bnd (dp x15) fun x16=>some x16)=some b
  have q5 : [c0,c1,c2,c3].set (0+3) (lf c3 s) = [c0,c1,c2,lf c3 s]:=rfl
  rw[ao,ae,q2,ae,ao,q5,b1,ae]
 ·rw[b3,tX,hor]
  rw[tX]at y3
  unfold enc
  omega
theorem uI : ∀(l:List UInt8) (x:UInt8),bn (l ++ [x])=bn l+256^l.length*x.toNat
 | [],x=>by show x.toNat+256*0=0+256^0*x.toNat;omega
 |y::l,x=>by
  show y.toNat+256*bn (l ++ [x])=y.toNat+256*bn l+256^(l.length+1)*x.toNat
  rw[uI l x,Nat.mul_add,Nat.pow_succ,Nat.mul_comm (256^l.length) 256,Nat.mul_assoc,Nat.add_assoc]
theorem HS : ∀l:List UInt8,bn l<256^l.length
 | []=>by decide
 |y::l=>by
  have h:=HS l
  have hy:=y.toNat_lt
  show y.toNat+256*bn l<256^(l.length+1)
  rw[Nat.pow_succ]
  omega
theorem OH{b:List UInt8}(h:b.length=32): ∃l x,b=l ++ [x]∧l.length=31:=by
 obtain⟨x0,x1,x2,x3,x4,x5,x6,x7,x8,x9,x10,x11,x12,x13,x14,x15,x16,x17,x18,x19,x20,x21,x22,x23,x24,x25,x26,x27,x28,x29,x30,x31,rfl⟩:=tN h
 exact⟨[x0,x1,x2,x3,x4,x5,x6,x7,x8,x9,x10,x11,x12,x13,x14,x15,x16,x17,x18,x19,x20,x21,x22,x23,x24,x25,x26,x27,x28,x29,x30],x31,rfl,rfl⟩
theorem QJ{l:List UInt8}(h:l.length=31)(x y:UInt8):(l ++ [x]).set (0+31) y=l ++ [y]:=by
 rw[Nat.zero_add,←h];simp
theorem RD{l:List UInt8}(h:l.length=31)(x:UInt8):az (l ++ [x]) ((0+31:Nat):Int)=some x:=g8 (by rw[Nat.zero_add,←h];simp)
theorem Tw(x:UInt8):(aj (bits .and .u8 (UInt8.toNat x) (UInt8.toNat 127))).toNat=x.toNat%128:=by
 have : ∀n:Fin 256,(aj (bits .and .u8 ((UInt8.ofNat n.1).toNat:Int) (UInt8.toNat 127))).toNat=(UInt8.ofNat n.1).toNat%128:=by decide +kernel
 have h:=this ⟨x.toNat,x.toNat_lt⟩
 rw[UInt8.ofNat_toNat]at h
 exact h
theorem b7(x:UInt8): ∃y:UInt8,@Eq (Option UInt8) (dW .u8 x (UInt64.toNat 7:Int)) (some y)∧y.toNat=x.toNat/128:=by
 refine⟨aj ((x.toNat:Int)/128),rfl,?_⟩
 have h:=u6 ((x.toNat:Int)/128)
 have:=x.toNat_lt
 omega
theorem tI{g:aJ}{b:List UInt8}{P:K×K}(hg:GR g)(hl0:b.length=32)(hb:bn b=enc P)(oP:t6 P): ∃p,cC g b=some (p,true)∧PR p P:=by
 obtain⟨l,x,rfl,hl⟩:=OH hl0
 clear hl0
 obtain⟨⟨g1,g2⟩,g3,g4⟩:=hg
 have hPd:Go.Ed.pP=57896044618658097711785492504343953926634992332820282019728792003956564819949:=rfl
 have hx:=x.toNat_lt
 have hy:=P.2.isLt
 have hL:=HS l
 rw[uI,hl]at hb
 rw[hl]at hL
 have h256:(256:Nat)^31=452312848583266388373324160190187140051835877600158453279131187530910662656:=by decide +kernel
 rw[h256]at hb hL
 unfold enc at hb
 obtain⟨s,s1,s2⟩:=b7 x
 have hs:s.toNat=P.1.val%2:=by omega
 obtain⟨f,f1,f2,f3⟩:=Ar (b:=l ++ [aj (bits .and .u8 (UInt8.toNat x) (UInt8.toNat 127))]) (by rw[List.length_append,hl];rfl)
 rw[uI,hl,Tw,h256]at f3
 have hf:vl f=P.2.val:=by omega
 have hkf:=Hc hf
 obtain⟨y2,a1,b1,c1⟩:=eK f2 f2
 obtain⟨n,a2,b2,c2⟩:=mO (g:=[1,ab 0,ab 0,ab 0]) b1 rfl
 obtain⟨m,a3,b3,c3⟩:=eK g1 b1
 obtain⟨e,a4,b4,c4⟩:=qD (g:=[1,ab 0,ab 0,ab 0]) b3 rfl
 obtain⟨i,a5,b5,c5⟩:=Aa b4
 obtain⟨v,a6,b6,c6⟩:=eK b2 b5
 have hv:P.1*P.1=kf v:=by
  rw[c6,c5,c4,c3,c2,c1,g3,hkf,sM]
  exact(Go.Ed.dec_v oP).symm
 obtain⟨q,r,a7,b7',c7,d7⟩:=K4 b6 hv
 rw[←hv]at c7
 have hq:=Hc d7
 have hsg:((UInt8.toNat s:Int)==(UInt8.toNat 1:Int))=decide (P.1.val%2=1):=by
  rw[hs,Bool.eq_iff_iff,beq_iff_eq,decide_eq_true_iff]
  show((P.1.val%2:Nat):Int)=((1:Nat):Int)↔_
  omega
 obtain⟨w,a8,b8,c8⟩ : ∃w,(cond (decide (P.1.val%2=1)) (bnd (bA (List.replicate 4 (0:UInt64)) q) fun x27=>some x27) (some q))=some w∧w.length=4∧kf w=P.1:=by
  have hd:=Go.Ed.dec_x c7
  by_cases hc:P.1.val%2=1
  ·rw[if_pos hc]at hd
   obtain⟨w,k1,k2,k3⟩:=mO uP b7'
   refine⟨w,?_,k2,?_⟩
   ·rw[decide_eq_true hc,pZ,k1,ae]
   ·rw[k3,nz,hq,←hd]
    grind -linarith -lia (splits:=0)
  ·rw[if_neg hc]at hd
   exact⟨q,by rw[decide_eq_false hc,eB],b7',by rw[hq,hd]⟩
 obtain⟨t,a9,b9,c9⟩:=eK b8 f2
 have hbad:(letm ((!true)) fun x22=>cond x22 (some true) (letm (((UInt8.toNat s:Int)==(UInt8.toNat 1:Int))) fun x23=>
   cond x23 (letm ((ut .u64 q (List.replicate 4 (0:UInt64)))) fun x24=>some x24) (some false)))=some false:=by
  rw[ao,Bool.not_true,eB,ao,hsg]
  by_cases hc:P.1.val%2=1
  ·rw[decide_eq_true hc,pZ,ao]
   refine congrArg some ((Ae (x:=q) (y:=List.replicate 4 (0:UInt64)) (by rw[b7'];rfl)).trans (decide_eq_false ?_))
   rw[d7]
   intro h0
   exact Go.Ed.dec_0 c7 hc (Fin.ext h0)
  ·rw[decide_eq_false hc,eB]
 refine⟨(w,f,[1,ab 0,ab 0,ab 0],t),?_,⟨b8,f2,rfl,b9⟩,?_⟩
 ·have q1:b_ 32 31=some 31:=rfl
  have hlt:decide (vl f<Go.Ed.pP)=true:=decide_eq_true (by rw[hf];exact hy)
  have q2 : ∀y:UInt8,az (l ++ [y]) (0+((31:Nat):Int))=some y:=fun y=>RD hl y
  unfold cC
  rw[q1,ae,q2,ae]
  refine an s1 ?_
  rw[ae,q2,ae,ao,ae,q2,ae,ao,QJ hl,f1,ae,rz,ae,uV (g:=[18446744073709551597,18446744073709551615,18446744073709551615,9223372036854775807]) f2 rfl,ae,ao,rD,hlt,Bool.not_true,eB,a1,ae,a2,ae,a3,ae,a4,ae,a5,ae,a6,ae,a7,ae]
  refine an hbad ?_
  rw[eB]
  refine an (y:=w) ?_ ?_
  ·rw[ao,hsg]
   exact a8
  ·rw[a9,ae]
 ·refine⟨?_,?_,?_,?_⟩
  ·show kf [1,ab 0,ab 0,ab 0]≠0
   rw[sM];exact Go.Ed.one_ne
  ·show kf w=P.1*kf [1,ab 0,ab 0,ab 0]
   rw[sM,Fin.mul_one,c8]
  ·show kf f=P.2*kf [1,ab 0,ab 0,ab 0]
   rw[sM,Fin.mul_one,hkf]
  ·show kf t=P.1*P.2*kf [1,ab 0,ab 0,ab 0]
   rw[sM,Fin.mul_one,c9,c8,hkf]
theorem Eg : ∃b,gR=some b∧b.length=32∧bn b=enc bP:=by
 obtain⟨a,a1,a2,a3⟩:=Aa (f:=[5,ab 0,ab 0,ab 0]) rfl
 obtain⟨c,c1,c2,c3⟩:=eK (f:=[4,ab 0,ab 0,ab 0]) rfl a2
 obtain⟨d,d1,d2,d3,_⟩:=jU c2
 obtain⟨b,b1,b2,b3⟩:=wG d2
 refine⟨b,?_,b2,?_⟩
 ·unfold gR
  rw[a1,ae,c1,ae,d1,ae,b1,ae]
 ·rw[b3,d3,c3,a3,Jv,Jv,Ec (b:=kv 46316835694926478169428394003475163141307993866256225615783033603165251855960) (by decide +kernel) (by decide +kernel)]
  decide +kernel
theorem zT{g:aJ}{k:List UInt64}(hg:GR g)(hk:k.length=4): ∃b,cf g k=some b∧b.length=32∧bn b=enc (nB (vl k)):=by
 obtain⟨b,b1,b2,b3⟩:=Eg
 obtain⟨p,p1,p2⟩:=tI hg b2 b3 Go.Ed.on_B
 rw[←Go.Ed.nB_1]at p2
 obtain⟨q,q1,q2⟩:=wD hg hk p2
 rw[Nat.mul_one]at q2
 obtain⟨c,c1,c2,c3⟩:=yo q2
 refine⟨c,?_,c2,c3⟩
 unfold cf
 rw[b1,ae,p1,ae,q1,ae,c1,ae]
def CE(ad:ak→ak→Option ak)(eq:List UInt64→List UInt64→Option Bool)(a1:ak):Option Bool:=
 aM (R:=Bool) (S:=(Int×ak)) (fun self3 s2=>
 letm (decide (s2.1<3)) fun x4=>
 cond x4 (bnd (ad s2.2 s2.2) fun x5=>
 letm ((aP (s2.1+1))) fun x6=>
 self3 (x6,x5))
 (bnd (β:=Bool) (bnd (eq s2.2.1 (List.replicate 4 (0:UInt64))) fun x7=>
 cond x7 (bnd (eq s2.2.2.1 s2.2.2.2.1) fun x8=>
 some x8)
 (some false)) fun v9=>
 some v9)) bk (0,a1)
theorem HY(a0:aJ)(a1:ak):cH a0 a1=CE (bz a0) cQ a1:=by delta cH CE;exact Eq.refl _
theorem CL{ad:ak→ak→Option ak}{eq:List UInt64→List UInt64→Option Bool}(a1:ak):CE ad eq a1=bnd (ad a1 a1) fun x5=>bnd (ad x5 x5) fun x5=>bnd (ad x5 x5) fun x5=>bnd (β:=Bool) (bnd (eq x5.1 (List.replicate 4 (0:UInt64))) fun x7=>
  cond x7 (bnd (eq x5.2.1 x5.2.2.1) fun x8=>some x8) (some false)) fun v9=>some v9:=by kernel_rfl
theorem He{p a k:Nat}(hp:Nat.Coprime p 64)(h8:a%8=0)(h0:0<a)(h1:a<8*p)(hk:a+a+(a+a)+(a+a+(a+a))=p*k):False:=by
 obtain⟨c,rfl⟩ : ∃c,a=8*c:=⟨a/8,by omega⟩
 have h:p∣64*c:=⟨k,by rw[←hk];omega⟩
 have h2:=Nat.le_of_dvd (by omega) (hp.dvd_of_dvd_mul_left h)
 omega
theorem Hg{a:Nat}(h:a<57896044618658097711785492504343953926634992332820282019728792003956564819968):a<8*Go.Ed.pL:=Nat.lt_of_lt_of_le h (by decide)
theorem Jk{g:aJ}{p:ak}{a:Nat}(hg:GR g)(hp:PR p (nB a))(h8:a%8=0)(h0:0<a)(h1:a<57896044618658097711785492504343953926634992332820282019728792003956564819968):cH g p=some false:=by
 obtain⟨p2,a1,b1⟩:=py hg hp hp (Go.Ed.on_nB _) (Go.Ed.on_nB _)
 rw[Go.Ed.nB_add]at b1
 obtain⟨p4,a2,b2⟩:=py hg b1 b1 (Go.Ed.on_nB _) (Go.Ed.on_nB _)
 rw[Go.Ed.nB_add]at b2
 obtain⟨p8,a3,b3⟩:=py hg b2 b2 (Go.Ed.on_nB _) (Go.Ed.on_nB _)
 rw[Go.Ed.nB_add]at b3
 obtain⟨⟨l1,l2,l3,l4'⟩,r1,r2,r3,r4⟩:=b3
 have r1:kf p8.2.2.1≠0:=r1
 have r2:kf p8.1=(nB (a+a+(a+a)+(a+a+(a+a)))).1*kf p8.2.2.1:=r2
 have r3:kf p8.2.1=(nB (a+a+(a+a)+(a+a+(a+a)))).2*kf p8.2.2.1:=r3
 have hne:nB (a+a+(a+a)+(a+a+(a+a)))≠pO:=by
  intro h
  obtain⟨k,hk⟩:=Go.Ed.nB_O h
  exact He (by decide) h8 h0 (Hg h1) hk
 rw[HY,CL,a1,ae,a2,ae,a3,ae,sn l1 uP,ae,nz]
 by_cases hc:kf p8.1=0
 ·rw[decide_eq_true hc,pZ,sn l2 l3,ae]
  have hx:(nB (a+a+(a+a)+(a+a+(a+a)))).1=0:=(Go.Ed.mul_zero' (r2.symm.trans hc)).resolve_right r1
  have hy : ¬kf p8.2.1=kf p8.2.2.1:=by
   intro h
   refine hne (Prod.ext hx ?_)
   refine Go.Ed.cancel r1 ?_
   rw[←r3,h]
   exact(Fin.one_mul _).symm
  rw[decide_eq_false hy]
  rfl
 ·rw[decide_eq_false hc]
  rfl
end Go.Proofs.YtimjjookppejeaaGreatDoor
