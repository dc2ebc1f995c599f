/- A part of the proof of TopChain. No condition. -/
import Derived.Test.YtimjjookppejeaaGreatDoorZf
import Derived.Test.YtimjjookppejeaaGreatDoorZk
namespace Go.Proofs.YtimjjookppejeaaGreatDoor
open Go.Gk Go.RowKit
set_option maxRecDepth 100000
theorem dL{S R:Type}{b:(S→Option R)→S→Option R}(I:Nat→S→Prop)(Q:R→Prop)(hb : ∀n s self,I n s→(∀m s',m<n→I m s'→∃r,self s'=some r∧Q r)→∃r,b self s=some r∧Q r): ∀(f n:Nat) (s:S),n<f→I n s→∃r,aM b f s=some r∧Q r
 |0,n,s,h,_=>absurd h (Nat.not_lt_zero _)
 |f+1,n,s,h,hI=>by
  rw[nZ]
  exact hb n s _ hI fun m s' hm hI'=>dL I Q hb f m s' (by omega) hI'
theorem lb{α β:Type}{X:Option β}{K:β→Option α}(P:β→Prop){Q:α→Prop}(h : ∃y,X=some y∧P y)(k : ∀y,P y→∃r,K y=some r∧Q r): ∃r,bnd X K=some r∧Q r:=by
 obtain⟨y,rfl,hy⟩:=h
 exact k y hy
theorem bO{α β:Type}{e:β}{K:β→Option α}{Q:α→Prop}(k : ∃r,K e=some r∧Q r): ∃r,letm e K=some r∧Q r:=k
theorem gT{α:Type}{c:Bool}{x y:Option α}{Q:α→Prop}(h1:c=true→∃r,x=some r∧Q r)(h2:c=false→∃r,y=some r∧Q r): ∃r,cond c x y=some r∧Q r:=by
 cases c with
 |true=>exact h1 rfl
 |false=>exact h2 rfl
theorem cn{x:Int}(h : -9223372036854775808≤x∧x<9223372036854775808):aP x=x:=qP h.1 h.2
def vl:List UInt64→Nat
 | []=>0
 |x::l=>x.toNat+18446744073709551616*vl l
theorem l4{l:List UInt64}(h:l.length=4): ∃a b c d,l = [a,b,c,d]:=by
 match l,h with
 | [a,b,c,d],_=>exact⟨a,b,c,d,rfl⟩
theorem l8{l:List UInt64}(h:l.length=8): ∃a b c d e f g i,l = [a,b,c,d,e,f,g,i]:=by
 match l,h with
 | [a,b,c,d,e,f,g,i],_=>exact⟨a,b,c,d,e,f,g,i,rfl⟩
theorem tX(a b c d:UInt64):vl [a,b,c,d]=a.toNat+18446744073709551616*b.toNat+340282366920938463463374607431768211456*c.toNat+6277101735386680763835789423207666416102355444464034512896*d.toNat:=by
 simp only[vl];omega
theorem Jq : ∀l:List UInt64,vl l<2^(64*l.length)
 | []=>by decide
 |x::l=>by
  have:=Jq l
  have hx:=x.toNat_lt
  rw[List.length_cons,show 64*(l.length+1)=64+64*l.length by omega,Nat.pow_add]
  show x.toNat+18446744073709551616*vl l<18446744073709551616*2^(64*l.length)
  generalize 2^(64*l.length)=p at this
  omega
theorem dJ{l:List UInt64}(h:l.length=4):vl l<115792089237316195423570985008687907853269984665640564039457584007913129639936:=by
 have:=Jq l
 rw[h]at this
 exact this
theorem wI{n:Nat}(h:n<18446744073709551616):(UInt64.ofNat n).toNat=n:=UInt64.toNat_ofNat_of_lt' h
theorem iL(x y c:UInt64)(hc:c.toNat≤1): ∃s d,bl x y c=some (s,d)∧s.toNat+18446744073709551616*d.toNat=x.toNat+y.toNat+c.toNat∧d.toNat≤1:=by
 have hx:=x.toNat_lt
 have hy:=y.toNat_lt
 refine⟨_,_,by unfold bl;rw[Nat.ble_eq.mpr hc],?_,?_⟩
 ·rw[wI (Nat.mod_lt _ (by omega)),wI (by omega)];omega
 ·rw[wI (by omega)];omega
theorem zm(x y c:UInt64)(hc:c.toNat≤1): ∃s d,jK x y c=some (s,d)∧s.toNat+y.toNat+c.toNat=x.toNat+18446744073709551616*d.toNat∧d.toNat≤1:=by
 have hx:=x.toNat_lt
 have hy:=y.toNat_lt
 refine⟨_,_,by unfold jK;rw[Nat.ble_eq.mpr hc],?_,?_⟩
 ·rw[wI (Nat.mod_lt _ (by omega))]
  cases hb:Nat.blt x.toNat (y.toNat+c.toNat)with
  |true=>
   have:=Nat.blt_eq.mp hb
   rw[cond_true]
   show _=_+18446744073709551616*1
   omega
  |false=>
   have : ¬x.toNat<y.toNat+c.toNat:=fun h=>by rw[Nat.blt_eq.mpr h]at hb;cases hb
   rw[cond_false]
   show _=_+18446744073709551616*0
   omega
 ·cases Nat.blt x.toNat (y.toNat+c.toNat)with
  |true=>exact Nat.le_refl 1
  |false=>exact Nat.zero_le 1
theorem DJ(a b c d x y z t:UInt64):ck [a,b,c,d] [x,y,z,t]=bnd (bl a x 0) fun r=>bnd (bl b y r.2) fun s=>bnd (bl c z s.2) fun u=>bnd (bl d t u.2) fun v=>some ([r.1,s.1,u.1,v.1],v.2):=by kernel_rfl
theorem yM(a b c d x y z t:UInt64):bV [a,b,c,d] [x,y,z,t]=bnd (jK a x 0) fun r=>bnd (jK b y r.2) fun s=>bnd (jK c z s.2) fun u=>bnd (jK d t u.2) fun v=>some ([r.1,s.1,u.1,v.1],v.2):=by kernel_rfl
theorem LQ:(0:UInt64).toNat≤1:=by decide
theorem KS:(0:UInt64).toNat=0:=rfl
theorem nY{f g:List UInt64}(hf:f.length=4)(hg:g.length=4): ∃s c,ck f g=some (s,c)∧s.length=4∧vl s+115792089237316195423570985008687907853269984665640564039457584007913129639936*c.toNat=vl f+vl g∧c.toNat≤1:=by
 obtain⟨a,b,c,d,rfl⟩:=l4 hf
 obtain⟨x,y,z,t,rfl⟩:=l4 hg
 obtain⟨s1,d1,e1,v1,c1⟩:=iL a x 0 LQ
 obtain⟨s2,d2,e2,v2,c2⟩:=iL b y d1 c1
 obtain⟨s3,d3,e3,v3,c3⟩:=iL c z d2 c2
 obtain⟨s4,d4,e4,v4,c4⟩:=iL d t d3 c3
 refine⟨[s1,s2,s3,s4],d4,?_,rfl,?_,c4⟩
 ·rw[DJ,e1,ae,e2,ae,e3,ae,e4,ae]
 ·rw[tX,tX,tX];rw[KS]at v1;omega
theorem ib{f g:List UInt64}(hf:f.length=4)(hg:g.length=4): ∃s c,bV f g=some (s,c)∧s.length=4∧vl s+vl g=vl f+115792089237316195423570985008687907853269984665640564039457584007913129639936*c.toNat∧c.toNat≤1:=by
 obtain⟨a,b,c,d,rfl⟩:=l4 hf
 obtain⟨x,y,z,t,rfl⟩:=l4 hg
 obtain⟨s1,d1,e1,v1,c1⟩:=zm a x 0 LQ
 obtain⟨s2,d2,e2,v2,c2⟩:=zm b y d1 c1
 obtain⟨s3,d3,e3,v3,c3⟩:=zm c z d2 c2
 obtain⟨s4,d4,e4,v4,c4⟩:=zm d t d3 c3
 refine⟨[s1,s2,s3,s4],d4,?_,rfl,?_,c4⟩
 ·rw[yM,e1,ae,e2,ae,e3,ae,e4,ae]
 ·rw[tX,tX,tX];rw[KS]at v1;omega
theorem uV{f g:List UInt64}(hf:f.length=4)(hg:g.length=4):eU f g=some (decide (vl f<vl g)):=by
 obtain⟨s,c,e,hs,h,hc⟩:=ib hf hg
 unfold eU
 rw[e,ae,ao]
 have h1:=dJ hf
 have h2:=dJ hg
 have h3:=dJ hs
 congr 1
 rw[Bool.eq_iff_iff,beq_iff_eq,decide_eq_true_iff]
 have e1:UInt64.toNat 1=1:=rfl
 constructor
 ·intro h4
  have:c.toNat=1:=by have h4:(c.toNat:Int)=(UInt64.toNat 1:Int):=h4;omega
  omega
 ·intro h4
  show(c.toNat:Int)=(UInt64.toNat 1:Int)
  omega
open Go.Ed in
def kf(l:List UInt64):K:=kv (vl l)
theorem RB:115792089237316195423570985008687907853269984665640564039457584007913129639936%Go.Ed.pP=38:=by decide
theorem wN(n:Nat):Go.Ed.kv (115792089237316195423570985008687907853269984665640564039457584007913129639936*n)=Go.Ed.kv (38*n):=by
 rw[Go.Ed.kv_eq,Nat.mul_mod,RB,Nat.mul_mod 38 n]
 congr 1
theorem D3{c:UInt64}(h:c.toNat≤38):(38*c).toNat=38*c.toNat:=by
 rw[UInt64.toNat_mul]
 show 38*c.toNat%2^64=_
 exact Nat.mod_eq_of_lt (by omega)
theorem Js(x:UInt64):vl [x,ab 0,ab 0,ab 0]=x.toNat:=by
 have:(ab 0).toNat=0:=rfl
 rw[tX,this];omega
theorem Ew{f:List UInt64}{c:UInt64}(hf:f.length=4)(hc:c.toNat≤38): ∃s d t e,ck f [38*c,ab 0,ab 0,ab 0]=some (s,d)∧ck s [38*d,ab 0,ab 0,ab 0]=some (t,e)∧t.length=4∧kf t=Go.Ed.kv (vl f+38*c.toNat):=by
 obtain⟨s,d,e1,h1,h2,h3⟩:=nY (g:=[38*c,ab 0,ab 0,ab 0]) hf rfl
 obtain⟨t,e,e2,h4,h5,h6⟩:=nY (g:=[38*d,ab 0,ab 0,ab 0]) h1 rfl
 rw[Js,D3 (by omega)]at h2
 rw[Js,D3 (by omega)]at h5
 refine⟨s,d,t,e,e1,e2,h4,?_⟩
 have b1:=dJ hf
 have b2:=dJ h1
 have b3:=dJ h4
 have e0:e.toNat=0:=by omega
 rw[e0]at h5
 unfold kf
 rw[←h2,Go.Ed.kv_add,wN,←Go.Ed.kv_add]
 congr 1
theorem qD{f g:List UInt64}(hf:f.length=4)(hg:g.length=4): ∃s,c_ f g=some s∧s.length=4∧kf s=kf f+kf g:=by
 obtain⟨s,c,e,hs,h,hc⟩:=nY hf hg
 obtain⟨s2,d,t,e2,g1,g2,g3,g4⟩:=Ew (c:=c) hs (by omega)
 refine⟨t,?_,g3,?_⟩
 ·unfold c_
  rw[e,ae,ao,g1,ae,ao,g2,ae]
 ·rw[g4]
  unfold kf
  rw[←Go.Ed.kv_add,←h,Go.Ed.kv_add,Go.Ed.kv_add,wN]
theorem mO{f g:List UInt64}(hf:f.length=4)(hg:g.length=4): ∃s,bA f g=some s∧s.length=4∧kf s=kf f-kf g:=by
 obtain⟨s,c,e,hs,h,hc⟩:=ib hf hg
 obtain⟨s2,d,e1,h1,h2,h3⟩:=ib (g:=[38*c,ab 0,ab 0,ab 0]) hs rfl
 obtain⟨t,q,e2,h4,h5,h6⟩:=ib (g:=[38*d,ab 0,ab 0,ab 0]) h1 rfl
 rw[Js,D3 (by omega)]at h2
 rw[Js,D3 (by omega)]at h5
 have b1:=dJ hf
 have b2:=dJ h1
 have b3:=dJ h4
 have b4:=dJ hs
 have e0:q.toNat=0:=by omega
 rw[e0,Nat.mul_zero,Nat.add_zero]at h5
 refine⟨t,?_,h4,?_⟩
 ·unfold bA
  rw[e,ae,ao,e1,ae,ao,e2,ae]
 ·have k1:=congrArg Go.Ed.kv h
  have k2:=congrArg Go.Ed.kv h2
  have k3:=congrArg Go.Ed.kv h5
  rw[Go.Ed.kv_add,Go.Ed.kv_add,wN]at k1 k2
  rw[Go.Ed.kv_add]at k3
  unfold kf
  generalize Go.Ed.kv (38*c.toNat)=p at *
  generalize Go.Ed.kv (38*d.toNat)=r at *
  grind -linarith -lia (splits:=0)
set_option maxRecDepth 100000
theorem AS(x y:UInt64): ∃h l,au x y=some (h,l)∧l.toNat+18446744073709551616*h.toNat=x.toNat*y.toNat:=by
 refine⟨_,_,rfl,?_⟩
 have hm:=Nat.mul_lt_mul'' x.toNat_lt y.toNat_lt
 rw[wI (Nat.mod_lt _ (by omega)),wI (by omega)];omega
theorem fE(x y z c:UInt64): ∃h l s d t e,au x y=some (h,l)∧bl l z 0=some (s,d)∧bl s c 0=some (t,e)∧t.toNat+18446744073709551616*(h+d+e).toNat=x.toNat*y.toNat+z.toNat+c.toNat:=by
 obtain⟨h,l,e1,v1⟩:=AS x y
 obtain⟨s,d,e2,v2,c2⟩:=iL l z 0 LQ
 obtain⟨t,e,e3,v3,c3⟩:=iL s c 0 LQ
 refine⟨h,l,s,d,t,e,e1,e2,e3,?_⟩
 rw[KS]at v2 v3
 have hx:=x.toNat_lt
 have hy:=y.toNat_lt
 have hz:=z.toNat_lt
 have hc:=c.toNat_lt
 have hm:x.toNat*y.toNat≤18446744073709551615*18446744073709551615:=Nat.mul_le_mul (by omega) (by omega)
 generalize x.toNat*y.toNat=m at v1 hm⊢
 have:(h+d+e).toNat=h.toNat+d.toNat+e.toNat:=by
  rw[UInt64.toNat_add,UInt64.toNat_add,Nat.mod_add_mod]
  exact Nat.mod_eq_of_lt (by omega)
 rw[this];omega
theorem LX(x:Nat)(b0 b1 b2 b3:UInt64):x*vl [b0,b1,b2,b3]=x*b0.toNat+18446744073709551616*(x*b1.toNat)+340282366920938463463374607431768211456*(x*b2.toNat)+6277101735386680763835789423207666416102355444464034512896*(x*b3.toNat):=by
 rw[tX];simp only[Nat.mul_add,Nat.mul_left_comm x]
theorem wP{r0 r1 r2 r3 c0 c1 c2 c3 g0 g1 g2 g3 z0 z1 z2 z3:Nat}(v0:r0+18446744073709551616*c0=g0+z0+0)(v1:r1+18446744073709551616*c1=g1+z1+c0)(v2:r2+18446744073709551616*c2=g2+z2+c1)(v3:r3+18446744073709551616*c3=g3+z3+c2):
  r0+18446744073709551616*(r1+18446744073709551616*(r2+18446744073709551616*(r3+18446744073709551616*c3)))=z0+18446744073709551616*(z1+18446744073709551616*(z2+18446744073709551616*z3))+(g0+18446744073709551616*g1+340282366920938463463374607431768211456*g2+6277101735386680763835789423207666416102355444464034512896*g3):=by
 omega
def zw(i:Int)(x5:UInt64)(a1 z:List UInt64)(self3:Int×List UInt64→Option (List UInt64)):Option (List UInt64):=
 aM (R:=(List UInt64)) (S:=(UInt64×(Int×(List UInt64)))) (fun self7 s6=>
 letm (decide (s6.2.1<4)) fun x8=>
 cond x8 (bnd (az a1 s6.2.1) fun x9=>
 bnd (au x5 x9) fun x10=>
 letm ((aP (i+s6.2.1))) fun x11=>
 bnd (b_ 8 x11) fun x12=>
 bnd (az s6.2.2 ((0+x12):Int)) fun x13=>
 bnd (bl x10.2 x13 0) fun x14=>
 letm ((x10.1+x14.2)) fun x15=>
 bnd (bl x14.1 s6.1 0) fun x16=>
 letm ((aP (i+s6.2.1))) fun x17=>
 letm ((x15+x16.2)) fun x18=>
 bnd (b_ 8 x17) fun x19=>
 bnd (az s6.2.2 ((0+x19):Int)) fun x20=>
 letm ((s6.2.2.set (0+x19) x16.1)) fun x21=>
 letm ((aP (s6.2.1+1))) fun x22=>
 self7 (x18,(x22,x21)))
 (letm ((aP (i+4))) fun x23=>
 bnd (b_ 8 x23) fun x24=>
 bnd (az s6.2.2 ((0+x24):Int)) fun x25=>
 letm ((s6.2.2.set (0+x24) s6.1)) fun x26=>
 letm ((aP (i+1))) fun x27=>
 self3 (x27,x26))) bk (0,(0,z))
theorem KK(a0 a1:List UInt64):gF a0 a1=aM (R:=(List UInt64)) (S:=(Int×(List UInt64))) (fun self3 s2=>
 letm (decide (s2.1<4)) fun x4=>
 cond x4 (bnd (az a0 s2.1) fun x5=>zw s2.1 x5 a1 s2.2 self3)
 (some s2.2)) bk (0,[(ab 0),(ab 0),(ab 0),(ab 0),(ab 0),(ab 0),(ab 0),(ab 0)]):=Eq.trans rfl rfl
def m9(f g:List UInt64)(i:Nat)(z:List UInt64):Prop:=z.length=8∧vl z=vl (f.take i)*vl g∧∀j,4+i≤j→∀y,z[j]?=some y→y=0
theorem Rr(x b0 b1 b2 b3 z0 z1 z2 z3 z4 z5 z6 z7:UInt64)(self:Int×List UInt64→Option (List UInt64)):zw 0 x [b0,b1,b2,b3] [z0,z1,z2,z3,z4,z5,z6,z7] self=bnd (au x b0) fun p0=>bnd (bl p0.2 z0 0) fun q0=>bnd (bl q0.1 (0) 0) fun r0=>bnd (au x b1) fun p1=>bnd (bl p1.2 z1 0) fun q1=>bnd (bl q1.1 (p0.1+q0.2+r0.2) 0) fun r1=>bnd (au x b2) fun p2=>bnd (bl p2.2 z2 0) fun q2=>bnd (bl q2.1 (p1.1+q1.2+r1.2) 0) fun r2=>bnd (au x b3) fun p3=>bnd (bl p3.2 z3 0) fun q3=>bnd (bl q3.1 (p2.1+q2.2+r2.2) 0) fun r3=>self (1,[r0.1,r1.1,r2.1,r3.1,p3.1+q3.2+r3.2,z5,z6,z7]):=by kernel_rfl
theorem Rd(x b0 b1 b2 b3 z0 z1 z2 z3 z4 z5 z6 z7:UInt64)(self:Int×List UInt64→Option (List UInt64)):zw 1 x [b0,b1,b2,b3] [z0,z1,z2,z3,z4,z5,z6,z7] self=bnd (au x b0) fun p0=>bnd (bl p0.2 z1 0) fun q0=>bnd (bl q0.1 (0) 0) fun r0=>bnd (au x b1) fun p1=>bnd (bl p1.2 z2 0) fun q1=>bnd (bl q1.1 (p0.1+q0.2+r0.2) 0) fun r1=>bnd (au x b2) fun p2=>bnd (bl p2.2 z3 0) fun q2=>bnd (bl q2.1 (p1.1+q1.2+r1.2) 0) fun r2=>bnd (au x b3) fun p3=>bnd (bl p3.2 z4 0) fun q3=>bnd (bl q3.1 (p2.1+q2.2+r2.2) 0) fun r3=>self (2,[z0,r0.1,r1.1,r2.1,r3.1,p3.1+q3.2+r3.2,z6,z7]):=by kernel_rfl
theorem PL(x b0 b1 b2 b3 z0 z1 z2 z3 z4 z5 z6 z7:UInt64)(self:Int×List UInt64→Option (List UInt64)):zw 2 x [b0,b1,b2,b3] [z0,z1,z2,z3,z4,z5,z6,z7] self=bnd (au x b0) fun p0=>bnd (bl p0.2 z2 0) fun q0=>bnd (bl q0.1 (0) 0) fun r0=>bnd (au x b1) fun p1=>bnd (bl p1.2 z3 0) fun q1=>bnd (bl q1.1 (p0.1+q0.2+r0.2) 0) fun r1=>bnd (au x b2) fun p2=>bnd (bl p2.2 z4 0) fun q2=>bnd (bl q2.1 (p1.1+q1.2+r1.2) 0) fun r2=>bnd (au x b3) fun p3=>bnd (bl p3.2 z5 0) fun q3=>bnd (bl q3.1 (p2.1+q2.2+r2.2) 0) fun r3=>self (3,[z0,z1,r0.1,r1.1,r2.1,r3.1,p3.1+q3.2+r3.2,z7]):=by kernel_rfl
theorem QL(x b0 b1 b2 b3 z0 z1 z2 z3 z4 z5 z6 z7:UInt64)(self:Int×List UInt64→Option (List UInt64)):zw 3 x [b0,b1,b2,b3] [z0,z1,z2,z3,z4,z5,z6,z7] self=bnd (au x b0) fun p0=>bnd (bl p0.2 z3 0) fun q0=>bnd (bl q0.1 (0) 0) fun r0=>bnd (au x b1) fun p1=>bnd (bl p1.2 z4 0) fun q1=>bnd (bl q1.1 (p0.1+q0.2+r0.2) 0) fun r1=>bnd (au x b2) fun p2=>bnd (bl p2.2 z5 0) fun q2=>bnd (bl q2.1 (p1.1+q1.2+r1.2) 0) fun r2=>bnd (au x b3) fun p3=>bnd (bl p3.2 z6 0) fun q3=>bnd (bl q3.1 (p2.1+q2.2+r2.2) 0) fun r3=>self (4,[z0,z1,z2,r0.1,r1.1,r2.1,r3.1,p3.1+q3.2+r3.2]):=by kernel_rfl
theorem Pe{a0 a1 a2 a3 b0 b1 b2 b3:UInt64}{z:List UInt64}{self:Int×List UInt64→Option (List UInt64)}{Q:List UInt64→Prop}(h:m9 [a0,a1,a2,a3] [b0,b1,b2,b3] 0 z)(hk : ∀z',m9 [a0,a1,a2,a3] [b0,b1,b2,b3] 1 z'→∃r,self (1,z')=some r∧Q r): ∃r,zw 0 a0 [b0,b1,b2,b3] z self=some r∧Q r:=by
 obtain⟨hl,hv,hz⟩:=h
 obtain⟨z0,z1,z2,z3,z4,z5,z6,z7,rfl⟩:=l8 hl
 have e4:z4=0:=hz 4 (by omega) _ rfl
 have e5:z5=0:=hz 5 (by omega) _ rfl
 have e6:z6=0:=hz 6 (by omega) _ rfl
 have e7:z7=0:=hz 7 (by omega) _ rfl
 subst e4 e5 e6 e7
 obtain⟨p0,q0,s0,t0,r0,d0,m0,n0,o0,v0⟩:=fE a0 b0 z0 (0)
 generalize hc0:p0+t0+d0=c0 at v0
 obtain⟨p1,q1,s1,t1,r1,d1,m1,n1,o1,v1⟩:=fE a0 b1 z1 (c0)
 generalize hc1:p1+t1+d1=c1 at v1
 obtain⟨p2,q2,s2,t2,r2,d2,m2,n2,o2,v2⟩:=fE a0 b2 z2 (c1)
 generalize hc2:p2+t2+d2=c2 at v2
 obtain⟨p3,q3,s3,t3,r3,d3,m3,n3,o3,v3⟩:=fE a0 b3 z3 (c2)
 generalize hc3:p3+t3+d3=c3 at v3
 have key:m9 [a0,a1,a2,a3] [b0,b1,b2,b3] 1 [r0,r1,r2,r3,c3,0,0,0]:=by
  refine⟨rfl,?_,?_⟩
  ·rw[KS]at v0
   have z0v:UInt64.toNat 0=0:=rfl
   have hT:vl ([a0,a1,a2,a3].take 1)*vl [b0,b1,b2,b3]=vl ([a0,a1,a2,a3].take 0)*vl [b0,b1,b2,b3]+1*(a0.toNat*vl [b0,b1,b2,b3]):=by
    have:vl ([a0,a1,a2,a3].take 1)=vl ([a0,a1,a2,a3].take 0)+1*a0.toNat:=by simp only[List.take,vl];omega
    rw[this,Nat.add_mul,Nat.mul_assoc]
   rw[hT,←hv,LX]
   generalize a0.toNat*b0.toNat=g0 at v0⊢
   generalize a0.toNat*b1.toNat=g1 at v1⊢
   generalize a0.toNat*b2.toNat=g2 at v2⊢
   generalize a0.toNat*b3.toNat=g3 at v3⊢
   have hA:vl [r0,r1,r2,r3,c3,0,0,0]=vl [z0,z1,z2,z3,0,0,0,0]+(g0+18446744073709551616*g1+340282366920938463463374607431768211456*g2+6277101735386680763835789423207666416102355444464034512896*g3):=by
    have:=wP v0 v1 v2 v3
    simp only[vl,z0v]at this⊢
    clear hv hT hk hz v0 v1 v2 v3
    omega
   clear hv hT hk hz v0 v1 v2 v3
   generalize g0+18446744073709551616*g1+340282366920938463463374607431768211456*g2+6277101735386680763835789423207666416102355444464034512896*g3=X at hA⊢
   show vl [r0,r1,r2,r3,c3,0,0,0]=vl [z0,z1,z2,z3,0,0,0,0]+1*X
   rw[hA]
   generalize vl [z0,z1,z2,z3,0,0,0,0]=B
   omega
  ·intro j hj y hy
   match j,hj,hy with
   |5,_,hy=>cases hy;rfl
   |6,_,hy=>cases hy;rfl
   |7,_,hy=>cases hy;rfl
   | (n+8),_,hy=>cases hy
 obtain⟨r,hr,hq⟩:=hk _ key
 refine⟨r,?_,hq⟩
 rw[Rr,m0,ae,n0,ae,o0,ae,m1,ae,n1,ae,hc0,o1,ae,m2,ae,n2,ae,hc1,o2,ae,m3,ae,n3,ae,hc2,o3,ae,hc3]
 exact hr
theorem Ni{a0 a1 a2 a3 b0 b1 b2 b3:UInt64}{z:List UInt64}{self:Int×List UInt64→Option (List UInt64)}{Q:List UInt64→Prop}(h:m9 [a0,a1,a2,a3] [b0,b1,b2,b3] 1 z)(hk : ∀z',m9 [a0,a1,a2,a3] [b0,b1,b2,b3] 2 z'→∃r,self (2,z')=some r∧Q r): ∃r,zw 1 a1 [b0,b1,b2,b3] z self=some r∧Q r:=by
 obtain⟨hl,hv,hz⟩:=h
 obtain⟨z0,z1,z2,z3,z4,z5,z6,z7,rfl⟩:=l8 hl
 have e5:z5=0:=hz 5 (by omega) _ rfl
 have e6:z6=0:=hz 6 (by omega) _ rfl
 have e7:z7=0:=hz 7 (by omega) _ rfl
 subst e5 e6 e7
 obtain⟨p0,q0,s0,t0,r0,d0,m0,n0,o0,v0⟩:=fE a1 b0 z1 (0)
 generalize hc0:p0+t0+d0=c0 at v0
 obtain⟨p1,q1,s1,t1,r1,d1,m1,n1,o1,v1⟩:=fE a1 b1 z2 (c0)
 generalize hc1:p1+t1+d1=c1 at v1
 obtain⟨p2,q2,s2,t2,r2,d2,m2,n2,o2,v2⟩:=fE a1 b2 z3 (c1)
 generalize hc2:p2+t2+d2=c2 at v2
 obtain⟨p3,q3,s3,t3,r3,d3,m3,n3,o3,v3⟩:=fE a1 b3 z4 (c2)
 generalize hc3:p3+t3+d3=c3 at v3
 have key:m9 [a0,a1,a2,a3] [b0,b1,b2,b3] 2 [z0,r0,r1,r2,r3,c3,0,0]:=by
  refine⟨rfl,?_,?_⟩
  ·rw[KS]at v0
   have z0v:UInt64.toNat 0=0:=rfl
   have hT:vl ([a0,a1,a2,a3].take 2)*vl [b0,b1,b2,b3]=vl ([a0,a1,a2,a3].take 1)*vl [b0,b1,b2,b3]+18446744073709551616*(a1.toNat*vl [b0,b1,b2,b3]):=by
    have:vl ([a0,a1,a2,a3].take 2)=vl ([a0,a1,a2,a3].take 1)+18446744073709551616*a1.toNat:=by simp only[List.take,vl];omega
    rw[this,Nat.add_mul,Nat.mul_assoc]
   rw[hT,←hv,LX]
   generalize a1.toNat*b0.toNat=g0 at v0⊢
   generalize a1.toNat*b1.toNat=g1 at v1⊢
   generalize a1.toNat*b2.toNat=g2 at v2⊢
   generalize a1.toNat*b3.toNat=g3 at v3⊢
   have hA:vl [r0,r1,r2,r3,c3,0,0]=vl [z1,z2,z3,z4,0,0,0]+(g0+18446744073709551616*g1+340282366920938463463374607431768211456*g2+6277101735386680763835789423207666416102355444464034512896*g3):=by
    have:=wP v0 v1 v2 v3
    simp only[vl,z0v]at this⊢
    clear hv hT hk hz v0 v1 v2 v3
    omega
   clear hv hT hk hz v0 v1 v2 v3
   generalize g0+18446744073709551616*g1+340282366920938463463374607431768211456*g2+6277101735386680763835789423207666416102355444464034512896*g3=X at hA⊢
   show z0.toNat+18446744073709551616*(vl [r0,r1,r2,r3,c3,0,0])=z0.toNat+18446744073709551616*(vl [z1,z2,z3,z4,0,0,0])+18446744073709551616*X
   rw[hA]
   generalize vl [z1,z2,z3,z4,0,0,0]=B
   omega
  ·intro j hj y hy
   match j,hj,hy with
   |6,_,hy=>cases hy;rfl
   |7,_,hy=>cases hy;rfl
   | (n+8),_,hy=>cases hy
 obtain⟨r,hr,hq⟩:=hk _ key
 refine⟨r,?_,hq⟩
 rw[Rd,m0,ae,n0,ae,o0,ae,m1,ae,n1,ae,hc0,o1,ae,m2,ae,n2,ae,hc1,o2,ae,m3,ae,n3,ae,hc2,o3,ae,hc3]
 exact hr
theorem Og{a0 a1 a2 a3 b0 b1 b2 b3:UInt64}{z:List UInt64}{self:Int×List UInt64→Option (List UInt64)}{Q:List UInt64→Prop}(h:m9 [a0,a1,a2,a3] [b0,b1,b2,b3] 2 z)(hk : ∀z',m9 [a0,a1,a2,a3] [b0,b1,b2,b3] 3 z'→∃r,self (3,z')=some r∧Q r): ∃r,zw 2 a2 [b0,b1,b2,b3] z self=some r∧Q r:=by
 obtain⟨hl,hv,hz⟩:=h
 obtain⟨z0,z1,z2,z3,z4,z5,z6,z7,rfl⟩:=l8 hl
 have e6:z6=0:=hz 6 (by omega) _ rfl
 have e7:z7=0:=hz 7 (by omega) _ rfl
 subst e6 e7
 obtain⟨p0,q0,s0,t0,r0,d0,m0,n0,o0,v0⟩:=fE a2 b0 z2 (0)
 generalize hc0:p0+t0+d0=c0 at v0
 obtain⟨p1,q1,s1,t1,r1,d1,m1,n1,o1,v1⟩:=fE a2 b1 z3 (c0)
 generalize hc1:p1+t1+d1=c1 at v1
 obtain⟨p2,q2,s2,t2,r2,d2,m2,n2,o2,v2⟩:=fE a2 b2 z4 (c1)
 generalize hc2:p2+t2+d2=c2 at v2
 obtain⟨p3,q3,s3,t3,r3,d3,m3,n3,o3,v3⟩:=fE a2 b3 z5 (c2)
 generalize hc3:p3+t3+d3=c3 at v3
 have key:m9 [a0,a1,a2,a3] [b0,b1,b2,b3] 3 [z0,z1,r0,r1,r2,r3,c3,0]:=by
  refine⟨rfl,?_,?_⟩
  ·rw[KS]at v0
   have z0v:UInt64.toNat 0=0:=rfl
   have hT:vl ([a0,a1,a2,a3].take 3)*vl [b0,b1,b2,b3]=vl ([a0,a1,a2,a3].take 2)*vl [b0,b1,b2,b3]+340282366920938463463374607431768211456*(a2.toNat*vl [b0,b1,b2,b3]):=by
    have:vl ([a0,a1,a2,a3].take 3)=vl ([a0,a1,a2,a3].take 2)+340282366920938463463374607431768211456*a2.toNat:=by simp only[List.take,vl];omega
    rw[this,Nat.add_mul,Nat.mul_assoc]
   rw[hT,←hv,LX]
   generalize a2.toNat*b0.toNat=g0 at v0⊢
   generalize a2.toNat*b1.toNat=g1 at v1⊢
   generalize a2.toNat*b2.toNat=g2 at v2⊢
   generalize a2.toNat*b3.toNat=g3 at v3⊢
   have hA:vl [r0,r1,r2,r3,c3,0]=vl [z2,z3,z4,z5,0,0]+(g0+18446744073709551616*g1+340282366920938463463374607431768211456*g2+6277101735386680763835789423207666416102355444464034512896*g3):=by
    have:=wP v0 v1 v2 v3
    simp only[vl,z0v]at this⊢
    clear hv hT hk hz v0 v1 v2 v3
    omega
   clear hv hT hk hz v0 v1 v2 v3
   generalize g0+18446744073709551616*g1+340282366920938463463374607431768211456*g2+6277101735386680763835789423207666416102355444464034512896*g3=X at hA⊢
   show z0.toNat+18446744073709551616*(z1.toNat+18446744073709551616*(vl [r0,r1,r2,r3,c3,0]))=z0.toNat+18446744073709551616*(z1.toNat+18446744073709551616*(vl [z2,z3,z4,z5,0,0]))+340282366920938463463374607431768211456*X
   rw[hA]
   generalize vl [z2,z3,z4,z5,0,0]=B
   omega
  ·intro j hj y hy
   match j,hj,hy with
   |7,_,hy=>cases hy;rfl
   | (n+8),_,hy=>cases hy
 obtain⟨r,hr,hq⟩:=hk _ key
 refine⟨r,?_,hq⟩
 rw[PL,m0,ae,n0,ae,o0,ae,m1,ae,n1,ae,hc0,o1,ae,m2,ae,n2,ae,hc1,o2,ae,m3,ae,n3,ae,hc2,o3,ae,hc3]
 exact hr
theorem OR{a0 a1 a2 a3 b0 b1 b2 b3:UInt64}{z:List UInt64}{self:Int×List UInt64→Option (List UInt64)}{Q:List UInt64→Prop}(h:m9 [a0,a1,a2,a3] [b0,b1,b2,b3] 3 z)(hk : ∀z',m9 [a0,a1,a2,a3] [b0,b1,b2,b3] 4 z'→∃r,self (4,z')=some r∧Q r): ∃r,zw 3 a3 [b0,b1,b2,b3] z self=some r∧Q r:=by
 obtain⟨hl,hv,hz⟩:=h
 obtain⟨z0,z1,z2,z3,z4,z5,z6,z7,rfl⟩:=l8 hl
 have e7:z7=0:=hz 7 (by omega) _ rfl
 subst e7
 obtain⟨p0,q0,s0,t0,r0,d0,m0,n0,o0,v0⟩:=fE a3 b0 z3 (0)
 generalize hc0:p0+t0+d0=c0 at v0
 obtain⟨p1,q1,s1,t1,r1,d1,m1,n1,o1,v1⟩:=fE a3 b1 z4 (c0)
 generalize hc1:p1+t1+d1=c1 at v1
 obtain⟨p2,q2,s2,t2,r2,d2,m2,n2,o2,v2⟩:=fE a3 b2 z5 (c1)
 generalize hc2:p2+t2+d2=c2 at v2
 obtain⟨p3,q3,s3,t3,r3,d3,m3,n3,o3,v3⟩:=fE a3 b3 z6 (c2)
 generalize hc3:p3+t3+d3=c3 at v3
 have key:m9 [a0,a1,a2,a3] [b0,b1,b2,b3] 4 [z0,z1,z2,r0,r1,r2,r3,c3]:=by
  refine⟨rfl,?_,?_⟩
  ·rw[KS]at v0
   have z0v:UInt64.toNat 0=0:=rfl
   have hT:vl ([a0,a1,a2,a3].take 4)*vl [b0,b1,b2,b3]=vl ([a0,a1,a2,a3].take 3)*vl [b0,b1,b2,b3]+6277101735386680763835789423207666416102355444464034512896*(a3.toNat*vl [b0,b1,b2,b3]):=by
    have:vl ([a0,a1,a2,a3].take 4)=vl ([a0,a1,a2,a3].take 3)+6277101735386680763835789423207666416102355444464034512896*a3.toNat:=by simp only[List.take,vl];omega
    rw[this,Nat.add_mul,Nat.mul_assoc]
   rw[hT,←hv,LX]
   generalize a3.toNat*b0.toNat=g0 at v0⊢
   generalize a3.toNat*b1.toNat=g1 at v1⊢
   generalize a3.toNat*b2.toNat=g2 at v2⊢
   generalize a3.toNat*b3.toNat=g3 at v3⊢
   have hA:vl [r0,r1,r2,r3,c3]=vl [z3,z4,z5,z6,0]+(g0+18446744073709551616*g1+340282366920938463463374607431768211456*g2+6277101735386680763835789423207666416102355444464034512896*g3):=by
    have:=wP v0 v1 v2 v3
    simp only[vl,z0v]at this⊢
    clear hv hT hk hz v0 v1 v2 v3
    omega
   clear hv hT hk hz v0 v1 v2 v3
   generalize g0+18446744073709551616*g1+340282366920938463463374607431768211456*g2+6277101735386680763835789423207666416102355444464034512896*g3=X at hA⊢
   show z0.toNat+18446744073709551616*(z1.toNat+18446744073709551616*(z2.toNat+18446744073709551616*(vl [r0,r1,r2,r3,c3])))=z0.toNat+18446744073709551616*(z1.toNat+18446744073709551616*(z2.toNat+18446744073709551616*(vl [z3,z4,z5,z6,0])))+6277101735386680763835789423207666416102355444464034512896*X
   rw[hA]
   generalize vl [z3,z4,z5,z6,0]=B
   omega
  ·intro j hj y hy
   match j,hj,hy with
   | (n+8),_,hy=>cases hy
 obtain⟨r,hr,hq⟩:=hk _ key
 refine⟨r,?_,hq⟩
 rw[QL,m0,ae,n0,ae,o0,ae,m1,ae,n1,ae,hc0,o1,ae,m2,ae,n2,ae,hc1,o2,ae,m3,ae,n3,ae,hc2,o3,ae,hc3]
 exact hr
theorem DQ{f g:List UInt64}(hf:f.length=4)(hg:g.length=4): ∃z,gF f g=some z∧z.length=8∧vl z=vl f*vl g:=by
 obtain⟨a0,a1,a2,a3,rfl⟩:=l4 hf
 obtain⟨b0,b1,b2,b3,rfl⟩:=l4 hg
 rw[KK]
 refine dL (fun n (s:Int×List UInt64)=>∃i:Nat,s.1=(i:Int)∧i+n=4∧m9 [a0,a1,a2,a3] [b0,b1,b2,b3] i s.2) _ ?_ bk 4 _ (by rw[eP];omega) ⟨0,rfl,rfl,rfl,?_,?_⟩
 ·rintro n ⟨j,z⟩ self ⟨i,hj,hi,hI⟩ ih
  have hj:j=(i:Int):=hj
  refine bO (gT (fun hc=>?_) (fun hc=>?_))
  ·have hc:j<4:=of_decide_eq_true hc
   match i,hi,hI,hj with
   |0,hi,hI,hj=>
    obtain rfl:j=0:=hj
    refine lb (fun y=>y=a0) ⟨a0,rfl,rfl⟩ ?_
    rintro _ rfl
    exact Pe hI fun z' h'=>ih (n-1) (1,z') (by omega) ⟨1,rfl,by omega,h'⟩
   |1,hi,hI,hj=>
    obtain rfl:j=1:=hj
    refine lb (fun y=>y=a1) ⟨a1,rfl,rfl⟩ ?_
    rintro _ rfl
    exact Ni hI fun z' h'=>ih (n-1) (2,z') (by omega) ⟨2,rfl,by omega,h'⟩
   |2,hi,hI,hj=>
    obtain rfl:j=2:=hj
    refine lb (fun y=>y=a2) ⟨a2,rfl,rfl⟩ ?_
    rintro _ rfl
    exact Og hI fun z' h'=>ih (n-1) (3,z') (by omega) ⟨3,rfl,by omega,h'⟩
   |3,hi,hI,hj=>
    obtain rfl:j=3:=hj
    refine lb (fun y=>y=a3) ⟨a3,rfl,rfl⟩ ?_
    rintro _ rfl
    exact OR hI fun z' h'=>ih (n-1) (4,z') (by omega) ⟨4,rfl,by omega,h'⟩
   |m+4,_,_,hj=>omega
  ·have hc : ¬j<4:=of_decide_eq_false hc
   obtain rfl:i=4:=by omega
   exact⟨z,rfl,hI.1,hI.2.1⟩
 ·show 0=0*_
  rw[Nat.zero_mul]
 ·intro j hj y hy
  match j,hj,hy with
  |4,_,hy=>cases hy;rfl
  |5,_,hy=>cases hy;rfl
  |6,_,hy=>cases hy;rfl
  |7,_,hy=>cases hy;rfl
  | (n+8),_,hy=>cases hy
set_option maxRecDepth 100000
def MJ(mu:UInt64→UInt64→Option (UInt64×UInt64))(ad:UInt64→UInt64→UInt64→Option (UInt64×UInt64))(sm:List UInt64→List UInt64→Option (List UInt64×UInt64))(x2 a0:List UInt64):Option (List UInt64):=
 aM (R:=(List UInt64)) (S:=(UInt64×(Int×(List UInt64)))) (fun self4 s3=>
 letm (decide (s3.2.1<4)) fun x5=>
 cond x5 (letm ((aP (s3.2.1+4))) fun x6=>
 bnd (b_ 8 x6) fun x7=>
 bnd (az x2 ((0+x7):Int)) fun x8=>
 bnd (mu x8 38) fun x9=>
 bnd (b_ 8 s3.2.1) fun x10=>
 bnd (az x2 ((0+x10):Int)) fun x11=>
 bnd (ad x9.2 x11 0) fun x12=>
 letm ((x9.1+x12.2)) fun x13=>
 bnd (ad x12.1 s3.1 0) fun x14=>
 letm ((x13+x14.2)) fun x15=>
 bnd (b_ 4 s3.2.1) fun x16=>
 bnd (az s3.2.2 ((0+x16):Int)) fun x17=>
 letm ((s3.2.2.set (0+x16) x14.1)) fun x18=>
 letm ((aP (s3.2.1+1))) fun x19=>
 self4 (x15,(x19,x18)))
 (letm ((38*s3.1)) fun x20=>
 bnd (sm s3.2.2 [x20,(ab 0),(ab 0),(ab 0)]) fun x21=>
 letm ((38*x21.2)) fun x22=>
 bnd (sm x21.1 [x22,(ab 0),(ab 0),(ab 0)]) fun x23=>
 some x23.1)) bk (0,(0,a0))
theorem Ps(a0 a1:List UInt64):aB a0 a1=bnd (gF a0 a1) fun x2=>MJ au bl ck x2 a0:=by delta aB MJ;exact Eq.refl _
theorem H7{mu:UInt64→UInt64→Option (UInt64×UInt64)}{ad:UInt64→UInt64→UInt64→Option (UInt64×UInt64)}{sm:List UInt64→List UInt64→Option (List UInt64×UInt64)}(z0 z1 z2 z3 z4 z5 z6 z7 f0 f1 f2 f3:UInt64):MJ mu ad sm [z0,z1,z2,z3,z4,z5,z6,z7] [f0,f1,f2,f3]=bnd (mu z4 38) fun p0=>bnd (ad p0.2 z0 0) fun q0=>bnd (ad q0.1 0 0) fun r0=>bnd (mu z5 38) fun p1=>bnd (ad p1.2 z1 0) fun q1=>bnd (ad q1.1 (p0.1+q0.2+r0.2) 0) fun r1=>bnd (mu z6 38) fun p2=>bnd (ad p2.2 z2 0) fun q2=>bnd (ad q2.1 (p1.1+q1.2+r1.2) 0) fun r2=>bnd (mu z7 38) fun p3=>bnd (ad p3.2 z3 0) fun q3=>bnd (ad q3.1 (p2.1+q2.2+r2.2) 0) fun r3=>bnd (sm [r0.1,r1.1,r2.1,r3.1] [38*(p3.1+q3.2+r3.2),(ab 0),(ab 0),(ab 0)]) fun x21=>bnd (sm x21.1 [38*x21.2,(ab 0),(ab 0),(ab 0)]) fun x23=>some x23.1:=by kernel_rfl
theorem eK{f g:List UInt64}(hf:f.length=4)(hg:g.length=4): ∃s,aB f g=some s∧s.length=4∧kf s=kf f*kf g:=by
 obtain⟨z,hz,hl,hv⟩:=DQ hf hg
 obtain⟨z0,z1,z2,z3,z4,z5,z6,z7,rfl⟩:=l8 hl
 obtain⟨f0,f1,f2,f3,hfe⟩:=l4 hf
 obtain⟨p0,q0,s0,t0,r0,d0,m0,n0,o0,v0⟩:=fE z4 38 z0 0
 generalize hc0:p0+t0+d0=c0 at v0
 obtain⟨p1,q1,s1,t1,r1,d1,m1,n1,o1,v1⟩:=fE z5 38 z1 c0
 generalize hc1:p1+t1+d1=c1 at v1
 obtain⟨p2,q2,s2,t2,r2,d2,m2,n2,o2,v2⟩:=fE z6 38 z2 c1
 generalize hc2:p2+t2+d2=c2 at v2
 obtain⟨p3,q3,s3,t3,r3,d3,m3,n3,o3,v3⟩:=fE z7 38 z3 c2
 generalize hc3:p3+t3+d3=c3 at v3
 rw[KS]at v0
 have ch:=wP v0 v1 v2 v3
 have e38:UInt64.toNat 38=38:=rfl
 rw[e38]at ch
 have key:vl [r0,r1,r2,r3]+115792089237316195423570985008687907853269984665640564039457584007913129639936*c3.toNat=vl [z0,z1,z2,z3]+38*vl [z4,z5,z6,z7]:=by
  rw[tX,tX,tX];clear v0 v1 v2 v3;omega
 have b1:=dJ (l:=[z0,z1,z2,z3]) rfl
 have b2:=dJ (l:=[z4,z5,z6,z7]) rfl
 have hsp:vl [z0,z1,z2,z3,z4,z5,z6,z7]=vl [z0,z1,z2,z3]+115792089237316195423570985008687907853269984665640564039457584007913129639936*vl [z4,z5,z6,z7]:=by
  show z0.toNat+18446744073709551616*(z1.toNat+18446744073709551616*(z2.toNat+18446744073709551616*(z3.toNat+18446744073709551616*vl [z4,z5,z6,z7])))=_
  rw[tX z0 z1 z2 z3]
  generalize vl [z4,z5,z6,z7]=B
  clear v0 v1 v2 v3 ch key b1 b2 hv
  omega
 obtain⟨s,d,t,e,g1,g2,g3,g4⟩:=Ew (f:=[r0,r1,r2,r3]) (c:=c3) rfl (by clear v0 v1 v2 v3 ch;omega)
 refine⟨t,?_,g3,?_⟩
 ·subst hfe
  rw[Ps,hz,ae,H7,m0,ae,n0,ae,o0,ae,m1,ae,n1,ae,hc0,o1,ae,m2,ae,n2,ae,hc1,o2,ae,m3,ae,n3,ae,hc2,o3,ae,hc3,g1,ae,g2,ae]
 ·rw[g4,Go.Ed.kv_add,←wN,←Go.Ed.kv_add,key,Go.Ed.kv_add,←wN,←Go.Ed.kv_add,←hsp,hv,Go.Ed.kv_mul]
  rfl
theorem gH(x:Int):((ab x).toNat:Int)=x%18446744073709551616:=by
 unfold ab
 rw[UInt64.toNat_ofNat']
 omega
theorem Ja{a b:Nat}(ha:a<18446744073709551616)(hb:b<18446744073709551616):bits .and .u64 (a:Int) (b:Int)=((a &&& b:Nat):Int):=by
 have hx:a &&& b<2^64:=Nat.and_lt_two_pow _ (by omega)
 have h1:(BitVec.ofInt 64 (a:Int)).toNat=a:=by
  rw[BitVec.ofInt_natCast,BitVec.toNat_ofNat];exact Nat.mod_eq_of_lt (by omega)
 have h2:(BitVec.ofInt 64 (b:Int)).toNat=b:=by
  rw[BitVec.ofInt_natCast,BitVec.toNat_ofNat];exact Nat.mod_eq_of_lt (by omega)
 show IntKind.u64.wrap (((BitVec.ofInt 64 (a:Int) &&& BitVec.ofInt 64 (b:Int)).toNat:Nat):Int)=_
 rw[BitVec.toNat_and,h1,h2,lD,gH]
 omega
theorem Kf{a b:Nat}(ha:a<18446744073709551616)(hb:b<18446744073709551616):bits .or .u64 (a:Int) (b:Int)=((a ||| b:Nat):Int):=by
 have hx:a ||| b<2^64:=Nat.or_lt_two_pow (by omega) (by omega)
 have h1:(BitVec.ofInt 64 (a:Int)).toNat=a:=by
  rw[BitVec.ofInt_natCast,BitVec.toNat_ofNat];exact Nat.mod_eq_of_lt (by omega)
 have h2:(BitVec.ofInt 64 (b:Int)).toNat=b:=by
  rw[BitVec.ofInt_natCast,BitVec.toNat_ofNat];exact Nat.mod_eq_of_lt (by omega)
 show IntKind.u64.wrap (((BitVec.ofInt 64 (a:Int) ||| BitVec.ofInt 64 (b:Int)).toNat:Nat):Int)=_
 rw[BitVec.toNat_or,h1,h2,lD,gH]
 omega
theorem H2(x m:UInt64):UInt64.toNat (bB .and .u64 x m)=x.toNat &&& m.toNat:=by
 have h:=Ja x.toNat_lt m.toNat_lt
 have hx:x.toNat &&& m.toNat<2^64:=Nat.and_lt_two_pow _ m.toNat_lt
 show(ab (bits .and .u64 (x.toNat:Int) (m.toNat:Int))).toNat=_
 rw[h]
 have:=gH ((x.toNat &&& m.toNat:Nat):Int)
 omega
theorem Ru(x m:UInt64):UInt64.toNat (bB .or .u64 x m)=x.toNat ||| m.toNat:=by
 have h:=Kf x.toNat_lt m.toNat_lt
 have hx:x.toNat ||| m.toNat<2^64:=Nat.or_lt_two_pow x.toNat_lt m.toNat_lt
 show(ab (bits .or .u64 (x.toNat:Int) (m.toNat:Int))).toNat=_
 rw[h]
 have:=gH ((x.toNat ||| m.toNat:Nat):Int)
 omega
theorem rR(x:UInt64)(n:Nat)(hn:n<64): ∃y,@Eq (Option UInt64) (dW .u64 x (n:Int)) (some y)∧y.toNat=x.toNat/2^n:=by
 refine⟨UInt64.ofNat (x.toNat/2^min ((n:Int)).toNat 64),?_,?_⟩
 ·show we x (n:Int)=_
  unfold we;rw[if_neg (by omega)]
 ·rw[show min ((n:Int)).toNat 64=n by omega]
  refine wI ?_
  have:=Nat.div_le_self x.toNat (2^n)
  have:=x.toNat_lt
  omega
set_option maxRecDepth 100000
theorem FO(a b c d:UInt64):bt [a,b,c,d]=bnd (dW .u64 d (UInt64.toNat 63:Int)) fun y=>bnd (ck [a,b,c,bB .and .u64 d (9223372036854775807:UInt64)] [HMul.hMul (α:=UInt64) (β:=UInt64) 19 y,ab 0,ab 0,ab 0]) fun x11=>bnd ea fun x12=>bnd (bV x11.1 x12) fun x13=>cond ((UInt64.toNat x13.2:Int)==(UInt64.toNat 0:Int)) (some x13.1) (some x11.1):=by kernel_rfl
theorem rD:vl [18446744073709551597,18446744073709551615,18446744073709551615,9223372036854775807]=Go.Ed.pP:=by decide +kernel
theorem I2{f:List UInt64}(hf:f.length=4): ∃s,bt f=some s∧s.length=4∧vl s=vl f%Go.Ed.pP:=by
 obtain⟨a,b,c,d,rfl⟩:=l4 hf
 obtain⟨y,hy,hyv⟩:=rR d 63 (by omega)
 have hd:=d.toNat_lt
 have ha:=a.toNat_lt
 have hb:=b.toNat_lt
 have hc:=c.toNat_lt
 have hm:UInt64.toNat (bB .and .u64 d (9223372036854775807:UInt64))=d.toNat%9223372036854775808:=by
  rw[H2]
  exact Nat.and_two_pow_sub_one_eq_mod d.toNat 63
 have h63:(2:Nat)^63=9223372036854775808:=by decide
 rw[h63]at hyv
 have h19:(HMul.hMul (α:=UInt64) (β:=UInt64) 19 y).toNat=19*y.toNat:=by
  rw[UInt64.toNat_mul]
  show 19*y.toNat%2^64=_
  exact Nat.mod_eq_of_lt (by omega)
 obtain⟨m,hmd⟩ : ∃m:UInt64,@Eq UInt64 (bB .and .u64 d (9223372036854775807:UInt64)) m:=⟨_,rfl⟩
 have hm:UInt64.toNat m=d.toNat%9223372036854775808:=by rw[←hmd];exact hm
 obtain⟨s,e,e1,h1,h2,h3⟩:=nY (f:=[a,b,c,m]) (g:=[HMul.hMul (α:=UInt64) (β:=UInt64) 19 y,ab 0,ab 0,ab 0]) rfl rfl
 rw[Js,h19,tX]at h2
 have hs:=dJ h1
 obtain⟨t,u,e2,k1,k2,k3⟩:=ib (f:=s) (g:=[18446744073709551597,18446744073709551615,18446744073709551615,9223372036854775807]) h1 rfl
 rw[rD]at k2
 have ht:=dJ k1
 have hP:Go.Ed.pP=57896044618658097711785492504343953926634992332820282019728792003956564819949:=rfl
 have hrun:bt [a,b,c,d]=cond ((UInt64.toNat u:Int)==(UInt64.toNat 0:Int)) (some t) (some s):=by
  rw[FO]
  refine an hy ?_
  rw[hmd,e1,ae]
  show bnd (some _) _=_
  rw[ae,e2,ae]
 rw[hrun]
 have hv:vl [a,b,c,d]=vl s+Go.Ed.pP*y.toNat:=by rw[tX,hP];omega
 have hs2:vl s<2*Go.Ed.pP:=by rw[hP];clear hv;omega
 rw[hv,Nat.add_mul_mod_self_left]
 clear hv h2 hm hmd
 by_cases hu:u.toNat=0
 ·have:((UInt64.toNat u:Int)==(UInt64.toNat 0:Int))=true:=by rw[hu];rfl
  rw[this]
  refine⟨t,rfl,k1,?_⟩
  rw[hu]at k2
  have:vl s=vl t+Go.Ed.pP:=by omega
  rw[this,Nat.add_mod_right]
  exact(Nat.mod_eq_of_lt (by omega)).symm
 ·have:((UInt64.toNat u:Int)==(UInt64.toNat 0:Int))=false:=by
   rw[←Bool.not_eq_true,beq_iff_eq]
   show ¬(u.toNat:Int)=(0:Nat)
   omega
  rw[this]
  exact⟨s,rfl,h1,(Nat.mod_eq_of_lt (by omega)).symm⟩
theorem CX : ∀(l:List UInt64) (i:Nat) (w:UInt64),l[i/64]?=some w→(vl l/2^i)%2=(w.toNat/2^(i%64))%2
 | [],_,_,h=>by simp at h
 |x::l,i,w,h=>by
  show((x.toNat+18446744073709551616*vl l)/2^i)%2=_
  by_cases hi:i<64
  ·have e0:i/64=0:=by omega
   rw[e0]at h
   obtain rfl:x=w:=by simpa using h
   rw[show i%64=i by omega]
   obtain⟨j,hj⟩ : ∃j,i+1+j=64:=⟨63-i,by omega⟩
   have e:(18446744073709551616:Nat)=2^i*(2*2^j):=by
    rw[←Nat.mul_assoc,←Nat.pow_succ,←Nat.pow_add,hj]
   rw[e,Nat.mul_assoc,Nat.add_mul_div_left _ _ (Nat.two_pow_pos i),Nat.mul_assoc,Nat.add_mul_mod_self_left]
  ·have hx:=x.toNat_lt
   have e:i=64+(i-64):=by omega
   have ih:=CX l (i-64) w (by
    have:i/64=(i-64)/64+1:=by omega
    rw[this]at h;simpa using h)
   rw[show i%64=(i-64)%64 by omega,←ih]
   have:(x.toNat+18446744073709551616*vl l)/2^i=vl l/2^(i-64):=by
    conv=>lhs;rw[e,Nat.pow_add,←Nat.div_div_eq_div_mul]
    congr 1
    show(x.toNat+18446744073709551616*vl l)/18446744073709551616=_
    omega
   rw[this]
theorem QQ(y:UInt64):((UInt64.toNat (bB .and .u64 y (1:UInt64)):Int)==(UInt64.toNat 1:Int))=Nat.beq (y.toNat%2) 1:=by
 rw[H2]
 have:y.toNat &&& UInt64.toNat 1=y.toNat%2:=Nat.and_two_pow_sub_one_eq_mod y.toNat 1
 rw[this,Bool.eq_iff_iff,beq_iff_eq,Nat.beq_eq]
 show((y.toNat%2:Nat):Int)=((1:Nat):Int)↔_
 omega
theorem Gn{α:Type}{l:List UInt64}{i n:Nat}(hl:l.length=n)(hi:i<64*n)(hn:n≤64)(K:Bool→Option α):(bnd (quo (i:Int) 64) fun x6=>bnd (b_ n x6) fun x7=>bnd (az l ((0+x7):Int)) fun x8=>bnd (Gk.rem (i:Int) 64) fun x9=>
  bnd ((dW .u64 (x8:UInt64) x9:Option UInt64)) fun(x10:UInt64)=>letm ((bB .and .u64 (x10:UInt64) (1:UInt64):UInt64)) fun(x11:UInt64)=>letm (((UInt64.toNat x11:Int)==(UInt64.toNat 1:Int))) fun x12=>K x12)=K (Nat.beq ((vl l/2^i)%2) 1):=by
 have hlt:i/64<l.length:=by omega
 obtain⟨y,hy,hyv⟩:=rR l[i/64] (i%64) (by omega)
 rw[show quo (i:Int) 64=some ((i/64:Nat):Int)from uL (a:=i) (b:=64) (by decide) (by omega),ae]
 have e1:b_ n ((i/64:Nat):Int)=some (i/64):=by unfold b_;rw[if_pos (by omega),Int.toNat_natCast]
 rw[e1,ae,Int.zero_add,g8 (List.getElem?_eq_getElem hlt),ae,show Gk.rem (i:Int) 64=some ((i%64:Nat):Int)from rF (a:=i) (b:=64) (by decide),ae]
 refine an hy ?_
 show K ((UInt64.toNat (bB .and .u64 y (1:UInt64)):Int)==(UInt64.toNat 1:Int))=_
 rw[QQ,hyv,CX l i _ (List.getElem?_eq_getElem hlt)]
theorem vB{f g:List UInt64}(hf:f.length=4)(hg:g.length=4): ∃s,dR f g=some s∧s.length=4∧kf s=Go.Ed.kpow (kf f) (vl g):=by
 unfold dR
 refine dL (fun n (s:Int×List UInt64)=>s.1+1=(n:Int)∧n≤256∧s.2.length=4∧kf s.2=Go.Ed.kpow (kf f) (vl g/2^n)) _ ?_ bk 256 _ (by rw[eP];omega) ⟨rfl,by omega,rfl,?_⟩
 ·rintro n ⟨j,z⟩ self ⟨hj,hn,hz,hv⟩ ih
  have hj:j+1=(n:Int):=hj
  refine bO (gT (fun hc=>?_) (fun hc=>?_))
  ·have hc:0≤j:=of_decide_eq_true hc
   obtain⟨i,rfl⟩ : ∃i:Nat,j=(i:Int):=⟨j.toNat,by omega⟩
   obtain⟨z2,m1,l1,v1⟩:=eK hz hz
   have e2:vl g/2^i=vl g/2^n+vl g/2^n+(vl g/2^i)%2:=by
    have:vl g/2^n=vl g/2^i/2:=by rw[Nat.div_div_eq_div_mul,←Nat.pow_succ];congr 2;omega
    omega
   have hv:kf z=Go.Ed.kpow (kf f) (vl g/2^n):=hv
   refine lb (fun v:List UInt64=>v.length=4∧kf v=Go.Ed.kpow (kf f) (vl g/2^i)) ?_ ?_
   ·show ∃y,bnd (aB z z) _=some y∧_
    rw[m1,ae]
    show ∃y,(bnd (quo (i:Int) 64) _)=some y∧_
    rw[Gn (l:=g) (i:=i) (n:=4) hg (by omega) (by omega)]
    by_cases hb:(vl g/2^i)%2=1
    ·rw[hb]at e2
     rw[hb]
     obtain⟨z3,m2,l2,v2⟩:=eK l1 hf
     refine⟨z3,?_,l2,?_⟩
     ·show bnd (aB z2 f) _=_
      rw[m2];rfl
     ·rw[v2,v1,hv,e2,Go.Ed.kpow_succ,Go.Ed.kpow_add]
    ·have hb:(vl g/2^i)%2=0:=by omega
     rw[hb]at e2
     rw[hb]
     exact⟨z2,rfl,l1,by rw[v1,hv,e2,Nat.add_zero,Go.Ed.kpow_add]⟩
   ·rintro v ⟨h1,h2⟩
    refine bO ?_
    rw[cn (by show _≤(i:Int)-1∧(i:Int)-1<_;omega)]
    exact ih i _ (by omega) ⟨by show(i:Int)-1+1=_;omega,by omega,h1,h2⟩
  ·have hc : ¬0≤j:=of_decide_eq_false hc
   obtain rfl:n=0:=by omega
   exact⟨z,rfl,hz,by rw[hv,Nat.pow_zero,Nat.div_one]⟩
 ·have:vl g/2^256=0:=Nat.div_eq_of_lt (by have:=dJ hg;exact this)
  rw[this,Go.Ed.kpow_zero]
  show Go.Ed.kv (vl [1,ab 0,ab 0,ab 0])=_
  rw[Js]
  rfl
set_option maxRecDepth 100000
theorem rz:ea=some [18446744073709551597,18446744073709551615,18446744073709551615,9223372036854775807]:=by rfl
theorem jU{f:List UInt64}(hf:f.length=4): ∃s,bt f=some s∧s.length=4∧vl s=(kf f).val∧kf s=kf f:=by
 obtain⟨s,h1,h2,h3⟩:=I2 hf
 refine⟨s,h1,h2,h3,?_⟩
 unfold kf
 rw[h3,Go.Ed.kv_mod]
theorem Aa{f:List UInt64}(hf:f.length=4): ∃s,fg f=some s∧s.length=4∧kf s=Go.Ed.iv (kf f):=by
 obtain⟨e,c,h1,h2,h3,h4⟩:=ib (f:=[18446744073709551597,18446744073709551615,18446744073709551615,9223372036854775807]) (g:=[2,ab 0,ab 0,ab 0]) rfl rfl
 rw[Js,rD]at h3
 have hP:Go.Ed.pP=57896044618658097711785492504343953926634992332820282019728792003956564819949:=rfl
 have e2:UInt64.toNat 2=2:=rfl
 have hl:=dJ h2
 have hv:vl e=Go.Ed.pP-2:=by rw[e2]at h3;omega
 obtain⟨s,k1,k2,k3⟩:=vB hf h2
 refine⟨s,?_,k2,by rw[k3,hv];rfl⟩
 unfold fg
 rw[rz,ae,h1,ae,k1,ae]
theorem Ae : ∀{x y:List UInt64},x.length=y.length→ut .u64 x y=decide (vl x=vl y)
 | [],[],_=>by rfl
 | [],_::_,h=>by cases h
 |_::_,[],h=>by cases h
 |x::l,y::m,h=>by
  show((x.toNat:Int)==(y.toNat:Int)&&ut .u64 l m)=decide (x.toNat+18446744073709551616*vl l=y.toNat+18446744073709551616*vl m)
  rw[Ae (by simpa using h),Bool.eq_iff_iff,Bool.and_eq_true,beq_iff_eq,decide_eq_true_iff,decide_eq_true_iff]
  have hx:=x.toNat_lt
  have hy:=y.toNat_lt
  omega
theorem sn{f g:List UInt64}(hf:f.length=4)(hg:g.length=4):cQ f g=some (decide (kf f=kf g)):=by
 obtain⟨s,h1,h2,h3,_⟩:=jU hf
 obtain⟨t,k1,k2,k3,_⟩:=jU hg
 unfold cQ
 rw[h1,ae,k1,ae,ao,Ae (h2.trans k2.symm),h3,k3]
 congr 1
 rw[Bool.eq_iff_iff,decide_eq_true_iff,decide_eq_true_iff]
 exact⟨fun h=>Fin.ext h,fun h=>congrArg Fin.val h⟩
theorem Sh:ck [18446744073709551597,18446744073709551615,18446744073709551615,9223372036854775807] [3,ab 0,ab 0,ab 0]=some ([18446744073709551600,18446744073709551615,18446744073709551615,9223372036854775807],0):=by kernel_rfl
theorem Qr:fF [18446744073709551600,18446744073709551615,18446744073709551615,9223372036854775807] 3=some [18446744073709551614,18446744073709551615,18446744073709551615,1152921504606846975]:=by kernel_rfl
theorem Qo:bV [18446744073709551597,18446744073709551615,18446744073709551615,9223372036854775807] [1,ab 0,ab 0,ab 0]=some ([18446744073709551596,18446744073709551615,18446744073709551615,9223372036854775807],0):=by kernel_rfl
theorem Rg:fF [18446744073709551596,18446744073709551615,18446744073709551615,9223372036854775807] 2=some [18446744073709551611,18446744073709551615,18446744073709551615,2305843009213693951]:=by kernel_rfl
theorem QB:vl [18446744073709551614,18446744073709551615,18446744073709551615,1152921504606846975]=(Go.Ed.pP+3)/8:=by decide +kernel
theorem QK:vl [18446744073709551611,18446744073709551615,18446744073709551615,2305843009213693951]=(Go.Ed.pP-1)/4:=by decide +kernel
theorem OY:kf [2,ab 0,ab 0,ab 0]=Go.Ed.kv 2:=by unfold kf;rw[Js];rfl
theorem sM:kf [1,ab 0,ab 0,ab 0]=1:=by unfold kf;rw[Js];rfl
theorem nz:kf (List.replicate 4 (0:UInt64))=0:=by rfl
theorem uP:(List.replicate 4 (0:UInt64)).length=4:=rfl
theorem Lu{f:List UInt64}(hf:f.length=4): ∃s,(bnd (bt f) fun x17=>
  bnd (β:=(List UInt64)) (bnd (b_ 4 0) fun x18=>
  bnd (az x17 ((0+x18):Int)) fun x19=>
  letm ((bB .and .u64 (x19:UInt64) (1:UInt64):UInt64)) fun(x20:UInt64)=>
  letm (((UInt64.toNat x20:Int)==(UInt64.toNat 1:Int))) fun x21=>
  cond x21 (bnd (bA (List.replicate 4 (0:UInt64)) x17) fun x22=>
  bnd (bt x22) fun x23=>
  some x23)
   (some x17)) fun v24=>
  some (v24,true))=some (s,true)∧s.length=4∧vl s=(Go.Ed.evn (kf f)).val:=by
 obtain⟨s,h1,h2,h3,h4⟩:=jU hf
 obtain⟨a,b,c,d,rfl⟩:=l4 h2
 rw[h1,ae]
 have hp:(kf f).val%2=a.toNat%2:=by rw[←h3,tX];omega
 have e1:b_ 4 0=some 0:=rfl
 have e2:az [a,b,c,d] ((0+(0:Nat)):Int)=some a:=rfl
 rw[e1,ae,e2,ae]
 have e3:=QQ a
 by_cases ha:a.toNat%2=1
 ·rw[ha]at e3
  obtain⟨t,k1,k2,k3⟩:=mO (f:=List.replicate 4 (0:UInt64)) (g:=[a,b,c,d]) rfl rfl
  obtain⟨u,m1,m2,m3,m4⟩:=jU k2
  refine⟨u,?_,m2,?_⟩
  ·refine an (y:=u) ?_ rfl
   show cond ((UInt64.toNat (bB .and .u64 a (1:UInt64)):Int)==(UInt64.toNat 1:Int)) _ _=_
   rw[e3]
   show bnd (bA _ _) _=_
   rw[k1,ae,m1,ae]
  ·rw[m3,k3,nz,h4]
   unfold Go.Ed.evn
   rw[if_pos (by omega)]
   have : ∀q:Go.Ed.K,0-q = -q:=fun q=>by grind -linarith -lia (splits:=0)
   rw[this]
 ·have ha0:a.toNat%2=0:=by omega
  rw[ha0]at e3
  refine⟨[a,b,c,d],?_,rfl,?_⟩
  ·refine an (y:=[a,b,c,d]) ?_ rfl
   show cond ((UInt64.toNat (bB .and .u64 a (1:UInt64)):Int)==(UInt64.toNat 1:Int)) _ _=_
   rw[e3]
   rfl
  ·rw[h3]
   unfold Go.Ed.evn
   rw[if_neg (by omega)]
theorem K4{f:List UInt64}{x:Go.Ed.K}(hf:f.length=4)(hx:x*x=kf f): ∃s r,jC f=some (s,true)∧s.length=4∧r*r=kf f∧vl s=(Go.Ed.evn r).val:=by
 obtain⟨r,h1,h2,h3⟩:=vB (g:=[18446744073709551614,18446744073709551615,18446744073709551615,1152921504606846975]) hf rfl
 rw[QB]at h3
 have hr:=Go.Ed.sq_root hx
 rw[←h3]at hr
 obtain⟨q,k1,k2,k3⟩:=eK h2 h2
 have ke:=sn k2 hf
 rw[k3]at ke
 obtain⟨v,hv,hvl,hvs⟩ : ∃v,(bnd (aB r r) fun x5=>
   bnd (cQ x5 f) fun x6=>
   letm ((!x6)) fun x7=>
   cond x7 (bnd (ea) fun x8=>
   bnd (bV x8 [1,(ab 0),(ab 0),(ab 0)]) fun x9=>
   bnd (fF x9.1 2) fun x10=>
   bnd (dR [2,(ab 0),(ab 0),(ab 0)] x10) fun x11=>
   bnd (aB r x11) fun x12=>
   some x12)
    (some r))=some v∧v.length=4∧kf v*kf v=kf f:=by
  rw[k1,ae,ke,ae,ao]
  by_cases hc:kf r*kf r=kf f
  ·rw[decide_eq_true hc]
   exact⟨r,by rw[Bool.not_true,eB],h2,hc⟩
  ·rw[decide_eq_false hc]
   obtain⟨t,m1,m2,m3⟩:=vB (f:=[2,ab 0,ab 0,ab 0]) (g:=[18446744073709551611,18446744073709551615,18446744073709551615,2305843009213693951]) rfl rfl
   rw[OY,QK]at m3
   obtain⟨u,n1,n2,n3⟩:=eK h2 m2
   refine⟨u,?_,n2,?_⟩
   ·rw[Bool.not_false,pZ,rz,ae,Qo,ae,Rg,ae,m1,ae,n1,ae]
   ·rw[n3,m3]
    exact hr.resolve_left hc
 obtain⟨w,m1,m2,m3⟩:=eK hvl hvl
 have me:=sn m2 hf
 rw[m3,decide_eq_true hvs]at me
 obtain⟨s,n1,n2,n3⟩:=Lu hvl
 refine⟨s,kf v,?_,n2,hvs,n3⟩
 unfold jC
 rw[rz,ae,Sh,ae,Qr,ae,h1,ae]
 rw[rz]at hv
 refine an hv ?_
 rw[m1,ae,me,ae,ao,Bool.not_true,eB]
 exact n1
end Go.Proofs.YtimjjookppejeaaGreatDoor
