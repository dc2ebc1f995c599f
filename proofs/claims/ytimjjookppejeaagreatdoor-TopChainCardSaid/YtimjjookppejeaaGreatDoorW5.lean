/- A part of the proof of TopChain. No condition. -/
import Derived.Test.YtimjjookppejeaaGreatDoorW4
namespace Go.Proofs.YtimjjookppejeaaGreatDoor
open Go.Gk Go.RowKit
set_option maxRecDepth 100000
set_option maxHeartbeats 4000000
theorem Rf{α:Type}{i:Int}{c:Nat}{K:Int→Option α}{Q:α→Prop}(h0:0≤i)(h1:i<1000)(hc:0<c)(k : ∀j:Int,0≤j→j=i/(c:Int)→∃r,K j=some r∧Q r): ∃r,bnd (quo i (c:Int)) K=some r∧Q r:=by
 obtain⟨n,rfl⟩ : ∃n:Nat,i=(n:Int):=⟨i.toNat,by omega⟩
 have:n/c≤n:=Nat.div_le_self n c
 rw[show quo (n:Int) (c:Int)=some ((n/c:Nat):Int)from uL (a:=n) (b:=c) (by omega) (by omega),ae]
 exact k _ (Int.natCast_nonneg _) rfl
theorem P7{α:Type}{i:Int}{c:Nat}{K:Int→Option α}{Q:α→Prop}(h0:0≤i)(hc:0<c)(k : ∀j:Int,0≤j→j<(c:Int)→∃r,K j=some r∧Q r): ∃r,bnd (Gk.rem i (c:Int)) K=some r∧Q r:=by
 obtain⟨n,rfl⟩ : ∃n:Nat,i=(n:Int):=⟨i.toNat,by omega⟩
 have:n%c<c:=Nat.mod_lt _ hc
 rw[show Gk.rem (n:Int) (c:Int)=some ((n%c:Nat):Int)from rF (a:=n) (b:=c) (by omega),ae]
 exact k _ (by omega) (by omega)
theorem q8{α:Type}{i:Int}{K:Int→Option α}{Q:α→Prop}(h0:0≤i)(h1:i<1000)(k : ∀j:Int,0≤j→j=i/8→∃r,K j=some r∧Q r): ∃r,bnd (quo i 8) K=some r∧Q r:=Rf (c:=8) h0 h1 (by omega) k
theorem UE{α:Type}{i:Int}{K:Int→Option α}{Q:α→Prop}(h0:0≤i)(h1:i<1000)(k : ∀j:Int,0≤j→j=i/64→∃r,K j=some r∧Q r): ∃r,bnd (quo i 64) K=some r∧Q r:=Rf (c:=64) h0 h1 (by omega) k
theorem r8{α:Type}{i:Int}{K:Int→Option α}{Q:α→Prop}(h0:0≤i)(k : ∀j:Int,0≤j→j<8→∃r,K j=some r∧Q r): ∃r,bnd (Gk.rem i 8) K=some r∧Q r:=P7 (c:=8) h0 (by omega) k
theorem Uv{α:Type}{i:Int}{K:Int→Option α}{Q:α→Prop}(h0:0≤i)(k : ∀j:Int,0≤j→j<64→∃r,K j=some r∧Q r): ∃r,bnd (Gk.rem i 64) K=some r∧Q r:=P7 (c:=64) h0 (by omega) k
theorem Qi{α:Type}{x:UInt8}{n:Int}{K:UInt8→Option α}{Q:α→Prop}(h:0≤n)(k : ∀x,∃r,K x=some r∧Q r): ∃r,bnd (dW .u8 x n:Option UInt8) K=some r∧Q r:=by
 obtain⟨y,hy⟩ : ∃y,@Eq (Option UInt8) (dW .u8 x n) (some y):=⟨aj ((UInt8.toNat x:Int)/2^min n.toNat 8),(show(if n<0 then none else some _)=some _ by rw[if_neg (by omega)])⟩
 obtain⟨r,hr,hq⟩:=k y
 exact⟨r,an hy hr,hq⟩
theorem Dr(a:Int): ∃s,dz a=some s∧s.length=32:=by
 unfold dz
 refine dL (fun n (s:List UInt8×Int)=>s.2+(n:Int)=32∧0≤s.2∧(s.1.length:Int)=s.2) _ ?_ bk 32 ([],0) (by rw[eP];omega) ⟨by omega,by omega,rfl⟩
 rintro n ⟨l,i⟩ self ⟨h1,h2,h3⟩ ih
 have h1:i+(n:Int)=32:=h1
 have h2:0≤i:=h2
 have h3:(l.length:Int)=i:=h3
 refine bO (gT (fun hc=>?_) (fun hc=>?_))
 ·have hc:i<32:=of_decide_eq_true hc
  refine ek (fun _=>r8 h2 (fun j _ _=>ek (fun _=>ek (fun _=>zL (o8 _) (fun _=>uo (fun _=>q8 h2 (by show i<1000;omega) (fun _ _ _=>bO (uo (fun _=>uo (fun _=>?_))))))))))
  refine AK (by simp only[List.length_cons,List.length_nil];omega) (fun z hz=>bO ?_)
  simp only[List.length_cons,List.length_nil]at hz
  show ∃r,self (z,aP (i+1))=some r∧_
  rw[cn (by omega)]
  exact ih (n-1) _ (by omega) ⟨by show i+1+_=_;omega,by show 0≤i+1;omega,by show(z.length:Int)=i+1;omega⟩
 ·have hc : ¬i<32:=of_decide_eq_false hc
  exact⟨l,rfl,by omega⟩
theorem Dm(a b c d x y z t:UInt64):cB [a,b,c,d] [x,y,z,t]=bnd (jK a x 0) fun r=>bnd (jK b y r.2) fun s=>bnd (jK c z s.2) fun u=>bnd (jK d t u.2) fun v=>some ([r.1,s.1,u.1,v.1],v.2):=by kernel_rfl
theorem E6(a b c d x y z t:UInt64):bG [a,b,c,d] [x,y,z,t]=bnd (bl a x 0) fun r=>bnd (bl b y r.2) fun s=>bnd (bl c z s.2) fun u=>bnd (bl d t u.2) fun v=>some ([r.1,s.1,u.1,v.1],v.2):=by kernel_rfl
theorem pG{f g:List UInt64}(hf:f.length=4)(hg:g.length=4):cB f g=bV f g:=by
 obtain⟨a,b,c,d,rfl⟩:=l4 hf
 obtain⟨x,y,z,t,rfl⟩:=l4 hg
 rw[Dm,yM]
theorem sr{f g:List UInt64}(hf:f.length=4)(hg:g.length=4):bG f g=ck f g:=by
 obtain⟨a,b,c,d,rfl⟩:=l4 hf
 obtain⟨x,y,z,t,rfl⟩:=l4 hg
 rw[E6,DJ]
theorem H6{f g:List UInt64}(hf:f.length=4)(hg:g.length=4):eQ f g=some (decide (vl f<vl g)):=by
 rw[←uV hf hg]
 unfold eQ eU
 rw[pG hf hg]
theorem O0:eo=some [18446744073709551597,18446744073709551615,18446744073709551615,9223372036854775807]:=by rfl
theorem zU{f:List UInt64}(hf:f.length=4): ∃r,dx f=some r∧r.length=4:=by
 have hP:Go.Ed.pP=57896044618658097711785492504343953926634992332820282019728792003956564819949:=rfl
 unfold dx
 refine lb (fun v:List UInt64=>v.length=4) ?_ (fun v hv=>⟨v,rfl,hv⟩)
 refine dL (fun n (s:List UInt64)=>s.length=4∧n=vl s/57896044618658097711785492504343953926634992332820282019728792003956564819949) _ ?_ bk _ f ?_ ⟨hf,rfl⟩
 ·rintro n s self ⟨h1,h2⟩ ih
  rw[O0,ae,H6 (g:=[18446744073709551597,18446744073709551615,18446744073709551615,9223372036854775807]) h1 rfl,ae,rD,hP]
  refine bO (gT (fun hc=>?_) (fun hc=>⟨s,rfl,h1⟩))
  have hc : ¬vl s<57896044618658097711785492504343953926634992332820282019728792003956564819949:=by
   intro h;rw[decide_eq_true h]at hc;cases hc
  obtain⟨t,c,m1,m2,m3,m4⟩:=ib (g:=[18446744073709551597,18446744073709551615,18446744073709551615,9223372036854775807]) h1 rfl
  rw[rD,hP]at m3
  have ht:=dJ m2
  have hs:=dJ h1
  rw[ae,pG h1 rfl,m1,ae]
  have h0:c.toNat=0:=by omega
  rw[h0]at m3
  refine ih _ t ?_ ⟨m2,rfl⟩
  omega
 ·have:=dJ hf
  rw[eP]
  omega
theorem H3{f g:List UInt64}(hf:f.length=4)(hg:g.length=4): ∃r,cj f g=some r∧r.length=4:=by
 obtain⟨s,c,h1,h2,_⟩:=nY hf hg
 obtain⟨r,k1,k2⟩:=zU h2
 exact⟨r,by unfold cj;rw[sr hf hg,h1,ae,k1,ae],k2⟩
theorem Fc{f g:List UInt64}(hf:f.length=4)(hg:g.length=4): ∃r,bQ f g=some r∧r.length=4:=by
 obtain⟨s,c,h1,h2,_⟩:=ib hf hg
 unfold bQ
 rw[pG hf hg,h1,ae]
 refine lb (fun v:List UInt64=>v.length=4) ?_ (fun v hv=>⟨v,rfl,hv⟩)
 refine bO (gT (fun _=>?_) (fun _=>⟨s,rfl,h2⟩))
 obtain⟨t,d,k1,k2,_⟩:=nY (g:=[18446744073709551597,18446744073709551615,18446744073709551615,9223372036854775807]) h2 rfl
 rw[O0,ae,sr h2 rfl,k1,ae]
 exact⟨t,rfl,k2⟩
theorem Ri{α:Type}{x y:UInt64}{K:UInt64×UInt64→Option α}{Q:α→Prop}(k : ∀x,∃r,K x=some r∧Q r): ∃r,bnd (au x y) K=some r∧Q r:=by
 obtain⟨h,l,e,_⟩:=AS x y
 rw[e,ae];exact k _
theorem JA{α:Type}{x y:UInt64}{K:UInt64×UInt64→Option α}{Q:α→Prop}(k : ∀x,∃r,K x=some r∧Q r): ∃r,bnd (bl x y 0) K=some r∧Q r:=by
 obtain⟨s,d,e,_⟩:=iL x y 0 (by decide)
 rw[e,ae];exact k _
theorem Gu{f g:List UInt64}(hf:f.length=4)(hg:g.length=4): ∃r,d_ f g=some r∧r.length=8:=by
 unfold d_
 refine ne 4 (by omega) (fun z:List UInt64=>z.length=8) _ rfl ?_ ?_
 ·intro self i z i0 i1 hz hself
  refine bO (gT (fun _=>?_) (fun hc=>absurd (of_decide_eq_false hc) (by show ¬¬(i:Int)<4;omega)))
  refine dL (fun n (s:UInt64×(Int×List UInt64))=>s.2.1+(n:Int)=4∧0≤s.2.1∧s.2.2.length=8) _ ?_ bk 4 (0,(0,z)) (by rw[eP];omega) ⟨by show(0:Int)+_=4;omega,by show(0:Int)≤0;omega,hz⟩
  rintro n ⟨c,j,y⟩ self2 ⟨h1,h2,h3⟩ ih
  have h1:j+(n:Int)=4:=h1
  have h2:0≤j:=h2
  have h3:y.length=8:=h3
  refine bO (gT (fun hc=>?_) (fun hc=>?_))
  ·have hc:j<4:=of_decide_eq_true hc
   refine eI (show 0≤i∧i<((4:Nat):Int) by omega) (fun _ _ _=>ep (by omega) (fun _=>?_))
   refine eI (show 0≤j∧j<((4:Nat):Int) by omega) (fun _ _ _=>ep (by omega) (fun _=>?_))
   refine Ri (fun _=>bO ?_)
   refine eI (show 0≤aP (i+j)∧aP (i+j)<((8:Nat):Int) by rw[cn (by omega)];omega) (fun _ _ _=>ep (show 0≤_∧_<(y.length:Int) by omega) (fun _=>?_))
   refine JA (fun _=>ek (fun _=>JA (fun _=>ek (fun _=>bO ?_))))
   refine eI (show 0≤aP (i+j)∧aP (i+j)<((8:Nat):Int) by rw[cn (by omega)];omega) (fun _ _ _=>ep (show 0≤_∧_<(y.length:Int) by omega) (fun _=>?_))
   refine bO (bO ?_)
   show ∃r,self2 (_,(aP (j+1),_))=some r∧_
   rw[cn (by omega)]
   exact ih (n-1) _ (by omega) ⟨by show j+1+_=_;omega,by show 0≤j+1;omega,by show(List.set _ _ _).length=8;rw[List.length_set];exact h3⟩
  ·refine bO ?_
   refine eI (show 0≤aP (i+4)∧aP (i+4)<((8:Nat):Int) by rw[cn (by omega)];omega) (fun _ _ _=>ep (show 0≤_∧_<(y.length:Int) by omega) (fun _=>?_))
   refine bO (bO ?_)
   show ∃r,self (aP (i+1),_)=some r∧_
   rw[cn (by omega)]
   exact hself _ (by rw[List.length_set];exact h3)
 ·intro self z hz
  refine bO (gT (fun hc=>absurd (of_decide_eq_true hc) (by show ¬((4:Nat):Int)<4;omega)) (fun _=>⟨z,rfl,hz⟩))
theorem Fo{f g:List UInt64}(hf:f.length=4)(hg:g.length=4): ∃r,aD f g=some r∧r.length=4:=by
 obtain⟨p,p1,p2⟩:=Gu hf hg
 unfold aD
 rw[p1,ae]
 refine dL (fun n (s:UInt64×(Int×List UInt64))=>s.2.1+(n:Int)=4∧0≤s.2.1∧s.2.2.length=4) _ ?_ bk 4 _ (by rw[eP];omega) ⟨by show(0:Int)+_=4;omega,by show(0:Int)≤0;omega,rfl⟩
 rintro n ⟨c,j,y⟩ self ⟨h1,h2,h3⟩ ih
 have h1:j+(n:Int)=4:=h1
 have h2:0≤j:=h2
 have h3:y.length=4:=h3
 refine bO (gT (fun hc=>?_) (fun hc=>?_))
 ·have hc:j<4:=of_decide_eq_true hc
  refine bO ?_
  refine eI (show 0≤aP (4+j)∧aP (4+j)<((8:Nat):Int) by rw[cn (by omega)];omega) (fun _ _ _=>ep (by omega) (fun _=>?_))
  refine Ri (fun _=>?_)
  refine eI (show 0≤j∧j<((8:Nat):Int) by omega) (fun _ _ _=>ep (by omega) (fun _=>?_))
  refine JA (fun _=>ek (fun _=>JA (fun _=>ek (fun _=>?_))))
  refine eI (show 0≤j∧j<((4:Nat):Int) by omega) (fun _ _ _=>ep (show 0≤_∧_<(y.length:Int) by omega) (fun _=>?_))
  refine bO (bO ?_)
  show ∃r,self (_,(aP (j+1),_))=some r∧_
  rw[cn (by omega)]
  exact ih (n-1) _ (by omega) ⟨by show j+1+_=_;omega,by show 0≤j+1;omega,by show(List.set _ _ _).length=4;rw[List.length_set];exact h3⟩
 ·refine ek (fun x=>?_)
  obtain⟨t,d,k1,k2,_⟩:=nY (g:=[x,ab 0,ab 0,ab 0]) h3 rfl
  show ∃r,(bnd (bG y [x,ab 0,ab 0,ab 0]) _)=some r∧_
  rw[sr h3 rfl,k1,ae]
  refine lb (fun v:List UInt64=>v.length=4) ?_ (fun v hv=>?_)
  ·refine bO (gT (fun _=>?_) (fun _=>⟨t,rfl,k2⟩))
   obtain⟨t2,d2,m1,m2,_⟩:=nY (g:=[38,ab 0,ab 0,ab 0]) k2 rfl
   show ∃r,(bnd (bG t [38,ab 0,ab 0,ab 0]) _)=some r∧_
   rw[sr k2 rfl,m1,ae]
   exact⟨t2,rfl,m2⟩
  ·obtain⟨r,q1,q2⟩:=zU hv
   exact⟨r,by rw[q1,ae],q2⟩
theorem bT{α:Type}{f g:List UInt64}{K:List UInt64→Option α}{Q:α→Prop}(hf:f.length=4)(hg:g.length=4)(k : ∀x:List UInt64,x.length=4→∃r,K x=some r∧Q r): ∃r,bnd (aD f g) K=some r∧Q r:=lb (fun v=>v.length=4) (Fo hf hg) k
theorem St{α:Type}{f g:List UInt64}{K:List UInt64→Option α}{Q:α→Prop}(hf:f.length=4)(hg:g.length=4)(k : ∀x:List UInt64,x.length=4→∃r,K x=some r∧Q r): ∃r,bnd (cj f g) K=some r∧Q r:=lb (fun v=>v.length=4) (H3 hf hg) k
theorem bM{α:Type}{f g:List UInt64}{K:List UInt64→Option α}{Q:α→Prop}(hf:f.length=4)(hg:g.length=4)(k : ∀x:List UInt64,x.length=4→∃r,K x=some r∧Q r): ∃r,bnd (bQ f g) K=some r∧Q r:=lb (fun v=>v.length=4) (Fc hf hg) k
theorem Kn{f g:List UInt64}(hf:f.length=4)(hg:g.length=4): ∃r,eV f g=some r∧r.length=4:=by
 unfold eV
 refine dL (fun n (s:Int×List UInt64)=>s.1+1=(n:Int)∧n≤256∧s.2.length=4) _ ?_ bk 256 _ (by rw[eP];omega) ⟨rfl,by omega,rfl⟩
 rintro n ⟨j,z⟩ self ⟨hj,hn,hz⟩ ih
 have hj:j+1=(n:Int):=hj
 have hz:z.length=4:=hz
 refine bO (gT (fun hc=>?_) (fun hc=>⟨z,rfl,hz⟩))
 have hc:0≤j:=of_decide_eq_true hc
 refine lb (fun v:List UInt64=>v.length=4) ?_ (fun v hv=>bO ?_)
 ·refine bT hz hz (fun x hx=>UE hc (by show j<1000;omega) (fun q hq hq2=>?_))
  have hq2:q=j/64:=hq2
  refine eI (show 0≤q∧q<((4:Nat):Int) by omega) (fun _ _ _=>ep (by omega) (fun _=>?_))
  refine Uv hc (fun _ _ _=>ek (fun _=>zL (o8 _) (fun _=>ek (fun _=>bO (gT (fun _=>?_) (fun _=>⟨x,rfl,hx⟩))))))
  exact bT hx hf (fun y hy=>⟨y,rfl,hy⟩)
 ·show ∃r,self (aP (j-1),v)=some r∧_
  rw[cn (by omega)]
  exact ih (n-1) _ (by omega) ⟨by show j-1+1=_;omega,by omega,hv⟩
theorem KF{f:List UInt64}(hf:f.length=4): ∃r,d9 f=some r∧r.length=4:=by
 obtain⟨t,d,k1,k2,_⟩:=ib (f:=[18446744073709551597,18446744073709551615,18446744073709551615,9223372036854775807]) (g:=[2,ab 0,ab 0,ab 0]) rfl rfl
 obtain⟨r,r1,r2⟩:=Kn hf k2
 refine⟨r,?_,r2⟩
 unfold d9
 rw[O0,ae,pG rfl rfl,k1,ae,r1,ae]
theorem EQ{f:List UInt64}(hf:f.length=4): ∃r,fb f=some r∧r.length=32:=by
 unfold fb
 refine ne 32 (by omega) (fun z:List UInt8=>z.length=32) _ rfl ?_ ?_
 ·intro self i z i0 i1 hz hself
  refine bO (gT (fun _=>?_) (fun hc=>absurd (of_decide_eq_false hc) (by show ¬¬(i:Int)<32;omega)))
  refine q8 i0 (by show i<1000;omega) (fun q hq hq2=>?_)
  have hq2:q=i/8:=hq2
  refine eI (show 0≤q∧q<((4:Nat):Int) by omega) (fun _ _ _=>ep (by first |omega | (show 0≤_∧_<(z.length:Int);omega)) (fun _=>?_))
  refine r8 i0 (fun _ _ _=>ek (fun _=>ek (fun _=>zL (o8 _) (fun _=>uo (fun _=>?_)))))
  refine eI (show 0≤i∧i<((32:Nat):Int) by omega) (fun _ _ _=>ep (by first |omega | (show 0≤_∧_<(z.length:Int);omega)) (fun _=>?_))
  refine bO (bO ?_)
  show ∃r,self (aP (i+1),_)=some r∧_
  rw[cn (by omega)]
  exact hself _ (by rw[List.length_set];exact hz)
 ·intro self z hz
  refine bO (gT (fun hc=>absurd (of_decide_eq_true hc) (by show ¬((32:Nat):Int)<32;omega)) (fun _=>⟨z,rfl,hz⟩))
theorem Jf{f:List UInt8}(hf:f.length=32): ∃r,fq f=some r∧r.length=4:=by
 unfold fq
 refine ne 32 (by omega) (fun z:List UInt64=>z.length=4) _ rfl ?_ ?_
 ·intro self i z i0 i1 hz hself
  refine bO (gT (fun _=>?_) (fun hc=>absurd (of_decide_eq_false hc) (by show ¬¬(i:Int)<32;omega)))
  refine q8 i0 (by show i<1000;omega) (fun q hq hq2=>?_)
  have hq2:q=i/8:=hq2
  refine eI (show 0≤q∧q<((4:Nat):Int) by omega) (fun _ _ _=>ep (by first |omega | (show 0≤_∧_<(z.length:Int);omega)) (fun _=>?_))
  refine eI (show 0≤i∧i<((32:Nat):Int) by omega) (fun _ _ _=>ep (by first |omega | (show 0≤_∧_<(z.length:Int);omega)) (fun _=>?_))
  refine ek (fun _=>r8 i0 (fun _ _ _=>ek (fun _=>ek (fun _=>K0 (fun _=>ek (fun _=>?_))))))
  refine eI (show 0≤q∧q<((4:Nat):Int) by omega) (fun _ _ _=>ep (by first |omega | (show 0≤_∧_<(z.length:Int);omega)) (fun _=>?_))
  refine bO (bO ?_)
  show ∃r,self (aP (i+1),_)=some r∧_
  rw[cn (by omega)]
  exact hself _ (by rw[List.length_set];exact hz)
 ·intro self z hz
  refine bO (gT (fun hc=>absurd (of_decide_eq_true hc) (by show ¬((32:Nat):Int)<32;omega)) (fun _=>⟨z,rfl,hz⟩))
theorem FF{f:List UInt8}(hf:f.length=32): ∃r,eW f=some r∧r.length=32:=by
 unfold eW
 refine eI (show 0≤(0:Int)∧(0:Int)<((32:Nat):Int) by omega) (fun _ _ _=>ep (by omega) (fun _=>uo (fun _=>?_)))
 refine eI (show 0≤(0:Int)∧(0:Int)<((32:Nat):Int) by omega) (fun _ _ _=>ep (by omega) (fun _=>bO ?_))
 refine eI (show 0≤(31:Int)∧(31:Int)<((32:Nat):Int) by omega) (fun _ _ _=>ep (by rw[List.length_set];omega) (fun _=>uo (fun _=>uo (fun _=>?_))))
 refine eI (show 0≤(31:Int)∧(31:Int)<((32:Nat):Int) by omega) (fun _ _ _=>ep (by rw[List.length_set];omega) (fun _=>bO ?_))
 exact⟨_,rfl,by rw[List.length_set,List.length_set];exact hf⟩
theorem Hr{f g:List UInt8}(hf:f.length=32)(hg:g.length=32): ∃r,fm f g=some r∧r.length=32:=by
 obtain⟨k,k1,k2⟩:=FF hf
 unfold fm
 rw[k1,ae]
 refine eI (show 0≤(31:Int)∧(31:Int)<((32:Nat):Int) by omega) (fun _ _ _=>ep (by omega) (fun _=>uo (fun y=>?_)))
 refine eI (show 0≤(31:Int)∧(31:Int)<((32:Nat):Int) by omega) (fun _ _ _=>ep (by omega) (fun _=>bO ?_))
 refine lb (fun v:List UInt64=>v.length=4) (Jf (by rw[List.length_set];exact hg)) (fun u hu=>?_)
 refine lb (fun v:List UInt64=>v.length=4) (zU hu) (fun u hu=>?_)
 refine dL (fun n (s:Int×ak)=>s.1+1=(n:Int)∧n≤256∧s.2.1.length=4∧s.2.2.1.length=4∧s.2.2.2.1.length=4∧s.2.2.2.2.length=4) _ ?_ bk 256 _ (by rw[eP];omega) ⟨rfl,by omega,rfl,rfl,hu,rfl⟩
 rintro n ⟨j,p⟩ self ⟨hj,hn,h1,h2,h3,h4⟩ ih
 have hj:j+1=(n:Int):=hj
 refine bO (gT (fun hc=>?_) (fun hc=>?_))
 ·have hc:0≤j:=of_decide_eq_true hc
  refine lb (fun v:ak=>v.1.length=4∧v.2.1.length=4∧v.2.2.1.length=4∧v.2.2.2.length=4) ?_ (fun v hv=>bO ?_)
  ·refine q8 hc (by show j<1000;omega) (fun q hq hq2=>?_)
   have hq2:q=j/8:=hq2
   refine eI (show 0≤q∧q<((32:Nat):Int) by omega) (fun _ _ _=>ep (by omega) (fun _=>?_))
   refine r8 hc (fun _ _ _=>ek (fun _=>Qi (o8 _) (fun _=>uo (fun _=>bO ?_))))
   refine lb (fun v:ak=>v.1.length=4∧v.2.1.length=4∧v.2.2.1.length=4∧v.2.2.2.length=4) ?_ (fun v hv=>?_)
   ·exact gT (fun _=>⟨_,rfl,h3,h4,h1,h2⟩) (fun _=>⟨_,rfl,h1,h2,h3,h4⟩)
   obtain⟨v1,v2,v3,v4⟩:=hv
   refine St v1 v2 (fun x23 y23=>bM v1 v2 (fun x24 y24=>bT y23 y23 (fun x25 y25=>bT y24 y24 (fun x26 y26=>bM y25 y26 (fun x27 y27=>bM v3 v4 (fun x28 y28=>bT y28 y23 (fun x29 y29=>St v3 v4 (fun x30 y30=>bT y30 y24 (fun x31 y31=>St y29 y31 (fun x32 y32=>bM y29 y31 (fun x33 y33=>bT y32 y32 (fun x34 y34=>bT y33 y33 (fun x35 y35=>bT hu y35 (fun x36 y36=>bT y25 y26 (fun x37 y37=>bT rfl y27 (fun x38 y38=>St y25 y38 (fun x39 y39=>bT y27 y39 (fun x40 y40=>?_))))))))))))))))))
   exact gT (fun _=>⟨_,rfl,y34,y36,y37,y40⟩) (fun _=>⟨_,rfl,y37,y40,y34,y36⟩)
  ·show ∃r,self (aP (j-1),_)=some r∧_
   rw[cn (by omega)]
   exact ih (n-1) _ (by omega) ⟨by show j-1+1=_;omega,by omega,hv.1,hv.2.1,hv.2.2.1,hv.2.2.2⟩
 ·refine lb (fun v:List UInt64=>v.length=4) (KF h2) (fun i hi=>bT h1 hi (fun x hx=>?_))
  obtain⟨r,r1,r2⟩:=EQ hx
  exact⟨r,by rw[r1,ae],r2⟩
theorem Ha(a:Int): ∃x:List UInt8,dQ a=some (1,(4,(0,([],(x,([],[]))))))∧x.length=32:=by
 obtain⟨s,s1,s2⟩:=Dr a
 obtain⟨x,x1,x2⟩:=Hr (f:=s) (g:=[9,(aj 0),(aj 0),(aj 0),(aj 0),(aj 0),(aj 0),(aj 0),(aj 0),(aj 0),(aj 0),(aj 0),(aj 0),(aj 0),(aj 0),(aj 0),(aj 0),(aj 0),(aj 0),(aj 0),(aj 0),(aj 0),(aj 0),(aj 0),(aj 0),(aj 0),(aj 0),(aj 0),(aj 0),(aj 0),(aj 0),(aj 0)]) s2 rfl
 refine⟨x,?_,x2⟩
 have h0:((s.length:Int) != 32)=false:=by rw[s2];rfl
 unfold dQ gg
 rw[s1,ae,ao,h0,eB,sV s2,ae,x1,ae,lh (by rw[List.length_nil];omega),ae,ae,List.nil_append]
end Go.Proofs.YtimjjookppejeaaGreatDoor
