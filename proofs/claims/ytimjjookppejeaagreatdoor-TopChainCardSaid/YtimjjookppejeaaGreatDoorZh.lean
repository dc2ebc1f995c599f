/- A part of the proof of TopChain. No condition. -/
import Derived.Test.YtimjjookppejeaaGreatDoorW3
import Derived.Test.YtimjjookppejeaaGreatDoorZg
namespace Go.Proofs.YtimjjookppejeaaGreatDoor
open Go.Gk Go.RowKit
set_option maxRecDepth 100000
set_option maxHeartbeats 4000000
theorem ek{α:Type}{e:UInt64}{K:UInt64→Option α}{Q:α→Prop}(k : ∀x,∃r,K x=some r∧Q r): ∃r,letm e K=some r∧Q r:=k e
theorem uo{α:Type}{e:UInt8}{K:UInt8→Option α}{Q:α→Prop}(k : ∀x,∃r,K x=some r∧Q r): ∃r,letm e K=some r∧Q r:=k e
theorem ep{α β:Type}{xs:List β}{i:Int}{K:β→Option α}{Q:α→Prop}(h:0≤i∧i<(xs.length:Int))(k : ∀x,∃r,K x=some r∧Q r): ∃r,bnd (az xs i) K=some r∧Q r:=by
 obtain⟨j,rfl⟩ : ∃j:Nat,i=(j:Int):=⟨i.toNat,by omega⟩
 rw[g8 (List.getElem?_eq_getElem (show j<xs.length by omega)),ae]
 exact k _
theorem eI{α:Type}{n:Nat}{i:Int}{K:Nat→Option α}{Q:α→Prop}(h:0≤i∧i<(n:Int))(k : ∀x:Nat,x<n→(x:Int)=i→∃r,K x=some r∧Q r): ∃r,bnd (b_ n i) K=some r∧Q r:=by
 unfold b_
 rw[if_pos h,ae]
 exact k _ (by omega) (by omega)
theorem K0{α:Type}{x:UInt64}{n:UInt64}{K:UInt64→Option α}{Q:α→Prop}(k : ∀x,∃r,K x=some r∧Q r): ∃r,bnd (gE .u64 x (UInt64.toNat n:Int):Option UInt64) K=some r∧Q r:=by
 obtain⟨y,hy⟩ : ∃y,@Eq (Option UInt64) (gE .u64 x (UInt64.toNat n:Int)) (some y):=⟨_,(show(if((UInt64.toNat n:Nat):Int)<0 then none else some _)=some _ by rw[if_neg (by omega)])⟩
 obtain⟨r,hr,hq⟩:=k y
 exact⟨r,an hy hr,hq⟩
theorem zL{α:Type}{x:UInt64}{n:Int}{K:UInt64→Option α}{Q:α→Prop}(h:0≤n)(k : ∀x,∃r,K x=some r∧Q r): ∃r,bnd (dW .u64 x n:Option UInt64) K=some r∧Q r:=by
 obtain⟨y,hy⟩ : ∃y,@Eq (Option UInt64) (dW .u64 x n) (some y):=⟨_,(show we x n=_ by unfold we;rw[if_neg (by omega)])⟩
 obtain⟨r,hr,hq⟩:=k y
 exact⟨r,an hy hr,hq⟩
theorem AK{α β:Type}{xs ys:List β}{K:List β→Option α}{Q:α→Prop}(h:xs.length+ys.length≤4294967296)(k : ∀zs:List β,zs.length=xs.length+ys.length→∃r,K zs=some r∧Q r): ∃r,bnd (app xs ys) K=some r∧Q r:=by
 rw[lh h,ae]
 exact k _ List.length_append
theorem o8(n:UInt64):(0:Int)≤(UInt64.toNat n:Int):=by omega
theorem Pc(x:UInt64)(n:Int): ∃y,bv x n=some y:=by
 have h : ∃y,bv x n=some y∧True:=by
  unfold bv fh
  refine bO (lb (fun _=>True) ?_ fun y _=>⟨_,rfl,trivial⟩)
  refine bO (bO (K0 fun _=>bO (zL (o8 _) fun _=>ek fun y=>⟨y,rfl,trivial⟩)))
 obtain⟨y,hy,_⟩:=h
 exact⟨y,hy⟩
theorem xq{α:Type}{x:UInt64}{n:Int}{K:UInt64→Option α}{Q:α→Prop}(k : ∀x,∃r,K x=some r∧Q r): ∃r,bnd (bv x n) K=some r∧Q r:=by
 obtain⟨y,hy⟩:=Pc x n
 rw[hy,ae]
 exact k y
theorem ne{R S:Type}{b:(Int×S→Option R)→(Int×S)→Option R}(n:Nat)(hn:n≤1000)(P:S→Prop)(Q:R→Prop){s:S}(hs:P s)
  (h1 : ∀self (i:Int) s,0≤i→i<(n:Int)→P s→(∀s',P s'→∃r,self (i+1,s')=some r∧Q r)→∃r,b self (i,s)=some r∧Q r)
  (h2 : ∀self s,P s→∃r,b self ((n:Int),s)=some r∧Q r) : ∃r,aM b bk (0,s)=some r∧Q r:=by
 refine dL (fun m (t:Int×S)=>t.1+(m:Int)=(n:Int)∧0≤t.1∧P t.2) Q ?_ bk n (0,s) (by rw[eP];omega) ⟨by omega,by omega,hs⟩
 rintro m ⟨i,t⟩ self ⟨i1,i2,i3⟩ ih
 have i1:i+(m:Int)=(n:Int):=i1
 have i2:0≤i:=i2
 by_cases hm:m=0
 ·subst hm
  obtain rfl:i=(n:Int):=by omega
  exact h2 self t i3
 ·exact h1 self i t i2 (by omega) i3 fun s' hs'=>ih (m-1) (i+1,s') (by omega) ⟨by show i+1+((m-1:Nat):Int)=_;omega,by show 0≤i+1;omega,hs'⟩
theorem wM{α:Type}{xs:List α}{lo hi:Nat}(h:lo≤hi)(h':hi≤xs.length): ∃r,Gk.cut xs (lo:Int) (hi:Int)=some r∧r.length=hi-lo:=by
 refine⟨_,tF h h',?_⟩
 rw[List.length_drop,List.length_take];omega
theorem G3{h k:List UInt64}{b:List UInt8}(hh:h.length=8)(hk:k.length=80)(hb:b.length=128): ∃r,j2 h k b=some r∧r.length=8:=by
 unfold j2
 refine ne 80 (by omega) (fun w:List UInt64=>w.length=80) _ (by rfl) ?_ ?_
 ·intro self i w i0 i1 hw hself
  refine bO (gT (fun _=>?_) (fun hc=>absurd (of_decide_eq_false hc) (by show ¬¬(i:Int)<80;omega)))
  refine lb (fun v:List UInt64=>v.length=80) ?_ fun v hv=>bO (by show ∃r,self (aP (i+1),v)=some r∧_;rw[cn (by omega)];exact hself v hv)
  refine bO (gT (fun hc=>?_) (fun hc=>?_))
  ·have hc:i<16:=of_decide_eq_true hc
   obtain⟨j,rfl⟩ : ∃j:Nat,i=(j:Int):=⟨i.toNat,by omega⟩
   refine bO (bO (bO ?_))
   obtain⟨x,hx,hl⟩:=wM (xs:=b) (lo:=8*j) (hi:=8*j+8) (by omega) (by omega)
   have e:Gk.cut b (aP (8*(j:Int))) (aP (aP (8*(j:Int))+8))=some x:=by
    rw[cn (x:=8*(j:Int)) (by omega),cn (by omega)]
    exact hx
   refine lb (fun y:List UInt8=>y.length=8) ⟨x,e,by omega⟩ (fun y hy=>?_)
   refine tj (fun s:List UInt64=>s.length=80) (fun r:List UInt64=>r.length=80) 8 (fun k s hs=>⟨s,rfl,hs⟩) ?_ y 0 w (by omega) hw
   intro z k s self' _ hs hself'
   have i0:0≤(j:Int):=by omega
   refine eI (show 0≤(j:Int)∧(j:Int)<((80:Nat):Int) by omega) (fun x17 h17 _=>?_)
   refine ep (by omega) (fun x18=>?_)
   refine K0 (fun _=>?_)
   refine ek (fun _=>ek (fun _=>?_))
   refine eI (show 0≤(j:Int)∧(j:Int)<((80:Nat):Int) by omega) (fun x22 h22 _=>?_)
   refine ep (by omega) (fun _=>?_)
   exact hself' _ (by rw[List.length_set];exact hs)
  ·have hc : ¬i<16:=of_decide_eq_false hc
   refine bO ?_
   refine eI (by show 0≤aP (i-15)∧aP (i-15)<((80:Nat):Int);rw[cn (by omega)];omega) (fun _ _ _=>?_)
   refine ep (by first |omega | (simp(disch:=omega) only[cn];omega)) (fun _=>?_)
   refine bO ?_
   refine eI (by show 0≤aP (i-2)∧aP (i-2)<((80:Nat):Int);rw[cn (by omega)];omega) (fun _ _ _=>?_)
   refine ep (by first |omega | (simp(disch:=omega) only[cn];omega)) (fun _=>?_)
   refine xq (fun _=>xq (fun _=>ek (fun _=>zL (o8 _) (fun _=>ek (fun _=>bO ?_)))))
   refine eI (by show 0≤aP (i-7)∧aP (i-7)<((80:Nat):Int);rw[cn (by omega)];omega) (fun _ _ _=>?_)
   refine ep (by first |omega | (simp(disch:=omega) only[cn];omega)) (fun _=>?_)
   refine ek (fun _=>xq (fun _=>xq (fun _=>ek (fun _=>zL (o8 _) (fun _=>ek (fun _=>ek (fun _=>bO ?_)))))))
   refine eI (by show 0≤aP (i-16)∧aP (i-16)<((80:Nat):Int);rw[cn (by omega)];omega) (fun _ _ _=>?_)
   refine ep (by first |omega | (simp(disch:=omega) only[cn];omega)) (fun _=>?_)
   refine ek (fun _=>?_)
   refine eI (by first |omega | (simp(disch:=omega) only[cn];omega)) (fun _ _ _=>?_)
   refine ep (by first |omega | (simp(disch:=omega) only[cn];omega)) (fun _=>?_)
   exact⟨_,rfl,by rw[List.length_set];exact hw⟩
 ·intro self w hw
  refine bO (gT (fun hc=>absurd (of_decide_eq_true hc) (by show ¬((80:Nat):Int)<80;omega)) (fun _=>?_))
  refine ne 80 (by omega) (fun s:List UInt64=>s.length=8) _ hh ?_ ?_
  ·intro self i s i0 i1 hs hself
   refine bO (gT (fun _=>?_) (fun hc=>absurd (of_decide_eq_false hc) (by show ¬¬(i:Int)<80;omega)))
   refine eI (by first |omega | (simp(disch:=omega) only[cn];omega)) (fun _ _ _=>?_)
   refine ep (by first |omega | (simp(disch:=omega) only[cn];omega)) (fun _=>?_)
   refine eI (by first |omega | (simp(disch:=omega) only[cn];omega)) (fun _ _ _=>?_)
   refine ep (by first |omega | (simp(disch:=omega) only[cn];omega)) (fun _=>?_)
   refine eI (by first |omega | (simp(disch:=omega) only[cn];omega)) (fun _ _ _=>?_)
   refine ep (by first |omega | (simp(disch:=omega) only[cn];omega)) (fun _=>?_)
   refine xq (fun _=>?_)
   refine xq (fun _=>?_)
   refine ek (fun _=>?_)
   refine xq (fun _=>?_)
   refine ek (fun _=>?_)
   refine ek (fun _=>?_)
   refine eI (by first |omega | (simp(disch:=omega) only[cn];omega)) (fun _ _ _=>?_)
   refine ep (by first |omega | (simp(disch:=omega) only[cn];omega)) (fun _=>?_)
   refine ek (fun _=>?_)
   refine ek (fun _=>?_)
   refine eI (by first |omega | (simp(disch:=omega) only[cn];omega)) (fun _ _ _=>?_)
   refine ep (by first |omega | (simp(disch:=omega) only[cn];omega)) (fun _=>?_)
   refine ek (fun _=>?_)
   refine ek (fun _=>?_)
   refine ek (fun _=>?_)
   refine ep (by first |omega | (simp(disch:=omega) only[cn];omega)) (fun _=>?_)
   refine ek (fun _=>?_)
   refine eI (by first |omega | (simp(disch:=omega) only[cn];omega)) (fun _ _ _=>?_)
   refine ep (by first |omega | (simp(disch:=omega) only[cn];omega)) (fun _=>?_)
   refine ek (fun _=>?_)
   refine xq (fun _=>?_)
   refine xq (fun _=>?_)
   refine ek (fun _=>?_)
   refine xq (fun _=>?_)
   refine ek (fun _=>?_)
   refine eI (by first |omega | (simp(disch:=omega) only[cn];omega)) (fun _ _ _=>?_)
   refine ep (by first |omega | (simp(disch:=omega) only[cn];omega)) (fun _=>?_)
   refine ek (fun _=>?_)
   refine eI (by first |omega | (simp(disch:=omega) only[cn];omega)) (fun _ _ _=>?_)
   refine ep (by first |omega | (simp(disch:=omega) only[cn];omega)) (fun _=>?_)
   refine ek (fun _=>?_)
   refine ek (fun _=>?_)
   refine eI (by first |omega | (simp(disch:=omega) only[cn];omega)) (fun _ _ _=>?_)
   refine ep (by first |omega | (simp(disch:=omega) only[cn];omega)) (fun _=>?_)
   refine eI (by first |omega | (simp(disch:=omega) only[cn];omega)) (fun _ _ _=>?_)
   refine ep (by first |omega | (simp(disch:=omega) only[cn];omega)) (fun _=>?_)
   refine ek (fun _=>?_)
   refine ek (fun _=>?_)
   refine ek (fun _=>?_)
   refine ek (fun _=>?_)
   refine eI (by first |omega | (simp(disch:=omega) only[cn];omega)) (fun _ _ _=>?_)
   refine ep (by first |omega | (simp(disch:=omega) only[cn];omega)) (fun _=>?_)
   refine eI (by first |omega | (simp(disch:=omega) only[cn];omega)) (fun _ _ _=>?_)
   refine ep (by first |omega | (simp(disch:=omega) only[cn];omega)) (fun _=>?_)
   refine eI (by first |omega | (simp(disch:=omega) only[cn];omega)) (fun _ _ _=>?_)
   refine ep (by first |omega | (simp(disch:=omega) only[cn];omega)) (fun _=>?_)
   refine ek (fun _=>?_)
   refine eI (by first |omega | (simp(disch:=omega) only[cn];omega)) (fun _ _ _=>?_)
   refine ep (by first |omega | (simp(disch:=omega) only[cn];omega)) (fun _=>?_)
   refine eI (by first |omega | (simp(disch:=omega) only[cn];omega)) (fun _ _ _=>?_)
   refine ep (by first |omega | (simp(disch:=omega) only[cn];omega)) (fun _=>?_)
   show ∃r,self (aP (i+1),_)=some r∧_
   rw[cn (by omega)]
   exact hself _ rfl
  ·intro self s hs
   refine bO (gT (fun hc=>absurd (of_decide_eq_true hc) (by show ¬((80:Nat):Int)<80;omega)) (fun _=>?_))
   refine ne 8 (by omega) (fun t:List UInt64=>t.length=8) _ hh ?_ ?_
   ·intro self i t i0 i1 ht hself
    refine bO (gT (fun _=>?_) (fun hc=>absurd (of_decide_eq_false hc) (by show ¬¬(i:Int)<8;omega)))
    refine eI (by first |omega | (simp(disch:=omega) only[cn];omega)) (fun _ _ _=>?_)
    refine ep (by first |omega | (simp(disch:=omega) only[cn];omega)) (fun _=>?_)
    refine eI (by first |omega | (simp(disch:=omega) only[cn];omega)) (fun _ _ _=>?_)
    refine ep (by first |omega | (simp(disch:=omega) only[cn];omega)) (fun _=>?_)
    refine ek (fun _=>?_)
    refine eI (by first |omega | (simp(disch:=omega) only[cn];omega)) (fun _ _ _=>?_)
    refine ep (by first |omega | (simp(disch:=omega) only[cn];omega)) (fun _=>?_)
    refine bO ?_
    refine bO ?_
    show ∃r,self (aP (i+1),_)=some r∧_
    rw[cn (by omega)]
    exact hself _ (by rw[List.length_set];exact ht)
   ·intro self t ht
    refine bO (gT (fun hc=>absurd (of_decide_eq_true hc) (by show ¬((8:Nat):Int)<8;omega)) (fun _=>?_))
    exact⟨t,rfl,ht⟩
theorem EX{b:List UInt8}(hb:b.length≤60000): ∃r,lc b 128 16=some r∧r.length%128=0∧r.length≤70000:=by
 unfold lc
 refine bO (bO ?_)
 have e0:GS (β:=UInt8) (aP ((b.length:Int)+aP (2*128))) 0=some []:=by
  rw[cn (x:=2*128) (by omega),cn (by omega)]
  unfold GS
  rw[decide_eq_true (by omega),decide_eq_true (by omega)];rfl
 rw[e0,ae]
 refine AK (by rw[List.length_nil];omega) (fun x6 h6=>?_)
 rw[List.length_nil]at h6
 refine AK (by simp only[List.length_cons,List.length_nil];omega) (fun x7 h7=>?_)
 simp only[List.length_cons,List.length_nil]at h7
 refine lb (fun v:List UInt8=>(v.length+16)%128=0∧v.length≤60200) ?_ ?_
 ·refine dL (fun n (s:List UInt8)=>n=(128-(s.length+16)%128)%128∧s.length+n≤60130) _ ?_ bk _ x7 (by rw[eP];omega) ⟨rfl,by omega⟩
  rintro n s self ⟨hn,hl⟩ ih
  refine bO ?_
  rw[cn (by omega),show((s.length:Int)+16)=((s.length+16:Nat):Int) by omega]
  have hr:Gk.rem ((s.length+16:Nat):Int) 128=some (((s.length+16)%128:Nat):Int):=rF (a:=s.length+16) (b:=128) (by omega)
  rw[hr,ae]
  refine bO (gT (fun hc=>?_) (fun hc=>?_))
  ·have hc : ¬(s.length+16)%128=0:=by
    intro h0
    rw[h0]at hc;cases hc
   refine AK (by simp only[List.length_cons,List.length_nil];omega) (fun z hz=>?_)
   simp only[List.length_cons,List.length_nil]at hz
   exact ih (n-1) z (by omega) ⟨by omega,by omega⟩
  ·have hc:(s.length+16)%128=0:=by
    have hc:(((((s.length+16)%128:Nat):Int)) != 0)=false:=hc
    rw[←Bool.not_eq_true,bne_iff_ne,ne_eq,Decidable.not_not]at hc
    omega
   exact⟨s,rfl,hc,by omega⟩
 rintro v ⟨hv,hvl⟩
 refine bO (bO (bO ?_))
 have e56:aP (aP (8*16)-8)=120:=rfl
 rw[e56]
 refine dL (fun n (s:List UInt8×Int)=>s.2=8*(n:Int)-8∧n≤16∧s.1.length+n=v.length+16) _ ?_ bk 16 (v,120) (by rw[eP];omega) ⟨by omega,by omega,rfl⟩
 rintro n s self ⟨h1,h2,h3⟩ ih
 refine bO (gT (fun hc=>?_) (fun hc=>?_))
 ·have hc:0≤s.2:=of_decide_eq_true hc
  refine lb (fun z:List UInt8=>z.length=s.1.length+1) ?_ (fun z hz=>?_)
  ·refine bO (gT (fun hd=>?_) (fun _=>?_))
   ·refine AK (by simp only[List.length_cons,List.length_nil];omega) (fun z hz=>⟨z,rfl,hz⟩)
   refine bO (gT (fun hd=>?_) (fun _=>?_))
   ·refine zL (o8 _) (fun _=>uo (fun _=>?_))
    refine AK (by simp only[List.length_cons,List.length_nil];omega) (fun z hz=>⟨z,rfl,hz⟩)
   ·refine K0 (fun _=>zL hc (fun _=>uo (fun _=>?_)))
    refine AK (by simp only[List.length_cons,List.length_nil];omega) (fun z hz=>⟨z,rfl,hz⟩)
  ·refine bO ?_
   rw[cn (by omega)]
   exact ih (n-1) _ (by omega) ⟨by show s.2-8=_;omega,by omega,by show z.length+_=_;omega⟩
 ·have hc : ¬0≤s.2:=of_decide_eq_false hc
  exact⟨s.1,rfl,by omega,by omega⟩
theorem td{b:List UInt8}(hb:b.length≤60000): ∃r,gY b=some r∧r.length=64:=by
 obtain⟨c,hc,c1,c2⟩:=Fs
 obtain⟨p,hp,p1,p2⟩:=EX hb
 unfold gY
 rw[hc,ae,hp,ae]
 refine dL (fun n (q:List UInt8×List UInt64)=>q.1.length=128*n∧q.1.length≤70000∧q.2.length=8) _ ?_ bk (p.length/128) (p,c.2) (by rw[eP];omega) ⟨by show p.length=_;omega,p2,c2⟩
 rintro n q self ⟨q1,q2,q4⟩ ih
 refine bO (gT (fun hc=>?_) (fun hc=>?_))
 ·have hc:0<(q.1.length:Int):=of_decide_eq_true hc
  obtain⟨x27,h27,l27⟩:=wM (xs:=q.1) (lo:=0) (hi:=128) (by omega) (by omega)
  obtain⟨x28,h28,l28⟩:=G3 (h:=q.2) (k:=c.1) (b:=x27) q4 c1 (by omega)
  obtain⟨x29,h29,l29⟩:=wM (xs:=q.1) (lo:=128) (hi:=q.1.length) (by omega) (by omega)
  have h27:Gk.cut q.1 0 128=some x27:=h27
  have h29:Gk.cut q.1 128 (q.1.length:Int)=some x29:=h29
  rw[h27,ae,h28,ae,h29,ae]
  exact ih (n-1) _ (by omega) ⟨by show x29.length=_;omega,by show x29.length≤_;omega,l28⟩
 ·have hc : ¬0<(q.1.length:Int):=of_decide_eq_false hc
  refine dL (fun n (z:List UInt8×Int)=>z.2+(n:Int)=8∧0≤z.2∧(z.1.length:Int)=8*z.2) _ ?_ bk 8 ([],0) (by rw[eP];omega) ⟨by omega,by omega,by rfl⟩
  rintro n z self ⟨z1,z2,z3⟩ ih
  refine bO (gT (fun hd=>?_) (fun hd=>?_))
  ·have hd:z.2<8:=of_decide_eq_true hd
   refine ep (by omega) (fun x33=>?_)
   refine dL (fun m (y:List UInt8×Int)=>y.2=8*(m:Int)-8∧m≤8∧y.1.length+m=z.1.length+8) _ ?_ bk 8 (z.1,56) (by rw[eP];omega) ⟨by omega,by omega,rfl⟩
   rintro m y self2 ⟨y1,y2,y3⟩ ih2
   refine bO (gT (fun he=>?_) (fun he=>?_))
   ·have he:0≤y.2:=of_decide_eq_true he
    refine zL he (fun _=>uo (fun _=>?_))
    refine AK (by simp only[List.length_cons,List.length_nil];omega) (fun x hx=>bO ?_)
    simp only[List.length_cons,List.length_nil]at hx
    rw[cn (by omega)]
    exact ih2 (m-1) _ (by omega) ⟨by show y.2-8=_;omega,by omega,by show x.length+_=_;omega⟩
   ·have he : ¬0≤y.2:=of_decide_eq_false he
    refine bO ?_
    rw[cn (by omega)]
    exact ih (n-1) _ (by omega) ⟨by show z.2+1+_=_;omega,by show 0≤z.2+1;omega,by show(y.1.length:Int)=8*(z.2+1);omega⟩
  ·have hd : ¬z.2<8:=of_decide_eq_false hd
   exact⟨z.1,rfl,by omega⟩
end Go.Proofs.YtimjjookppejeaaGreatDoor
