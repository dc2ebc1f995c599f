/- A part of the proof of TopKeys. No condition. -/
import Derived.Test.YtiilbonamnegaaaGreatDoorZn
namespace Go.Proofs.YtiilbonamnegaaaGreatDoor
open Go.Gk Go.RowKit
set_option maxRecDepth 100000
def O0:Option ((List UInt64)×(List UInt64))→Bool
 |some r=>Nat.beq r.1.length 64&&Nat.beq r.2.length 8
 |none=>false
theorem Ii:O0 (iu 64)=true:=by kernel_rfl
theorem HL : ∃r,iu 64=some r∧r.1.length=64∧r.2.length=8:=by
 have h:=Ii
 generalize iu 64=o at h
 cases o with
 |none=>cases h
 |some r=>
  have h:(Nat.beq r.1.length 64&&Nat.beq r.2.length 8)=true:=h
  rw[Bool.and_eq_true]at h
  exact⟨r,rfl,Nat.eq_of_beq_eq_true h.1,Nat.eq_of_beq_eq_true h.2⟩
set_option maxRecDepth 100000
set_option maxHeartbeats 4000000
theorem dI{x:Int}(h : -9223372036854775808≤x∧x<9223372036854775808):aA x=x:=an h.1 h.2
theorem ix{α:Type}{e:UInt32}{K:UInt32→Option α}{Q:α→Prop}(k : ∀x,∃r,K x=some r∧Q r): ∃r,letm e K=some r∧Q r:=k e
theorem B4{α:Type}{e:UInt8}{K:UInt8→Option α}{Q:α→Prop}(k : ∀x,∃r,K x=some r∧Q r): ∃r,letm e K=some r∧Q r:=k e
theorem ir{α β:Type}{xs:List β}{i:Int}{K:β→Option α}{Q:α→Prop}(h:0≤i∧i<(xs.length:Int))(k : ∀x,∃r,K x=some r∧Q r): ∃r,bnd (aI xs i) K=some r∧Q r:=by
 obtain⟨j,rfl⟩ : ∃j:Nat,i=(j:Int):=⟨i.toNat,by omega⟩
 rw[aE (List.getElem?_eq_getElem (show j<xs.length by omega)),ae]
 exact k _
theorem kP{α:Type}{n:Nat}{i:Int}{K:Nat→Option α}{Q:α→Prop}(h:0≤i∧i<(n:Int))(k : ∀x:Nat,x<n→(x:Int)=i→∃r,K x=some r∧Q r): ∃r,bnd (kL n i) K=some r∧Q r:=by
 unfold kL
 rw[if_pos h,ae]
 exact k _ (by omega) (by omega)
theorem KM(x:UInt32)(n:UInt64): ∃y,@Eq (Option UInt32) (dO .u32 x (UInt64.toNat n:Int)) (some y):=⟨_,(show(if((UInt64.toNat n:Nat):Int)<0 then none else some _)=some _ by rw[if_neg (by omega)])⟩
theorem KE(x:UInt32)(n:UInt64): ∃y,@Eq (Option UInt32) (cg .u32 x (UInt64.toNat n:Int)) (some y):=⟨aq ((UInt32.toNat x:Int)/2^min (UInt64.toNat n:Int).toNat 32),(by show(if((UInt64.toNat n:Nat):Int)<0 then none else some _)=_;rw[if_neg (by omega)];rfl)⟩
theorem LN{α:Type}{x:UInt32}{n:UInt64}{K:UInt32→Option α}{Q:α→Prop}(k : ∀x,∃r,K x=some r∧Q r): ∃r,bnd (dO .u32 x (UInt64.toNat n:Int):Option UInt32) K=some r∧Q r:=by
 obtain⟨y,hy⟩:=KM x n
 obtain⟨r,hr,hq⟩:=k y
 exact⟨r,ac hy hr,hq⟩
theorem G6{α:Type}{x:UInt32}{n:UInt64}{K:UInt32→Option α}{Q:α→Prop}(k : ∀x,∃r,K x=some r∧Q r): ∃r,bnd (cg .u32 x (UInt64.toNat n:Int):Option UInt32) K=some r∧Q r:=by
 obtain⟨y,hy⟩:=KE x n
 obtain⟨r,hr,hq⟩:=k y
 exact⟨r,ac hy hr,hq⟩
theorem IX{α:Type}{x:UInt64}{n:UInt64}{K:UInt64→Option α}{Q:α→Prop}(k : ∀x,∃r,K x=some r∧Q r): ∃r,bnd (cg .u64 x (UInt64.toNat n:Int):Option UInt64) K=some r∧Q r:=by
 obtain⟨y,hy⟩ : ∃y,@Eq (Option UInt64) (cg .u64 x (UInt64.toNat n:Int)) (some y):=⟨_,(show oA x ((UInt64.toNat n:Nat):Int)=_ by unfold oA;rw[if_neg (by omega)])⟩
 obtain⟨r,hr,hq⟩:=k y
 exact⟨r,ac hy hr,hq⟩
theorem HP{α β:Type}{xs ys:List β}{K:List β→Option α}{Q:α→Prop}(h:xs.length+ys.length≤4294967296)(k : ∀zs:List β,zs.length=xs.length+ys.length→∃r,K zs=some r∧Q r): ∃r,bnd (app xs ys) K=some r∧Q r:=by
 rw[aF h,ae]
 exact k _ List.length_append
theorem P4(x:UInt32)(n:Int): ∃y,b_ x n=some y:=by
 have h : ∃y,b_ x n=some y∧True:=by
  unfold b_ gf
  refine bH (gh (fun _=>True) ?_ fun y _=>⟨_,rfl,trivial⟩)
  refine bH (bH (LN fun _=>bH (G6 fun _=>ix fun y=>⟨y,rfl,trivial⟩)))
 obtain⟨y,hy,_⟩:=h
 exact⟨y,hy⟩
theorem y7{α:Type}{x:UInt32}{n:Int}{K:UInt32→Option α}{Q:α→Prop}(k : ∀x,∃r,K x=some r∧Q r): ∃r,bnd (b_ x n) K=some r∧Q r:=by
 obtain⟨y,hy⟩:=P4 x n
 rw[hy,ae]
 exact k y
theorem Oh{α β:Type}{x:β}{K:β→Option α}{Q:α→Prop}(k : ∃r,K x=some r∧Q r): ∃r,bnd (some x) K=some r∧Q r:=k
theorem qM{R S:Type}{b:(Int×S→Option R)→(Int×S)→Option R}(n:Nat)(hn:n≤1000)(P:S→Prop)(Q:R→Prop){s:S}(hs:P s)
  (h1 : ∀self (i:Int) s,0≤i→i<(n:Int)→P s→(∀s',P s'→∃r,self (i+1,s')=some r∧Q r)→∃r,b self (i,s)=some r∧Q r)
  (h2 : ∀self s,P s→∃r,b self ((n:Int),s)=some r∧Q r) : ∃r,aM b bA (0,s)=some r∧Q r:=by
 refine fy (fun m (t:Int×S)=>t.1+(m:Int)=(n:Int)∧0≤t.1∧P t.2) Q ?_ bA n (0,s) (by rw[cG];omega) ⟨by omega,by omega,hs⟩
 rintro m ⟨i,t⟩ self ⟨i1,i2,i3⟩ ih
 have i1:i+(m:Int)=(n:Int):=i1
 have i2:0≤i:=i2
 by_cases hm:m=0
 ·subst hm
  obtain rfl:i=(n:Int):=by omega
  exact h2 self t i3
 ·exact h1 self i t i2 (by omega) i3 fun s' hs'=>ih (m-1) (i+1,s') (by omega) ⟨by show i+1+((m-1:Nat):Int)=_;omega,by show 0≤i+1;omega,hs'⟩
theorem Ln{h k:List UInt32}{b:List UInt8}(hh:h.length=8)(hk:k.length=64)(hb:b.length=64): ∃r,kZ h (some k) b=some r∧r.length=8:=by
 unfold kZ
 refine qM 64 (by omega) (fun w:List UInt32=>w.length=64) _ (by rfl) ?_ ?_
 ·intro self i w i0 i1 hw hself
  refine bH (dt (fun _=>?_) (fun hc=>absurd (of_decide_eq_false hc) (by show ¬¬(i:Int)<64;omega)))
  refine gh (fun v:List UInt32=>v.length=64) ?_ fun v hv=>bH (by show ∃r,self (aA (i+1),v)=some r∧_;rw[dI (by omega)];exact hself v hv)
  refine bH (dt (fun hc=>?_) (fun hc=>?_))
  ·have hc:i<16:=of_decide_eq_true hc
   refine bH ?_
   refine ir (by first |omega | (simp(disch:=omega) only[dI];omega)) (fun _=>?_)
   refine ix (fun _=>?_)
   refine LN (fun _=>?_)
   refine bH ?_
   refine bH ?_
   refine ir (by first |omega | (simp(disch:=omega) only[dI];omega)) (fun _=>?_)
   refine ix (fun _=>?_)
   refine LN (fun _=>?_)
   refine ix (fun _=>?_)
   refine bH ?_
   refine bH ?_
   refine ir (by first |omega | (simp(disch:=omega) only[dI];omega)) (fun _=>?_)
   refine ix (fun _=>?_)
   refine LN (fun _=>?_)
   refine ix (fun _=>?_)
   refine bH ?_
   refine bH ?_
   refine ir (by first |omega | (simp(disch:=omega) only[dI];omega)) (fun _=>?_)
   refine ix (fun _=>?_)
   refine ix (fun _=>?_)
   refine kP (by first |omega | (simp(disch:=omega) only[dI];omega)) (fun _ _ _=>?_)
   refine ir (by first |omega | (simp(disch:=omega) only[dI];omega)) (fun _=>?_)
   refine bH ?_
   exact⟨_,rfl,by rw[List.length_set];exact hw⟩
  ·have hc : ¬i<16:=of_decide_eq_false hc
   refine bH ?_
   refine kP (by show 0≤aA (i-15)∧aA (i-15)<((64:Nat):Int);rw[dI (by omega)];omega) (fun _ _ _=>?_)
   refine ir (by first |omega | (simp(disch:=omega) only[dI];omega)) (fun _=>?_)
   refine bH ?_
   refine kP (by show 0≤aA (i-2)∧aA (i-2)<((64:Nat):Int);rw[dI (by omega)];omega) (fun _ _ _=>?_)
   refine ir (by first |omega | (simp(disch:=omega) only[dI];omega)) (fun _=>?_)
   refine y7 (fun _=>?_)
   refine y7 (fun _=>?_)
   refine ix (fun _=>?_)
   refine G6 (fun _=>?_)
   refine ix (fun _=>?_)
   refine bH ?_
   refine kP (by show 0≤aA (i-7)∧aA (i-7)<((64:Nat):Int);rw[dI (by omega)];omega) (fun _ _ _=>?_)
   refine ir (by first |omega | (simp(disch:=omega) only[dI];omega)) (fun _=>?_)
   refine ix (fun _=>?_)
   refine y7 (fun _=>?_)
   refine y7 (fun _=>?_)
   refine ix (fun _=>?_)
   refine G6 (fun _=>?_)
   refine ix (fun _=>?_)
   refine ix (fun _=>?_)
   refine bH ?_
   refine kP (by show 0≤aA (i-16)∧aA (i-16)<((64:Nat):Int);rw[dI (by omega)];omega) (fun _ _ _=>?_)
   refine ir (by first |omega | (simp(disch:=omega) only[dI];omega)) (fun _=>?_)
   refine ix (fun _=>?_)
   refine kP (by first |omega | (simp(disch:=omega) only[dI];omega)) (fun _ _ _=>?_)
   refine ir (by first |omega | (simp(disch:=omega) only[dI];omega)) (fun _=>?_)
   refine bH ?_
   exact⟨_,rfl,by rw[List.length_set];exact hw⟩
 ·intro self w hw
  refine bH (dt (fun hc=>absurd (of_decide_eq_true hc) (by show ¬((64:Nat):Int)<64;omega)) (fun _=>?_))
  refine qM 64 (by omega) (fun s:List UInt32=>s.length=8) _ hh ?_ ?_
  ·intro self i s i0 i1 hs hself
   refine bH (dt (fun _=>?_) (fun hc=>absurd (of_decide_eq_false hc) (by show ¬¬(i:Int)<64;omega)))
   refine kP (by first |omega | (simp(disch:=omega) only[dI];omega)) (fun _ _ _=>?_)
   refine ir (by first |omega | (simp(disch:=omega) only[dI];omega)) (fun _=>?_)
   refine kP (by first |omega | (simp(disch:=omega) only[dI];omega)) (fun _ _ _=>?_)
   refine ir (by first |omega | (simp(disch:=omega) only[dI];omega)) (fun _=>?_)
   refine kP (by first |omega | (simp(disch:=omega) only[dI];omega)) (fun _ _ _=>?_)
   refine ir (by first |omega | (simp(disch:=omega) only[dI];omega)) (fun _=>?_)
   refine y7 (fun _=>?_)
   refine y7 (fun _=>?_)
   refine ix (fun _=>?_)
   refine y7 (fun _=>?_)
   refine ix (fun _=>?_)
   refine ix (fun _=>?_)
   refine kP (by first |omega | (simp(disch:=omega) only[dI];omega)) (fun _ _ _=>?_)
   refine ir (by first |omega | (simp(disch:=omega) only[dI];omega)) (fun _=>?_)
   refine ix (fun _=>?_)
   refine ix (fun _=>?_)
   refine kP (by first |omega | (simp(disch:=omega) only[dI];omega)) (fun _ _ _=>?_)
   refine ir (by first |omega | (simp(disch:=omega) only[dI];omega)) (fun _=>?_)
   refine ix (fun _=>?_)
   refine ix (fun _=>?_)
   refine ix (fun _=>?_)
   refine Oh ?_
   refine Oh ?_
   refine ir (by first |omega | (simp(disch:=omega) only[dI];omega)) (fun _=>?_)
   refine ix (fun _=>?_)
   refine kP (by first |omega | (simp(disch:=omega) only[dI];omega)) (fun _ _ _=>?_)
   refine ir (by first |omega | (simp(disch:=omega) only[dI];omega)) (fun _=>?_)
   refine ix (fun _=>?_)
   refine y7 (fun _=>?_)
   refine y7 (fun _=>?_)
   refine ix (fun _=>?_)
   refine y7 (fun _=>?_)
   refine ix (fun _=>?_)
   refine kP (by first |omega | (simp(disch:=omega) only[dI];omega)) (fun _ _ _=>?_)
   refine ir (by first |omega | (simp(disch:=omega) only[dI];omega)) (fun _=>?_)
   refine ix (fun _=>?_)
   refine kP (by first |omega | (simp(disch:=omega) only[dI];omega)) (fun _ _ _=>?_)
   refine ir (by first |omega | (simp(disch:=omega) only[dI];omega)) (fun _=>?_)
   refine ix (fun _=>?_)
   refine ix (fun _=>?_)
   refine kP (by first |omega | (simp(disch:=omega) only[dI];omega)) (fun _ _ _=>?_)
   refine ir (by first |omega | (simp(disch:=omega) only[dI];omega)) (fun _=>?_)
   refine kP (by first |omega | (simp(disch:=omega) only[dI];omega)) (fun _ _ _=>?_)
   refine ir (by first |omega | (simp(disch:=omega) only[dI];omega)) (fun _=>?_)
   refine ix (fun _=>?_)
   refine ix (fun _=>?_)
   refine ix (fun _=>?_)
   refine ix (fun _=>?_)
   refine kP (by first |omega | (simp(disch:=omega) only[dI];omega)) (fun _ _ _=>?_)
   refine ir (by first |omega | (simp(disch:=omega) only[dI];omega)) (fun _=>?_)
   refine kP (by first |omega | (simp(disch:=omega) only[dI];omega)) (fun _ _ _=>?_)
   refine ir (by first |omega | (simp(disch:=omega) only[dI];omega)) (fun _=>?_)
   refine kP (by first |omega | (simp(disch:=omega) only[dI];omega)) (fun _ _ _=>?_)
   refine ir (by first |omega | (simp(disch:=omega) only[dI];omega)) (fun _=>?_)
   refine ix (fun _=>?_)
   refine kP (by first |omega | (simp(disch:=omega) only[dI];omega)) (fun _ _ _=>?_)
   refine ir (by first |omega | (simp(disch:=omega) only[dI];omega)) (fun _=>?_)
   refine kP (by first |omega | (simp(disch:=omega) only[dI];omega)) (fun _ _ _=>?_)
   refine ir (by first |omega | (simp(disch:=omega) only[dI];omega)) (fun _=>?_)
   refine bH ?_
   show ∃r,self (aA (i+1),_)=some r∧_
   rw[dI (by omega)]
   exact hself _ rfl
  ·intro self s hs
   refine bH (dt (fun hc=>absurd (of_decide_eq_true hc) (by show ¬((64:Nat):Int)<64;omega)) (fun _=>?_))
   refine qM 8 (by omega) (fun t:List UInt32=>t.length=8) _ hh ?_ ?_
   ·intro self i t i0 i1 ht hself
    refine bH (dt (fun _=>?_) (fun hc=>absurd (of_decide_eq_false hc) (by show ¬¬(i:Int)<8;omega)))
    refine kP (by first |omega | (simp(disch:=omega) only[dI];omega)) (fun _ _ _=>?_)
    refine ir (by first |omega | (simp(disch:=omega) only[dI];omega)) (fun _=>?_)
    refine kP (by first |omega | (simp(disch:=omega) only[dI];omega)) (fun _ _ _=>?_)
    refine ir (by first |omega | (simp(disch:=omega) only[dI];omega)) (fun _=>?_)
    refine ix (fun _=>?_)
    refine kP (by first |omega | (simp(disch:=omega) only[dI];omega)) (fun _ _ _=>?_)
    refine ir (by first |omega | (simp(disch:=omega) only[dI];omega)) (fun _=>?_)
    refine bH ?_
    refine bH ?_
    show ∃r,self (aA (i+1),_)=some r∧_
    rw[dI (by omega)]
    exact hself _ (by rw[List.length_set];exact ht)
   ·intro self t ht
    refine bH (dt (fun hc=>absurd (of_decide_eq_true hc) (by show ¬((8:Nat):Int)<8;omega)) (fun _=>?_))
    exact⟨t,rfl,ht⟩
set_option maxRecDepth 100000
theorem GJ{b:List UInt8}(hb:b.length≤60000): ∃r,mg b 64 8=some r∧r.length%64=0∧r.length≤70000:=by
 unfold mg
 refine bH (bH ?_)
 have e0:LB (β:=UInt8) (aA ((b.length:Int)+aA (2*64))) 0=some []:=by
  rw[dI (x:=2*64) (by omega),dI (by omega)]
  unfold LB
  rw[decide_eq_true (by omega),decide_eq_true (by omega)];rfl
 rw[e0,ae]
 refine HP (by rw[List.length_nil];omega) (fun x6 h6=>?_)
 rw[List.length_nil]at h6
 refine HP (by simp only[List.length_cons,List.length_nil];omega) (fun x7 h7=>?_)
 simp only[List.length_cons,List.length_nil]at h7
 refine gh (fun v:List UInt8=>(v.length+8)%64=0∧v.length≤60100) ?_ ?_
 ·refine fy (fun n (s:List UInt8)=>n=(64-(s.length+8)%64)%64∧s.length+n≤60065) _ ?_ bA _ x7 (by rw[cG];omega) ⟨rfl,by omega⟩
  rintro n s self ⟨hn,hl⟩ ih
  refine bH ?_
  rw[dI (by omega),show((s.length:Int)+8)=((s.length+8:Nat):Int) by omega]
  have hr:Gk.rem ((s.length+8:Nat):Int) 64=some (((s.length+8)%64:Nat):Int):=FA (a:=s.length+8) (b:=64) (by omega)
  rw[hr,ae]
  refine bH (dt (fun hc=>?_) (fun hc=>?_))
  ·have hc : ¬(s.length+8)%64=0:=by
    intro h0
    rw[h0]at hc;cases hc
   refine HP (by simp only[List.length_cons,List.length_nil];omega) (fun z hz=>?_)
   simp only[List.length_cons,List.length_nil]at hz
   exact ih (n-1) z (by omega) ⟨by omega,by omega⟩
  ·have hc:(s.length+8)%64=0:=by
    have hc:(((((s.length+8)%64:Nat):Int)) != 0)=false:=hc
    rw[←Bool.not_eq_true,bne_iff_ne,ne_eq,Decidable.not_not]at hc
    omega
   exact⟨s,rfl,hc,by omega⟩
 rintro v ⟨hv,hvl⟩
 refine bH (bH (bH ?_))
 have e56:aA (aA (8*8)-8)=56:=rfl
 rw[e56]
 refine fy (fun n (s:List UInt8×Int)=>s.2=8*(n:Int)-8∧n≤8∧s.1.length+n=v.length+8) _ ?_ bA 8 (v,56) (by rw[cG];omega) ⟨by omega,by omega,rfl⟩
 rintro n s self ⟨h1,h2,h3⟩ ih
 refine bH (dt (fun hc=>?_) (fun hc=>?_))
 ·have hc:0≤s.2:=of_decide_eq_true hc
  refine gh (fun z:List UInt8=>z.length=s.1.length+1) ?_ (fun z hz=>?_)
  ·refine bH (dt (fun hd=>absurd (of_decide_eq_true hd) (by omega)) (fun _=>?_))
   refine bH (dt (fun hd=>absurd (eq_of_beq hd) (by omega)) (fun _=>?_))
   obtain⟨y,hy⟩:=rZ (aB (b.length:Int)) 3
   obtain⟨y2,hy2⟩ : ∃y2,@Eq (Option UInt64) (cg .u64 y s.2) (some y2):=⟨_,(show oA y s.2=_ by unfold oA;rw[if_neg (by omega)])⟩
   have ha:app s.1 [av (UInt64.toNat y2:Int)]=some (s.1 ++ [av (UInt64.toNat y2:Int)]):=aF (by simp only[List.length_cons,List.length_nil];omega)
   refine⟨s.1 ++ [av (UInt64.toNat y2:Int)],?_,by rw[List.length_append];rfl⟩
   refine ac hy (ac hy2 ?_)
   rw[ab]
   exact ac ha rfl
  ·refine bH ?_
   rw[dI (by omega)]
   exact ih (n-1) _ (by omega) ⟨by show s.2-8=_;omega,by omega,by show z.length+_=_;omega⟩
 ·have hc : ¬0≤s.2:=of_decide_eq_false hc
  exact⟨s.1,rfl,by omega,by omega⟩
theorem Jb{α:Type}{xs:List α}{lo hi:Nat}(h:lo≤hi)(h':hi≤xs.length): ∃r,Gk.cut xs (lo:Int) (hi:Int)=some r∧r.length=hi-lo:=by
 refine⟨_,iF h h',?_⟩
 rw[List.length_drop,List.length_take];omega
theorem BL{b:List UInt8}(hb:b.length≤60000): ∃r,f0 b=some r∧r.length=32:=by
 obtain⟨c,hc,c1,c2⟩:=HL
 unfold f0
 rw[hc,ae]
 refine qM 64 (by omega) (fun s:List UInt32=>s.length=64) _ (by rfl) ?_ ?_
 ·intro self i s i0 i1 hs hself
  refine bH (dt (fun _=>?_) (fun hc=>absurd (of_decide_eq_false hc) (by show ¬¬(i:Int)<64;omega)))
  refine ir (by show 0≤i∧i<_;omega) (fun x5=>?_)
  refine IX (fun x6=>?_)
  refine ix (fun x7=>?_)
  refine kP (by show 0≤i∧i<_;omega) (fun x8 h8 _=>?_)
  refine ir (by show 0≤0+(x8:Int)∧0+(x8:Int)<(s.length:Int);omega) (fun x9=>?_)
  refine bH (bH ?_)
  show ∃r,self (aA (i+1),_)=some r∧_
  rw[dI (by omega)]
  exact hself _ (by rw[List.length_set];exact hs)
 intro self s hs
 refine bH (dt (fun hc=>absurd (of_decide_eq_true hc) (by show ¬((64:Nat):Int)<64;omega)) (fun _=>?_))
 refine qM 8 (by omega) (fun s:List UInt32=>s.length=8) _ (by rfl) ?_ ?_
 ·intro self i s i0 i1 hs hself
  refine bH (dt (fun _=>?_) (fun hc=>absurd (of_decide_eq_false hc) (by show ¬¬(i:Int)<8;omega)))
  refine kP (by show 0≤i∧i<_;omega) (fun x15 h15 _=>?_)
  refine ir (by show 0≤0+(x15:Int)∧0+(x15:Int)<(c.2.length:Int);omega) (fun x16=>?_)
  refine IX (fun x17=>?_)
  refine ix (fun x18=>?_)
  refine kP (by show 0≤i∧i<_;omega) (fun x19 h19 _=>?_)
  refine ir (by show 0≤0+(x19:Int)∧0+(x19:Int)<(s.length:Int);omega) (fun x20=>?_)
  refine bH (bH ?_)
  show ∃r,self (aA (i+1),_)=some r∧_
  rw[dI (by omega)]
  exact hself _ (by rw[List.length_set];exact hs)
 intro self2 t ht
 refine bH (dt (fun hc=>absurd (of_decide_eq_true hc) (by show ¬((8:Nat):Int)<8;omega)) (fun _=>?_))
 obtain⟨p,hp,p1,p2⟩:=GJ hb
 rw[hp,ae]
 refine fy (fun n (q:List UInt8×(List UInt32×List UInt32))=>q.1.length=64*n∧q.1.length≤70000∧q.2.1.length=64∧q.2.2.length=8) _ ?_ bA (p.length/64) (p,(s,t)) (by rw[cG];omega) ⟨by show p.length=_;omega,p2,hs,ht⟩
 rintro n q self ⟨q1,q2,q3,q4⟩ ih
 refine bH (dt (fun hc=>?_) (fun hc=>?_))
 ·have hc:0<(q.1.length:Int):=of_decide_eq_true hc
  obtain⟨x27,h27,l27⟩:=Jb (xs:=q.1) (lo:=0) (hi:=64) (by omega) (by omega)
  obtain⟨x28,h28,l28⟩:=Ln (h:=q.2.2) (k:=q.2.1) (b:=x27) q4 q3 (by omega)
  obtain⟨x29,h29,l29⟩:=Jb (xs:=q.1) (lo:=64) (hi:=q.1.length) (by omega) (by omega)
  have h27:Gk.cut q.1 0 64=some x27:=h27
  have h29:Gk.cut q.1 64 (q.1.length:Int)=some x29:=h29
  rw[h27,ae,h28,ae,h29,ae]
  exact ih (n-1) _ (by omega) ⟨by show x29.length=_;omega,by show x29.length≤_;omega,q3,l28⟩
 ·have hc : ¬0<(q.1.length:Int):=of_decide_eq_false hc
  refine fy (fun n (z:List UInt8×Int)=>z.2+(n:Int)=8∧0≤z.2∧(z.1.length:Int)=4*z.2) _ ?_ bA 8 ([],0) (by rw[cG];omega) ⟨by omega,by omega,by rfl⟩
  rintro n z self ⟨z1,z2,z3⟩ ih
  refine bH (dt (fun hd=>?_) (fun hd=>?_))
  ·have hd:z.2<8:=of_decide_eq_true hd
   refine ir (by omega) (fun x33=>?_)
   refine G6 (fun _=>B4 (fun _=>G6 (fun _=>B4 (fun _=>G6 (fun _=>B4 (fun _=>B4 (fun _=>?_)))))))
   refine HP (by simp only[List.length_cons,List.length_nil];omega) (fun y hy=>bH ?_)
   simp only[List.length_cons,List.length_nil]at hy
   rw[dI (by omega)]
   exact ih (n-1) _ (by omega) ⟨by show z.2+1+_=_;omega,by show 0≤z.2+1;omega,by show(y.length:Int)=4*(z.2+1);omega⟩
  ·have hd : ¬z.2<8:=of_decide_eq_false hd
   exact⟨z.1,rfl,by omega⟩
theorem Oa{a b:List UInt8}(ha:a.length≤60000)(hb:b.length≤60000):mM [a,b]=some (a++b):=by
 unfold mM
 rw[bT,aF (by rw[List.length_nil];omega),ae,bT,List.nil_append,aF (by omega),ae,eP]
theorem LM{α:Type}(xs ys:List α)(h:ys.length≤xs.length):(FG xs ys).length=xs.length:=by
 unfold FG
 rw[List.length_append,List.length_take,List.length_drop];omega
theorem zj{a:List UInt8}(ha:a.length≤60000)(c:UInt8): ∃r,ki a c=some r∧r.length=64:=by
 unfold ki
 refine gh (fun v:List UInt8=>v.length≤64) ?_ (fun v hv=>?_)
 ·refine bH (dt (fun _=>?_) (fun hc=>?_))
  ·obtain⟨r,hr,hl⟩:=BL (b:=a) (by omega)
   exact⟨r,ac hr rfl,by omega⟩
  ·have hc : ¬(64:Int)<(a.length:Int):=of_decide_eq_false hc
   exact⟨a,rfl,by omega⟩
 have e:LA (β:=UInt8) 64 0=some (List.replicate 64 0):=rfl
 rw[e,ae]
 refine bH ?_
 have hl:(FG (List.replicate 64 (0:UInt8)) v).length=64:=by rw[LM _ _ (by rw[List.length_replicate];omega),List.length_replicate]
 generalize FG (List.replicate 64 (0:UInt8)) v=w at hl
 rw[hl,rl (by omega),ae]
 have go : ∀(r k:Nat) (s:List UInt8),k+r=64→s.length=64→∃q,jB (R:=(List UInt8)) (S:=(List UInt8)) (fun k7 s8=>some s8)
   (fun k9 s10 self11=>
   bnd (aI s10 (k9:Int)) fun x12=>
   bnd (aI s10 ((((k9:Int):Int)).toNat:Int)) fun x13=>
   letm ((av (bits .xor .u8 (UInt8.toNat x13) (UInt8.toNat c)))) fun x14=>
   bnd (aI s10 (k9:Int)) fun x15=>
   bnd (aI s10 ((((k9:Int):Int)).toNat:Int)) fun x16=>
   letm ((s10.set (((k9:Int):Int)).toNat x14)) fun x17=>
   self11 x17) r k s=some q∧q.length=64:=by
  intro r
  induction r with
  |zero=>intro k s _ hs;exact⟨s,rfl,hs⟩
  |succ r ih=>
   intro k s hk hs
   rw[my,Int.toNat_natCast]
   refine ir (by omega) (fun _=>?_)
   refine ir (by omega) (fun _=>?_)
   refine B4 (fun _=>?_)
   refine ir (by omega) (fun _=>?_)
   refine ir (by omega) (fun _=>?_)
   refine bH ?_
   exact ih (k+1) _ (by omega) (by rw[List.length_set];exact hs)
 exact go (64:Int).toNat 0 w (by rfl) hl
theorem L0{a b:List UInt8}(ha:a.length≤50000)(hb:b.length≤50000): ∃r,pq a b=some r∧r.length=32:=by
 obtain⟨x2,h2,l2⟩:=zj (a:=a) (by omega) 92
 obtain⟨x3,h3,l3⟩:=zj (a:=a) (by omega) 54
 obtain⟨x5,h5,l5⟩:=BL (b:=x3++b) (by rw[List.length_append];omega)
 obtain⟨x7,h7,l7⟩:=BL (b:=x2++x5) (by rw[List.length_append];omega)
 refine⟨x7,?_,l7⟩
 unfold pq
 rw[h2,ae,h3,ae,Oa (by omega) (by omega),ae,h5,ae,Oa (by omega) (by omega),ae,h7,ae]
end Go.Proofs.YtiilbonamnegaaaGreatDoor
