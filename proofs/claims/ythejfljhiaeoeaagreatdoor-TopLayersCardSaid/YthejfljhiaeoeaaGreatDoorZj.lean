import Derived.Test.YthejfljhiaeoeaaGreatDoorZv
namespace Go.Proofs.YthejfljhiaeoeaaGreatDoor
open Go.Gk Go.RowKit
theorem F5(t:Int)(h0:0≤t)(h3:t≤3)(n:Nat)(hn:n≤8):ar (rN .or (rN .or 64 (aF (t*16))) (n:Int))=ar (aF (aF (64+aF (16*t))+(n:Int))):=by
 obtain⟨a,rfl⟩ : ∃a:Nat,t=(a:Int):=⟨t.toNat,by omega⟩
 have ha3:a≤3:=by omega
 rw[ap (x:=(a:Int)*16) (by omega) (by omega),show(a:Int)*16=((a*16:Nat):Int) by omega]
 have e2:rN .or 64 ((a*16:Nat):Int)=((64 ||| a*16:Nat):Int):=Di (a:=64) (by omega) (by omega)
 have hlt:64 ||| a*16<2^63:=Nat.or_lt_two_pow (by omega) (by omega)
 rw[e2,Di (by omega) (by omega)]
 have key : ∀a,a≤3→∀n,n≤8→(64 ||| a*16) ||| n=64+16*a+n:=by decide
 rw[key a ha3 n hn,ap (x:=16*(a:Int)) (by omega) (by omega),ap (x:=64+16*(a:Int)) (by omega) (by omega),ap (by omega) (by omega)]
 congr 1
def mo:Int→List ai→Bool
 |_,[]=>true
 |n,o::r=>!(decide (o.1<n))&&!(decide (65535<o.1))&&!(decide (1034<(o.2.length:Int)))&&mo o.1 r
theorem zw{c:Option Bool}: ∀(xs:List ai) (k:Nat) (s:Int),a6 (R:=Bool) (S:=Int) (α:=ai) (fun _ _=>c)
  (fun x28 _k29 s30 self31=>cond (decide (x28.1<s30)||(decide (65535<x28.1)||decide (1034<(x28.2.length:Int)))) (some false) (self31 x28.1)) xs k s
  = cond (mo s xs) c (some false)
 | [],k,s=>rfl
 |x::xs,k,s=>by
  rw[bj,zw xs]
  simp only[mo]
  cases decide (x.1<s)<;>cases decide (65535<x.1)<;>cases decide (1034<(x.2.length:Int))<;>rfl
def Ow(c:Int):Bool:=(c==0)||(c==2)||(c==4)||(c==5)
def C5(m:am):Bool:=
 !(decide (m.1<0))&&!(decide (3<m.1))&&!(decide (m.2.1<0))&&!(decide (255<m.2.1))&&Ow (m.2.1/32)&&!(decide (m.2.2.1<0))&&!(decide (65535<m.2.2.1))&&!(decide (8<(m.2.2.2.1.length:Int)))&&!(decide (32<(m.2.2.2.2.1.length:Int)))&&mo 0 m.2.2.2.2.1
  && !((m.2.1==0)&&decide (0<aF (aF ((m.2.2.2.1.length:Int)+(m.2.2.2.2.1.length:Int))+(m.2.2.2.2.2.length:Int))))&&!((m.1==3)&&!(m.2.1==0))&&decide ((m.2.2.2.2.2.length:Int)≤4096)
theorem CE(m:am):gT m=some (C5 m):=by
 unfold gT C5 Ow
 rw[R2,ae]
 generalize m.2.1/32=x1
 simp only[aa,oQ,iz,A4,RN,ae,zw,bne]
 refine congrArg some ?_
 generalize decide (m.1<0)=b1
 generalize decide (3<m.1)=b2
 generalize decide (m.2.1<0)=b3
 generalize decide (255<m.2.1)=b4
 generalize decide (m.2.2.1<0)=b5
 generalize decide (65535<m.2.2.1)=b6
 generalize decide (8<(m.2.2.2.1.length:Int))=b7
 generalize decide (32<(m.2.2.2.2.1.length:Int))=b8
 generalize mo 0 m.2.2.2.2.1=b9
 simp only[Bool.not_or,Bool.not_and,Bool.not_not,Bool.and_assoc]
 cases b1<;>simp only[Bool.not_true,Bool.not_false,Bool.false_and,Bool.true_and]
 cases b2<;>simp only[Bool.not_true,Bool.not_false,Bool.false_and,Bool.true_and]
 cases b3<;>simp only[Bool.not_true,Bool.not_false,Bool.false_and,Bool.true_and]
 cases b4<;>simp only[Bool.not_true,Bool.not_false,Bool.false_and,Bool.true_and]
 cases b5<;>simp only[Bool.not_true,Bool.not_false,Bool.false_and,Bool.true_and,Bool.and_false]
 cases b6<;>simp only[Bool.not_true,Bool.not_false,Bool.false_and,Bool.true_and,Bool.and_false]
 cases b7<;>simp only[Bool.not_true,Bool.not_false,Bool.false_and,Bool.true_and,Bool.and_false]
 cases b8<;>simp only[Bool.not_true,Bool.not_false,Bool.false_and,Bool.true_and,Bool.and_false]
 cases b9<;>simp only[Bool.false_and,Bool.true_and,Bool.and_false]
 cases x1==0<;>cases x1==2<;>cases x1==4<;>cases x1==5<;>cases m.2.1==0<;>cases m.1==3<;>cases decide (0<aF (aF ((m.2.2.2.1.length:Int)+(m.2.2.2.2.1.length:Int))+(m.2.2.2.2.2.length:Int)))<;>rfl
def FF(l:List ai):Prop:=l.length≤1000000∧∀o∈l,o.2.length≤1000000
def HN(m:am):Prop:=m.2.2.2.1.length≤1000000∧FF m.2.2.2.2.1∧m.2.2.2.2.2.length≤1000000
theorem eY{l:List UInt8}(h:l.length≤1000000):aY l=some l:=by
 unfold aY;rw[aD (by simp;omega)];rfl
theorem gG{α:Type}{l:List α}(h:l.length≤1000000):cO [] l=some l:=by
 rw[aD (by simp;omega)];rfl
def uS(l:List ai)(n:Int):List (List UInt8):=l.filterMap fun o=>cond (o.1==n) (some o.2) none
theorem Mt{m:am}{n:Int}(h:FF m.2.2.2.2.1):jq m n=some (uS m.2.2.2.2.1 n):=by
 unfold jq
 rw[gX (fun o:ai=>cond (o.1==n) (some o.2) none) _ _ _ (by have:=h.1;simp;omega) fun o ho k s self=>?_]
 ·rfl
 ·rw[aa,gG (h.2 o ho)]
  cases o.1==n
  ·rfl
  ·simp only[a7,ae]
   cases cO s [o.2]<;>rfl
def uV(l:List ai)(n:Int)(vs:List (List UInt8)):List ai:=l.filter (fun o=>decide (o.1<n))++vs.map (fun v=>(n,v))++l.filter (fun o=>decide (n<o.1))
def Nl(m:am)(l:List ai):am:=(m.1,(m.2.1,(m.2.2.1,(m.2.2.2.1,(l,m.2.2.2.2.2)))))
theorem Kh{m:am}{l:List ai}(h:HN m)(hl:FF l):eL m l=some (Nl m l):=by
 unfold eL
 rw[gG h.1,gG h.2.2,ae,ae,tO (fun o=>o) _ _ _ (by have:=hl.1;simp;omega) fun o ho k s self=>?_]
 ·rw[List.map_id'];rfl
 ·rw[gG (hl.2 o ho)];rfl
theorem FF.set{l:List ai}{n:Int}{vs:List (List UInt8)}(h1:l.length≤400000)(h2 : ∀o∈l,o.2.length≤1000000)(h3:vs.length≤400000)(h4 : ∀v∈vs,v.length≤1000000):FF (uV l n vs):=by
 refine⟨?_,fun o ho=>?_⟩
 ·unfold uV
  simp only[List.length_append,List.length_map]
  have a1:(l.filter fun o=>decide (o.1<n)).length+(l.filter fun o=>decide (n<o.1)).length≤l.length:=by
   clear h1 h2
   induction l with
   |nil=>simp
   |cons x l ih=>
    simp only[List.filter_cons]
    by_cases h:x.1<n
    ·have : ¬n<x.1:=by omega
     simp[h,this];omega
    ·by_cases h':n<x.1<;>simp[h,h']<;>omega
  omega
 ·unfold uV at ho
  simp only[List.mem_append,List.mem_filter,List.mem_map]at ho
  rcases ho with(⟨ho,_⟩ | ⟨v,hv,rfl⟩) | ⟨ho,_⟩
  ·exact h2 o ho
  ·exact h4 v hv
  ·exact h2 o ho
theorem Lw{m:am}{n:Int}{vs:List (List UInt8)}(h:HN m)(h1:m.2.2.2.2.1.length≤400000)(h3:vs.length≤400000)(h4 : ∀v∈vs,v.length≤1000000):dP m n vs=some (Nl m (uV m.2.2.2.2.1 n vs)):=by
 have hL:=FF.set (n:=n) h1 h.2.1.2 h3 h4
 unfold dP
 have fl : ∀(p:ai→Bool) (l:List ai),l.filterMap (fun o=>cond (p o) (some o) none)=l.filter p:=by
  intro p l
  induction l with
  |nil=>rfl
  |cons x l ih=>rw[List.filterMap_cons,List.filter_cons];cases p x<;>simp[ih]
 rw[gX (fun o:ai=>cond (decide (o.1<n)) (some o) none) _ _ _ (by simp;omega) fun o ho k s self=>?_]
 ·rw[fl,tO (fun v=>(n,v)) vs 0 _ (by have:=List.length_filter_le (fun o:ai=>decide (o.1<n)) m.2.2.2.2.1;simp only[List.length_append,List.length_nil,Nat.zero_add];omega) fun v _ k s self=>rfl]
  rw[gX (fun o:ai=>cond (decide (n<o.1)) (some o) none) _ _ _ (by have:=List.length_filter_le (fun o:ai=>decide (o.1<n)) m.2.2.2.2.1;simp only[List.length_append,List.length_nil,Nat.zero_add,List.length_map];omega) fun o ho k s self=>?_]
  ·rw[fl]
   show bnd (eL m (uV m.2.2.2.2.1 n vs)) _=_
   rw[Kh h hL];rfl
  ·simp only[aa]
   cases decide (n<o.1)
   ·rfl
   ·simp only[a7]
    cases cO s [o]<;>rfl
 ·simp only[aa]
  cases decide (o.1<n)
  ·rfl
  ·simp only[a7]
   cases cO s [o]<;>rfl
theorem qu : ∀{l:List ai} {n:Int},mo n l=true→∀o∈l,o.2.length≤1034∧0≤o.1-n∧o.1≤65535
 | [],_,_,o,ho=>by simp at ho
 |x::l,n,h,o,ho=>by
  simp only[mo,Bool.and_eq_true,Bool.not_eq_true',decide_eq_false_iff_not]at h
  obtain⟨⟨⟨h1,h2⟩,h3⟩,h4⟩:=h
  rcases List.mem_cons.1 ho with rfl |ho
  ·exact⟨by omega,by omega,by omega⟩
  ·obtain⟨a,b,c⟩:=qu h4 o ho
   exact⟨a,by omega,c⟩
structure H0(m:am):Prop where
 t0:0≤m.1
 t3:m.1≤3
 c0:0≤m.2.1
 c255:m.2.1≤255
 i0:0≤m.2.2.1
 i65535:m.2.2.1≤65535
 tok:m.2.2.2.1.length≤8
 ol:m.2.2.2.2.1.length≤32
 ob:mo 0 m.2.2.2.2.1=true
 pay:m.2.2.2.2.2.length≤4096
theorem DF{m:am}(h:C5 m=true):H0 m:=by
 unfold C5 at h
 simp only[Bool.and_eq_true,Bool.not_eq_true',decide_eq_false_iff_not,decide_eq_true_eq]at h
 obtain⟨⟨⟨⟨⟨⟨⟨⟨⟨⟨⟨⟨h1,h2⟩,h3⟩,h4⟩,_⟩,h5⟩,h6⟩,h7⟩,h8⟩,h9⟩,_⟩,_⟩,h10⟩:=h
 exact⟨by omega,by omega,by omega,by omega,by omega,by omega,by omega,by omega,h9,by omega⟩
def eG(d:Int):ai:=bif decide (d<13)then(d,[])else bif decide (d<269)then(13,[ar (aF (d-13))])else(14,[ar (aF (d-269)/256),ar (aF (d-269))])
theorem sn(d:Int):(eG d).2.length≤2:=by
 unfold eG
 cases decide (d<13)<;>cases decide (d<269)<;>simp
def m8:Int→List ai→List UInt8
 |_,[]=>[]
 |n,o::r=>ar (aF (aF (16*(eG (aF (o.1-n))).1)+(eG (o.2.length:Int)).1))::((eG (aF (o.1-n))).2++((eG (o.2.length:Int)).2++(o.2++m8 o.1 r)))
def nf(p:List UInt8):List UInt8:=bif decide (0<(p.length:Int))then 255::p else []
def qd(m:am):List UInt8:=
 [ar (aF (aF (64+aF (16*m.1))+(m.2.2.2.1.length:Int))),ar m.2.1,ar (m.2.2.1/256),ar m.2.2.1]++(m.2.2.2.1++(m8 0 m.2.2.2.2.1++nf m.2.2.2.2.2))
def Kz(l:List ai):Nat:=(l.map fun o=>o.2.length+5).sum
theorem wo(o:ai)(l:List ai):Kz (o::l)=o.2.length+5+Kz l:=by unfold Kz;simp
theorem JG{l:List ai}{b:Nat}(h : ∀o∈l,o.2.length≤b):Kz l≤l.length*(b+5):=by
 induction l with
 |nil=>simp[Kz]
 |cons o l ih=>
  have h1:=h o (by simp)
  have h2:=ih fun x hx=>h x (by simp[hx])
  rw[wo,List.length_cons,Nat.succ_mul];omega
theorem CC : ∀(l:List ai) (n:Int),(m8 n l).length≤Kz l
 | [],_=>by simp[m8]
 |o::l,n=>by
  have h1:=sn (aF (o.1-n))
  have h2:=sn (o.2.length:Int)
  have h3:=CC l o.1
  rw[wo]
  simp only[m8,List.length_cons,List.length_append];omega
theorem H0.sz{m:am}(h:H0 m):Kz m.2.2.2.2.1≤33248:=by
 have h1:=JG (l:=m.2.2.2.2.1) (b:=1034) fun o ho=>(qu h.ob o ho).1
 have h2:=Nat.mul_le_mul_right 1039 h.ol
 omega
def CZ(m:am):Bool:=C5 m&&decide (((qd m).length:Int)≤4096)
theorem Ko{m:am}(h:CZ m=true):H0 m:=by
 unfold CZ at h;rw[Bool.and_eq_true]at h;exact DF h.1
theorem Cy(a:Int){m:Int}(h0:0<m)(h1:m<4611686018427387904): ∃y,fG a m=some y∧0≤y∧y<m:=by
 obtain⟨q,hq,l1,l2⟩:=IX (a:=a) h0
 unfold fG
 rw[hq,ae,aa]
 by_cases h:q<0
 ·rw[decide_eq_true h,a7,aa,ae,ap (by omega) (by omega)]
  exact⟨_,rfl,by omega,by omega⟩
 ·rw[decide_eq_false h,ay,ae]
  exact⟨_,rfl,by omega,by omega⟩
structure bt(d:ab):Prop where
 lo:0≤d.2
 hi:d.2≤(d.1.length:Int)
 len:d.1.length≤maxLen
theorem Le{l:List Int}(h:l.length≤maxLen):bt (l,0):=⟨Int.le_refl _,by show(0:Int)≤(l.length:Int);omega,h⟩
theorem bI{d:ab}(h:bt d){n:Int}(h0:0<n)(h1:n<4611686018427387904): ∃v d',ah d n=some (v,d')∧0≤v∧v<n∧bt d':=by
 have hm:maxLen=9223372036854775807:=rfl
 have a:=h.lo
 have b:=h.hi
 have c:=h.len
 unfold ah
 rw[aa]
 by_cases hq:(d.1.length:Int)≤d.2
 ·rw[decide_eq_true hq,a7]
  exact⟨0,d,rfl,Int.le_refl _,h0,h⟩
 ·rw[decide_eq_false hq,ay,aa,aa,ap (x:=d.2+1) (by omega) (by omega),ap (by omega) (by omega)]
  obtain⟨i,hi⟩ : ∃i:Nat,d.2+1-1=(i:Int):=⟨d.2.toNat,by omega⟩
  have hlt:i<d.1.length:=by omega
  rw[hi,aM (List.getElem?_eq_getElem hlt),ae]
  obtain⟨y,hy,y0,y1⟩:=Cy d.1[i] h0 h1
  rw[hy,ae]
  exact⟨_,_,rfl,y0,y1,by show 0≤d.2+1;omega,by show d.2+1≤(d.1.length:Int);omega,c⟩
theorem Cp : ∀(k f:Nat) (b:List UInt8) (d:ab),k<f→bt d→b.length+k≤1000000→∃z d',bo (R:=((List UInt8)×ab)) (S:=((List UInt8)×(Int×ab))) (fun self5 s4=>
   letm (decide (0<s4.2.1)) fun x6=>cond x6 (bnd (ah s4.2.2 256) fun x7=>letm ((ar x7.1)) fun x8=>bnd (cO s4.1 [x8]) fun x9=>letm ((aF (s4.2.1-1))) fun x10=>self5 (x9,(x10,x7.2))) (some (s4.1,s4.2.2))) f (b,((k:Int),d))=some (z,d')∧z.length=b.length+k∧bt d'
 |0,f+1,b,d,_,hd,_=>⟨b,d,rfl,rfl,hd⟩
 |k+1,f+1,b,d,hf,hd,hl=>by
  obtain⟨v,d1,h1,_,_,h2⟩:=bI hd (n:=256) (by omega) (by omega)
  rw[bS,aa]
  have e1:decide ((0:Int)<((k+1:Nat):Int))=true:=decide_eq_true (by omega)
  simp only[e1,a7]
  rw[h1,ae,aa,aD (by simp;omega),ae,aa,ap (by omega) (by omega),show(((k+1:Nat):Int)-1)=(k:Int) by omega]
  obtain⟨z,d',h3,h4,h5⟩:=Cp k f (b ++ [ar v]) d1 (by omega) h2 (by simp;omega)
  exact⟨z,d',h3,by simp at h4;omega,h5⟩
theorem B0{l:List ai}{n:Int}{vs:List (List UInt8)}{o:ai}(h:o∈uV l n vs):o∈l∨∃v∈vs,o=(n,v):=by
 unfold uV at h
 simp only[List.mem_append,List.mem_filter,List.mem_map]at h
 rcases h with(⟨h,_⟩ | ⟨v,hv,rfl⟩) | ⟨h,_⟩
 ·exact .inl h
 ·exact .inr ⟨v,hv,rfl⟩
 ·exact .inl h
theorem qM{α:Type}(l:List α){v:Int}(h0:0≤v)(h1:v<(l.length:Int)): ∃x,aV l v=some x∧x∈l:=by
 obtain⟨i,rfl⟩ : ∃i:Nat,v=(i:Int):=⟨v.toNat,by omega⟩
 have hi:i<l.length:=by omega
 exact⟨l[i],aM (List.getElem?_eq_getElem hi),List.getElem_mem hi⟩
theorem yK(l:List ai): ∀(rest:List ai) (k:Nat),l.drop k=rest→a6 (R:=Bool) (S:=Unit) (α:=ai) (fun _ _=>some true) (fun x11 k12 _ self14=>
  bnd (bnd (aV l (k12:Int)) fun x15=>letm ((x11.1 != x15.1)) fun x16=>cond x16 (some true) (bnd (aV l (k12:Int)) fun x17=>letm ((x11.2 != x17.2)) fun x18=>some x18)) fun v19=>cond v19 (some false) (self14 ())) rest k ()=some true
 | [],_,_=>rfl
 |x::r,k,h=>by
  have hk:l[k]?=some x:=by have:=congrArg (fun l=>l[0]?) h;simpa using this
  have hd:l.drop (k+1)=r:=by have:=congrArg (fun l=>l.drop 1) h;simpa using this
  rw[bj,aM hk,ae,aa,yK l r (k+1) hd]
  simp[aa,ae]
theorem Om(m:am):dH m m=some true:=by
 unfold dH
 rw[yK m.2.2.2.2.1 m.2.2.2.2.1 0 rfl]
 simp[aa,ae]
theorem HY(l:List ai)(n:Int):(uS l n).length≤l.length:=List.length_filterMap_le _ _
theorem HZ{l:List ai}{n:Int}{v:List UInt8}(h:v∈uS l n): ∃o∈l,o.2=v:=by
 unfold uS at h
 obtain⟨o,ho,h⟩:=List.mem_filterMap.1 h
 refine⟨o,ho,?_⟩
 cases hq:o.1==n with
 |true=>rw[hq]at h;simpa using h
 |false=>rw[hq]at h;cases h
theorem QQ(m:am)(n:Int):dY m n=jq m n:=rfl
theorem Hl{α:Type}{R:α→α→Prop}(h : ∀a b,R a b): ∀l:List α,l.Pairwise R
 | []=>.nil
 |x::l=>.cons (fun b _=>h x b) (Hl h l)
theorem sJ{d:ab}(h:bt d){n:Nat}(h1:n≤1000): ∃b d',aH d n=some (b,d')∧b.length≤n∧bt d':=by
 unfold aH
 rw[aa,ap (by omega) (by omega)]
 obtain⟨v,d1,h2,v0,v1,h3⟩:=bI h (n:=(n:Int)+1) (by omega) (by omega)
 rw[h2,ae]
 obtain⟨k,rfl⟩ : ∃k:Nat,v=(k:Int):=⟨v.toNat,by omega⟩
 obtain⟨z,d',h4,h5,h6⟩:=Cp k cS [] d1 (by rw[dU];omega) h3 (by simp;omega)
 exact⟨z,d',h4,by simp at h5;omega,h6⟩
theorem GC(l:List ai)(x:Int)(b:List UInt8):(uV l x (uS l x ++ [b])).length≤l.length+1:=by
 unfold uV uS
 simp only[List.length_append,List.length_map,List.length_singleton]
 have : ∀l:List ai,(l.filter fun o=>decide (o.1<x)).length+(l.filterMap fun o=>cond (o.1==x) (some o.2) none).length+(l.filter fun o=>decide (x<o.1)).length≤l.length:=by
  intro l
  induction l with
  |nil=>simp
  |cons o l ih=>
   simp only[List.filter_cons,List.filterMap_cons]
   rcases Int.lt_trichotomy o.1 x with h |h |h
   ·have h2 : ¬x<o.1:=by omega
    have h3:(o.1==x)=false:=by rw[beq_eq_false_iff_ne];omega
    simp[h,h2,h3];omega
   ·have h1 : ¬o.1<x:=by omega
    have h2 : ¬x<o.1:=by omega
    simp[h];omega
   ·have h2 : ¬o.1<x:=by omega
    have h3:(o.1==x)=false:=by rw[beq_eq_false_iff_ne];omega
    simp[h,h2,h3];omega
 have:=this l
 omega
structure yg(b:Nat)(l:List ai):Prop where
 srt:l.Pairwise (fun a b=>a.1≤b.1)
 num : ∀o∈l,0≤o.1∧o.1≤65535
 val : ∀o∈l,o.2.length≤b
theorem yg.set{B:Nat}{l:List ai}(h:yg B l){n:Int}(h0:0≤n)(h1:n≤65535){vs:List (List UInt8)}(hv : ∀v∈vs,v.length≤B):yg B (uV l n vs):=by
 refine⟨?_,fun o ho=>?_,fun o ho=>?_⟩
 ·unfold uV
  refine List.pairwise_append.2 ⟨List.pairwise_append.2 ⟨h.srt.filter _,?_,?_⟩,h.srt.filter _,?_⟩
  ·rw[List.pairwise_map]
   exact Hl (fun _ _=>Int.le_refl _) vs
  ·intro a ha b hb
   obtain⟨v,_,rfl⟩:=List.mem_map.1 hb
   have:=of_decide_eq_true (List.mem_filter.1 ha).2
   show a.1≤n
   omega
  ·intro a ha b hb
   have hb':=of_decide_eq_true (List.mem_filter.1 hb).2
   rcases List.mem_append.1 ha with ha |ha
   ·have:=of_decide_eq_true (List.mem_filter.1 ha).2
    omega
   ·obtain⟨v,_,rfl⟩:=List.mem_map.1 ha
    show n≤b.1
    omega
 ·rcases B0 ho with ho | ⟨v,_,rfl⟩
  ·exact h.num o ho
  ·exact⟨h0,h1⟩
 ·rcases B0 ho with ho | ⟨v,hv',rfl⟩
  ·exact h.val o ho
  ·exact hv v hv'
theorem yg.opts : ∀{B:Nat} (hB:B≤1034) {l:List ai} {n:Int},yg B l→(∀o∈l,n≤o.1)→mo n l=true
 |_,_,[],_,_,_=>rfl
 |B,hB,x::l,n,h,hn=>by
  obtain⟨h1,h2⟩:=List.pairwise_cons.1 h.srt
  obtain⟨a,b⟩:=h.num x (by simp)
  have c:=h.val x (by simp)
  have:=hn x (by simp)
  have ih:=@yg.opts B hB l x.1 ⟨h2,fun o ho=>h.num o (by simp[ho]),fun o ho=>h.val o (by simp[ho])⟩ h1
  simp only[mo,ih,Bool.and_true,Bool.and_eq_true,Bool.not_eq_true',decide_eq_false_iff_not]
  exact⟨⟨by omega,by omega⟩,by omega⟩
theorem Oq{m:am}(h:HN m):gh m=some m:=by
 unfold gh
 rw[gG h.1,ae,gG h.2.2,ae]
 rw[tO (fun o=>o) _ _ _ (by have:=h.2.1.1;simp;omega) fun o ho k s self=>?_]
 ·rw[List.map_id'];rfl
 ·rw[gG (h.2.1.2 o ho)];rfl
set_option maxRecDepth 100000
theorem Bx(d:Int):gP d=some (ar (eG d).1,(eG d).2):=by
 unfold gP eG
 simp only[aa,ND,ae]
 cases decide (d<13)<;>cases decide (d<269)<;>rfl
theorem wY{d:Int}(h0:0≤d):0≤(eG d).1∧(eG d).1≤14:=by
 unfold eG
 cases h1:decide (d<13)with
 |true=>have:=of_decide_eq_true h1;exact⟨h0,by show d≤14;omega⟩
 |false=>cases decide (d<269)<;>simp
theorem Ch(p:List UInt8)(hp:p.length≤1000000): ∀(xs:List ai) (k:Nat) (b:List UInt8) (n:Int),b.length+Kz xs≤1000000000→(∀o∈xs,o.2.length≤2000)→a6 (R:=(List UInt8)) (S:=((List UInt8)×Int)) (α:=ai)
  (fun _ s11=>bnd (β:=(List UInt8)) (letm (decide (0<(p.length:Int))) fun x12=>cond x12 (bnd (cO s11.1 [255]) fun x13=>bnd (cO x13 p) fun x14=>some x14) (some s11.1)) fun v15=>some v15)
  (fun x16 _ s18 self19=>letm ((aF (x16.1-s18.2))) fun x20=>bnd (gP x20) fun x21=>bnd (gP (x16.2.length:Int)) fun x22=>bnd (et .u8 x21.1 (UInt64.toNat 4:Int)) fun x23=>letm ((ar (bits .or .u8 (UInt8.toNat x23) (UInt8.toNat x22.1)))) fun x24=>
   bnd (cO s18.1 [x24]) fun x25=>bnd (cO x25 x21.2) fun x26=>bnd (cO x26 x22.2) fun x27=>bnd (cO x27 x16.2) fun x28=>self19 (x28,x16.1)) xs k (b,n)=some (b++(m8 n xs++nf p))
 | [],k,b,n,h,_=>by
  rw[eU,aa]
  unfold nf
  cases hd:decide (0<(p.length:Int))with
  |false=>simp[m8,ae,ay]
  |true=>
   rw[a7,aD (by simp;simp[Kz]at h;omega),ae,aD (by simp;simp[Kz]at h;omega)]
   simp[m8,ae]
 |x::xs,k,b,n,h,ho=>by
  rw[wo]at h
  have h1:=sn (aF (x.1-n))
  have h2:=sn (x.2.length:Int)
  have hx:=ho x (by simp)
  obtain⟨g0,g1⟩:=wY (d:=(x.2.length:Int)) (by omega)
  have hv:=eC (eG (x.2.length:Int)).1
  obtain⟨y,hy1,hy2⟩:=ST (eG (aF (x.1-n))).1 (ar (eG (x.2.length:Int)).1) (by omega)
  have hy3:ar (bits .or .u8 (UInt8.toNat y) (UInt8.toNat (ar (eG (x.2.length:Int)).1)))=ar (aF (aF (16*(eG (aF (x.1-n))).1)+(eG (x.2.length:Int)).1)):=hy2.trans (by rw[show((ar (eG (x.2.length:Int)).1).toNat:Int)=(eG (x.2.length:Int)).1 by omega])
  rw[bj]
  simp only[aa,Bx,ae]
  refine(ac hy1 ?_)
  rw[hy3]
  rw[aD (by simp;omega),ae,aD (by simp;omega),ae,aD (by simp;omega),ae,aD (by simp;omega),ae]
  have ih:=Ch p hp xs (k+1) (b ++ [ar (aF (aF (16*(eG (aF (x.1-n))).1)+(eG (x.2.length:Int)).1))]++(eG (aF (x.1-n))).2++(eG (x.2.length:Int)).2++x.2) x.1 (by simp;omega) (fun o h=>ho o (by simp[h]))
  simp only[aa,Bx,ae]at ih
  rw[ih]
  simp[m8]
theorem Pj{m:am}(h:H0 m):fR m=some (qd m):=by
 have h2:=h.sz
 have h1:=h.tok
 have h3:=h.pay
 unfold fR
 rw[RR,ae]
 simp only[aa,ND,ae]
 rw[F5 m.1 h.t0 h.t3 _ h1,aD (by simp;omega),ae]
 have:=Ch m.2.2.2.2.2 (by omega) m.2.2.2.2.1 0 ([ar (aF (aF (64+aF (16*m.1))+(m.2.2.2.1.length:Int))),ar m.2.1,ar (m.2.2.1/256),ar m.2.2.1]++m.2.2.2.1) 0 (by simp;omega) (fun o ho=>by have:=(qu h.ob o ho).1;omega)
 simp only[aa]at this
 rw[this]
 unfold qd
 simp
theorem B_{b:List UInt8}{f:Bool}{n:Nat}(h:n≤b.length)(hb:b.length≤100000):a_ (b,f) (n:Int)=some (b.take n,(b.drop n,f)):=by
 unfold a_
 have e1:Gk.cut b (0:Int) (n:Int)=some (b.take n):=by
  have:=gn (xs:=b) (lo:=0) (hi:=n) (by omega) h
  simpa using this
 have e2:Gk.cut (b.take n) (0:Int) (n:Int)=some (b.take n):=by
  have:=gn (xs:=b.take n) (lo:=0) (hi:=n) (by omega) (by rw[List.length_take];omega)
  rw[List.take_take,Nat.min_self]at this
  exact this
 have e3:Gk.cut b (n:Int) (b.length:Int)=some (b.drop n):=by
  have:=gn (xs:=b) (lo:=n) (hi:=b.length) h (Nat.le_refl _)
  simpa using this
 simp only[aa]
 rw[decide_eq_false (by omega),ay,e1,ae,e2,ae,e3,ae]
theorem Fq{d:Int}(h0:0≤d)(h:d<13):eG d=(d,[]):=by unfold eG;rw[decide_eq_true h];rfl
theorem MT{d:Int}(h0:13≤d)(h:d<269):eG d=(13,[ar (d-13)]):=by unfold eG;rw[decide_eq_false (by omega),decide_eq_true h,ap (x:=d-13) (by omega) (by omega)];rfl
theorem L5{d:Int}(h0:269≤d)(h:d≤65804):eG d=(14,[ar ((d-269)/256),ar (d-269)]):=by unfold eG;rw[decide_eq_false (by omega),decide_eq_false (by omega),ap (x:=d-269) (by omega) (by omega)];rfl
theorem P5{d:Int}(h0:0≤d)(h1:d≤65804){x:UInt8}(hx:(x.toNat:Int)=(eG d).1){rest:List UInt8}(hb:rest.length≤90000):bP ((eG d).2++rest,false) x=some (d,(rest,false)):=by
 unfold bP
 by_cases hs:d<13
 ·rw[Fq h0 hs]at hx⊢
  have hx:(x.toNat:Int)=d:=hx
  simp only[aa,List.nil_append,hx]
  rw[show(d==((UInt8.toNat 13:Nat):Int))=false from by simpa using(show d≠13 by omega),show(d==((UInt8.toNat 14:Nat):Int))=false from by simpa using(show d≠14 by omega),show(d==((UInt8.toNat 15:Nat):Int))=false from by simpa using(show d≠15 by omega)]
  rw[ay,ay,ay,i6,ap (by omega) (by omega)]
 ·by_cases hm:d<269
  ·rw[MT (by omega) hm]at hx⊢
   have hx:(x.toNat:Int)=13:=hx
   have ht:=B_ (b:=ar (d-13)::rest) (f:=false) (n:=1) (by simp) (by simp;omega)
   simp only[aa,hx]
   rw[show((13:Int)==((UInt8.toNat 13:Nat):Int))=true from rfl,a7]
   have ht:a_ ([ar (d-13)]++rest,false) 1=some ([ar (d-13)],(rest,false)):=ht
   rw[ht,ae]
   have hi:aV [ar (d-13)] 0=some (ar (d-13)):=rfl
   have hv:=eC (d-13)
   rw[hi,ae,nj,hv,ap (x:=(d-13)%256) (by omega) (by omega),ap (by omega) (by omega)]
   congr 2;omega
  ·rw[L5 (by omega) h1]at hx⊢
   have hx:(x.toNat:Int)=14:=hx
   have ht:=B_ (b:=ar ((d-269)/256)::ar (d-269)::rest) (f:=false) (n:=2) (by simp) (by simp;omega)
   simp only[aa,hx]
   rw[show((14:Int)==((UInt8.toNat 13:Nat):Int))=false from rfl,show((14:Int)==((UInt8.toNat 14:Nat):Int))=true from rfl,ay,a7]
   have ht:a_ ([ar ((d-269)/256),ar (d-269)]++rest,false) 2=some ([ar ((d-269)/256),ar (d-269)],(rest,false)):=ht
   rw[ht,ae]
   have hi:aV [ar ((d-269)/256),ar (d-269)] 0=some (ar ((d-269)/256)):=rfl
   have hj:aV [ar ((d-269)/256),ar (d-269)] 1=some (ar (d-269)):=rfl
   have hv:=eC ((d-269)/256)
   have hw:=eC (d-269)
   rw[hi,ae,hv,ap (x:=(d-269)/256%256) (by omega) (by omega)]
   have hsh:Gk.shl ((d-269)/256%256) ((UInt64.toNat 8:Nat):Int)=some (aF ((d-269)/256%256*256)):=Eq.trans rfl rfl
   rw[hsh,ae,hj,ae,nj,hw,ap (x:=(d-269)/256%256*256) (by omega) (by omega),ap (x:=(d-269)%256) (by omega) (by omega),ap (x:=(d-269)/256%256*256+_) (by omega) (by omega),ap (by omega) (by omega)]
   congr 2;omega
theorem R9 : ∀c:Fin 256,(Option.map (fun x:UInt8=>x.toNat) (c_ .u8 (UInt8.ofNat c.1) (UInt64.toNat 4:Int)):Option Nat)=some (c.1/16):=by decide +kernel
theorem PF : ∀c:Fin 256,ar (bits .and .u8 (UInt8.toNat (UInt8.ofNat c.1)) (UInt8.toNat 15))=UInt8.ofNat (c.1%16):=by decide +kernel
theorem Nv(x:UInt8): @Eq (Option UInt8) (c_ .u8 x (UInt64.toNat 4:Int)) (some (UInt8.ofNat (x.toNat/16))):=by
 have:=R9 ⟨x.toNat,UInt8.toNat_lt x⟩
 rw[show UInt8.ofNat ((⟨x.toNat,UInt8.toNat_lt x⟩:Fin 256).1)=x by simp]at this
 obtain⟨y,h1,h2⟩:=Option.map_eq_some_iff.1 this
 have h1 : @Eq (Option UInt8) (c_ .u8 x (UInt64.toNat 4:Int)) (some y):=h1
 refine h1.trans (congrArg some (UInt8.toNat_inj.1 ?_))
 have h2:y.toNat=x.toNat/16:=h2
 have hx:=UInt8.toNat_lt x
 rw[h2,UInt8.toNat_ofNat']
 omega
theorem Jj(x:UInt8):ar (bits .and .u8 (UInt8.toNat x) (UInt8.toNat 15))=UInt8.ofNat (x.toNat%16):=by
 have:=PF ⟨x.toNat,UInt8.toNat_lt x⟩
 rwa [show UInt8.ofNat ((⟨x.toNat,UInt8.toNat_lt x⟩:Fin 256).1)=x by simp]at this
theorem Ry : ∀c:Fin 256,ar (bits .and .u8 (UInt8.toNat (UInt8.ofNat c.1)) (UInt8.toNat 3))=UInt8.ofNat (c.1%4):=by decide +kernel
theorem QB(x:UInt8):ar (bits .and .u8 (UInt8.toNat x) (UInt8.toNat 3))=UInt8.ofNat (x.toNat%4):=by
 have h:=Ry ⟨x.toNat,x.toNat_lt⟩
 simpa using h
def RH:((Int×((am×(List ai))×bK))→Option ((am×(List ai))×bK))→(Int×((am×(List ai))×bK))→Option ((am×(List ai))×bK):=(fun self22 s21=>
 letm ((!s21.2.2.2)) fun x23=>
 cond x23 (letm (decide (0<(s21.2.2.1.length:Int))) fun x24=>
 cond x24 (bnd (aV s21.2.2.1 0) fun x25=>
 letm (((UInt8.toNat x25:Int) != (UInt8.toNat 255:Int))) fun x26=>
 cond x26 (bnd (a_ s21.2.2 1) fun x27=>
 bnd (aV x27.1 0) fun x28=>
 bnd (c_ .u8 x28 (UInt64.toNat 4:Int)) fun x29=>
 bnd (bP x27.2 x29) fun x30=>
 letm ((aF (s21.1+x30.1))) fun x31=>
 letm ((ar (bits .and .u8 (UInt8.toNat x28) (UInt8.toNat 15)))) fun x32=>
 bnd (bP x30.2 x32) fun x33=>
 bnd (a_ x33.2 x33.1) fun x34=>
 bnd (aY x34.1) fun x35=>
 bnd (cO s21.2.1.2 [(x31,x35)]) fun x36=>
 self22 (x31,((s21.2.1.1,x36),x34.2)))
 (some ((s21.2.1.1,s21.2.1.2),s21.2.2)))
 (some ((s21.2.1.1,s21.2.1.2),s21.2.2)))
 (some ((s21.2.1.1,s21.2.1.2),s21.2.2)))
theorem Nr(M:am)(p:List UInt8): ∀(xs acc:List ai) (n:Int) (f:Nat),xs.length<f→0≤n→mo n xs=true→(m8 n xs++nf p).length≤80000→acc.length+xs.length≤1000→
  bo RH f (n,((M,acc),(m8 n xs++nf p,false)))=some ((M,acc++xs),(nf p,false))
 | [],acc,n,f+1,_,_,_,hl,_=>by
  rw[bS,show m8 n []++nf p=nf p from rfl,List.append_nil]
  unfold RH nf
  simp only[aa,Bool.not_false,a7]
  by_cases hp:0<(p.length:Int)
  ·rw[decide_eq_true hp,cond_true,decide_eq_true (by rw[List.length_cons];omega),a7]
   have hi:aV ((255:UInt8)::p) 0=some 255:=rfl
   rw[hi,ae]
   rfl
  ·rw[decide_eq_false hp,cond_false];rfl
 |o::r,acc,n,f+1,hf,hn,ho,hl,ha=>by
  have hb:=qu ho o (by simp)
  obtain⟨hb1,hb2,hb3⟩:=hb
  have hor:mo o.1 r=true:=by
   have:mo n (o::r)=true:=ho
   unfold mo at this
   simp only[Bool.and_eq_true]at this
   first |exact this.2 |exact this.1.2
  have ewd:aF (o.1-n)=o.1-n:=ap (by omega) (by omega)
  obtain⟨e0,e1⟩:=wY (d:=o.1-n) (by omega)
  obtain⟨g0,g1⟩:=wY (d:=(o.2.length:Int)) (by omega)
  have hh:aF (aF (16*(eG (o.1-n)).1)+(eG (o.2.length:Int)).1)=16*(eG (o.1-n)).1+(eG (o.2.length:Int)).1:=by rw[ap (x:=16*_) (by omega) (by omega),ap (by omega) (by omega)]
  have hraw:m8 n (o::r)++nf p=ar (16*(eG (o.1-n)).1+(eG (o.2.length:Int)).1)::((eG (o.1-n)).2++((eG (o.2.length:Int)).2++(o.2++(m8 o.1 r++nf p)))):=by
   show ar (aF (aF (16*(eG (aF (o.1-n))).1)+(eG (o.2.length:Int)).1))::((eG (aF (o.1-n))).2++((eG (o.2.length:Int)).2++(o.2++m8 o.1 r)))++nf p=_
   rw[ewd,hh];simp
  rw[hraw]at hl⊢
  have hv:=eC (16*(eG (o.1-n)).1+(eG (o.2.length:Int)).1)
  generalize hhb:ar (16*(eG (o.1-n)).1+(eG (o.2.length:Int)).1)=hb at hv hl⊢
  generalize hE:eG (o.1-n)=E at *
  generalize hG:eG (o.2.length:Int)=G at *
  generalize hR:m8 o.1 r++nf p=R at *
  simp only[List.length_cons,List.length_append]at hl
  rw[bS]
  unfold RH
  simp only[aa,Bool.not_false,a7]
  rw[decide_eq_true (by simp;omega),a7]
  have hi : ∀t:List UInt8,aV (hb::t) 0=some hb:=fun _=>rfl
  rw[hi,ae,show((UInt8.toNat hb:Int) != ((UInt8.toNat 255:Nat):Int))=true from by
   have:(hb.toNat:Int)≠255:=by omega
   simpa using this,a7]
  have ht:=B_ (b:=hb::(E.2++(G.2++(o.2++R)))) (f:=false) (n:=1) (by simp) (by simp;omega)
  have ht:a_ (hb::(E.2++(G.2++(o.2++R))),false) 1=some ([hb],(E.2++(G.2++(o.2++R)),false)):=ht
  rw[ht,ae,hi,ae]
  refine ac (Nv _) ?_
  rw[Jj]
  have hx1:((UInt8.ofNat (hb.toNat/16)).toNat:Int)=E.1:=by
   rw[UInt8.toNat_ofNat'];have:=hb.toNat_lt;omega
  have hx2:((UInt8.ofNat (hb.toNat%16)).toNat:Int)=G.1:=by
   rw[UInt8.toNat_ofNat'];have:=hb.toNat_lt;omega
  have hn1:bP (E.2++(G.2++(o.2++R)),false) (UInt8.ofNat (hb.toNat/16))=some (o.1-n,(G.2++(o.2++R),false)):=by
   have:=P5 (d:=o.1-n) (by omega) (by omega) (x:=UInt8.ofNat (hb.toNat/16)) (by rw[hE];exact hx1) (rest:=G.2++(o.2++R)) (by simp;omega)
   rw[hE]at this;exact this
  have hn2:bP (G.2++(o.2++R),false) (UInt8.ofNat (hb.toNat%16))=some ((o.2.length:Int),(o.2++R,false)):=by
   have:=P5 (d:=(o.2.length:Int)) (by omega) (by omega) (x:=UInt8.ofNat (hb.toNat%16)) (by rw[hG];exact hx2) (rest:=o.2++R) (by simp;omega)
   rw[hG]at this;exact this
  rw[hn1,ae,hn2,ae,B_ (by simp) (by simp;omega),ae]
  have e3:(o.2++R).take o.2.length=o.2:=by simp
  have e4:(o.2++R).drop o.2.length=R:=by simp
  rw[e3,e4]
  refine ac (eY (l:=o.2) (by omega)) ?_
  rw[aD (by simp;simp at ha;omega),ae]
  have ew:aF (n+(o.1-n))=o.1:=by rw[ap (by omega) (by omega)];omega
  rw[ew]
  have ih:=Nr M p r (acc ++ [(o.1,o.2)]) o.1 f (by simp at hf;omega) (by omega) hor (by rw[hR];omega) (by simp;simp at ha;omega)
  rw[hR]at ih
  rw[List.append_assoc]at ih
  exact ih
theorem Sq{a b:Nat}(hb:b<256):(a*256) ||| b=a*256+b:=by
 have:=Nat.two_pow_add_eq_or_of_lt (i:=8) (b:=b) (by omega) a
 rw[show(2:Nat)^8=256 from rfl]at this
 rw[Nat.mul_comm a 256]
 omega
theorem Rr{m:am}(h:CZ m=true):ky m=some (qd m,0)∧jd (qd m)=some (m,0)∧(qd m).length≤4096:=by
 have hs:=Ko h
 have hl:(qd m).length≤4096:=by
  unfold CZ at h;rw[Bool.and_eq_true]at h
  have:=of_decide_eq_true h.2;omega
 have hsb:C5 m=true:=by
  unfold CZ at h;rw[Bool.and_eq_true]at h;exact h.1
 have henc:fR m=some (qd m):=Pj hs
 refine⟨?_,?_,hl⟩
 ·unfold ky
  rw[CE,ae,hsb,henc]
  simp only[aa,Bool.not_true,ay,ae]
  rw[decide_eq_false (by omega),ay]
 ·obtain⟨ty,cd,id,tok,os,pay⟩:=m
  obtain⟨t0,t3,c0,c255,i0,i65,tk,ol,ob,py⟩:=hs
  simp only at t0 t3 c0 c255 i0 i65 tk ol ob py
  have hraw:qd (ty,(cd,(id,(tok,(os,pay)))))=ar (64+16*ty+(tok.length:Int))::ar cd::ar (id/256)::ar id::(tok++(m8 0 os++nf pay)):=by
   unfold qd
   simp only
   rw[ap (x:=16*ty) (by omega) (by omega),ap (x:=64+16*ty) (by omega) (by omega),ap (by omega) (by omega)]
   rfl
  have v0:=eC (64+16*ty+(tok.length:Int))
  have v1:=eC cd
  have v2:=eC (id/256)
  have v3:=eC id
  have hl2:=hl
  rw[hraw]at hl2
  simp only[List.length_cons,List.length_append]at hl2
  generalize hB:qd (ty,(cd,(id,(tok,(os,pay)))))=B at *
  unfold jd
  simp only[aa]
  have hBl:4≤B.length:=by rw[hraw];simp
  rw[decide_eq_false (by omega),ay,decide_eq_false (by omega),ay]
  have i0':aV B 0=some (ar (64+16*ty+(tok.length:Int))):=by rw[hraw];rfl
  have i1':aV B 1=some (ar cd):=by rw[hraw];rfl
  have i2':aV B 2=some (ar (id/256)):=by rw[hraw];rfl
  have i3':aV B 3=some (ar id):=by rw[hraw];rfl
  have hcut:Gk.cut B 4 (B.length:Int)=some (tok++(m8 0 os++nf pay)):=by
   have:=gn (xs:=B) (lo:=4) (hi:=B.length) hBl (Nat.le_refl _)
   rw[List.take_length]at this
   refine(show Gk.cut B 4 (B.length:Int)=_ from this).trans ?_
   rw[hraw];rfl
  rw[i0',ae]
  refine ac (Nv _) ?_
  rw[i1',ae,i2',ae,v2]
  have hsh:Gk.shl (aF (id/256%256)) ((UInt64.toNat 8:Nat):Int)=some (aF (aF (id/256%256)*256)):=Eq.trans rfl rfl
  rw[hsh,ae,i3',ae,hcut,ae,ae]
  rw[Jj,QB,v1,v3]
  have hty:aF (((UInt8.ofNat ((UInt8.ofNat ((ar (64+16*ty+(tok.length:Int))).toNat/16)).toNat%4)).toNat:Nat):Int)=ty:=by
   rw[UInt8.toNat_ofNat',UInt8.toNat_ofNat',ap (by omega) (by omega)];omega
  have htl:aF (((UInt8.ofNat ((ar (64+16*ty+(tok.length:Int))).toNat%16)).toNat:Nat):Int)=(tok.length:Int):=by
   rw[UInt8.toNat_ofNat',ap (by omega) (by omega)];omega
  have hcd:aF (cd%256)=cd:=by rw[ap (by omega) (by omega)];omega
  have hid:rN .or (aF (aF (id/256%256)*256)) (aF (id%256))=id:=by
   obtain⟨k,rfl⟩ : ∃k:Nat,id=(k:Int):=⟨id.toNat,by omega⟩
   have e1:aF (aF ((k:Int)/256%256)*256)=((k/256*256:Nat):Int):=by rw[ap (x:=(k:Int)/256%256) (by omega) (by omega),ap (by omega) (by omega)];omega
   have e2:aF ((k:Int)%256)=((k%256:Nat):Int):=by rw[ap (by omega) (by omega)];omega
   rw[e1,e2,Di (by omega) (by omega),Sq (by omega)];omega
  rw[hty,htl,hcd,hid,B_ (by simp) (by simp;omega),ae]
  have e3:(tok++(m8 0 os++nf pay)).take tok.length=tok:=by simp
  have e4:(tok++(m8 0 os++nf pay)).drop tok.length=m8 0 os++nf pay:=by simp
  rw[e3,e4]
  refine ac (eY (l:=tok) (by omega)) ?_
  have hloop:=Nr (ty,(cd,(id,(tok,([],[]))))) pay os [] 0 cS (by rw[dU];omega) (by omega) ob (by simp;omega) (by simp;omega)
  refine ac hloop ?_
  rw[List.nil_append]
  have hsnd:gT (ty,(cd,(id,(tok,(os,pay)))))=some true:=by rw[CE,hsb]
  have heq:bD B B=some true:=by unfold bD;simp[aa]
  have fin : ∀v:am×List ai,v=((ty,(cd,(id,(tok,([],pay))))),os)→(cond false (some (((0,(0,(0,([],([],[]))))):am),(4:Int))) (bnd (gT (v.1.1,(v.1.2.1,(v.1.2.2.1,(v.1.2.2.2.1,(v.2,v.1.2.2.2.2.2)))))) fun x42=>
    letm ((!x42)) fun x43=>cond x43 (some ((0,(0,(0,([],([],[]))))),4)) (bnd (fR (v.1.1,(v.1.2.1,(v.1.2.2.1,(v.1.2.2.2.1,(v.2,v.1.2.2.2.2.2)))))) fun x44=>bnd (bD x44 B) fun x45=>letm ((!x45)) fun x46=>cond x46 (some ((0,(0,(0,([],([],[]))))),4))
    (some ((v.1.1,(v.1.2.1,(v.1.2.2.1,(v.1.2.2.2.1,(v.2,v.1.2.2.2.2.2))))),0)))))=some ((ty,(cd,(id,(tok,(os,pay))))),0):=by
   rintro v rfl
   rw[ay,hsnd,ae,aa,Bool.not_true,ay,henc,ae,heq,ae,aa,Bool.not_true,ay]
  unfold nf
  by_cases hp:0<(pay.length:Int)
  ·have hc2:Gk.cut ((255:UInt8)::pay) 1 (((255:UInt8)::pay).length:Int)=some pay:=by
    have:=gn (xs:=(255:UInt8)::pay) (lo:=1) (hi:=pay.length+1) (by omega) (by simp)
    rw[show pay.length+1=((255:UInt8)::pay).length from rfl,List.take_length]at this
    exact this
   rw[decide_eq_true hp,cond_true]
   refine ac (y:=((ty,(cd,(id,(tok,([],pay))))),os)) ?_ (fin _ rfl)
   have hlen:decide ((0:Int)<(((255:UInt8)::pay).length:Int))=true:=decide_eq_true (Int.ofNat_lt.2 (Nat.succ_pos _))
   refine(congrArg (fun c=>cond c _ _) hlen).trans ?_
   refine ac hc2 (ac (eY (l:=pay) (by omega)) rfl)
  ·have hpn:pay = []:=by cases pay with |nil=>rfl |cons a b=>exact absurd (Int.ofNat_lt.2 (Nat.succ_pos _)) hp
   rw[decide_eq_false hp,cond_false]
   refine ac (y:=((ty,(cd,(id,(tok,([],pay))))),os)) ?_ (fin _ rfl)
   rw[hpn];rfl
end Go.Proofs.YthejfljhiaeoeaaGreatDoor
