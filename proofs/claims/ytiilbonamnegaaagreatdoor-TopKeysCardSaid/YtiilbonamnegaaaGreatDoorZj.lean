/- A part of the proof of TopKeys. No condition. -/
import Derived.Test.YtiilbonamnegaaaGreatDoorZf
import Derived.Test.YtiilbonamnegaaaGreatDoorZv
namespace Go.Proofs.YtiilbonamnegaaaGreatDoor
open Go.Gk Go.RowKit
theorem GU(t:Int)(h0:0≤t)(h3:t≤3)(n:Nat)(hn:n≤8):av (sS .or (sS .or 64 (aA (t*16))) (n:Int))=av (aA (aA (64+aA (16*t))+(n:Int))):=by
 obtain⟨a,rfl⟩ : ∃a:Nat,t=(a:Int):=⟨t.toNat,by omega⟩
 have ha3:a≤3:=by omega
 rw[an (x:=(a:Int)*16) (by omega) (by omega),show(a:Int)*16=((a*16:Nat):Int) by omega]
 have e2:sS .or 64 ((a*16:Nat):Int)=((64 ||| a*16:Nat):Int):=DK (a:=64) (by omega) (by omega)
 have hlt:64 ||| a*16<2^63:=Nat.or_lt_two_pow (by omega) (by omega)
 rw[e2,DK (by omega) (by omega)]
 have key : ∀a,a≤3→∀n,n≤8→(64 ||| a*16) ||| n=64+16*a+n:=by decide
 rw[key a ha3 n hn,an (x:=16*(a:Int)) (by omega) (by omega),an (x:=64+16*(a:Int)) (by omega) (by omega),an (by omega) (by omega)]
 congr 1
def n8:Int→List a6→Bool
 |_,[]=>true
 |n,o::r=>!(decide (o.1<n))&&!(decide (65535<o.1))&&!(decide (1034<(o.2.length:Int)))&&n8 o.1 r
theorem zd{c:Option Bool}: ∀(xs:List a6) (k:Nat) (s:Int),cF (R:=Bool) (S:=Int) (α:=a6) (fun _ _=>c)
  (fun x28 _k29 s30 self31=>cond (decide (x28.1<s30)||(decide (65535<x28.1)||decide (1034<(x28.2.length:Int)))) (some false) (self31 x28.1)) xs k s
  = cond (n8 s xs) c (some false)
 | [],k,s=>rfl
 |x::xs,k,s=>by
  rw[bT,zd xs]
  simp only[n8]
  cases decide (x.1<s)<;>cases decide (65535<x.1)<;>cases decide (1034<(x.2.length:Int))<;>rfl
def O5(c:Int):Bool:=(c==0)||(c==2)||(c==4)||(c==5)
def Dx(m:aW):Bool:=
 !(decide (m.1<0))&&!(decide (3<m.1))&&!(decide (m.2.1<0))&&!(decide (255<m.2.1))&&O5 (m.2.1/32)&&!(decide (m.2.2.1<0))&&!(decide (65535<m.2.2.1))&&!(decide (8<(m.2.2.2.1.length:Int)))&&!(decide (32<(m.2.2.2.2.1.length:Int)))&&n8 0 m.2.2.2.2.1
  && !((m.2.1==0)&&decide (0<aA (aA ((m.2.2.2.1.length:Int)+(m.2.2.2.2.1.length:Int))+(m.2.2.2.2.2.length:Int))))&&!((m.1==3)&&!(m.2.1==0))&&decide ((m.2.2.2.2.2.length:Int)≤4096)
theorem B3(m:aW):il m=some (Dx m):=by
 unfold il Dx O5
 rw[Tn,ae]
 generalize m.2.1/32=x1
 simp only[ab,vr,lF,NQ,Sz,ae,zd,bne]
 refine congrArg some ?_
 generalize decide (m.1<0)=b1
 generalize decide (3<m.1)=b2
 generalize decide (m.2.1<0)=b3
 generalize decide (255<m.2.1)=b4
 generalize decide (m.2.2.1<0)=b5
 generalize decide (65535<m.2.2.1)=b6
 generalize decide (8<(m.2.2.2.1.length:Int))=b7
 generalize decide (32<(m.2.2.2.2.1.length:Int))=b8
 generalize n8 0 m.2.2.2.2.1=b9
 simp only[Bool.not_or,Bool.not_and,Bool.not_not,Bool.and_assoc]
 cases b1<;>simp only[Bool.not_true,Bool.not_false,Bool.false_and,Bool.true_and]
 cases b2<;>simp only[Bool.not_true,Bool.not_false,Bool.false_and,Bool.true_and]
 cases b3<;>simp only[Bool.not_true,Bool.not_false,Bool.false_and,Bool.true_and]
 cases b4<;>simp only[Bool.not_true,Bool.not_false,Bool.false_and,Bool.true_and]
 cases b5<;>simp only[Bool.not_true,Bool.not_false,Bool.false_and,Bool.true_and,Bool.and_false]
 cases b6<;>simp only[Bool.not_true,Bool.not_false,Bool.false_and,Bool.true_and,Bool.and_false]
 cases b7<;>simp only[Bool.not_true,Bool.not_false,Bool.false_and,Bool.true_and,Bool.and_false]
 cases b8<;>simp only[Bool.not_true,Bool.not_false,Bool.false_and,Bool.true_and,Bool.and_false]
 cases b9<;>simp only[Bool.false_and,Bool.true_and,Bool.and_false]
 cases x1==0<;>cases x1==2<;>cases x1==4<;>cases x1==5<;>cases m.2.1==0<;>cases m.1==3<;>cases decide (0<aA (aA ((m.2.2.2.1.length:Int)+(m.2.2.2.2.1.length:Int))+(m.2.2.2.2.2.length:Int)))<;>rfl
theorem hD{l:List UInt8}(h:l.length≤1000000):aJ l=some l:=by
 unfold aJ;rw[aF (by simp;omega)];rfl
theorem q_ : ∀{l:List a6} {n:Int},n8 n l=true→∀o∈l,o.2.length≤1034∧0≤o.1-n∧o.1≤65535
 | [],_,_,o,ho=>by simp at ho
 |x::l,n,h,o,ho=>by
  simp only[n8,Bool.and_eq_true,Bool.not_eq_true',decide_eq_false_iff_not]at h
  obtain⟨⟨⟨h1,h2⟩,h3⟩,h4⟩:=h
  rcases List.mem_cons.1 ho with rfl |ho
  ·exact⟨by omega,by omega,by omega⟩
  ·obtain⟨a,b,c⟩:=q_ h4 o ho
   exact⟨a,by omega,c⟩
structure IN(m:aW):Prop where
 t0:0≤m.1
 t3:m.1≤3
 c0:0≤m.2.1
 c255:m.2.1≤255
 i0:0≤m.2.2.1
 i65535:m.2.2.1≤65535
 tok:m.2.2.2.1.length≤8
 ol:m.2.2.2.2.1.length≤32
 ob:n8 0 m.2.2.2.2.1=true
 pay:m.2.2.2.2.2.length≤4096
theorem EV{m:aW}(h:Dx m=true):IN m:=by
 unfold Dx at h
 simp only[Bool.and_eq_true,Bool.not_eq_true',decide_eq_false_iff_not,decide_eq_true_eq]at h
 obtain⟨⟨⟨⟨⟨⟨⟨⟨⟨⟨⟨⟨h1,h2⟩,h3⟩,h4⟩,_⟩,h5⟩,h6⟩,h7⟩,h8⟩,h9⟩,_⟩,_⟩,h10⟩:=h
 exact⟨by omega,by omega,by omega,by omega,by omega,by omega,by omega,by omega,h9,by omega⟩
def eX(d:Int):a6:=bif decide (d<13)then(d,[])else bif decide (d<269)then(13,[av (aA (d-13))])else(14,[av (aA (d-269)/256),av (aA (d-269))])
theorem tY(d:Int):(eX d).2.length≤2:=by
 unfold eX
 cases decide (d<13)<;>cases decide (d<269)<;>simp
def nV:Int→List a6→List UInt8
 |_,[]=>[]
 |n,o::r=>av (aA (aA (16*(eX (aA (o.1-n))).1)+(eX (o.2.length:Int)).1))::((eX (aA (o.1-n))).2++((eX (o.2.length:Int)).2++(o.2++nV o.1 r)))
def nY(p:List UInt8):List UInt8:=bif decide (0<(p.length:Int))then 255::p else []
def uH(m:aW):List UInt8:=
 [av (aA (aA (64+aA (16*m.1))+(m.2.2.2.1.length:Int))),av m.2.1,av (m.2.2.1/256),av m.2.2.1]++(m.2.2.2.1++(nV 0 m.2.2.2.2.1++nY m.2.2.2.2.2))
def Jc(l:List a6):Nat:=(l.map fun o=>o.2.length+5).sum
theorem xG(o:a6)(l:List a6):Jc (o::l)=o.2.length+5+Jc l:=by unfold Jc;simp
theorem OL{l:List a6}{b:Nat}(h : ∀o∈l,o.2.length≤b):Jc l≤l.length*(b+5):=by
 induction l with
 |nil=>simp[Jc]
 |cons o l ih=>
  have h1:=h o (by simp)
  have h2:=ih fun x hx=>h x (by simp[hx])
  rw[xG,List.length_cons,Nat.succ_mul];omega
theorem B9 : ∀(l:List a6) (n:Int),(nV n l).length≤Jc l
 | [],_=>by simp[nV]
 |o::l,n=>by
  have h1:=tY (aA (o.1-n))
  have h2:=tY (o.2.length:Int)
  have h3:=B9 l o.1
  rw[xG]
  simp only[nV,List.length_cons,List.length_append];omega
theorem IN.sz{m:aW}(h:IN m):Jc m.2.2.2.2.1≤33248:=by
 have h1:=OL (l:=m.2.2.2.2.1) (b:=1034) fun o ho=>(q_ h.ob o ho).1
 have h2:=Nat.mul_le_mul_right 1039 h.ol
 omega
def Ev(m:aW):Bool:=Dx m&&decide (((uH m).length:Int)≤4096)
theorem Jx{m:aW}(h:Ev m=true):IN m:=by
 unfold Ev at h;rw[Bool.and_eq_true]at h;exact EV h.1
theorem Jf(a:Int){m:Int}(h0:0<m)(h1:m<4611686018427387904): ∃y,iO a m=some y∧0≤y∧y<m:=by
 obtain⟨q,hq,l1,l2⟩:=Iu (a:=a) h0
 unfold iO
 rw[hq,ae,ab]
 by_cases h:q<0
 ·rw[decide_eq_true h,bf,ab,ae,an (by omega) (by omega)]
  exact⟨_,rfl,by omega,by omega⟩
 ·rw[decide_eq_false h,aw,ae]
  exact⟨_,rfl,by omega,by omega⟩
structure bM(d:ah):Prop where
 lo:0≤d.2
 hi:d.2≤(d.1.length:Int)
 len:d.1.length≤maxLen
theorem NX{l:List Int}(h:l.length≤maxLen):bM (l,0):=⟨Int.le_refl _,by show(0:Int)≤(l.length:Int);omega,h⟩
theorem bB{d:ah}(h:bM d){n:Int}(h0:0<n)(h1:n<4611686018427387904): ∃v d',aj d n=some (v,d')∧0≤v∧v<n∧bM d':=by
 have hm:maxLen=9223372036854775807:=rfl
 have a:=h.lo
 have b:=h.hi
 have c:=h.len
 unfold aj
 rw[ab]
 by_cases hq:(d.1.length:Int)≤d.2
 ·rw[decide_eq_true hq,bf]
  exact⟨0,d,rfl,Int.le_refl _,h0,h⟩
 ·rw[decide_eq_false hq,aw,ab,ab,an (x:=d.2+1) (by omega) (by omega),an (by omega) (by omega)]
  obtain⟨i,hi⟩ : ∃i:Nat,d.2+1-1=(i:Int):=⟨d.2.toNat,by omega⟩
  have hlt:i<d.1.length:=by omega
  rw[hi,aE (List.getElem?_eq_getElem hlt),ae]
  obtain⟨y,hy,y0,y1⟩:=Jf d.1[i] h0 h1
  rw[hy,ae]
  exact⟨_,_,rfl,y0,y1,by show 0≤d.2+1;omega,by show d.2+1≤(d.1.length:Int);omega,c⟩
theorem CV : ∀(k f:Nat) (b:List UInt8) (d:ah),k<f→bM d→b.length+k≤1000000→∃z d',aM (R:=((List UInt8)×ah)) (S:=((List UInt8)×(Int×ah))) (fun self5 s4=>
   letm (decide (0<s4.2.1)) fun x6=>cond x6 (bnd (aj s4.2.2 256) fun x7=>letm ((av x7.1)) fun x8=>bnd (app s4.1 [x8]) fun x9=>letm ((aA (s4.2.1-1))) fun x10=>self5 (x9,(x10,x7.2))) (some (s4.1,s4.2.2))) f (b,((k:Int),d))=some (z,d')∧z.length=b.length+k∧bM d'
 |0,f+1,b,d,_,hd,_=>⟨b,d,rfl,rfl,hd⟩
 |k+1,f+1,b,d,hf,hd,hl=>by
  obtain⟨v,d1,h1,_,_,h2⟩:=bB hd (n:=256) (by omega) (by omega)
  rw[bd,ab]
  have e1:decide ((0:Int)<((k+1:Nat):Int))=true:=decide_eq_true (by omega)
  simp only[e1,bf]
  rw[h1,ae,ab,aF (by simp;omega),ae,ab,an (by omega) (by omega),show(((k+1:Nat):Int)-1)=(k:Int) by omega]
  obtain⟨z,d',h3,h4,h5⟩:=CV k f (b ++ [av v]) d1 (by omega) h2 (by simp;omega)
  exact⟨z,d',h3,by simp at h4;omega,h5⟩
theorem oB{α:Type}(l:List α){v:Int}(h0:0≤v)(h1:v<(l.length:Int)): ∃x,aI l v=some x∧x∈l:=by
 obtain⟨i,rfl⟩ : ∃i:Nat,v=(i:Int):=⟨v.toNat,by omega⟩
 have hi:i<l.length:=by omega
 exact⟨l[i],aE (List.getElem?_eq_getElem hi),List.getElem_mem hi⟩
theorem KA{d:ah}(h:bM d){n:Nat}(h1:n≤1000): ∃b d',cw d n=some (b,d')∧b.length≤n∧bM d':=by
 unfold cw
 rw[ab,an (by omega) (by omega)]
 obtain⟨v,d1,h2,v0,v1,h3⟩:=bB h (n:=(n:Int)+1) (by omega) (by omega)
 rw[h2,ae]
 obtain⟨k,rfl⟩ : ∃k:Nat,v=(k:Int):=⟨v.toNat,by omega⟩
 obtain⟨z,d',h4,h5,h6⟩:=CV k bA [] d1 (by rw[cG];omega) h3 (by simp;omega)
 exact⟨z,d',h4,by simp at h5;omega,h6⟩
set_option maxRecDepth 100000
theorem CL(d:Int):gW d=some (av (eX d).1,(eX d).2):=by
 unfold gW eX
 simp only[ab,N_,ae]
 cases decide (d<13)<;>cases decide (d<269)<;>rfl
theorem wQ{d:Int}(h0:0≤d):0≤(eX d).1∧(eX d).1≤14:=by
 unfold eX
 cases h1:decide (d<13)with
 |true=>have:=of_decide_eq_true h1;exact⟨h0,by show d≤14;omega⟩
 |false=>cases decide (d<269)<;>simp
theorem CM(p:List UInt8)(hp:p.length≤1000000): ∀(xs:List a6) (k:Nat) (b:List UInt8) (n:Int),b.length+Jc xs≤1000000000→(∀o∈xs,o.2.length≤2000)→cF (R:=(List UInt8)) (S:=((List UInt8)×Int)) (α:=a6)
  (fun _ s11=>bnd (β:=(List UInt8)) (letm (decide (0<(p.length:Int))) fun x12=>cond x12 (bnd (app s11.1 [255]) fun x13=>bnd (app x13 p) fun x14=>some x14) (some s11.1)) fun v15=>some v15)
  (fun x16 _ s18 self19=>letm ((aA (x16.1-s18.2))) fun x20=>bnd (gW x20) fun x21=>bnd (gW (x16.2.length:Int)) fun x22=>bnd (dO .u8 x21.1 (UInt64.toNat 4:Int)) fun x23=>letm ((av (bits .or .u8 (UInt8.toNat x23) (UInt8.toNat x22.1)))) fun x24=>
   bnd (app s18.1 [x24]) fun x25=>bnd (app x25 x21.2) fun x26=>bnd (app x26 x22.2) fun x27=>bnd (app x27 x16.2) fun x28=>self19 (x28,x16.1)) xs k (b,n)=some (b++(nV n xs++nY p))
 | [],k,b,n,h,_=>by
  rw[eP,ab]
  unfold nY
  cases hd:decide (0<(p.length:Int))with
  |false=>simp[nV,ae,aw]
  |true=>
   rw[bf,aF (by simp;simp[Jc]at h;omega),ae,aF (by simp;simp[Jc]at h;omega)]
   simp[nV,ae]
 |x::xs,k,b,n,h,ho=>by
  rw[xG]at h
  have h1:=tY (aA (x.1-n))
  have h2:=tY (x.2.length:Int)
  have hx:=ho x (by simp)
  obtain⟨g0,g1⟩:=wQ (d:=(x.2.length:Int)) (by omega)
  have hv:=eT (eX (x.2.length:Int)).1
  obtain⟨y,hy1,hy2⟩:=TN (eX (aA (x.1-n))).1 (av (eX (x.2.length:Int)).1) (by omega)
  have hy3:av (bits .or .u8 (UInt8.toNat y) (UInt8.toNat (av (eX (x.2.length:Int)).1)))=av (aA (aA (16*(eX (aA (x.1-n))).1)+(eX (x.2.length:Int)).1)):=hy2.trans (by rw[show((av (eX (x.2.length:Int)).1).toNat:Int)=(eX (x.2.length:Int)).1 by omega])
  rw[bT]
  simp only[ab,CL,ae]
  refine(ac hy1 ?_)
  rw[hy3]
  rw[aF (by simp;omega),ae,aF (by simp;omega),ae,aF (by simp;omega),ae,aF (by simp;omega),ae]
  have ih:=CM p hp xs (k+1) (b ++ [av (aA (aA (16*(eX (aA (x.1-n))).1)+(eX (x.2.length:Int)).1))]++(eX (aA (x.1-n))).2++(eX (x.2.length:Int)).2++x.2) x.1 (by simp;omega) (fun o h=>ho o (by simp[h]))
  simp only[ab,CL,ae]at ih
  rw[ih]
  simp[nV]
theorem PQ{m:aW}(h:IN m):gk m=some (uH m):=by
 have h2:=h.sz
 have h1:=h.tok
 have h3:=h.pay
 unfold gk
 rw[S5,ae]
 simp only[ab,N_,ae]
 rw[GU m.1 h.t0 h.t3 _ h1,aF (by simp;omega),ae]
 have:=CM m.2.2.2.2.2 (by omega) m.2.2.2.2.1 0 ([av (aA (aA (64+aA (16*m.1))+(m.2.2.2.1.length:Int))),av m.2.1,av (m.2.2.1/256),av m.2.2.1]++m.2.2.2.1) 0 (by simp;omega) (fun o ho=>by have:=(q_ h.ob o ho).1;omega)
 simp only[ab]at this
 rw[this]
 unfold uH
 simp
theorem Dc{b:List UInt8}{f:Bool}{n:Nat}(h:n≤b.length)(hb:b.length≤100000):bD (b,f) (n:Int)=some (b.take n,(b.drop n,f)):=by
 unfold bD
 have e1:Gk.cut b (0:Int) (n:Int)=some (b.take n):=by
  have:=iF (xs:=b) (lo:=0) (hi:=n) (by omega) h
  simpa using this
 have e2:Gk.cut (b.take n) (0:Int) (n:Int)=some (b.take n):=by
  have:=iF (xs:=b.take n) (lo:=0) (hi:=n) (by omega) (by rw[List.length_take];omega)
  rw[List.take_take,Nat.min_self]at this
  exact this
 have e3:Gk.cut b (n:Int) (b.length:Int)=some (b.drop n):=by
  have:=iF (xs:=b) (lo:=n) (hi:=b.length) h (Nat.le_refl _)
  simpa using this
 simp only[ab]
 rw[decide_eq_false (by omega),aw,e1,ae,e2,ae,e3,ae]
theorem Hd{d:Int}(h0:0≤d)(h:d<13):eX d=(d,[]):=by unfold eX;rw[decide_eq_true h];rfl
theorem LH{d:Int}(h0:13≤d)(h:d<269):eX d=(13,[av (d-13)]):=by unfold eX;rw[decide_eq_false (by omega),decide_eq_true h,an (x:=d-13) (by omega) (by omega)];rfl
theorem Ml{d:Int}(h0:269≤d)(h:d≤65804):eX d=(14,[av ((d-269)/256),av (d-269)]):=by unfold eX;rw[decide_eq_false (by omega),decide_eq_false (by omega),an (x:=d-269) (by omega) (by omega)];rfl
theorem R4{d:Int}(h0:0≤d)(h1:d≤65804){x:UInt8}(hx:(x.toNat:Int)=(eX d).1){rest:List UInt8}(hb:rest.length≤90000):cr ((eX d).2++rest,false) x=some (d,(rest,false)):=by
 unfold cr
 by_cases hs:d<13
 ·rw[Hd h0 hs]at hx⊢
  have hx:(x.toNat:Int)=d:=hx
  simp only[ab,List.nil_append,hx]
  rw[show(d==((UInt8.toNat 13:Nat):Int))=false from by simpa using(show d≠13 by omega),show(d==((UInt8.toNat 14:Nat):Int))=false from by simpa using(show d≠14 by omega),show(d==((UInt8.toNat 15:Nat):Int))=false from by simpa using(show d≠15 by omega)]
  rw[aw,aw,aw,jH,an (by omega) (by omega)]
 ·by_cases hm:d<269
  ·rw[LH (by omega) hm]at hx⊢
   have hx:(x.toNat:Int)=13:=hx
   have ht:=Dc (b:=av (d-13)::rest) (f:=false) (n:=1) (by simp) (by simp;omega)
   simp only[ab,hx]
   rw[show((13:Int)==((UInt8.toNat 13:Nat):Int))=true from rfl,bf]
   have ht:bD ([av (d-13)]++rest,false) 1=some ([av (d-13)],(rest,false)):=ht
   rw[ht,ae]
   have hi:aI [av (d-13)] 0=some (av (d-13)):=rfl
   have hv:=eT (d-13)
   rw[hi,ae,nR,hv,an (x:=(d-13)%256) (by omega) (by omega),an (by omega) (by omega)]
   congr 2;omega
  ·rw[Ml (by omega) h1]at hx⊢
   have hx:(x.toNat:Int)=14:=hx
   have ht:=Dc (b:=av ((d-269)/256)::av (d-269)::rest) (f:=false) (n:=2) (by simp) (by simp;omega)
   simp only[ab,hx]
   rw[show((14:Int)==((UInt8.toNat 13:Nat):Int))=false from rfl,show((14:Int)==((UInt8.toNat 14:Nat):Int))=true from rfl,aw,bf]
   have ht:bD ([av ((d-269)/256),av (d-269)]++rest,false) 2=some ([av ((d-269)/256),av (d-269)],(rest,false)):=ht
   rw[ht,ae]
   have hi:aI [av ((d-269)/256),av (d-269)] 0=some (av ((d-269)/256)):=rfl
   have hj:aI [av ((d-269)/256),av (d-269)] 1=some (av (d-269)):=rfl
   have hv:=eT ((d-269)/256)
   have hw:=eT (d-269)
   rw[hi,ae,hv,an (x:=(d-269)/256%256) (by omega) (by omega)]
   have hsh:Gk.shl ((d-269)/256%256) ((UInt64.toNat 8:Nat):Int)=some (aA ((d-269)/256%256*256)):=Eq.trans rfl rfl
   rw[hsh,ae,hj,ae,nR,hw,an (x:=(d-269)/256%256*256) (by omega) (by omega),an (x:=(d-269)%256) (by omega) (by omega),an (x:=(d-269)/256%256*256+_) (by omega) (by omega),an (by omega) (by omega)]
   congr 2;omega
theorem Tj : ∀c:Fin 256,(Option.map (fun x:UInt8=>x.toNat) (cg .u8 (UInt8.ofNat c.1) (UInt64.toNat 4:Int)):Option Nat)=some (c.1/16):=by decide +kernel
theorem QV : ∀c:Fin 256,av (bits .and .u8 (UInt8.toNat (UInt8.ofNat c.1)) (UInt8.toNat 15))=UInt8.ofNat (c.1%16):=by decide +kernel
theorem Ox(x:UInt8): @Eq (Option UInt8) (cg .u8 x (UInt64.toNat 4:Int)) (some (UInt8.ofNat (x.toNat/16))):=by
 have:=Tj ⟨x.toNat,UInt8.toNat_lt x⟩
 rw[show UInt8.ofNat ((⟨x.toNat,UInt8.toNat_lt x⟩:Fin 256).1)=x by simp]at this
 obtain⟨y,h1,h2⟩:=Option.map_eq_some_iff.1 this
 have h1 : @Eq (Option UInt8) (cg .u8 x (UInt64.toNat 4:Int)) (some y):=h1
 refine h1.trans (congrArg some (UInt8.toNat_inj.1 ?_))
 have h2:y.toNat=x.toNat/16:=h2
 have hx:=UInt8.toNat_lt x
 rw[h2,UInt8.toNat_ofNat']
 omega
theorem Lr(x:UInt8):av (bits .and .u8 (UInt8.toNat x) (UInt8.toNat 15))=UInt8.ofNat (x.toNat%16):=by
 have:=QV ⟨x.toNat,UInt8.toNat_lt x⟩
 rwa [show UInt8.ofNat ((⟨x.toNat,UInt8.toNat_lt x⟩:Fin 256).1)=x by simp]at this
theorem Tp : ∀c:Fin 256,av (bits .and .u8 (UInt8.toNat (UInt8.ofNat c.1)) (UInt8.toNat 3))=UInt8.ofNat (c.1%4):=by decide +kernel
theorem Sd(x:UInt8):av (bits .and .u8 (UInt8.toNat x) (UInt8.toNat 3))=UInt8.ofNat (x.toNat%4):=by
 have h:=Tp ⟨x.toNat,x.toNat_lt⟩
 simpa using h
def To:((Int×((aW×(List a6))×ck))→Option ((aW×(List a6))×ck))→(Int×((aW×(List a6))×ck))→Option ((aW×(List a6))×ck):=(fun self22 s21=>
 letm ((!s21.2.2.2)) fun x23=>
 cond x23 (letm (decide (0<(s21.2.2.1.length:Int))) fun x24=>
 cond x24 (bnd (aI s21.2.2.1 0) fun x25=>
 letm (((UInt8.toNat x25:Int) != (UInt8.toNat 255:Int))) fun x26=>
 cond x26 (bnd (bD s21.2.2 1) fun x27=>
 bnd (aI x27.1 0) fun x28=>
 bnd (cg .u8 x28 (UInt64.toNat 4:Int)) fun x29=>
 bnd (cr x27.2 x29) fun x30=>
 letm ((aA (s21.1+x30.1))) fun x31=>
 letm ((av (bits .and .u8 (UInt8.toNat x28) (UInt8.toNat 15)))) fun x32=>
 bnd (cr x30.2 x32) fun x33=>
 bnd (bD x33.2 x33.1) fun x34=>
 bnd (aJ x34.1) fun x35=>
 bnd (app s21.2.1.2 [(x31,x35)]) fun x36=>
 self22 (x31,((s21.2.1.1,x36),x34.2)))
 (some ((s21.2.1.1,s21.2.1.2),s21.2.2)))
 (some ((s21.2.1.1,s21.2.1.2),s21.2.2)))
 (some ((s21.2.1.1,s21.2.1.2),s21.2.2)))
theorem Ol(M:aW)(p:List UInt8): ∀(xs acc:List a6) (n:Int) (f:Nat),xs.length<f→0≤n→n8 n xs=true→(nV n xs++nY p).length≤80000→acc.length+xs.length≤1000→
  aM To f (n,((M,acc),(nV n xs++nY p,false)))=some ((M,acc++xs),(nY p,false))
 | [],acc,n,f+1,_,_,_,hl,_=>by
  rw[bd,show nV n []++nY p=nY p from rfl,List.append_nil]
  unfold To nY
  simp only[ab,Bool.not_false,bf]
  by_cases hp:0<(p.length:Int)
  ·rw[decide_eq_true hp,cond_true,decide_eq_true (by rw[List.length_cons];omega),bf]
   have hi:aI ((255:UInt8)::p) 0=some 255:=rfl
   rw[hi,ae]
   rfl
  ·rw[decide_eq_false hp,cond_false];rfl
 |o::r,acc,n,f+1,hf,hn,ho,hl,ha=>by
  have hb:=q_ ho o (by simp)
  obtain⟨hb1,hb2,hb3⟩:=hb
  have hor:n8 o.1 r=true:=by
   have:n8 n (o::r)=true:=ho
   unfold n8 at this
   simp only[Bool.and_eq_true]at this
   first |exact this.2 |exact this.1.2
  have ewd:aA (o.1-n)=o.1-n:=an (by omega) (by omega)
  obtain⟨e0,e1⟩:=wQ (d:=o.1-n) (by omega)
  obtain⟨g0,g1⟩:=wQ (d:=(o.2.length:Int)) (by omega)
  have hh:aA (aA (16*(eX (o.1-n)).1)+(eX (o.2.length:Int)).1)=16*(eX (o.1-n)).1+(eX (o.2.length:Int)).1:=by rw[an (x:=16*_) (by omega) (by omega),an (by omega) (by omega)]
  have hraw:nV n (o::r)++nY p=av (16*(eX (o.1-n)).1+(eX (o.2.length:Int)).1)::((eX (o.1-n)).2++((eX (o.2.length:Int)).2++(o.2++(nV o.1 r++nY p)))):=by
   show av (aA (aA (16*(eX (aA (o.1-n))).1)+(eX (o.2.length:Int)).1))::((eX (aA (o.1-n))).2++((eX (o.2.length:Int)).2++(o.2++nV o.1 r)))++nY p=_
   rw[ewd,hh];simp
  rw[hraw]at hl⊢
  have hv:=eT (16*(eX (o.1-n)).1+(eX (o.2.length:Int)).1)
  generalize hhb:av (16*(eX (o.1-n)).1+(eX (o.2.length:Int)).1)=hb at hv hl⊢
  generalize hE:eX (o.1-n)=E at *
  generalize hG:eX (o.2.length:Int)=G at *
  generalize hR:nV o.1 r++nY p=R at *
  simp only[List.length_cons,List.length_append]at hl
  rw[bd]
  unfold To
  simp only[ab,Bool.not_false,bf]
  rw[decide_eq_true (by simp;omega),bf]
  have hi : ∀t:List UInt8,aI (hb::t) 0=some hb:=fun _=>rfl
  rw[hi,ae,show((UInt8.toNat hb:Int) != ((UInt8.toNat 255:Nat):Int))=true from by
   have:(hb.toNat:Int)≠255:=by omega
   simpa using this,bf]
  have ht:=Dc (b:=hb::(E.2++(G.2++(o.2++R)))) (f:=false) (n:=1) (by simp) (by simp;omega)
  have ht:bD (hb::(E.2++(G.2++(o.2++R))),false) 1=some ([hb],(E.2++(G.2++(o.2++R)),false)):=ht
  rw[ht,ae,hi,ae]
  refine ac (Ox _) ?_
  rw[Lr]
  have hx1:((UInt8.ofNat (hb.toNat/16)).toNat:Int)=E.1:=by
   rw[UInt8.toNat_ofNat'];have:=hb.toNat_lt;omega
  have hx2:((UInt8.ofNat (hb.toNat%16)).toNat:Int)=G.1:=by
   rw[UInt8.toNat_ofNat'];have:=hb.toNat_lt;omega
  have hn1:cr (E.2++(G.2++(o.2++R)),false) (UInt8.ofNat (hb.toNat/16))=some (o.1-n,(G.2++(o.2++R),false)):=by
   have:=R4 (d:=o.1-n) (by omega) (by omega) (x:=UInt8.ofNat (hb.toNat/16)) (by rw[hE];exact hx1) (rest:=G.2++(o.2++R)) (by simp;omega)
   rw[hE]at this;exact this
  have hn2:cr (G.2++(o.2++R),false) (UInt8.ofNat (hb.toNat%16))=some ((o.2.length:Int),(o.2++R,false)):=by
   have:=R4 (d:=(o.2.length:Int)) (by omega) (by omega) (x:=UInt8.ofNat (hb.toNat%16)) (by rw[hG];exact hx2) (rest:=o.2++R) (by simp;omega)
   rw[hG]at this;exact this
  rw[hn1,ae,hn2,ae,Dc (by simp) (by simp;omega),ae]
  have e3:(o.2++R).take o.2.length=o.2:=by simp
  have e4:(o.2++R).drop o.2.length=R:=by simp
  rw[e3,e4]
  refine ac (hD (l:=o.2) (by omega)) ?_
  rw[aF (by simp;simp at ha;omega),ae]
  have ew:aA (n+(o.1-n))=o.1:=by rw[an (by omega) (by omega)];omega
  rw[ew]
  have ih:=Ol M p r (acc ++ [(o.1,o.2)]) o.1 f (by simp at hf;omega) (by omega) hor (by rw[hR];omega) (by simp;simp at ha;omega)
  rw[hR]at ih
  rw[List.append_assoc]at ih
  exact ih
theorem Tx{a b:Nat}(hb:b<256):(a*256) ||| b=a*256+b:=by
 have:=Nat.two_pow_add_eq_or_of_lt (i:=8) (b:=b) (by omega) a
 rw[show(2:Nat)^8=256 from rfl]at this
 rw[Nat.mul_comm a 256]
 omega
theorem SK{m:aW}(h:Ev m=true):la m=some (uH m,0)∧k_ (uH m)=some (m,0)∧(uH m).length≤4096:=by
 have hs:=Jx h
 have hl:(uH m).length≤4096:=by
  unfold Ev at h;rw[Bool.and_eq_true]at h
  have:=of_decide_eq_true h.2;omega
 have hsb:Dx m=true:=by
  unfold Ev at h;rw[Bool.and_eq_true]at h;exact h.1
 have henc:gk m=some (uH m):=PQ hs
 refine⟨?_,?_,hl⟩
 ·unfold la
  rw[B3,ae,hsb,henc]
  simp only[ab,Bool.not_true,aw,ae]
  rw[decide_eq_false (by omega),aw]
 ·obtain⟨ty,cd,id,tok,os,pay⟩:=m
  obtain⟨t0,t3,c0,c255,i0,i65,tk,ol,ob,py⟩:=hs
  simp only at t0 t3 c0 c255 i0 i65 tk ol ob py
  have hraw:uH (ty,(cd,(id,(tok,(os,pay)))))=av (64+16*ty+(tok.length:Int))::av cd::av (id/256)::av id::(tok++(nV 0 os++nY pay)):=by
   unfold uH
   simp only
   rw[an (x:=16*ty) (by omega) (by omega),an (x:=64+16*ty) (by omega) (by omega),an (by omega) (by omega)]
   rfl
  have v0:=eT (64+16*ty+(tok.length:Int))
  have v1:=eT cd
  have v2:=eT (id/256)
  have v3:=eT id
  have hl2:=hl
  rw[hraw]at hl2
  simp only[List.length_cons,List.length_append]at hl2
  generalize hB:uH (ty,(cd,(id,(tok,(os,pay)))))=B at *
  unfold k_
  simp only[ab]
  have hBl:4≤B.length:=by rw[hraw];simp
  rw[decide_eq_false (by omega),aw,decide_eq_false (by omega),aw]
  have i0':aI B 0=some (av (64+16*ty+(tok.length:Int))):=by rw[hraw];rfl
  have i1':aI B 1=some (av cd):=by rw[hraw];rfl
  have i2':aI B 2=some (av (id/256)):=by rw[hraw];rfl
  have i3':aI B 3=some (av id):=by rw[hraw];rfl
  have hcut:Gk.cut B 4 (B.length:Int)=some (tok++(nV 0 os++nY pay)):=by
   have:=iF (xs:=B) (lo:=4) (hi:=B.length) hBl (Nat.le_refl _)
   rw[List.take_length]at this
   refine(show Gk.cut B 4 (B.length:Int)=_ from this).trans ?_
   rw[hraw];rfl
  rw[i0',ae]
  refine ac (Ox _) ?_
  rw[i1',ae,i2',ae,v2]
  have hsh:Gk.shl (aA (id/256%256)) ((UInt64.toNat 8:Nat):Int)=some (aA (aA (id/256%256)*256)):=Eq.trans rfl rfl
  rw[hsh,ae,i3',ae,hcut,ae,ae]
  rw[Lr,Sd,v1,v3]
  have hty:aA (((UInt8.ofNat ((UInt8.ofNat ((av (64+16*ty+(tok.length:Int))).toNat/16)).toNat%4)).toNat:Nat):Int)=ty:=by
   rw[UInt8.toNat_ofNat',UInt8.toNat_ofNat',an (by omega) (by omega)];omega
  have htl:aA (((UInt8.ofNat ((av (64+16*ty+(tok.length:Int))).toNat%16)).toNat:Nat):Int)=(tok.length:Int):=by
   rw[UInt8.toNat_ofNat',an (by omega) (by omega)];omega
  have hcd:aA (cd%256)=cd:=by rw[an (by omega) (by omega)];omega
  have hid:sS .or (aA (aA (id/256%256)*256)) (aA (id%256))=id:=by
   obtain⟨k,rfl⟩ : ∃k:Nat,id=(k:Int):=⟨id.toNat,by omega⟩
   have e1:aA (aA ((k:Int)/256%256)*256)=((k/256*256:Nat):Int):=by rw[an (x:=(k:Int)/256%256) (by omega) (by omega),an (by omega) (by omega)];omega
   have e2:aA ((k:Int)%256)=((k%256:Nat):Int):=by rw[an (by omega) (by omega)];omega
   rw[e1,e2,DK (by omega) (by omega),Tx (by omega)];omega
  rw[hty,htl,hcd,hid,Dc (by simp) (by simp;omega),ae]
  have e3:(tok++(nV 0 os++nY pay)).take tok.length=tok:=by simp
  have e4:(tok++(nV 0 os++nY pay)).drop tok.length=nV 0 os++nY pay:=by simp
  rw[e3,e4]
  refine ac (hD (l:=tok) (by omega)) ?_
  have hloop:=Ol (ty,(cd,(id,(tok,([],[]))))) pay os [] 0 bA (by rw[cG];omega) (by omega) ob (by simp;omega) (by simp;omega)
  refine ac hloop ?_
  rw[List.nil_append]
  have hsnd:il (ty,(cd,(id,(tok,(os,pay)))))=some true:=by rw[B3,hsb]
  have heq:bF B B=some true:=by unfold bF;simp[ab]
  have fin : ∀v:aW×List a6,v=((ty,(cd,(id,(tok,([],pay))))),os)→(cond false (some (((0,(0,(0,([],([],[]))))):aW),(4:Int))) (bnd (il (v.1.1,(v.1.2.1,(v.1.2.2.1,(v.1.2.2.2.1,(v.2,v.1.2.2.2.2.2)))))) fun x42=>
    letm ((!x42)) fun x43=>cond x43 (some ((0,(0,(0,([],([],[]))))),4)) (bnd (gk (v.1.1,(v.1.2.1,(v.1.2.2.1,(v.1.2.2.2.1,(v.2,v.1.2.2.2.2.2)))))) fun x44=>bnd (bF x44 B) fun x45=>letm ((!x45)) fun x46=>cond x46 (some ((0,(0,(0,([],([],[]))))),4))
    (some ((v.1.1,(v.1.2.1,(v.1.2.2.1,(v.1.2.2.2.1,(v.2,v.1.2.2.2.2.2))))),0)))))=some ((ty,(cd,(id,(tok,(os,pay))))),0):=by
   rintro v rfl
   rw[aw,hsnd,ae,ab,Bool.not_true,aw,henc,ae,heq,ae,ab,Bool.not_true,aw]
  unfold nY
  by_cases hp:0<(pay.length:Int)
  ·have hc2:Gk.cut ((255:UInt8)::pay) 1 (((255:UInt8)::pay).length:Int)=some pay:=by
    have:=iF (xs:=(255:UInt8)::pay) (lo:=1) (hi:=pay.length+1) (by omega) (by simp)
    rw[show pay.length+1=((255:UInt8)::pay).length from rfl,List.take_length]at this
    exact this
   rw[decide_eq_true hp,cond_true]
   refine ac (y:=((ty,(cd,(id,(tok,([],pay))))),os)) ?_ (fin _ rfl)
   have hlen:decide ((0:Int)<(((255:UInt8)::pay).length:Int))=true:=decide_eq_true (Int.ofNat_lt.2 (Nat.succ_pos _))
   refine(congrArg (fun c=>cond c _ _) hlen).trans ?_
   refine ac hc2 (ac (hD (l:=pay) (by omega)) rfl)
  ·have hpn:pay = []:=by cases pay with |nil=>rfl |cons a b=>exact absurd (Int.ofNat_lt.2 (Nat.succ_pos _)) hp
   rw[decide_eq_false hp,cond_false]
   refine ac (y:=((ty,(cd,(id,(tok,([],pay))))),os)) ?_ (fin _ rfl)
   rw[hpn];rfl
end Go.Proofs.YtiilbonamnegaaaGreatDoor
