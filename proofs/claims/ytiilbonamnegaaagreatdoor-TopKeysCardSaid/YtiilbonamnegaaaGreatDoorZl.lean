/- A part of the proof of TopKeys. No condition. -/
import Derived.Test.YtiilbonamnegaaaGreatDoorZk
namespace Go.Proofs.YtiilbonamnegaaaGreatDoor
open Go.Gk Go.RowKit
set_option maxRecDepth 100000
mutual
theorem vS:(x:Tr)→(d e:Nat)→d≤e→vT x d=true→vT x e=true
 | .mk k n b l,d,e,hde,h=>by
  rw[od]at h⊢
  rw[Bool.or_eq_true]at h⊢
  rcases h with h |h
  ·exact .inl h
  ·refine .inr ?_
   rw[Bool.and_eq_true,Bool.and_eq_true]at h⊢
   refine⟨⟨?_,E9 l (d-1) (e-1) (by omega) h.1.2⟩,h.2⟩
   have h1:=h.1.1
   unfold Bu at h1⊢
   simp only[Bool.and_eq_true,decide_eq_true_eq]at h1⊢
   exact⟨⟨⟨⟨h1.1.1.1.1,by omega⟩,h1.1.1.2⟩,h1.1.2⟩,h1.2⟩
theorem E9:(l:List Tr)→(d e:Nat)→d≤e→vL l d=true→vL l e=true
 | [],_,e,_,_=>kV e
 |x::l,d,e,hde,h=>by
  rw[fH,Bool.and_eq_true]at h⊢
  exact⟨vS x d e hde h.1,E9 l d e hde h.2⟩
end
theorem EQ{l:List Tr}{d:Nat}(h:vL l d=true){y:Tr}(hy:y∈l):vT y d=true:=by
 obtain⟨i,hi,rfl⟩:=List.getElem_of_mem hy
 exact sA h i hi
theorem I2{l:List Tr}{d:Nat}(h : ∀y∈l,vT y d=true):vL l d=true:=by
 induction l with
 |nil=>exact kV d
 |cons x l ih=>rw[fH,h x (by simp),ih fun y hy=>h y (by simp[hy])];rfl
theorem wv{l:List Tr}{y:Tr}(hy:y∈l):cD y≤dz l:=by
 obtain⟨i,hi,rfl⟩:=List.getElem_of_mem hy
 exact qL i hi
theorem Lt{l:List Tr}{y:Tr}(hy:y∈l):(aG y).length≤(co l).length:=by
 induction l with
 |nil=>cases hy
 |cons x l ih=>
  rw[bh,List.length_append]
  rcases List.mem_cons.1 hy with rfl |h
  ·omega
  ·have:=ih h;omega
theorem cT{x:Tr}:eU x=true↔vT x 8=true∧cD x≤256∧(aG x).length≤4096:=by
 unfold eU
 simp only[Bool.and_eq_true,decide_eq_true_eq,and_assoc]
theorem jE{x y:Tr}(h:eU x=true)(hy:y∈x.l):eU y=true:=by
 rw[cT]at h⊢
 obtain⟨hv,hc,hl⟩:=h
 have e1:=qq x
 have e2:=wr x
 have k1:=wv hy
 have k2:=Lt hy
 rw[e2,List.length_append]at hl
 refine⟨?_,by omega,by omega⟩
 have:x.l = []∨1≤8∧vL x.l (8-1)=true:=by obtain⟨k,n,b,l⟩:=x;exact oX hv
 rcases this with h |h
 ·rw[h]at hy;cases hy
 ·exact vS y 7 8 (by omega) (EQ h.2 hy)
theorem x_(rec:Tr→Option Tr)(d:Nat)(hr:1≤d→∀y,vT y (d-1)=true→cD y≤300→rec y=some y)(x:Tr)(h:vT x d=true)(hc:cD x≤300):gD rec x=some x:=by
 have key : ∀(l:List Tr),(l≠[]→1≤d)→(l = []∨vL l (d-1)=true)→dz l≤300→∀(i:Nat) (s:List Tr),s.length+l.length≤300→cF (R:=Go.Gk.Tr) (S:=(List Go.Gk.Tr)) (α:=Go.Gk.Tr) (fun k2 s3=>some (Tr.mk x.k x.n ([]++x.b) s3))
    (fun x4 k5 s6 self7=>bnd (rec x4) fun x8=>bnd (app s6 [x8]) fun x9=>self7 x9) l i s=some (Tr.mk x.k x.n x.b (s++l)):=by
  intro l
  induction l with
  |nil=>intro _ _ _ i s _;rw[eP,List.nil_append,List.append_nil]
  |cons y l ih=>
   intro hd1 hv hcn i s hs
   have hd1:=hd1 (by simp)
   have hv:vL (y::l) (d-1)=true:=by rcases hv with h |h;cases h;exact h
   rw[fH,Bool.and_eq_true]at hv
   rw[List.length_cons]at hs
   rw[bC]at hcn
   rw[bT,hr hd1 y hv.1 (by omega),ae,aF (by simp only[List.length_cons,List.length_nil];omega),ae]
   rw[ih (fun _=>hd1) (.inr hv.2) (by omega) _ _ (by rw[List.length_append];simp only[List.length_cons,List.length_nil];omega),List.append_assoc]
   rfl
 have hb:x.b.length≤4096:=by obtain⟨k,n,b,l⟩:=x;exact ny h
 have hk:x.l = []∨1≤d∧vL x.l (d-1)=true:=by obtain⟨k,n,b,l⟩:=x;exact oX h
 have hx:=qq x
 have hl:=dA x.l
 unfold gD
 rw[aF (by rw[List.length_nil];omega),ae]
 refine(key x.l (fun hne=>?_) ?_ (by omega) 0 [] (by rw[List.length_nil];omega)).trans (by obtain⟨k,n,b,l⟩:=x;rfl)
 ·rcases hk with h |h
  ·exact absurd h hne
  ·exact h.1
 ·rcases hk with h |h
  ·exact .inl h
  ·exact .inr h.2
theorem BU(j:Nat): ∀(d:Nat) (x:Tr),vT x d=true→cD x≤300→gA (j+d+1) x=some x
 |0,x,h,hc=>x_ _ 0 (fun h=>absurd h (by omega)) x h hc
 |d+1,x,h,hc=>x_ _ (d+1) (fun _ y hy hcy=>BU j d y hy hcy) x h hc
theorem Lc{x:Tr}(h:eU x=true):cQ x=some x:=by
 obtain⟨h1,h2,_⟩:=cT.1 h
 exact BU 31 8 x h1 (by omega)
theorem vX{α:Type}(z x:α)(b:List α): ∀a:List α,(a++z::b).set a.length x=a++x::b
 | []=>rfl
 |y::a=>by rw[List.cons_append,List.length_cons,List.set_cons_succ,vX z x b a];rfl
theorem yy(rec:Tr→Option Tr)(d:Nat)(hr:1≤d→∀y,vT y (d-1)=true→cD y≤300→rec y=some y)(x:Tr)(h:vT x d=true)(hc:cD x≤300):lf rec x=some x:=by
 have hb:x.b.length≤4096:=by obtain⟨k,n,b,l⟩:=x;exact ny h
 have hk:x.l = []∨1≤d∧vL x.l (d-1)=true:=by obtain⟨k,n,b,l⟩:=x;exact oX h
 have hx:=qq x
 have hl:=dA x.l
 have key : ∀(l a:List Tr),(l≠[]→1≤d)→(l = []∨vL l (d-1)=true)→dz l≤300→a.length+l.length≤300→cF (R:=Go.Gk.Tr) (S:=(List Go.Gk.Tr)) (α:=Go.Gk.Tr) (fun k3 s4=>
   bnd (β:=Go.Gk.Tr) (letm (((s4.length:Int)==0)) fun x5=>cond x5 (some (Tr.mk x.k x.n x.b [])) (some (Tr.mk x.k x.n x.b s4))) fun v6=>some v6)
   (fun x7 k8 s9 self10=>bnd (rec x7) fun x11=>bnd (aI s9 (k8:Int)) fun x12=>bnd (aI s9 ((((k8:Int):Int)).toNat:Int)) fun x13=>letm ((s9.set (((k8:Int):Int)).toNat x11)) fun x14=>self10 x14) l a.length (a++List.replicate l.length (Tr.mk 0 0 [] []))=some (Tr.mk x.k x.n x.b (a++l)):=by
  intro l
  induction l with
  |nil=>
   intro a _ _ _ _
   rw[eP,List.length_nil,List.replicate_zero,List.append_nil,ab]
   cases a with
   |nil=>rfl
   |cons y a=>
    rw[show(((y::a).length:Int)==0)=false by rw[←Bool.not_eq_true,beq_iff_eq,List.length_cons];omega]
    rfl
  |cons y l ih=>
   intro a hd1 hv hcn hs
   have hd1:=hd1 (by simp)
   have hv:vL (y::l) (d-1)=true:=by rcases hv with h |h;cases h;exact h
   rw[fH,Bool.and_eq_true]at hv
   rw[List.length_cons]at hs
   rw[bC]at hcn
   have hi:(a++List.replicate (y::l).length (Tr.mk 0 0 [] []))[a.length]?=some (Tr.mk 0 0 [] []):=by rw[List.length_cons,List.replicate_succ];simp
   have hset:(a++List.replicate (y::l).length (Tr.mk 0 0 [] [])).set a.length y=(a ++ [y])++List.replicate l.length (Tr.mk 0 0 [] []):=by
    rw[List.length_cons,List.replicate_succ,vX,List.append_assoc];rfl
   rw[bT,hr hd1 y hv.1 (by omega),ae,aE hi,ae,Int.toNat_natCast,aE hi,ae,ab,hset]
   have:=ih (a ++ [y]) (fun _=>hd1) (.inr hv.2) (by omega) (by simp;omega)
   rw[List.length_append,List.length_singleton]at this
   rw[this,List.append_assoc]
   rfl
 unfold lf
 refine ac (hD (l:=x.b) (by omega)) ?_
 have hm:LA (x.l.length:Int) (Tr.mk 0 0 [] [])=some (List.replicate x.l.length (Tr.mk 0 0 [] [])):=by
  unfold LA
  rw[show(decide (0≤(x.l.length:Int))&&decide ((x.l.length:Int)≤65536))=true by simp;omega];rfl
 refine ac hm ?_
 refine(key x.l [] (fun hne=>?_) ?_ (by omega) (by rw[List.length_nil];omega)).trans (by obtain⟨k,n,b,l⟩:=x;rfl)
 ·rcases hk with h |h
  ·exact absurd h hne
  ·exact h.1
 ·rcases hk with h |h
  ·exact .inl h
  ·exact .inr h.2
theorem Db(j:Nat): ∀(d:Nat) (x:Tr),vT x d=true→cD x≤300→lc (j+d+1) x=some x
 |0,x,h,hc=>yy _ 0 (fun h=>absurd h (by omega)) x h hc
 |d+1,x,h,hc=>yy _ (d+1) (fun _ y hy hcy=>Db j d y hy hcy) x h hc
theorem JA{x:Tr}(h:eU x=true):dm x=some x:=by
 obtain⟨h1,h2,_⟩:=cT.1 h
 exact Db 31 8 x h1 (by omega)
theorem mU : ∀a b:List UInt8,Lib.compareBytes a b=0↔a=b
 | [],[]=>⟨fun _=>rfl,fun _=>rfl⟩
 | [],_::_=>⟨fun h=>absurd (show(-1:Int)=0 from h) (by omega),fun h=>by cases h⟩
 |_::_,[]=>⟨fun h=>absurd (show(1:Int)=0 from h) (by omega),fun h=>by cases h⟩
 |a::x,b::y=>by
  rw[tW]
  by_cases h1:a.toNat<b.toNat
  ·rw[if_pos h1]
   exact⟨fun h=>absurd h (by omega),fun h=>by injection h with h _;rw[h]at h1;omega⟩
  ·rw[if_neg h1]
   by_cases h2:b.toNat<a.toNat
   ·rw[if_pos h2]
    exact⟨fun h=>absurd h (by omega),fun h=>by injection h with h _;rw[h]at h2;omega⟩
   ·rw[if_neg h2,mU x y]
    have e:a=b:=UInt8.toNat_inj.1 (by omega)
    rw[e]
    exact⟨fun h=>by rw[h],fun h=>by injection h⟩
def z6(r:Option Bool)(x y:Tr):Prop:=∃b,r=some b∧(b=true↔x=y)
theorem Aa(rec:Tr→Tr→Option Bool)(d:Nat)(hr:1≤d→∀x y e,vT x (d-1)=true→vT y e=true→cD x≤300→cD y≤300→z6 (rec x y) x y)(x y:Tr)(e:Nat)(h:vT x d=true)(h2:vT y e=true)(hc:cD x≤300)(hc2:cD y≤300):z6 (gH rec x y) x y:=by
 obtain⟨k,n,b,l⟩:=x
 obtain⟨k',n',b',l'⟩:=y
 have hb:=ny h
 have hb2:=ny h2
 have hk:=oX h
 have hk2:=oX h2
 rw[fc]at hc hc2
 have hcl:=dA l
 have hcl2:=dA l'
 have key : ∀(m m':List Tr) (i:Nat),(m≠[]→1≤d)→(∀z∈m,vT z (d-1)=true∧cD z≤300)→m.length=m'.length→(∀z∈m',vT z e=true∧cD z≤300)→l'.drop i=m'→z6 (cF (R:=Bool) (S:=Unit) (α:=Go.Gk.Tr) (fun k8 s9=>some true)
   (fun x10 k11 s12 self13=>bnd (aI l' (k11:Int)) fun x14=>bnd (rec x10 x14) fun x15=>letm ((!x15)) fun x16=>cond x16 (some false) (self13 ())) m i ()) (Tr.mk 0 0 [] m) (Tr.mk 0 0 [] m'):=by
  intro m
  induction m with
  |nil=>
   intro m' i _ _ hlen _ _
   have:m' = []:=List.length_eq_zero_iff.1 (by simpa using hlen.symm)
   subst this
   exact⟨true,rfl,⟨fun _=>rfl,fun _=>rfl⟩⟩
  |cons z m ih=>
   intro m' i hd1 hm hlen hm' hdrop
   cases m' with
   |nil=>simp at hlen
   |cons z' m'=>
    have hd1:=hd1 (by simp)
    have hi:i<l'.length:=by
     have:=congrArg List.length hdrop
     rw[List.length_drop,List.length_cons]at this;omega
    have hz:l'[i]=z'∧l'.drop (i+1)=m':=by
     rw[List.drop_eq_getElem_cons hi]at hdrop
     injection hdrop with a b
     exact⟨a,b⟩
    obtain⟨b1,e1,e2⟩:=hr hd1 z z' e (hm z (by simp)).1 (hm' z' (by simp)).1 (hm z (by simp)).2 (hm' z' (by simp)).2
    rw[bT,aE (List.getElem?_eq_getElem hi),ae,hz.1,e1,ae,ab]
    cases b1 with
    |false=>
     refine⟨false,rfl,⟨fun h=>(by cases h),fun h=>?_⟩⟩
     injection h with _ _ _ h
     injection h with h _
     exact e2.2 h
    |true=>
     obtain⟨b2,e3,e4⟩:=ih m' (i+1) (fun _=>hd1) (fun z hz=>hm z (by simp[hz])) (by simpa using hlen) (fun z hz=>hm' z (by simp[hz])) hz.2
     refine⟨b2,e3,?_⟩
     rw[e4,e2.1 rfl]
     exact⟨fun h=>by injection h with _ _ _ h;rw[h],fun h=>by injection h with _ _ _ h;injection h with _ h;rw[h]⟩
 unfold gH
 have hcmp:bi b b'=some (Lib.compareBytes b b'):=sW _ _ (by omega) (by omega)
 show z6 (bnd (β:=Bool) (letm (k != k') fun x2=>cond x2 (some true) (letm ((n.toNat:Int) != (n'.toNat:Int)) fun x3=>cond x3 (some true) (bnd (bi b b') fun x4=>letm (x4 != 0) fun x5=>cond x5 (some true) (letm ((l.length:Int) != (l'.length:Int)) fun x6=>some x6)))) _) _ _
 have no : ∀{R:Option Bool},R=some false→¬(Tr.mk k n b l=Tr.mk k' n' b' l')→z6 R (Tr.mk k n b l) (Tr.mk k' n' b' l'):=fun h1 h2=>⟨false,h1,⟨fun h=>(by cases h),fun h=>absurd h h2⟩⟩
 rw[ab]
 by_cases g1:k=k'
 ·rw[show(k != k')=false by rw[g1];simp,aw,ab]
  by_cases g2:n=n'
  ·rw[show((n.toNat:Int) != (n'.toNat:Int))=false by rw[g2];simp,aw,hcmp,ae,ab]
   by_cases g3:b=b'
   ·rw[(mU b b').2 g3,show((0:Int) != 0)=false from rfl,aw,ab]
    by_cases g4:l.length=l'.length
    ·rw[show((l.length:Int) != (l'.length:Int))=false by rw[g4];simp,ae,aw]
     obtain⟨b2,e3,e4⟩:=key l l' 0 (fun hne=>by rcases hk with h |h;exact absurd h hne;exact h.1)
      (fun z hz=>by rcases hk with h |h;(rw[h]at hz;cases hz);exact⟨EQ h.2 hz,by have:=wv hz;omega⟩) g4
      (fun z hz=>by rcases hk2 with h |h;(rw[h]at hz;cases hz);exact⟨vS z (e-1) e (by omega) (EQ h.2 hz),by have:=wv hz;omega⟩) rfl
     refine⟨b2,e3,?_⟩
     rw[e4,g1,g2,g3]
     exact⟨fun h=>by injection h with _ _ _ h;rw[h],fun h=>by injection h with _ _ _ h;rw[h]⟩
    ·rw[show((l.length:Int) != (l'.length:Int))=true by rw[bne_iff_ne];omega,ae,bf]
     exact no rfl (fun h=>by injection h with _ _ _ h;exact g4 (by rw[h]))
   ·have:Lib.compareBytes b b'≠0:=fun h=>g3 ((mU b b').1 h)
    rw[show(Lib.compareBytes b b' != 0)=true by rw[bne_iff_ne];exact this,bf,ae,bf]
    exact no rfl (fun h=>by injection h with _ _ h _;exact g3 h)
  ·have:n.toNat≠n'.toNat:=fun h=>g2 (UInt64.toNat_inj.1 h)
   rw[show((n.toNat:Int) != (n'.toNat:Int))=true by rw[bne_iff_ne];omega,bf,ae,bf]
   exact no rfl (fun h=>by injection h with _ h _ _;exact g2 h)
 ·rw[show(k != k')=true by rw[bne_iff_ne];exact g1,bf,ae,bf]
  exact no rfl (fun h=>by injection h with h _ _ _;exact g1 h)
theorem B'(j:Nat): ∀(d:Nat) (x y:Tr) (e:Nat),vT x d=true→vT y e=true→cD x≤300→cD y≤300→z6 (gv (j+d+1) x y) x y
 |0,x,y,e,h,h2,hc,hc2=>Aa _ 0 (fun h=>absurd h (by omega)) x y e h h2 hc hc2
 |d+1,x,y,e,h,h2,hc,hc2=>Aa _ (d+1) (fun _ x y e h h2 hc hc2=>B' j d x y e h h2 hc hc2) x y e h h2 hc hc2
theorem NN{x y:Tr}(hx:eU x=true)(hy:eU y=true): ∃b,aR x y=some b∧(b=true↔x=y):=by
 obtain⟨h1,h2,_⟩:=cT.1 hx
 obtain⟨h3,h4,_⟩:=cT.1 hy
 exact B' 31 8 x y 8 h1 h3 (by omega) (by omega)
open Classical in
theorem qg{x y:Tr}(hx:eU x=true)(hy:eU y=true):aR x y=some (decide (x=y)):=by
 obtain⟨b,h1,h2⟩:=NN hx hy
 rw[h1]
 refine congrArg some ?_
 rw[Bool.eq_iff_iff,h2,decide_eq_true_eq]
open Classical in
noncomputable def kA:List Tr→Tr→Option Tr
 |k::v::r,x=>if k=x then some v else kA r x
 |_,_=>none
def fS:List Tr→List (Tr×Tr)
 |k::v::r=>(k,v)::fS r
 |_=>[]
noncomputable def H' (o:Option Tr):Tr×Bool:=match o with
 |some v=>(v,true)
 |none=>(Tr.mk 0 0 [] [],false)
theorem Gr{α:Type}{l:List α}{i:Nat}(h:i+1<l.length):l.drop i=l[i]::l[i+1]::l.drop (i+2):=by
 rw[List.drop_eq_getElem_cons (show i<l.length by omega),List.drop_eq_getElem_cons h]
open Classical in
theorem wt{K:Int}{N:UInt64}{bb:List UInt8}{l:List Tr}{x:Tr}(hl : ∀y∈l,eU y=true)(hn:l.length≤1000)(hx:eU x=true):bO (.mk K N bb l) x=some (H' (kA l x)):=by
 have key : ∀(f i:Nat) (z:Tr),l.length+1<f+i→i≤l.length+1→aM (R:=(Go.Gk.Tr×Bool)) (S:=(Int×Go.Gk.Tr)) (fun self3 s2=>
   letm ((aA (s2.1+1))) fun x4=>letm (decide (x4<(l.length:Int))) fun x5=>cond x5 (bnd (aI l s2.1) fun x6=>bnd (aR x6 x) fun x7=>cond x7 (letm ((aA (s2.1+1))) fun x8=>bnd (aI l x8) fun x9=>some (x9,true))
    (letm ((aA (s2.1+2))) fun x10=>self3 (x10,s2.2))) (some ((Tr.mk 0 0 [] []),false))) f ((i:Int),z)=some (H' (kA (l.drop i) x)):=by
  intro f
  induction f with
  |zero=>intro i z h1 h2;omega
  |succ f ih=>
   intro i z h1 h2
   rw[bd,ab,ab]
   show cond (decide (aA ((i:Int)+1)<(l.length:Int))) _ _=_
   rw[an (x:=(i:Int)+1) (by omega) (by omega)]
   by_cases hi:i+1<l.length
   ·rw[decide_eq_true (by omega),bf]
    refine ac (aE (List.getElem?_eq_getElem (show i<l.length by omega))) ?_
    rw[qg (hl _ (List.getElem_mem _)) hx,ae,Gr hi]
    unfold kA
    by_cases e:l[i]=x
    ·rw[if_pos e,decide_eq_true e,bf,ab]
     show bnd (aI l ((i:Int)+1)) _=_
     rw[show((i:Int)+1)=((i+1:Nat):Int) by omega,aE (List.getElem?_eq_getElem hi),ae]
     rfl
    ·rw[if_neg e,decide_eq_false e,aw,ab]
     show aM _ f (aA ((i:Int)+2),z)=_
     rw[an (x:=(i:Int)+2) (by omega) (by omega),show((i:Int)+2)=((i+2:Nat):Int) by omega]
     exact ih (i+2) z (by omega) (by omega)
   ·rw[decide_eq_false (by omega),aw]
    have hd:(l.drop i).length≤1:=by rw[List.length_drop];omega
    match hld:l.drop i,hd with
    | [],_=>rfl
    | [_],_=>rfl
    |_::_::_,h=>simp at h
 unfold bO
 exact key bA 0 _ (by rw[cG];omega) (by omega)
theorem Bc{a b:List UInt8}:(a==b)=decide (a=b):=by rw[Bool.eq_iff_iff,beq_iff_eq,decide_eq_true_eq]
open Classical in
theorem mn{m x:Tr}(hk:m.k=5)(hm:eU m=true)(hx:eU x=true):fT m x=some (H' (kA m.l x)):=by
 obtain⟨v1,c1,l1⟩:=cT.1 hx
 have hcl:=dA m.l
 have hcm:=qq m
 obtain⟨_,cm,_⟩:=cT.1 hm
 have hev:m.l.length%2=0:=by
  obtain⟨k,n,b,l⟩:=m
  obtain⟨v2,_,_⟩:=cT.1 hm
  have hk:k=5:=hk
  subst hk
  rcases nU v2 with⟨hk,_⟩ | ⟨hk,_⟩ | ⟨hk,_⟩ | ⟨hk,_⟩ | ⟨hk,_⟩ | ⟨hk,_⟩ | ⟨_,_,_,_,h,_⟩ | ⟨hk,_⟩<;>first |exact h |omega
 have key : ∀(f i:Nat) (z:Tr),m.l.length<f+i→i≤m.l.length→i%2=0→aM (R:=(Go.Gk.Tr×Bool)) (S:=(Int×Go.Gk.Tr)) (fun self10 s9=>
   letm (decide (s9.1<(m.l.length:Int))) fun x11=>cond x11 (bnd (aI m.l s9.1) fun x12=>bnd (db [] x12) fun x13=>bnd (bF x13 (aG x)) fun x14=>cond x14 (letm ((aA (s9.1+1))) fun x15=>bnd (aI m.l x15) fun x16=>bnd (dm x16) fun x17=>some (x17,true))
    (letm ((aA (s9.1+2))) fun x18=>self10 (x18,s9.2))) (some ((Tr.mk 0 0 [] []),false))) f ((i:Int),z)=some (H' (kA (m.l.drop i) x)):=by
  intro f
  induction f with
  |zero=>intro i z h1 h2;omega
  |succ f ih=>
   intro i z h1 h2 hi2
   rw[bd,ab]
   show cond (decide ((i:Int)<(m.l.length:Int))) _ _=_
   by_cases hi:i<m.l.length
   ·have hi1:i+1<m.l.length:=by omega
    have hok:=jE hm (List.getElem_mem hi)
    obtain⟨v3,c3,l3⟩:=cT.1 hok
    rw[decide_eq_true (by omega),bf]
    refine ac (aE (List.getElem?_eq_getElem hi)) ?_
    refine ac (np v3 (by omega) (by omega)) ?_
    unfold bF
    rw[ab,ae,Bc,Gr hi1]
    unfold kA
    by_cases e:m.l[i]=x
    ·rw[if_pos e,decide_eq_true (by rw[e]),bf,ab]
     show bnd (aI m.l (aA ((i:Int)+1))) _=_
     rw[an (x:=(i:Int)+1) (by omega) (by omega),show((i:Int)+1)=((i+1:Nat):Int) by omega,aE (List.getElem?_eq_getElem hi1),ae,JA (jE hm (List.getElem_mem hi1)),ae]
     rfl
    ·rw[if_neg e,decide_eq_false (fun h=>e (LI hok hx h)),aw,ab]
     show aM _ f (aA ((i:Int)+2),z)=_
     rw[an (x:=(i:Int)+2) (by omega) (by omega),show((i:Int)+2)=((i+2:Nat):Int) by omega]
     exact ih (i+2) z (by omega) (by omega) (by omega)
   ·rw[decide_eq_false (by omega),aw,List.drop_of_length_le (by omega)]
    rfl
 unfold fT
 refine ac (y:=false) ?_ ?_
 ·rw[ab,hk,show((5:Int) != 5)=false from rfl,aw,gj,ae,hm,ab,Bool.not_true,aw,gj,ae,hx,ab,Bool.not_true]
 ·rw[aw]
  refine ac (np v1 (by omega) (by omega)) ?_
  have:=key bA 0 (Tr.mk 0 0 [] []) (by rw[cG];omega) (by omega) (by omega)
  unfold bF at this⊢
  exact this
set_option maxRecDepth 100000
theorem ua : ∀(a b:List Tr),a.length%2=0→fS (a++b)=fS a++fS b
 | [],b,_=>rfl
 | [_],b,h=>by simp at h
 |k::v::a,b,h=>by
  have:=ua a b (by simp only[List.length_cons]at h;omega)
  show(k,v)::fS (a++b)=(k,v)::fS a++fS b
  rw[this];rfl
def PJ(p:Tr×Tr):Nat:=cD p.1+cD p.2
def Pm(p:Tr×Tr):Nat:=(aG p.1).length+(aG p.2).length
theorem Au : ∀(l:List Tr),l.length%2=0→dz l=((fS l).map PJ).sum
 | [],_=>by rw[cU];rfl
 | [_],h=>by simp at h
 |k::v::l,h=>by
  rw[bC,bC,Au l (by simp only[List.length_cons]at h;omega)]
  show _=(((k,v)::fS l).map PJ).sum
  rw[List.map_cons,List.sum_cons]
  show _=cD k+cD v+_
  omega
theorem BM : ∀(l:List Tr),l.length%2=0→(co l).length=((fS l).map Pm).sum
 | [],_=>by rw[bP];rfl
 | [_],h=>by simp at h
 |k::v::l,h=>by
  rw[bh,bh,List.length_append,List.length_append,BM l (by simp only[List.length_cons]at h;omega)]
  show _=(((k,v)::fS l).map Pm).sum
  rw[List.map_cons,List.sum_cons]
  show _=(aG k).length+(aG v).length+_
  omega
theorem uu : ∀(l:List Tr),l.length%2=0→∀y,y∈l↔∃p∈fS l,y=p.1∨y=p.2
 | [],_,y=>⟨fun h=>(by cases h),fun⟨p,hp,_⟩=>(by cases hp)⟩
 | [_],h,_=>by simp at h
 |k::v::l,h,y=>by
  have ih:=uu l (by simp only[List.length_cons]at h;omega) y
  constructor
  ·intro hy
   rcases List.mem_cons.1 hy with rfl |hy
   ·exact⟨(y,v),List.mem_cons_self,.inl rfl⟩
   ·rcases List.mem_cons.1 hy with rfl |hy
    ·exact⟨(k,y),List.mem_cons_self,.inr rfl⟩
    ·obtain⟨p,hp,h⟩:=ih.1 hy
     exact⟨p,List.mem_cons_of_mem _ hp,h⟩
  ·rintro⟨p,hp,h⟩
   rcases List.mem_cons.1 hp with rfl |hp
   ·rcases h with rfl |rfl
    ·exact List.mem_cons_self
    ·exact List.mem_cons_of_mem _ List.mem_cons_self
   ·exact List.mem_cons_of_mem _ (List.mem_cons_of_mem _ (ih.2 ⟨p,hp,h⟩))
theorem z7{α:Type}(f:α→Nat){l m:List α}(h:l.Perm m):(l.map f).sum=(m.map f).sum:=by
 induction h with
 |nil=>rfl
 |cons x _ ih=>rw[List.map_cons,List.map_cons,List.sum_cons,List.sum_cons,ih]
 |swap x y l=>simp only[List.map_cons,List.sum_cons];omega
 |trans _ _ h1 h2=>exact h1.trans h2
structure PP(l m:List Tr):Prop where
 e:l.length%2=0
 e2:m.length%2=0
 p:(fS l).Perm (fS m)
theorem PP.cnt{l m:List Tr}(h:PP l m):dz l=dz m:=by rw[Au l h.e,Au m h.e2,z7 PJ h.p]
theorem PP.len{l m:List Tr}(h:PP l m):(co l).length=(co m).length:=by rw[BM l h.e,BM m h.e2,z7 Pm h.p]
theorem PP.mem{l m:List Tr}(h:PP l m){y:Tr}:y∈l↔y∈m:=by
 rw[uu l h.e,uu m h.e2]
 constructor<;>(rintro⟨p,hp,h2⟩)
 ·exact⟨p,h.p.mem_iff.1 hp,h2⟩
 ·exact⟨p,h.p.mem_iff.2 hp,h2⟩
theorem zP : ∀a b c:List UInt8,Lib.compareBytes a b<0→Lib.compareBytes b c<0→Lib.compareBytes a c<0
 |a,[],c,h1,_=>by cases a with
  |nil=>exact absurd (show(0:Int)<0 from h1) (by omega)
  |cons _ _=>exact absurd (show(1:Int)<0 from h1) (by omega)
 | [],_::_,[],_,h=>absurd (show(1:Int)<0 from h) (by omega)
 | [],_::_,_::_,_,_=>(by omega:(-1:Int)<0)
 |_::_,_::_,[],_,h=>absurd (show(1:Int)<0 from h) (by omega)
 |a::x,b::y,c::z,h1,h2=>by
  rw[tW]at h1 h2⊢
  by_cases e1:a.toNat<b.toNat
  ·by_cases e2:b.toNat<c.toNat
   ·rw[if_pos (show a.toNat<c.toNat by omega)];omega
   ·rw[if_neg e2]at h2
    by_cases e3:c.toNat<b.toNat
    ·rw[if_pos e3]at h2;omega
    ·rw[if_pos (show a.toNat<c.toNat by omega)];omega
  ·rw[if_neg e1]at h1
   by_cases e3:b.toNat<a.toNat
   ·rw[if_pos e3]at h1;omega
   ·rw[if_neg e3]at h1
    by_cases e2:b.toNat<c.toNat
    ·rw[if_pos (show a.toNat<c.toNat by omega)];omega
    ·rw[if_neg e2]at h2
     by_cases e4:c.toNat<b.toNat
     ·rw[if_pos e4]at h2;omega
     ·rw[if_neg e4]at h2
      rw[if_neg (show ¬a.toNat<c.toNat by omega),if_neg (show ¬c.toNat<a.toNat by omega)]
      exact zP x y z h1 h2
theorem Kh : ∀(l:List Tr),iw (l.map aG)=true→l.length%2=0→(fS l).Pairwise fun p q=>Lib.compareBytes (aG p.1) (aG q.1)<0
 | [],_,_=>List.Pairwise.nil
 | [_],_,h=>by simp at h
 | [k,v],_,_=>by show List.Pairwise _ [(k,v)];exact List.pairwise_singleton _ _
 | [_,_,_],_,h=>by simp at h
 |k::v::k2::v2::l,h,he=>by
  simp only[List.map_cons,iw,Bool.and_eq_true,decide_eq_true_eq]at h
  have ih:=Kh (k2::v2::l) (by simp only[List.map_cons];exact h.2) (by simp only[List.length_cons]at he⊢;omega)
  show List.Pairwise _ ((k,v)::fS (k2::v2::l))
  rw[List.pairwise_cons]
  refine⟨fun q hq=>?_,ih⟩
  have ih2:List.Pairwise (fun p q=>Lib.compareBytes (aG p.1) (aG q.1)<0) ((k2,v2)::fS l):=ih
  rw[List.pairwise_cons]at ih2
  have hq:q∈(k2,v2)::fS l:=hq
  rcases List.mem_cons.1 hq with rfl |hq
  ·exact h.1
  ·exact zP _ _ _ h.1 (ih2.1 q hq)
theorem ES : ∀(l:List Tr),(fS l).Pairwise (fun p q=>Lib.compareBytes (aG p.1) (aG q.1)<0)→l.length%2=0→∀k v,(k,v)∈fS l↔kA l k=some v
 | [],_,_,k,v=>⟨fun h=>(by cases h),fun h=>(by unfold kA at h;cases h)⟩
 | [_],_,h,_,_=>by simp at h
 |a::b::l,hp,he,k,v=>by
  have hp:List.Pairwise (fun p q=>Lib.compareBytes (aG p.1) (aG q.1)<0) ((a,b)::fS l):=hp
  rw[List.pairwise_cons]at hp
  have ih:=ES l hp.2 (by simp only[List.length_cons]at he;omega) k v
  show(k,v)∈(a,b)::fS l↔_
  unfold kA
  by_cases e:a=k
  ·rw[if_pos e]
   constructor
   ·intro h
    rcases List.mem_cons.1 h with h |h
    ·injection h with _ h;rw[h]
    ·have:=hp.1 _ h
     rw[e]at this
     rw[(mU _ _).2 rfl]at this
     omega
   ·intro h
    injection h with h
    rw[e,h];exact List.mem_cons_self
  ·rw[if_neg e]
   constructor
   ·intro h
    rcases List.mem_cons.1 h with h |h
    ·injection h with h _;exact absurd h.symm e
    ·exact ih.1 h
   ·intro h
    exact List.mem_cons_of_mem _ (ih.2 h)
theorem ji{m:Tr}(hk:m.k=5)(hm:eU m=true):m=Tr.mk 5 0 [] m.l∧m.l.length%2=0∧(fS m.l).Pairwise (fun p q=>Lib.compareBytes (aG p.1) (aG q.1)<0):=by
 obtain⟨k,n,b,l⟩:=m
 obtain⟨v2,_,_⟩:=cT.1 hm
 have hk:k=5:=hk
 subst hk
 rcases nU v2 with⟨hk,_⟩ | ⟨hk,_⟩ | ⟨hk,_⟩ | ⟨hk,_⟩ | ⟨hk,_⟩ | ⟨hk,_⟩ | ⟨_,rfl,rfl,_,h,_,h2⟩ | ⟨hk,_⟩<;>first |exact⟨rfl,h,Kh l h2 h⟩ |omega
theorem fy{S R:Type}{b:(S→Option R)→S→Option R}(I:Nat→S→Prop)(Q:R→Prop)(hb : ∀n s self,I n s→(∀m s',m<n→I m s'→∃r,self s'=some r∧Q r)→∃r,b self s=some r∧Q r): ∀(f n:Nat) (s:S),n<f→I n s→∃r,aM b f s=some r∧Q r
 |0,n,s,h,_=>absurd h (Nat.not_lt_zero _)
 |f+1,n,s,h,hI=>by
  rw[bd]
  exact hb n s _ hI fun m s' hm hI'=>fy I Q hb f m s' (by omega) hI'
theorem gh{α β:Type}{X:Option β}{K:β→Option α}(P:β→Prop){Q:α→Prop}(h : ∃y,X=some y∧P y)(k : ∀y,P y→∃r,K y=some r∧Q r): ∃r,bnd X K=some r∧Q r:=by
 obtain⟨y,rfl,hy⟩:=h
 exact k y hy
theorem bH{α β:Type}{e:β}{K:β→Option α}{Q:α→Prop}(k : ∃r,K e=some r∧Q r): ∃r,letm e K=some r∧Q r:=k
theorem dt{α:Type}{c:Bool}{x y:Option α}{Q:α→Prop}(h1:c=true→∃r,x=some r∧Q r)(h2:c=false→∃r,y=some r∧Q r): ∃r,cond c x y=some r∧Q r:=by
 cases c with
 |true=>exact h1 rfl
 |false=>exact h2 rfl
theorem I5{x:Tr}(h:eU x=true):aZ x=some (aG x)∧(aG x).length≤4096:=by
 obtain⟨h1,h2,h3⟩:=cT.1 h
 exact⟨v_ h1 (by omega) (by omega),h3⟩
theorem QZ(n:Nat):Gk.rem ((n:Nat):Int) 2=some ((n%2:Nat):Int):=Iw n
theorem Pv{s l:List Tr}{i t:Nat}(h:PP s (l.take i))(hi:i+1<l.length)(ht:t%2=0)(htl:t≤s.length):PP ([]++s.take t ++ [l[i],l[i+1]]++s.drop t) (l.take (i+2)):=by
 have hlen:(l.take i).length=i:=by rw[List.length_take];omega
 have e1:=h.e
 have e2:=h.e2
 rw[hlen]at e2
 have hlt:(s.take t).length=t:=by rw[List.length_take];omega
 have htk:l.take (i+2)=l.take i ++ [l[i],l[i+1]]:=by
  rw[List.take_add_one,List.take_add_one,List.getElem?_eq_getElem (show i<l.length by omega),List.getElem?_eq_getElem hi,List.append_assoc];rfl
 refine⟨?_,?_,?_⟩
 ·simp only[List.length_append,List.length_take,List.length_drop,List.length_cons,List.length_nil];omega
 ·rw[htk];simp only[List.length_append,hlen,List.length_cons,List.length_nil];omega
 ·rw[htk,ua (l.take i) _ (by rw[hlen];exact e2),List.nil_append,List.append_assoc,ua (s.take t) _ (by rw[hlt];exact ht)]
  show(fS (s.take t)++(l[i],l[i+1])::fS (s.drop t)).Perm (fS (l.take i) ++ [(l[i],l[i+1])])
  refine List.perm_middle.trans (List.Perm.trans ?_ (List.perm_append_comm (l₁:=[(l[i],l[i+1])])))
  refine List.Perm.cons _ ?_
  rw[←ua (s.take t) _ (by rw[hlt];exact ht),List.take_append_drop]
  exact h.p
theorem xv(l0:List Tr)(hl:l0.length≤100): ∃r,eG l0=some r∧(r.2=0→∃l,r.1=Tr.mk 5 0 [] l∧eU r.1=true∧PP l l0∧∀y∈l0,eU y=true):=by
 unfold eG
 rw[Iw,ae]
 refine bH (dt (fun _=>⟨_,rfl,fun h=>absurd h (by decide)⟩) (fun hev=>?_))
 have hev:l0.length%2=0:=by
  simp only[bne_eq_false_iff_eq]at hev
  omega
 -- all are valid, or an error
 have key : ∀(l:List Tr) (i:Nat) (s:Tr),∃r,cF (R:=((Go.Gk.Tr×Int)⊕Go.Gk.Tr)) (S:=Go.Gk.Tr) (α:=Go.Gk.Tr) (fun k3 s4=>some (.inr s4))
    (fun x5 k6 s7 self8=>bnd (bv x5) fun x9=>letm ((!x9)) fun x10=>cond x10 (some (.inl ((Tr.mk 0 0 [] []),1))) (self8 s7)) l i s=some r∧(r = .inl ((Tr.mk 0 0 [] []),1)∨r = .inr s∧∀y,y∈l→eU y=true):=by
  intro l
  induction l with
  |nil=>intro i s;exact⟨_,rfl,.inr ⟨rfl,fun y hy=>by cases hy⟩⟩
  |cons y l ih=>
   intro i s
   rw[bT,mo,ae,ab]
   cases hy:eU y with
   |false=>exact⟨_,rfl,.inl rfl⟩
   |true=>
    obtain⟨r,hr,h⟩:=ih (i+1) s
    refine⟨r,hr,?_⟩
    rcases h with h | ⟨h,h2⟩
    ·exact .inl h
    ·refine .inr ⟨h,fun z hz=>?_⟩
     rcases List.mem_cons.1 hz with rfl |hz
     ·exact hy
     ·exact h2 z hz
 obtain⟨r,hr,h⟩:=key l0 0 (Tr.mk 0 0 [] [])
 rw[hr]
 rcases h with rfl | ⟨rfl,hok⟩
 ·exact⟨_,rfl,fun h=>absurd h (by decide)⟩
 rw[jH]
 have hget : ∀(i:Nat) (h:i<l0.length),eU l0[i]=true:=fun i h=>hok _ (List.getElem_mem h)
 refine gh (fun r=>PP r.1 l0) ?_ fun v47 hv47=>dt (fun _=>⟨_,rfl,fun h=>absurd h (by decide)⟩) (fun _=>?_)
 ·refine fy (S:=List Tr×(Bool×Int)) (R:=List Tr×Bool) (fun n s=>∃i:Nat,s.2.2=(i:Int)∧i%2=0∧i+n=l0.length∧s.1.length=i∧(∀y,y∈s.1→eU y=true)∧PP s.1 (l0.take i)) (fun r=>PP r.1 l0) (fun n s self hI ih=>?_) bA l0.length _ (by rw[cG];omega) ⟨0,rfl,rfl,by omega,rfl,(fun y hy=>by cases hy),⟨rfl,rfl,List.Perm.nil⟩⟩
  obtain⟨i,hi,hi2,hin,hsl,hall,hpp⟩:=hI
  have sget : ∀(i:Nat) (h:i<s.1.length),eU s.1[i]=true:=fun i h=>hall _ (List.getElem_mem h)
  rw[hi]
  refine bH (dt (fun hc=>?_) (fun hc=>⟨_,rfl,?_⟩))
  rotate_left
  ·rw[dS,decide_eq_false_iff_not]at hc
   rw[List.take_of_length_le (by omega)]at hpp
   exact hpp
  rw[dS,decide_eq_true_eq]at hc
  have cmpv : ∀(t:Nat) (h2:2≤t) (h3:t≤s.1.length) (K:Int→Option Bool),(bnd (aI s.1 ((t-2:Nat):Int)) fun x19=>bnd (aZ x19) fun x20=>bnd (aI l0 (i:Int)) fun x21=>bnd (aZ x21) fun x22=>bnd (bi x20 x22) K)=K (Lib.compareBytes (aG (s.1[t-2]'(by omega))) (aG l0[i])):=by
   intro t h2 h3 K
   obtain⟨e1,l1⟩:=I5 (sget (t-2) (by omega))
   obtain⟨e2,l2⟩:=I5 (hget i hc)
   rw[aE (List.getElem?_eq_getElem (show t-2<s.1.length by omega)),ae,e1,ae,aE (List.getElem?_eq_getElem hc),ae,e2,ae,sW _ _ (by omega) (by omega),ae]
  refine gh (fun v45=>v45.1.length=i+2∧(∀y,y∈v45.1→eU y=true)∧PP v45.1 (l0.take (i+2))) ?_ fun v45 hv45=>?_
  ·refine gh (fun k=>∃t:Nat,k=(t:Int)∧t%2=0∧t≤s.1.length) ?_ fun v27 hv27=>?_
   ·refine fy (S:=Int) (R:=Int) (fun n k=>k=(n:Int)∧n%2=0∧n≤s.1.length) (fun k=>∃t:Nat,k=(t:Int)∧t%2=0∧t≤s.1.length) (fun n k self hI ih=>?_) bA s.1.length _ (by rw[cG];omega) ⟨rfl,by omega,by omega⟩
    obtain⟨rfl,hn2,hnl⟩:=hI
    refine gh (fun b=>b=true→0<n) ?_ fun v25 h25=>?_
    ·refine bH (dt (fun h0=>?_) (fun _=>⟨false,rfl,fun h=>Bool.noConfusion h⟩))
     rw[FO,decide_eq_true_eq]at h0
     rw[ab,an (by omega) (by omega),show((n:Nat):Int)-2=((n-2:Nat):Int) by omega,cmpv n (by omega) hnl]
     exact⟨_,rfl,fun _=>h0⟩
    ·refine dt (fun h=>?_) (fun _=>⟨_,rfl,n,rfl,hn2,hnl⟩)
     have h0:=h25 h
     rw[ab,an (by omega) (by omega),show((n:Nat):Int)-2=((n-2:Nat):Int) by omega]
     exact ih (n-2) _ (by omega) ⟨rfl,by omega,by omega⟩
   ·obtain⟨t,rfl,ht2,htl⟩:=hv27
    refine gh (fun _=>True) ?_ fun v36 _=>?_
    ·refine dt (fun _=>⟨true,rfl,trivial⟩) (fun _=>bH (dt (fun h0=>?_) (fun _=>⟨false,rfl,trivial⟩)))
     rw[FO,decide_eq_true_eq]at h0
     rw[ab,an (by omega) (by omega),show((t:Nat):Int)-2=((t-2:Nat):Int) by omega,cmpv t (by omega) htl]
     exact⟨_,rfl,trivial⟩
    ·have c1:Gk.cut s.1 0 (t:Int)=some (s.1.take t):=by unfold Gk.cut;rw[if_pos (by omega)];simp
     have c2:Gk.cut s.1 (t:Int) (s.1.length:Int)=some (s.1.drop t):=wO htl
     have hi1:i+1<l0.length:=by omega
     rw[c1,ae,aF (by simp;omega),ae,aE (List.getElem?_eq_getElem hc),ae,ab,an (by omega) (by omega),show((i:Nat):Int)+1=((i+1:Nat):Int) by omega,aE (List.getElem?_eq_getElem hi1),ae,
      aF (by simp;omega),ae,c2,ae,aF (by simp;omega),ae]
     refine⟨_,rfl,?_,fun y hy=>?_,?_⟩
     ·simp only[List.length_append,List.length_take,List.length_drop,List.length_cons,List.length_nil];omega
     ·simp only[List.nil_append,List.mem_append,List.mem_cons,List.not_mem_nil,or_false]at hy
      rcases hy with(hy |rfl |rfl) |hy
      ·exact hall _ (List.mem_of_mem_take hy)
      ·exact hget _ hc
      ·exact hget _ hi1
      ·exact hall _ (List.mem_of_mem_drop hy)
     ·exact Pv hpp hi1 ht2 htl
  ·rw[ab,an (by omega) (by omega)]
   exact ih (n-2) _ (by omega) ⟨i+2,by show(i:Int)+2=_;omega,by omega,by omega,hv45.1,hv45.2.1,hv45.2.2⟩
 ·rw[mo,ae,ab]
  cases hv:eU (Tr.mk 5 0 [] v47.1)with
  |false=>exact⟨_,rfl,fun h=>absurd h (by decide)⟩
  |true=>
   rw[Bool.not_true,aw,Lc hv,ae]
   exact⟨_,rfl,fun _=>⟨v47.1,rfl,hv,hv47,hok⟩⟩
set_option maxRecDepth 100000
def I0(n:UInt64):Tr:=Tr.mk 0 n [] []
theorem Gw(n:UInt64):eU (I0 n)=true:=by
 have hl:=jb 0 n
 refine cT.2 ⟨?_,?_,?_⟩
 ·unfold I0;rw[od];rfl
 ·unfold I0;rw[fc,cU];omega
 ·unfold I0;rw[cV,own0];omega
theorem mA{R α:Type}{bn:Nat→Unit→Option R}{bs:α→Nat→Unit→(Unit→Option R)→Option R}(p:α→Bool)(F:Option R): ∀(xs:List α) (k:Nat),(∀x,x∈xs→∀k self,bs x k () self=cond (p x) (self ()) F)→
  cF bn bs xs k ()=cond (xs.all p) (bn (k+xs.length) ()) F
 | [],k,_=>by rw[eP];rfl
 |x::xs,k,h=>by
  rw[bT,h x (by simp),List.all_cons,mA p F xs (k+1) fun y hy=>h y (by simp[hy]),List.length_cons,show k+1+xs.length=k+(xs.length+1) by omega]
  cases p x<;>rfl
theorem vb{R:Type}(l:List Tr)(g:Tr→Tr→Bool)(bad good:Option R)(b:(Int→Option R)→Int→Option R)(h1 : ∀self (i:Nat) (hi:i+1<l.length),b self (i:Int)=cond (g (l[i]'(by omega)) l[i+1]) (self ((i+2:Nat):Int)) bad)(h2 : ∀self,b self (l.length:Int)=good):
  ∀(f i:Nat),l.length<f+i→i≤l.length→(l.length-i)%2=0→aM b f (i:Int)=cond ((fS (l.drop i)).all (fun p=>g p.1 p.2)) good bad
 |0,i,h3,h4,_=>by omega
 |f+1,i,h3,h4,h5=>by
  rw[bd]
  by_cases hi:i+1<l.length
  ·rw[h1 _ i hi,vb l g bad good b h1 h2 f (i+2) (by omega) (by omega) (by omega),Gr hi]
   show _=cond (((l[i],l[i+1])::fS (l.drop (i+2))).all _) good bad
   rw[List.all_cons]
   cases g l[i] l[i+1]<;>rfl
  ·have:i=l.length:=by omega
   subst this
   rw[h2,List.drop_of_length_le (Nat.le_refl _)];rfl
def ow(x:Tr):Bool:=x.k==3||(x.k==0||x.k==1)&&decide (x.n.toNat≤65535)
def Il(x:Tr):Bool:=(x.k==0||x.k==1)&&decide (x.n.toNat≤65535)
theorem FJ(x:Tr):eS x=some (Il x):=by
 unfold eS Il
 refine ac (y:=(x.k==0||x.k==1)&&decide (x.n.toNat≤65535)) ?_ rfl
 simp only[ab]
 rw[show decide ((UInt64.toNat x.n:Int)≤(UInt64.toNat 65535:Int))=decide (x.n.toNat≤65535)from qm _ 65535]
 cases(x.k==0)<;>cases(x.k==1)<;>rfl
theorem HJ(x:Tr):dL x=some (ow x):=by
 unfold dL ow
 refine ac (y:=x.k==3||(x.k==0||x.k==1)&&decide (x.n.toNat≤65535)) ?_ rfl
 simp only[ab]
 rw[show decide ((UInt64.toNat x.n:Int)≤(UInt64.toNat 65535:Int))=decide (x.n.toNat≤65535)from qm _ 65535]
 cases(x.k==3)<;>cases(x.k==0)<;>cases(x.k==1)<;>rfl
def NW(v:Tr):Bool:=(v.k==0&&decide (0<v.n.toNat)||v.k==1)&&decide (v.n.toNat≤65535)
open Classical in
noncomputable def nW (key v:Tr) (l:List Tr):Bool:=
 if key=I0 1 then NW v else if key=I0 2 then v.k==4&&(!v.l.isEmpty&&v.l.all fun x=>(kA l x).isSome)
 else if key=I0 4∨key=I0 5∨key=I0 6∨key=I0 12 then v.k==2 else true
theorem kz(o:Option Tr):(H' o).2=o.isSome:=by cases o<;>rfl
theorem j3(n:Nat)(h:n<9223372036854775808):ay (n:Int)=some (I0 (UInt64.ofNat n)):=by
 unfold ay
 rw[ab,decide_eq_false (by omega),aw,ab,bJ];rfl
theorem xg(n:Nat)(h:n<9223372036854775808):cy (n:Int)=some (I0 (UInt64.ofNat n)):=by
 unfold cy
 rw[ab,decide_eq_false (by omega),aw,ab,bJ];rfl
open Classical in
theorem GQ{key v:Tr}{K:Int}{N:UInt64}{bb:List UInt8}{l:List Tr}(hk:eU key=true)(hv:eU v=true)(hl : ∀y∈l,eU y=true)(hn:l.length≤1000):dc key v (.mk K N bb l)=some (nW key v l):=by
 unfold dc nW
 refine ac (j3 1 (by omega)) ?_
 rw[qg hk (Gw _),ae,show UInt64.ofNat 1=1 from rfl]
 by_cases e1:key=I0 1
 ·rw[if_pos e1,decide_eq_true e1,bf]
  refine ac (y:=NW v) ?_ rfl
  unfold NW
  simp only[ab]
  rw[show decide ((UInt64.toNat v.n:Int)≤(UInt64.toNat 65535:Int))=decide (v.n.toNat≤65535)from qm _ 65535,show decide ((UInt64.toNat 0:Int)<(UInt64.toNat v.n:Int))=decide (0<v.n.toNat)from dS 0 _]
  cases(v.k==0)<;>cases(v.k==1)<;>cases decide (0<v.n.toNat)<;>rfl
 ·rw[if_neg e1,decide_eq_false e1,aw]
  refine ac (j3 2 (by omega)) ?_
  rw[qg hk (Gw _),ae,show UInt64.ofNat 2=2 from rfl]
  by_cases e2:key=I0 2
  ·rw[if_pos e2,decide_eq_true e2,bf]
   refine ac (y:=v.k != 4||v.l.isEmpty) ?_ ?_
   ·rw[ab,ab,vr]
    refine congrArg some ?_
    congr 1
    exact ie v.l
   ·have hkid : ∀x∈v.l,eU x=true:=fun x hx=>jE hv hx
    have hloop:=mA (R:=Bool) (bn:=fun k18 s19=>some true) (bs:=fun x20 k21 s22 self23=>bnd (bO (.mk K N bb l) x20) fun x24=>letm ((!x24.2)) fun x25=>cond x25 (some false) (self23 ())) (fun x=>(kA l x).isSome) (some false) v.l 0 (fun x hx k self=>by
     rw[wt hl hn (hkid x hx),ae,ab,kz]
     cases(kA l x).isSome<;>rfl)
    rw[hloop]
    cases h4:(v.k==4)with
    |false=>rw[show(v.k != 4)=true by rw[bne,h4];rfl];rfl
    |true=>
     rw[show(v.k != 4)=false by rw[bne,h4];rfl]
     cases v.l.isEmpty<;>cases(v.l.all fun x=>(kA l x).isSome)<;>rfl
  ·rw[if_neg e2,decide_eq_false e2,aw]
   have st : ∀(n:Nat) (h:n<9223372036854775808) (R:Option Bool),(bnd (ay (n:Int)) fun x32=>bnd (aR key x32) fun x33=>cond x33 (letm ((v.k==2)) fun x34=>some x34) R)=cond (decide (key=I0 (UInt64.ofNat n))) (some (v.k==2)) R:=fun n h R=>by
    rw[j3 n h,ae,qg hk (Gw _),ae,ab]
   show(bnd (ay ((4:Nat):Int)) fun x32=>bnd (aR key x32) fun x33=>cond x33 (letm ((v.k==2)) fun x34=>some x34)
    (bnd (ay ((5:Nat):Int)) fun x32=>bnd (aR key x32) fun x33=>cond x33 (letm ((v.k==2)) fun x34=>some x34)
    (bnd (ay ((6:Nat):Int)) fun x32=>bnd (aR key x32) fun x33=>cond x33 (letm ((v.k==2)) fun x34=>some x34)
    (bnd (ay ((12:Nat):Int)) fun x32=>bnd (aR key x32) fun x33=>cond x33 (letm ((v.k==2)) fun x34=>some x34) (some true)))))=_
   rw[st 4 (by omega),st 5 (by omega),st 6 (by omega),st 12 (by omega)]
   show cond (decide (key=I0 4)) _ (cond (decide (key=I0 5)) _ (cond (decide (key=I0 6)) _ (cond (decide (key=I0 12)) _ _)))=_
   by_cases a:key=I0 4
   ·rw[decide_eq_true a,if_pos (.inl a)];rfl
   rw[decide_eq_false a]
   by_cases b:key=I0 5
   ·rw[decide_eq_true b,if_pos (.inr (.inl b))];rfl
   rw[decide_eq_false b]
   by_cases c:key=I0 6
   ·rw[decide_eq_true c,if_pos (.inr (.inr (.inl c)))];rfl
   rw[decide_eq_false c]
   by_cases d:key=I0 12
   ·rw[decide_eq_true d,if_pos (.inr (.inr (.inr d)))];rfl
   rw[decide_eq_false d,if_neg (by rintro(h |h |h |h)<;>contradiction)];rfl
noncomputable def oT (p u:Tr) (n:UInt64):Option Tr:=match kA p.l (I0 n)with
 |some v=>some v
 |none=>kA u.l (I0 n)
theorem C2{p u:Tr}(hp:eU p=true)(hu:eU u=true)(n:Nat)(h:n<9223372036854775808):cR (p,u) (n:Int)=some (H' (oT p u (UInt64.ofNat n))):=by
 obtain⟨K,N,bb,l⟩:=p
 obtain⟨K',N',bb',l'⟩:=u
 have c1:=(cT.1 hp).2.1
 have c2:=(cT.1 hu).2.1
 rw[fc]at c1 c2
 have d1:=dA l
 have d2:=dA l'
 unfold cR oT
 rw[j3 n h,ae]
 refine ac (wt (l:=l) (fun y hy=>jE hp hy) (by omega) (Gw _)) ?_
 rw[kz]
 show cond (kA l (I0 (UInt64.ofNat n))).isSome _ _=some (H' (match kA l (I0 (UInt64.ofNat n))with |some v=>some v |none=>kA l' (I0 (UInt64.ofNat n))))
 cases ha:kA l (I0 (UInt64.ofNat n))with
 |some v=>rfl
 |none=>
  show cond false _ _=_
  rw[aw,ae]
  refine ac (wt (l:=l') (fun y hy=>jE hu hy) (by omega) (Gw _)) ?_
  cases kA l' (I0 (UInt64.ofNat n))<;>rfl
open Classical in
/-- Valid headers. -/
noncomputable def QG (p u:Tr):Bool:=
 ((p.k==5&&u.k==5)&&(eU p&&eU u))&&(((fS p.l).all (fun q=>ow q.1&&nW q.1 q.2 p.l)&&(fS u.l).all (fun q=>ow q.1&&nW q.1 q.2 u.l))&&((fS u.l).all (fun q=>!((kA p.l q.1).isSome||decide (q.1=I0 2)))&&!((oT p u 5).isSome&&(oT p u 6).isSome)))
theorem lj{m:Tr}(hk:m.k=5)(hm:eU m=true):m.l.length%2=0:=(ji hk hm).2.1
theorem pU{m:Tr}(hm:eU m=true):m.l.length≤256:=by
 have c1:=(cT.1 hm).2.1
 have d1:=dA m.l
 have:=qq m
 omega
open Classical in
theorem qK(p u:Tr):dg (p,u)=some (QG p u):=by
 unfold dg
 refine ac (y:=!((p.k==5&&u.k==5)&&(eU p&&eU u))) ?_ ?_
 ·show(letm (p.k != 5) fun x1=>cond x1 (some true) (letm (u.k != 5) fun x2=>cond x2 (some true) (bnd (bv p) fun x3=>letm (!x3) fun x4=>cond x4 (some true) (bnd (bv u) fun x5=>letm (!x5) fun x6=>some x6))))=_
  rw[ab,ab,mo,ae,ab,mo,ae,ab]
  unfold bne
  cases(p.k==5)<;>cases(u.k==5)<;>cases eU p<;>cases eU u<;>rfl
 unfold QG
 cases h0:((p.k==5&&u.k==5)&&(eU p&&eU u))with
 |false=>rfl
 |true=>
  rw[Bool.not_true,aw,Bool.true_and]
  simp only[Bool.and_eq_true,beq_iff_eq]at h0
  obtain⟨⟨k1,k2⟩,o1,o2⟩:=h0
  have ev1:=lj k1 o1
  have ev2:=lj k2 o2
  have ln1:=pU o1
  have ln2:=pU o2
  have inner : ∀(m:Tr),m.k=5→eU m=true→∀(F G:Option ((Bool⊕Unit)⊕Unit)),aM (R:=((Bool⊕Unit)⊕Unit)) (S:=Int) (fun self15 s14=>
    letm (decide (s14<(m.l.length:Int))) fun x16=>cond x16 (bnd (β:=Bool) (bnd (aI m.l s14) fun x17=>bnd (dL x17) fun x18=>letm ((!x18)) fun x19=>cond x19 (some true)
     (bnd (aI m.l s14) fun x20=>letm ((aA (s14+1))) fun x21=>bnd (aI m.l x21) fun x22=>bnd (dc x20 x22 m) fun x23=>letm ((!x23)) fun x24=>some x24)) fun v25=>cond v25 F (letm ((aA (s14+2))) fun x26=>self15 x26)) G) bA 0=cond ((fS m.l).all (fun q=>ow q.1&&nW q.1 q.2 m.l)) G F:=by
   intro m km om F G
   have evm:=lj km om
   have lnm:=pU om
   refine vb m.l (fun a b=>ow a&&nW a b m.l) F G _ ?_ ?_ bA 0 (by rw[cG];omega) (by omega) (by omega)
   ·intro self i hi
    have hi0:i<m.l.length:=by omega
    have oa:=jE om (List.getElem_mem hi0)
    have ob:=jE om (List.getElem_mem hi)
    rw[ab,decide_eq_true (by omega),bf]
    have hval:dc m.l[i] m.l[i+1] m=some (nW m.l[i] m.l[i+1] m.l):=by
     obtain⟨K,N,bb,l⟩:=m
     exact GQ oa ob (fun y hy=>jE om hy) (by have:l.length≤256:=lnm;omega)
    refine ac (y:=!(ow m.l[i]&&nW m.l[i] m.l[i+1] m.l)) ?_ ?_
    ·rw[aE (List.getElem?_eq_getElem hi0),ae,HJ,ae,ab,ae,ab,an (by omega) (by omega),show((i:Int)+1)=((i+1:Nat):Int) by omega,aE (List.getElem?_eq_getElem hi),ae,hval,ae,ab]
     cases ow m.l[i]<;>rfl
    ·rw[ab,an (by omega) (by omega),show((i:Int)+2)=((i+2:Nat):Int) by omega]
     cases(ow m.l[i]&&nW m.l[i] m.l[i+1] m.l)<;>rfl
   ·intro self
    rw[ab,decide_eq_false (by omega),aw]
  have hA:cF (R:=(Bool⊕Unit)) (S:=Unit) (α:=Tr) (fun k8 s9=>some (.inr ()))
    (fun x10 k11 s12 self13=>fg (ρ:=(Bool⊕Unit)) (ρ':=(Bool⊕Unit)) (Y:=Unit) (aM (R:=((Bool⊕Unit)⊕Unit)) (S:=Int) (fun self15 s14=>
    letm (decide (s14<(x10.l.length:Int))) fun x16=>cond x16 (bnd (β:=Bool) (bnd (aI x10.l s14) fun x17=>bnd (dL x17) fun x18=>letm ((!x18)) fun x19=>cond x19 (some true)
     (bnd (aI x10.l s14) fun x20=>letm ((aA (s14+1))) fun x21=>bnd (aI x10.l x21) fun x22=>bnd (dc x20 x22 x10) fun x23=>letm ((!x23)) fun x24=>some x24)) fun v25=>cond v25 (some (.inl (.inl false))) (letm ((aA (s14+2))) fun x26=>self15 x26)) (some (.inr ()))) bA 0) (fun q=>q) fun v27=>self13 ()) [p,u] 0 () =
    cond ((fS p.l).all (fun q=>ow q.1&&nW q.1 q.2 p.l)&&(fS u.l).all (fun q=>ow q.1&&nW q.1 q.2 u.l)) (some (.inr ())) (some (.inl false)):=by
   rw[bT,inner p k1 o1]
   cases(fS p.l).all (fun q=>ow q.1&&nW q.1 q.2 p.l)with
   |false=>rfl
   |true=>
    rw[cond_true,jH,bT,inner u k2 o2]
    cases(fS u.l).all (fun q=>ow q.1&&nW q.1 q.2 u.l)<;>rfl
  refine(congrArg (fun z=>fg z _ _) hA).trans ?_
  cases((fS p.l).all (fun q=>ow q.1&&nW q.1 q.2 p.l)&&(fS u.l).all (fun q=>ow q.1&&nW q.1 q.2 u.l))with
  |false=>rfl
  |true=>
   rw[cond_true,jH,Bool.true_and]
   have hB:aM (R:=(Bool⊕Unit)) (S:=Int) (fun self30 s29=>letm (decide (s29<(u.l.length:Int))) fun x31=>cond x31 (bnd (aI u.l s29) fun x32=>bnd (bO p x32) fun x33=>bnd (β:=Bool) (cond x33.2 (some true)
      (bnd (aI u.l s29) fun x34=>bnd (ay 2) fun x35=>bnd (aR x34 x35) fun x36=>some x36)) fun v37=>cond v37 (some (.inl false)) (letm ((aA (s29+2))) fun x38=>self30 x38)) (some (.inr ()))) bA 0 =
     cond ((fS u.l).all (fun q=>!((kA p.l q.1).isSome||decide (q.1=I0 2)))) (some (.inr ())) (some (.inl false)):=by
    refine vb u.l (fun a b=>!((kA p.l a).isSome||decide (a=I0 2))) (some (Sum.inl false)) (some (Sum.inr ())) _ ?_ ?_ bA 0 (by rw[cG];omega) (by omega) (by omega)
    ·intro self i hi
     have hi0:i<u.l.length:=by omega
     have oa:=jE o2 (List.getElem_mem hi0)
     have hat:bO p u.l[i]=some (H' (kA p.l u.l[i])):=by
      obtain⟨K,N,bb,l⟩:=p
      exact wt (fun y hy=>jE o1 hy) (by have:l.length≤256:=ln1;omega) oa
     rw[ab,decide_eq_true (by omega),bf,aE (List.getElem?_eq_getElem hi0),ae,hat,ae,ae,kz]
     have hint:ay 2=some (I0 2):=j3 2 (by omega)
     rw[hint,ae,qg oa (Gw _),ae,vr,ae,ab,an (by omega) (by omega),show((i:Int)+2)=((i+2:Nat):Int) by omega]
     cases((kA p.l u.l[i]).isSome||decide (u.l[i]=I0 2))<;>rfl
    ·intro self
     rw[ab,decide_eq_false (by omega),aw]
   refine(congrArg (fun z=>fg z _ _) hB).trans ?_
   cases((fS u.l).all (fun q=>!((kA p.l q.1).isSome||decide (q.1=I0 2))))with
   |false=>rfl
   |true=>
    rw[cond_true,jH,Bool.true_and]
    refine ac (C2 o1 o2 5 (by omega)) (ac (C2 o1 o2 6 (by omega)) ?_)
    rw[kz,kz,ab,ab]
    show bnd (cond (!(oT p u 5).isSome) (some true) (some (!(oT p u 6).isSome))) _=_
    cases(oT p u 5).isSome<;>cases(oT p u 6).isSome<;>rfl
set_option maxRecDepth 100000
theorem C_{m:Tr}(he:m.l.length%2=0)(hn:m.l.length≤1000):gO m=some (fS m.l):=by
 have key : ∀(f i:Nat) (acc:List ax),m.l.length+1<f+i→i≤m.l.length→i%2=0→acc.length+m.l.length≤2000+i→aM (R:=(List ax)) (S:=((List ax)×Int)) (fun self2 s1=>
   letm ((aA (s1.2+1))) fun x3=>letm (decide (x3<(m.l.length:Int))) fun x4=>cond x4 (bnd (aI m.l s1.2) fun x5=>letm ((aA (s1.2+1))) fun x6=>bnd (aI m.l x6) fun x7=>bnd (app s1.1 [(x5,x7)]) fun x8=>letm ((aA (s1.2+2))) fun x9=>self2 (x8,x9)) (some s1.1)) f (acc,(i:Int))=some (acc++fS (m.l.drop i)):=by
  intro f
  induction f with
  |zero=>intro i acc h1 h2;omega
  |succ f ih=>
   intro i acc h1 h2 h3 h4
   rw[bd,ab,ab]
   show cond (decide (aA ((i:Int)+1)<(m.l.length:Int))) _ _=_
   rw[an (x:=(i:Int)+1) (by omega) (by omega)]
   by_cases hi:i+1<m.l.length
   ·have hi0:i<m.l.length:=by omega
    rw[decide_eq_true (by omega),bf]
    refine ac (aE (List.getElem?_eq_getElem hi0)) ?_
    rw[ab]
    show bnd (aI m.l ((i:Int)+1)) _=_
    rw[show((i:Int)+1)=((i+1:Nat):Int) by omega]
    refine ac (aE (List.getElem?_eq_getElem hi)) ?_
    refine ac (aF (xs:=acc) (by simp only[List.length_cons,List.length_nil];omega)) ?_
    rw[ab]
    show aM _ f (acc ++ [(m.l[i],m.l[i+1])],aA ((i:Int)+2))=_
    rw[an (x:=(i:Int)+2) (by omega) (by omega),show((i:Int)+2)=((i+2:Nat):Int) by omega]
    rw[ih (i+2) _ (by omega) (by omega) (by omega) (by rw[List.length_append];simp only[List.length_cons,List.length_nil];omega),Gr hi,List.append_assoc]
    rfl
   ·rw[decide_eq_false (by omega),aw]
    have:i=m.l.length:=by omega
    subst this
    rw[List.drop_of_length_le (Nat.le_refl _)]
    show some acc=some (acc ++ [])
    rw[List.append_nil]
 unfold gO
 have:=key bA 0 [] (by rw[cG];omega) (by omega) rfl (by rw[List.length_nil];omega)
 rw[List.nil_append]at this
 exact this
open Classical in
theorem AR{k v:Tr}{l:List Tr}(hk:eU k=true)(h:(ow k&&nW k v l)=true):fu (k,v)=some true:=by
 rw[Bool.and_eq_true]at h
 obtain⟨h1,h2⟩:=h
 unfold fu
 show(letm (k.k==3) fun x1=>cond x1 (some true) (bnd (eS k) fun x2=>letm (!x2) fun x3=>cond x3 (some false) (letm (k.k==1) fun x4=>_)))=_
 rw[ab,FJ,ae,ab]
 unfold ow at h1
 cases e3:(k.k==3)with
 |true=>rfl
 |false=>
  rw[e3,Bool.false_or]at h1
  rw[aw,show Il k=true from h1,Bool.not_true,aw,ab]
  cases e1:(k.k==1)with
  |true=>rfl
  |false=>
   rw[e1,Bool.or_false,Bool.and_eq_true,beq_iff_eq,decide_eq_true_eq]at h1
   rw[aw]
   -- the key is a small number
   have hI:k=I0 k.n:=by
    obtain⟨kk,n,b,l'⟩:=k
    have h0:kk=0:=h1.1
    subst h0
    rcases nU (cT.1 hk).1 with⟨_,rfl,rfl⟩ | ⟨h,_⟩ | ⟨h,_⟩ | ⟨h,_⟩ | ⟨h,_⟩ | ⟨h,_⟩ | ⟨h,_⟩ | ⟨h,_⟩<;>first |rfl |omega
   have inj : ∀(a b:UInt64),I0 a=I0 b→a=b:=fun a b h=>by injection h
   have hz : ∀(c:UInt64),((UInt64.toNat k.n:Int)==(UInt64.toNat c:Int))=decide (k=I0 c):=fun c=>by
    rw[Bool.eq_iff_iff,beq_iff_eq,decide_eq_true_eq]
    constructor
    ·intro h
     rw[hI]
     have:k.n=c:=UInt64.toNat_inj.1 (by omega)
     rw[this]
    ·intro h
     rw[h];rfl
   unfold nW at h2
   show(letm ((UInt64.toNat k.n:Int)==(UInt64.toNat 1:Int)) fun x5=>_)=_
   rw[ab,hz]
   by_cases c1:k=I0 1
   ·rw[if_pos c1]at h2
    rw[decide_eq_true c1,bf]
    refine ac (y:=true) ?_ rfl
    show(bnd (eS v) fun x6=>cond x6 (letm (v.k==1) fun x7=>cond x7 (some true) (letm ((UInt64.toNat v.n:Int) != (UInt64.toNat 0:Int)) fun x8=>some x8)) (some false))=_
    rw[FJ,ae]
    unfold NW at h2
    rw[Bool.and_eq_true,Bool.or_eq_true,Bool.and_eq_true,decide_eq_true_eq,decide_eq_true_eq]at h2
    obtain⟨ha,hb⟩:=h2
    have hnum:Il v=true:=by
     unfold Il
     rw[decide_eq_true hb,Bool.and_true,Bool.or_eq_true]
     rcases ha with ha |ha
     ·exact .inl ha.1
     ·exact .inr ha
    rw[hnum,bf,ab,ab]
    cases h11:(v.k==1)with
    |true=>rfl
    |false=>
     rcases ha with ha |ha
     ·rw[aw]
      refine congrArg some ?_
      rw[bne_iff_ne]
      have:((UInt64.toNat 0:Nat):Int)=0:=rfl
      omega
     ·rw[h11]at ha;cases ha
   ·rw[if_neg c1]at h2
    rw[decide_eq_false c1,aw]
    by_cases c4:k=I0 4∨k=I0 5∨k=I0 6∨k=I0 12
    ·have c2 : ¬k=I0 2:=by
      rintro c2
      rcases c4 with h |h |h |h<;>(rw[c2]at h;have:=inj _ _ h;revert this;decide)
     rw[if_neg c2,if_pos c4]at h2
     refine ac (y:=true) ?_ ?_
     ·simp only[ab]
      show(cond ((UInt64.toNat k.n:Int)==(UInt64.toNat 4:Int)) (some true) (cond ((UInt64.toNat k.n:Int)==(UInt64.toNat 5:Int)) (some true) (cond ((UInt64.toNat k.n:Int)==(UInt64.toNat 6:Int)) (some true) (some ((UInt64.toNat k.n:Int)==(UInt64.toNat 12:Int))))))=_
      rw[hz,hz,hz,hz]
      rcases c4 with h |h |h |h<;>(simp only[decide_eq_true h];try (cases decide (k=I0 4)<;>cases decide (k=I0 5)<;>cases decide (k=I0 6)<;>rfl))
     ·show(cond true (letm (v.k==2) fun x15=>some x15) (some true))=_
      rw[h2];rfl
    ·refine ac (y:=false) ?_ rfl
     simp only[ab]
     show(cond ((UInt64.toNat k.n:Int)==(UInt64.toNat 4:Int)) (some true) (cond ((UInt64.toNat k.n:Int)==(UInt64.toNat 5:Int)) (some true) (cond ((UInt64.toNat k.n:Int)==(UInt64.toNat 6:Int)) (some true) (some ((UInt64.toNat k.n:Int)==(UInt64.toNat 12:Int))))))=_
     rw[hz,hz,hz,hz,decide_eq_false (fun h=>c4 (.inl h)),decide_eq_false (fun h=>c4 (.inr (.inl h))),decide_eq_false (fun h=>c4 (.inr (.inr (.inl h)))),decide_eq_false (fun h=>c4 (.inr (.inr (.inr h))))]
     rfl
theorem Kl{p u:Tr}(k1:p.k=5)(k2:u.k=5)(hp:eU p=true)(hu:eU u=true)(n:Nat)(h:n<9223372036854775808):iA (p,u) (n:Int)=some (H' (oT p u (UInt64.ofNat n))):=by
 unfold iA oT
 rw[xg n h,ae]
 refine ac (mn k1 hp (Gw _)) ?_
 rw[kz]
 cases ha:kA p.l (I0 (UInt64.ofNat n))with
 |some v=>rfl
 |none=>
  show cond false _ _=_
  rw[aw,ae]
  refine ac (mn k2 hu (Gw _)) ?_
  cases kA u.l (I0 (UInt64.ofNat n))<;>rfl
structure HV(p u:Tr):Prop where
 k1:p.k=5
 k2:u.k=5
 o1:eU p=true
 o2:eU u=true
 pp : ∀q∈fS p.l,(ow q.1&&nW q.1 q.2 p.l)=true
 pu : ∀q∈fS u.l,(ow q.1&&nW q.1 q.2 u.l)=true
 ex : ∀q∈fS u.l,kA p.l q.1=none∧q.1≠I0 2
 iv : ¬((oT p u 5).isSome=true∧(oT p u 6).isSome=true)
open Classical in
theorem EN{p u:Tr}:QG p u=true→HV p u:=by
 intro h
 unfold QG at h
 simp only[Bool.and_eq_true,beq_iff_eq,List.all_eq_true,Bool.not_eq_true',Bool.or_eq_false_iff,decide_eq_false_iff_not,Option.isSome_eq_false_iff]at h
 obtain⟨⟨⟨a,b⟩,c,d⟩,⟨e,f⟩,g,i⟩:=h
 exact⟨a,b,c,d,fun q hq=>by rw[Bool.and_eq_true];exact e q hq,fun q hq=>by rw[Bool.and_eq_true];exact f q hq,fun q hq=>⟨Option.isNone_iff_eq_none.1 (g q hq).1,(g q hq).2⟩,fun⟨x,y⟩=>by
  rw[x,y]at i;cases i⟩
theorem A1{x:Tr}: ∀{l:List Tr},l.length%2=0→(∀q∈fS l,q.1≠x)→kA l x=none
 | [],_,_=>by unfold kA;rfl
 | [_],h,_=>by simp at h
 |k::v::l,h,hq=>by
  unfold kA
  rw[if_neg (hq (k,v) List.mem_cons_self)]
  exact A1 (by simp only[List.length_cons]at h;omega) fun q hq'=>hq q (List.mem_cons_of_mem _ hq')
theorem nG : ∀{l:List Tr} {x v:Tr},kA l x=some v→(x,v)∈fS l
 | [],x,v,h=>by unfold kA at h;cases h
 | [_],x,v,h=>by unfold kA at h;cases h
 |a::b::l,x,v,h=>by
  unfold kA at h
  by_cases e:a=x
  ·rw[if_pos e]at h
   injection h with h
   rw[e,h];exact List.mem_cons_self
  ·rw[if_neg e]at h
   exact List.mem_cons_of_mem _ (nG h)
theorem Je{m:Tr}(hm:eU m=true)(he:m.l.length%2=0){q:Tr×Tr}(hq:q∈fS m.l):eU q.1=true∧eU q.2=true:=
 ⟨jE hm ((uu m.l he q.1).2 ⟨q,hq,.inl rfl⟩),jE hm ((uu m.l he q.2).2 ⟨q,hq,.inr rfl⟩)⟩
theorem Nf{u:Tr}{p:Tr}(h:HV p u):kA u.l (I0 2)=none:=A1 (lj h.k2 h.o2) fun q hq=>(h.ex q hq).2
open Classical in
/-- The program accepts what the document accepts. -/
theorem oQ{p u:Tr}(h:HV p u):fq (p,u)=some true:=by
 have ev1:=lj h.k1 h.o1
 have ev2:=lj h.k2 h.o2
 have ln1:=pU h.o1
 have ln2:=pU h.o2
 unfold fq
 have one : ∀(m:Tr),m.k=5→eU m=true→(∀q∈fS m.l,(ow q.1&&nW q.1 q.2 m.l)=true)→
   (bnd (β:=Bool) (letm ((m.k != 5)) fun x7=>cond x7 (some true) (bnd (bG m) fun x8=>letm ((!x8)) fun x9=>some x9)) fun v10=>cond v10 (some (.inl (.inl false))) (bnd (gO m) fun x11=>
    cF (R:=((Bool⊕Unit)⊕Unit)) (S:=Unit) (α:=ax) (fun k12 s13=>some (.inr ())) (fun x14 k15 s16 self17=>bnd (fu x14) fun x18=>letm ((!x18)) fun x19=>cond x19 (some (.inl (.inl false))) (self17 ())) x11 0 ()))=some (Sum.inr ()):=by
  intro m km om hq
  have ev:=lj km om
  refine ac (y:=false) ?_ ?_
  ·rw[ab,km,show((5:Int) != 5)=false from rfl,aw,gj,ae,om];rfl
  ·rw[aw]
   refine ac (C_ ev (by have:=pU om;omega)) ?_
   rw[mA (fun _=>true) (some (Sum.inl (Sum.inl false))) (fS m.l) 0 fun x hx k self=>?_]
   ·rw[show(fS m.l).all (fun _=>true)=true by rw[List.all_eq_true];exact fun _ _=>rfl];rfl
   ·obtain⟨a,b⟩:=x
    rw[AR (Je om ev hx).1 (hq _ hx)];rfl
 refine fF (y:=()) ?_ ?_
 ·rw[bT]
  refine fF (one p h.k1 h.o1 h.pp) ?_
  rw[bT]
  exact fF (one u h.k2 h.o2 h.pu) rfl
 refine fF (y:=()) ?_ ?_
 ·refine ac (C_ (m:=p) ev1 (by omega)) ?_
  rw[mA (fun _=>true) (some (Sum.inl false)) (fS p.l) 0 fun x hx k self=>?_]
  ·rw[show(fS p.l).all (fun _=>true)=true by rw[List.all_eq_true];exact fun _ _=>rfl];rfl
  ·refine ac (mn h.k2 h.o2 (Je h.o1 ev1 hx).1) ?_
   have hn:kA u.l x.1=none:=by
    refine A1 ev2 fun q hq e=>?_
    have:=(h.ex q hq).1
    rw[e,(ES p.l (ji h.k1 h.o1).2.2 ev1 x.1 x.2).1 hx]at this
    cases this
   rw[hn];rfl
 refine ac (Kl h.k1 h.k2 h.o1 h.o2 5 (by omega)) (ac (Kl h.k1 h.k2 h.o1 h.o2 6 (by omega)) (ac (xg 2 (by omega)) (ac (mn h.k2 h.o2 (Gw _)) ?_)))
 have hu2:kA u.l (I0 (UInt64.ofNat 2))=none:=Nf h
 rw[hu2]
 refine ac (y:=false) ?_ ?_
 ·show cond false _ _=_
  rw[aw,kz,kz]
  show cond (oT p u 5).isSome (some (oT p u 6).isSome) (some false)=_
  have:=h.iv
  cases h5:(oT p u 5).isSome with
  |false=>rfl
  |true=>
   cases h6:(oT p u 6).isSome with
   |false=>rfl
   |true=>exact absurd ⟨h5,h6⟩ this
 rw[aw]
 refine ac (xg 2 (by omega)) (ac (mn h.k1 h.o1 (Gw _)) ?_)
 rw[ab,kz]
 show cond (!(kA p.l (I0 2)).isSome) _ _=_
 cases hc:kA p.l (I0 2)with
 |none=>rfl
 |some v=>
  show cond false _ _=_
  rw[aw]
  have hm:=nG hc
  have hv:=h.pp _ hm
  rw[Bool.and_eq_true]at hv
  have hv:=hv.2
  have n1:I0 2≠I0 1:=fun e=>by injection e with _ e;revert e;decide
  unfold nW at hv
  have hv:(v.k==4&&(!v.l.isEmpty&&v.l.all fun x=>(kA p.l x).isSome))=true:=by
   rw[if_neg n1,if_pos rfl]at hv;exact hv
  rw[Bool.and_eq_true,Bool.and_eq_true,List.all_eq_true]at hv
  obtain⟨g1,g2,g3⟩:=hv
  have ov:=(Je h.o1 ev1 hm).2
  show fg (cF _ _ v.l 0 ()) _ _=_
  refine fF (y:=()) ?_ ?_
  ·rw[mA (fun _=>true) (some (Sum.inl false)) v.l 0 fun x hx k self=>?_]
   ·rw[show v.l.all (fun _=>true)=true by rw[List.all_eq_true];exact fun _ _=>rfl];rfl
   ·refine ac (mn h.k1 h.o1 (jE ov hx)) ?_
    rw[ab,kz,g3 x hx];rfl
  ·refine ac (y:=true) ?_ rfl
   show(letm (v.k==4) fun x48=>cond x48 (letm (decide (0<(v.l.length:Int))) fun x49=>some x49) (some false))=_
   rw[ab,g1,bf,ab]
   refine congrArg some (decide_eq_true ?_)
   cases hl:v.l with
   |nil=>rw[hl]at g2;cases g2
   |cons a b=>rw[List.length_cons];omega
theorem Lq{p u:Tr}(h:HV p u)(ha:oT p u 1=some (I0 5)):ml (p,u)=some 5:=by
 unfold ml o_
 refine ac (y:=(I0 5,true)) ?_ ?_
 ·refine ac (oQ h) ?_
  rw[ab,Bool.not_true,aw]
  refine ac (Kl h.k1 h.k2 h.o1 h.o2 1 (by omega)) ?_
  rw[show UInt64.ofNat 1=1 from rfl,ha];rfl
 ·rfl
theorem qa{x:Tr}(h:eU x=true):dP x=some (aG x,0):=by
 obtain⟨v,c,l⟩:=cT.1 h
 unfold dP
 rw[gj,ae,h,ab,Bool.not_true,aw]
 exact ac (np v (by omega) (by omega)) rfl
noncomputable def jO (p:Tr):List UInt8:=bif p.l.isEmpty then []else aG p
theorem zL{p u:Tr}(h:HV p u):fo (p,u)=some (jO p,0):=by
 unfold fo jO
 refine ac (oQ h) ?_
 rw[ab,Bool.not_true,aw,ab]
 show cond ((p.l.length:Int)==0) _ _=_
 rw[ie]
 cases p.l.isEmpty with
 |true=>rfl
 |false=>
  rw[aw]
  exact ac (qa h.o1) rfl
set_option maxRecDepth 100000
mutual
def yE:Tr→Nat→Bool
 | .mk k _ _ l,d=>(iH k&&l.isEmpty)||(decide (1≤d)&&Ia l (d-1))
def Ia:List Tr→Nat→Bool
 | [],_=>true
 |x::l,d=>yE x d&&Ia l d
end
theorem nS(k n b l d):yE (.mk k n b l) d=((iH k&&l.isEmpty)||(decide (1≤d)&&Ia l (d-1))):=by unfold yE;rfl
theorem A8(d):Ia [] d=true:=by unfold Ia;rfl
theorem tJ(x l d):Ia (x::l) d=(yE x d&&Ia l d):=by rw[Ia]
theorem I8{l:List Tr}{d:Nat}(h : ∀y∈l,yE y d=true):Ia l d=true:=by
 induction l with
 |nil=>exact A8 d
 |cons x l ih=>rw[tJ,h x (by simp),ih fun y hy=>h y (by simp[hy])];rfl
mutual
theorem B_:(x:Tr)→(d e:Nat)→d≤e→yE x d=true→yE x e=true
 | .mk k n b l,d,e,hde,h=>by
  rw[nS]at h⊢
  rw[Bool.or_eq_true]at h⊢
  rcases h with h |h
  ·exact .inl h
  ·refine .inr ?_
   rw[Bool.and_eq_true,decide_eq_true_eq]at h⊢
   exact⟨by omega,Cs l (d-1) (e-1) (by omega) h.2⟩
theorem Cs:(l:List Tr)→(d e:Nat)→d≤e→Ia l d=true→Ia l e=true
 | [],_,e,_,_=>A8 e
 |x::l,d,e,hde,h=>by
  rw[tJ,Bool.and_eq_true]at h⊢
  exact⟨B_ x d e hde h.1,Cs l d e hde h.2⟩
end
mutual
theorem Ji:(x:Tr)→(d e:Nat)→vT x e=true→yE x d=true→vT x d=true
 | .mk k n b l,d,e,h,hl=>by
  rw[nS,Bool.or_eq_true]at hl
  rw[od,Bool.or_eq_true]at h⊢
  rcases h with h |h
  ·exact .inl h
  ·refine .inr ?_
   rw[Bool.and_eq_true,Bool.and_eq_true]at h⊢
   have h1:=h.1.1
   have hbx:=h1
   unfold Bu at hbx
   simp only[Bool.and_eq_true,Bool.or_eq_true,beq_iff_eq,decide_eq_true_eq]at hbx
   have hnl:iH k=false:=by
    unfold iH
    rcases hbx.1.1.1.1 with(rfl |rfl) |rfl<;>rfl
   rcases hl with hl |hl
   ·rw[hnl]at hl;cases hl
   ·rw[Bool.and_eq_true,decide_eq_true_eq]at hl
    refine⟨⟨?_,Oi l (d-1) (e-1) h.1.2 hl.2⟩,h.2⟩
    unfold Bu at h1⊢
    simp only[Bool.and_eq_true,decide_eq_true_eq]at h1⊢
    exact⟨⟨⟨⟨h1.1.1.1.1,hl.1⟩,h1.1.1.2⟩,h1.1.2⟩,h1.2⟩
theorem Oi:(l:List Tr)→(d e:Nat)→vL l e=true→Ia l d=true→vL l d=true
 | [],d,_,_,_=>kV d
 |x::l,d,e,h,hl=>by
  rw[fH,Bool.and_eq_true]at h⊢
  rw[tJ,Bool.and_eq_true]at hl
  exact⟨Ji x d e h.1 hl.1,Oi l d e h.2 hl.2⟩
end
structure IB(d c n:Nat)(x:Tr):Prop where
 lv:yE x d=true
 cnt:cD x≤c
 len:(aG x).length≤n
theorem IB.leaf{k:Int}{n:UInt64}{b:List UInt8}(hk:iH k=true)(hb:b.length≤32)(d:Nat):IB d 1 41 (Tr.mk k n b []):=
 ⟨by rw[nS,hk];rfl,by rw[dD];omega,by rw[cV];have:=(de k n b 0).2;omega⟩
theorem IB.up{d e c c' n n':Nat}{x:Tr}(h:IB d c n x)(h1:d≤e)(h2:c≤c')(h3:n≤n'):IB e c' n' x:=⟨B_ x d e h1 h.lv,by have:=h.cnt;omega,by have:=h.len;omega⟩
theorem NA{c n:Nat}: ∀{l:List Tr},(∀y∈l,cD y≤c∧(aG y).length≤n)→dz l≤l.length*c∧(co l).length≤l.length*n
 | [],_=>⟨by rw[cU];omega,by rw[bP];simp⟩
 |x::l,h=>by
  have h1:=h x (by simp)
  have h2:=NA (l:=l) fun y hy=>h y (by simp[hy])
  rw[bC,bh,List.length_append,List.length_cons,Nat.succ_mul,Nat.succ_mul]
  omega
theorem IB.box{k:Int}{n:UInt64}{l:List Tr}(hl:l.length≤6)(h : ∀y∈l,IB 0 1 41 y):IB 1 7 255 (Tr.mk k n [] l):=by
 have hs:=NA (c:=1) (n:=41) (l:=l) fun y hy=>⟨(h y hy).cnt,(h y hy).len⟩
 have ho:=de k n [] l.length
 refine⟨?_,?_,?_⟩
 ·rw[nS,Bool.or_eq_true]
  refine .inr ?_
  rw[Bool.and_eq_true]
  exact⟨rfl,I8 fun y hy=>(h y hy).lv⟩
 ·rw[fc];omega
 ·rw[fJ,List.length_append]
  rw[List.length_nil]at ho
  omega
def Od(k:Nat)(x:Tr):Prop:=(k=0→IB 0 1 41 x)∧IB 1 7 255 x
theorem Od.leaf{k:Nat}{kk:Int}{n:UInt64}{b:List UInt8}(hk:iH kk=true)(hb:b.length≤32):Od k (Tr.mk kk n b []):=⟨fun _=>IB.leaf hk hb 0,(IB.leaf hk hb 1).up (by omega) (by omega) (by omega)⟩
theorem F8(x n:UInt64): ∃y,@Eq (Option UInt64) (cg .u64 x (UInt64.toNat n:Int)) (some y):=⟨_,(show oA x ((UInt64.toNat n:Nat):Int)=_ by unfold oA;rw[if_neg (by omega)])⟩
theorem rZ(x n:UInt64): ∃y,@Eq (Option UInt64) (dO .u64 x (UInt64.toNat n:Int)) (some y):=qu x n
theorem AQ(x:Int)(n:UInt64): ∃y,Gk.shl x (UInt64.toNat n:Int)=some y:=⟨_,(by unfold Gk.shl;rw[if_neg (by omega)])⟩
theorem JS(x17:UInt64): ∃r,aM (R:=Int) (S:=Int) (fun self36 s35=>
  letm ((aA (s35+1))) fun x37=>
  letm ((aB x37)) fun x38=>
  bnd ((cg .u64 (x17:UInt64) (UInt64.toNat x38:Int):Option UInt64)) fun(x39:UInt64)=>
  letm (decide ((UInt64.toNat 0:Int)<(UInt64.toNat x39:Int))) fun x40=>
  cond x40 (letm ((aA (s35+1))) fun x41=>
  self36 x41)
   (some s35)) bA 0=some r:=by
 have h:=fy (R:=Int) (S:=Int) (b:=fun self36 s35=>
  letm ((aA (s35+1))) fun x37=>
  letm ((aB x37)) fun x38=>
  bnd ((cg .u64 (x17:UInt64) (UInt64.toNat x38:Int):Option UInt64)) fun(x39:UInt64)=>
  letm (decide ((UInt64.toNat 0:Int)<(UInt64.toNat x39:Int))) fun x40=>
  cond x40 (letm ((aA (s35+1))) fun x41=>
  self36 x41)
   (some s35)) (fun n s=>∃k:Nat,s=(k:Int)∧n+k=64) (fun _=>True) (fun n s self hI ih=>by
   obtain⟨k,rfl,hk⟩:=hI
   have hx:=x17.toNat_lt
   rw[ab,ab,an (by omega) (by omega),show((k:Nat):Int)+1=((k+1:Nat):Int) by omega,gU (by omega)]
   by_cases hk2:k+1≤64
   ·rw[show((((k+1:Nat):Int):Int))=((k+1:Nat):Int)from rfl]
    refine gh (fun y=>y=UInt64.ofNat (x17.toNat/2^(k+1))) ⟨_,o9 _ _ hk2,rfl⟩ fun y hy=>?_
    refine bH (dt (fun _=>bH ?_) (fun _=>⟨_,rfl,trivial⟩))
    exact ih (n-1) _ (by omega) ⟨k+1,rfl,by omega⟩
   ·have hk3:k=64:=by omega
    subst hk3
    refine gh (fun y=>y=UInt64.ofNat 0) ⟨_,?_,rfl⟩ fun y hy=>?_
    ·show oA x17 _=_
     unfold oA
     rw[if_neg (by omega),show min (((64+1:Nat):Int).toNat) 64=64 from rfl]
     exact congrArg (fun z=>some (UInt64.ofNat z)) (Nat.div_eq_of_lt (by simpa using hx))
    ·subst hy
     refine bH (dt (fun h=>?_) (fun _=>⟨_,rfl,trivial⟩))
     exact absurd h (by decide)) bA 64 0 (by rw[cG];omega) ⟨0,rfl,rfl⟩
 obtain⟨r,hr,_⟩:=h
 exact⟨r,hr⟩
theorem CQ(a0:UInt64)(a1 a2:Int): ∃y,eL a0 a1 a2=some y:=by
 unfold eL
 refine fO (fO (lM (F8 _ _) fun x5=>lM (rZ _ _) fun x6=>fO (lM (F8 _ _) fun x8=>fO (fO (lM (AQ _ _) fun x11=>fO (fO (fO (lM (rZ _ _) fun x15=>fO (fO (fO (lM (AQ _ _) fun x19=>fO (fO (fO (lM (AQ _ _) fun x23=>fO (fO ?_)))))))))))))))
 refine s_ (fun _=>fO (fO (fO (lM (rZ _ _) fun _=>fO (rG _))))) (fun _=>?_)
 refine lM ?_ fun v33=>s_ (fun _=>rG _) (fun _=>?_)
 ·exact fO (s_ (fun _=>fO (rG _)) (fun _=>rG _))
 refine fO (s_ (fun _=>?_) (fun _=>?_))
 ·refine lM ?_ fun v42=>fO (fO (fO (fO (fO (lM (rZ _ _) fun _=>fO (fO (fO (lM (rZ _ _) fun _=>fO (fO (rG _))))))))))
  exact JS _
 ·exact fO (fO (fO (lM (rZ _ _) fun _=>fO (fO (fO (lM (rZ _ _) fun _=>fO (rG _)))))))
theorem zh{d:ah}(h:bM d): ∃r,dv d=some r∧bM r.2:=by
 unfold dv
 obtain⟨v,d1,e1,v0,v1,h1⟩:=bB h (n:=6) (by omega) (by omega)
 rw[e1,ae]
 refine bH (dt (fun _=>?_) (fun _=>bH (dt (fun _=>?_) (fun _=>?_))))
 ·obtain⟨v2,d2,e2,w0,w1,h2⟩:=bB h1 (n:=9) (by omega) (by omega)
  show ∃r,bnd (aj d1 9) _=some r∧_
  rw[e2,ae]
  obtain⟨x,hx,_⟩:=oB [(23:UInt64),24,255,256,65535,65536,4294967295,4294967296,18446744073709551615] w0 w1
  exact⟨(x,d2),ac hx rfl,h2⟩
 ·obtain⟨v2,d2,e2,w0,w1,h2⟩:=bB h1 (n:=1073741824) (by omega) (by omega)
  show ∃r,bnd (aj d1 1073741824) _=some r∧_
  rw[e2,ae]
  exact⟨(aB v2,d2),rfl,h2⟩
 ·obtain⟨v2,d2,e2,w0,w1,h2⟩:=bB h1 (n:=30) (by omega) (by omega)
  show ∃r,bnd (aj d1 30) _=some r∧_
  rw[e2,ae]
  exact⟨(aB v2,d2),rfl,h2⟩
theorem J5{d:ah}(h:bM d): ∃r,cw d 30=some r∧r.1.length≤30∧bM r.2:=by
 unfold cw
 obtain⟨v,d1,e1,v0,v1,h1⟩:=bB h (n:=31) (by omega) (by omega)
 rw[ab,show aA (30+1)=31 from rfl,e1,ae]
 refine fy (S:=List UInt8×(Int×ah)) (R:=List UInt8×ah) (fun n s=>(s.2.1=(n:Int))∧s.1.length+n≤30∧bM s.2.2) (fun r=>r.1.length≤30∧bM r.2) (fun n s self hI ih=>?_) bA v.toNat _ (by rw[cG];omega) ⟨by show v=_;omega,by rw[List.length_nil];omega,h1⟩
 obtain⟨i1,i2,i3⟩:=hI
 refine bH (dt (fun hc=>?_) (fun hc=>⟨_,rfl,(show s.1.length≤30 by omega),i3⟩))
 rw[decide_eq_true_eq]at hc
 obtain⟨v2,d2,e2,w0,w1,h2⟩:=bB i3 (n:=256) (by omega) (by omega)
 rw[e2,ae,ab,aF (by simp only[List.length_cons,List.length_nil];omega),ae,ab,an (by omega) (by omega)]
 exact ih (n-1) _ (by omega) ⟨by show s.2.1-1=_;omega,by rw[List.length_append];simp only[List.length_cons,List.length_nil];omega,h2⟩
theorem Mk{d:ah}(h:bM d): ∃r,eO d 8=some r∧r.1.length≤24∧bM r.2:=by
 unfold eO
 obtain⟨v,d1,e1,v0,v1,h1⟩:=bB h (n:=9) (by omega) (by omega)
 rw[ab,show aA (8+1)=9 from rfl,e1,ae]
 refine fy (S:=List UInt8×(Int×ah)) (R:=List UInt8×ah) (fun n s=>(s.2.1=(n:Int))∧s.1.length+3*n≤24∧bM s.2.2) (fun r=>r.1.length≤24∧bM r.2) (fun n s self hI ih=>?_) bA v.toNat _ (by rw[cG];omega) ⟨by show v=_;omega,by rw[List.length_nil];omega,h1⟩
 obtain⟨i1,i2,i3⟩:=hI
 refine bH (dt (fun hc=>?_) (fun hc=>⟨_,rfl,(show s.1.length≤24 by omega),i3⟩))
 rw[decide_eq_true_eq]at hc
 obtain⟨v2,d2,e2,w0,w1,h2⟩:=bB i3 (n:=10) (by omega) (by omega)
 rw[e2,ae]
 obtain⟨x,hx,hm⟩:=oB [([97]:List UInt8),[98],[47],[34],[92],[10],[127],[37],[195,169],[226,130,172]] w0 w1
 have hxl:x.length≤3:=by
  simp only[List.mem_cons,List.not_mem_nil,or_false]at hm
  rcases hm with rfl |rfl |rfl |rfl |rfl |rfl |rfl |rfl |rfl |rfl<;>simp
 refine gh (fun y=>y=x) ⟨x,hx,rfl⟩ fun y hy=>?_
 subst hy
 rw[aF (by omega),ae,ab,an (by omega) (by omega)]
 exact ih (n-1) _ (by omega) ⟨by show s.2.1-1=_;omega,by rw[List.length_append];omega,h2⟩
theorem KK{d:ah}(h:bM d): ∃r,eo d=some r∧bM r.2:=by
 unfold eo
 obtain⟨v,d1,e1,v0,v1,h1⟩:=bB h (n:=1073741824) (by omega) (by omega)
 rw[e1,ae,ab]
 obtain⟨v2,d2,e2,w0,w1,h2⟩:=bB h1 (n:=5) (by omega) (by omega)
 show ∃r,bnd (aj d1 5) _=some r∧_
 rw[e2,ae]
 refine bH (dt (fun _=>?_) (fun _=>bH (dt (fun _=>?_) (fun _=>bH (dt (fun _=>?_) (fun _=>?_))))))
 ·obtain⟨y,hy⟩:=F8 (aB v) 14
  refine bH (gh (fun _=>True) ⟨y,hy,trivial⟩ fun x6 _=>bH (bH ?_))
  obtain⟨z,hz⟩:=CQ (aS .or .u64 (aS .and .u64 (aB v) (31743:UInt64)) (aS .and .u64 x6 (32768:UInt64))) 5 10
  exact⟨(z,d2),ac hz rfl,h2⟩
 ·refine bH ?_
  obtain⟨z,hz⟩:=CQ (aS .and .u64 (aB v) (2139095039:UInt64)) 8 23
  exact⟨(z,d2),ac hz rfl,h2⟩
 ·obtain⟨v3,d3,e3,z0,z1,h3⟩:=bB h2 (n:=7) (by omega) (by omega)
  show ∃r,bnd (aj d2 7) _=some r∧_
  rw[e3,ae]
  obtain⟨x,hx,_⟩:=oB [(9221120237041090560:UInt64),9218868437227405312,18442240474082181120,9223372036854775808,0,1,4609434218613702656] z0 z1
  exact⟨(x,d3),ac hx rfl,h3⟩
 ·obtain⟨y,hy⟩:=rZ (aB v) 34
  refine gh (fun _=>True) ⟨y,hy,trivial⟩ fun x16 _=>?_
  obtain⟨v3,d3,e3,z0,z1,h3⟩:=bB h2 (n:=1073741824) (by omega) (by omega)
  show ∃r,bnd (aj d2 1073741824) _=some r∧_
  rw[e3,ae,ab]
  obtain⟨y2,hy2⟩:=rZ (aB v3) 4
  refine gh (fun _=>True) ⟨y2,hy2,trivial⟩ fun x19 _=>bH ?_
  refine gh (fun _=>True) ⟨_,yj _,trivial⟩ fun x21 _=>?_
  exact dt (fun _=>⟨_,rfl,h3⟩) (fun _=>⟨_,rfl,h3⟩)
theorem AV{b:List UInt8}(h:b.length≤100):eF b=some (Tr.mk 2 0 b [])∧gE b=some (Tr.mk 3 0 b []):=by
 unfold eF gE
 rw[aF (by simp;omega),ae,ae]
 exact⟨rfl,rfl⟩
theorem I_(x:Tr):dY x=some (if eU x=true then x else Tr.mk 0 0 [] []):=by
 unfold dY
 rw[mo,ae,ab]
 cases eU x<;>rfl
theorem Ae{k:Int}{n:UInt64}{l:List Tr}(hl:l.length≤6)(h : ∀y∈l,IB 0 1 41 y): ∃u,dY (Tr.mk k n [] l)=some u∧IB 1 7 255 u:=by
 refine⟨_,I_ _,?_⟩
 split
 ·exact IB.box hl h
 ·exact(IB.leaf rfl (by simp) 1).up (by omega) (by omega) (by omega)
theorem zX(rec:ah→Int→Option (Tr×ah))(k:Nat)(hk:k≤1)(hr:1≤k→∀d,bM d→∃r,rec d ((k-1:Nat):Int)=some r∧bM r.2∧IB 0 1 41 r.1)(d:ah)(h:bM d): ∃r,eR rec d (k:Int)=some r∧bM r.2∧Od k r.1:=by
 unfold eR
 obtain⟨v,d1,e1,v0,v1,h1⟩:=bB h (n:=9) (by omega) (by omega)
 rw[e1,ae]
 refine gh (fun w=>k=0→w=0∨w=1∨w=2∨w=3∨w=7∨w=8) ?_ fun v7 hv7=>?_
 ·rw[ab,ab,ab,lF,lF,ae]
  refine dt (fun _=>⟨0,rfl,fun _=>.inl rfl⟩) (fun hc=>⟨v,rfl,fun hk0=>?_⟩)
  subst hk0
  have hc:(true&&(decide (4≤v)&&decide (v≤6)))=false:=hc
  rw[Bool.true_and,←Bool.not_eq_true,Bool.and_eq_true,decide_eq_true_eq,decide_eq_true_eq]at hc
  omega
 refine gh (fun b=>b=(v7==0||v7==1)) ⟨_,(show _=some (v7==0||v7==1) by rw[ab,ab,vr]),rfl⟩ fun v10 h10=>?_
 have hw:1≤k→aA ((k:Int)-1)=((k-1:Nat):Int):=fun h=>by rw[an (by omega) (by omega)];omega
 refine dt (fun hl1=>?_) (fun _=>bH (dt (fun _=>?_) (fun _=>bH (dt (fun _=>?_) (fun _=>bH (dt (fun h6=>?_) (fun _=>bH (dt (fun hl7=>?_) (fun _=>bH (dt (fun hl8=>?_) (fun _=>?_)))))))))))
 ·obtain⟨r,hr1,h2⟩:=zh h1
  refine⟨_,ac hr1 rfl,h2,Od.leaf ?_ (by simp)⟩
  rw[h10]at hl1
  unfold iH;rw[hl1];rfl
 ·obtain⟨r,hr1,hl,h2⟩:=J5 h1
  exact⟨_,ac hr1 (ac (AV (by omega)).1 rfl),h2,Od.leaf rfl (by omega)⟩
 ·obtain⟨r,hr1,hl,h2⟩:=Mk h1
  exact⟨_,ac hr1 (ac (AV (by omega)).2 rfl),h2,Od.leaf rfl (by omega)⟩
 ·have hk1:1≤k:=by
   rw[beq_iff_eq]at h6
   rcases Nat.eq_zero_or_pos k with hk0 |hk0
   ·have:=hv7 hk0;omega
   ·exact hk0
  obtain⟨r,hr1,h2⟩:=zh h1
  refine gh (fun y=>bM y.2) ⟨r,hr1,h2⟩ fun y hy=>bH ?_
  rw[hw hk1]
  refine gh (fun y=>bM y.2∧IB 0 1 41 y.1) (hr hk1 _ hy) fun z hz=>?_
  obtain⟨u,hu,hb⟩:=Ae (k:=v7) (n:=y.1) (l:=[z.1]) (by simp) (fun y hy=>by rw[List.mem_singleton.1 hy];exact hz.2)
  exact⟨_,ac hu rfl,hz.1,(fun h=>absurd h (by omega)),hb⟩
 ·obtain⟨v2,d2,e2,w0,w1,h2⟩:=bB h1 (n:=8) (by omega) (by omega)
  show ∃r,bnd (aj d1 8) _=some r∧_
  rw[e2,ae]
  obtain⟨x,hx,_⟩:=oB [(20:UInt64),21,22,23,0,19,32,255] w0 w1
  exact⟨_,ac hx rfl,h2,Od.leaf (by unfold iH;rw[hl7];simp) (by simp)⟩
 ·obtain⟨r,hr1,h2⟩:=KK h1
  exact⟨_,ac hr1 rfl,h2,Od.leaf (by unfold iH;rw[hl8];simp) (by simp)⟩
 rename_i g0 g2 g3 g6 g7 g8
 have hk1:1≤k:=by
  rcases Nat.eq_zero_or_pos k with hk0 |hk0
  ·have:=hv7 (by omega)
   rw[g0]at h10
   rw[←Bool.not_eq_true,beq_iff_eq]at g2 g3 g7 g8
   have h10:=h10.symm
   rw[←Bool.not_eq_true,Bool.or_eq_true,beq_iff_eq,beq_iff_eq]at h10
   omega
  ·exact hk0
 refine gh (fun r=>r.1.length≤6∧bM r.2∧∀y∈r.1,IB 0 1 41 y) ?_ fun v41 hv41=>?_
 ·obtain⟨v2,d2,e2,w0,w1,h2⟩:=bB h1 (n:=4) (by omega) (by omega)
  show ∃r,bnd (aj d1 4) _=some r∧_
  rw[e2,ae]
  refine fy (S:=List Tr×(Int×ah)) (R:=List Tr×ah) (fun n s=>s.2.1=(n:Int)∧s.1.length+2*n≤6∧bM s.2.2∧∀y∈s.1,IB 0 1 41 y) (fun r=>r.1.length≤6∧bM r.2∧∀y∈r.1,IB 0 1 41 y) (fun n s self hI ih=>?_) bA v2.toNat _ (by rw[cG];omega) ⟨by show v2=_;omega,by rw[List.length_nil];omega,h2,fun y hy=>by cases hy⟩
  obtain⟨i1,i2,i3,i4⟩:=hI
  refine bH (dt (fun hc=>?_) (fun hc=>⟨_,rfl,(show s.1.length≤6 by omega),i3,i4⟩))
  rw[decide_eq_true_eq]at hc
  refine gh (fun r=>r.1.length≤s.1.length+2∧bM r.2∧∀y∈r.1,IB 0 1 41 y) ?_ fun v39 hv39=>?_
  ·rw[ab,hw hk1]
   refine gh (fun y=>bM y.2∧IB 0 1 41 y.1) (hr hk1 _ i3) fun z hz=>?_
   rw[aF (by simp only[List.length_cons,List.length_nil];omega),ae]
   refine bH (dt (fun _=>?_) (fun _=>⟨_,rfl,(by rw[List.length_append];simp only[List.length_cons,List.length_nil];omega),hz.1,fun y hy=>by
     rcases List.mem_append.1 hy with hy |hy
     ·exact i4 y hy
     ·rw[List.mem_singleton.1 hy];exact hz.2⟩))
   rw[ab]
   refine gh (fun y=>bM y.2∧IB 0 1 41 y.1) (hr hk1 _ hz.1) fun z2 hz2=>?_
   rw[aF (by rw[List.length_append];simp only[List.length_cons,List.length_nil];omega),ae]
   exact⟨_,rfl,(by rw[List.length_append,List.length_append];simp only[List.length_cons,List.length_nil];omega),hz2.1,fun y hy=>by
     rcases List.mem_append.1 hy with hy |hy
     ·rcases List.mem_append.1 hy with hy |hy
      ·exact i4 y hy
      ·rw[List.mem_singleton.1 hy];exact hz.2
     ·rw[List.mem_singleton.1 hy];exact hz2.2⟩
  ·rw[ab,an (by omega) (by omega)]
   exact ih (n-1) _ (by omega) ⟨by show s.2.1-1=_;omega,by show v39.1.length+_≤_;omega,hv39.2.1,hv39.2.2⟩
 ·refine bH (dt (fun _=>?_) (fun _=>?_))
  ·obtain⟨u,hu,hb⟩:=Ae (k:=v7) (n:=0) (l:=v41.1) hv41.1 hv41.2.2
   exact⟨_,ac hu rfl,hv41.2.1,(fun h=>absurd h (by omega)),hb⟩
  ·obtain⟨u,hu,hb⟩:=xv v41.1 (by omega)
   refine gh (fun y=>y=u) ⟨u,hu,rfl⟩ fun y hy=>bH (dt (fun _=>⟨_,rfl,hv41.2.1,(fun h=>absurd h (by omega)),IB.box (l:=[]) (by simp) (fun y hy=>by cases hy)⟩) (fun h0=>⟨_,rfl,hv41.2.1,(fun h=>absurd h (by omega)),?_⟩))
   subst hy
   rw[bne_eq_false_iff_eq]at h0
   obtain⟨l,e1,_,e3,_⟩:=hb h0
   show IB 1 7 255 y.1
   rw[e1]
   have hlen:l.length=v41.1.length:=by
    have a1:=e3.p.length_eq
    have a2 : ∀l:List Tr,l.length%2=0→l.length=2*(fS l).length:=by
     intro l
     induction l using fS.induct with
     |case1 k v r ih=>intro h;have:=ih (by simp only[List.length_cons]at h;omega);show(k::v::r).length=2*((k,v)::fS r).length;simp only[List.length_cons];omega
     |case2 l hne=>
      intro h
      match l,h,hne with
      | [],_,_=>rfl
      | [_],h,_=>simp at h
      |a::b::r,_,hne=>exact absurd rfl (hne a b r)
    rw[a2 l e3.e,a2 v41.1 e3.e2,a1]
   exact IB.box (by omega) fun y hy=>hv41.2.2 y (e3.mem.1 hy)
theorem Rq{d:ah}(h:bM d)(j:Nat): ∃r,cZ (j+1) d 0=some r∧bM r.2∧IB 0 1 41 r.1:=by
 obtain⟨r,h1,h2,h3⟩:=zX (cZ j) 0 (by omega) (fun h=>absurd h (by omega)) d h
 exact⟨r,h1,h2,h3.1 rfl⟩
theorem RX{d:ah}(h:bM d): ∃r,cI d 1=some r∧bM r.2∧IB 1 7 255 r.1:=by
 obtain⟨r,h1,h2,h3⟩:=zX (cZ 39) 1 (by omega) (fun _ d hd=>Rq hd 38) d h
 exact⟨r,h1,h2,h3.2⟩
end Go.Proofs.YtiilbonamnegaaaGreatDoor
