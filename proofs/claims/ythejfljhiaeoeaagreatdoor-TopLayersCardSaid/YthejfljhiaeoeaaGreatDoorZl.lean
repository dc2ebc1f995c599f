import Derived.Test.YthejfljhiaeoeaaGreatDoorZk
namespace Go.Proofs.YthejfljhiaeoeaaGreatDoor
open Go.Gk Go.RowKit
set_option maxRecDepth 100000
mutual
theorem vz:(x:Tr)→(d e:Nat)→d≤e→vT x d=true→vT x e=true
 | .mk k n b l,d,e,hde,h=>by
  rw[qn]at h⊢
  rw[Bool.or_eq_true]at h⊢
  rcases h with h |h
  ·exact .inl h
  ·refine .inr ?_
   rw[Bool.and_eq_true,Bool.and_eq_true]at h⊢
   refine⟨⟨?_,EK l (d-1) (e-1) (by omega) h.1.2⟩,h.2⟩
   have h1:=h.1.1
   unfold A7 at h1⊢
   simp only[Bool.and_eq_true,decide_eq_true_eq]at h1⊢
   exact⟨⟨⟨⟨h1.1.1.1.1,by omega⟩,h1.1.1.2⟩,h1.1.2⟩,h1.2⟩
theorem EK:(l:List Tr)→(d e:Nat)→d≤e→vL l d=true→vL l e=true
 | [],_,e,_,_=>kg e
 |x::l,d,e,hde,h=>by
  rw[fk,Bool.and_eq_true]at h⊢
  exact⟨vz x d e hde h.1,EK l d e hde h.2⟩
end
theorem Dx{l:List Tr}{d:Nat}(h:vL l d=true){y:Tr}(hy:y∈l):vT y d=true:=by
 obtain⟨i,hi,rfl⟩:=List.getElem_of_mem hy
 exact rm h i hi
theorem Na{l:List Tr}{d:Nat}(h : ∀y∈l,vT y d=true):vL l d=true:=by
 induction l with
 |nil=>exact kg d
 |cons x l ih=>rw[fk,h x (by simp),ih fun y hy=>h y (by simp[hy])];rfl
theorem vW{l:List Tr}{y:Tr}(hy:y∈l):bU y≤cV l:=by
 obtain⟨i,hi,rfl⟩:=List.getElem_of_mem hy
 exact qf i hi
theorem Ik{l:List Tr}{y:Tr}(hy:y∈l):(aK y).length≤(cU l).length:=by
 induction l with
 |nil=>cases hy
 |cons x l ih=>
  rw[aX,List.length_append]
  rcases List.mem_cons.1 hy with rfl |h
  ·omega
  ·have:=ih h;omega
theorem cR{x:Tr}:eV x=true↔vT x 8=true∧bU x≤256∧(aK x).length≤4096:=by
 unfold eV
 simp only[Bool.and_eq_true,decide_eq_true_eq,and_assoc]
theorem iV{x y:Tr}(h:eV x=true)(hy:y∈x.l):eV y=true:=by
 rw[cR]at h⊢
 obtain⟨hv,hc,hl⟩:=h
 have e1:=pF x
 have e2:=ue x
 have k1:=vW hy
 have k2:=Ik hy
 rw[e2,List.length_append]at hl
 refine⟨?_,by omega,by omega⟩
 have:x.l = []∨1≤8∧vL x.l (8-1)=true:=by obtain⟨k,n,b,l⟩:=x;exact nG hv
 rcases this with h |h
 ·rw[h]at hy;cases hy
 ·exact vz y 7 8 (by omega) (Dx h.2 hy)
theorem wK(rec:Tr→Option Tr)(d:Nat)(hr:1≤d→∀y,vT y (d-1)=true→bU y≤300→rec y=some y)(x:Tr)(h:vT x d=true)(hc:bU x≤300):gb rec x=some x:=by
 have key : ∀(l:List Tr),(l≠[]→1≤d)→(l = []∨vL l (d-1)=true)→cV l≤300→∀(i:Nat) (s:List Tr),s.length+l.length≤300→a6 (R:=Go.Gk.Tr) (S:=(List Go.Gk.Tr)) (α:=Go.Gk.Tr) (fun k2 s3=>some (Tr.mk x.k x.n ([]++x.b) s3))
    (fun x4 k5 s6 self7=>bnd (rec x4) fun x8=>bnd (cO s6 [x8]) fun x9=>self7 x9) l i s=some (Tr.mk x.k x.n x.b (s++l)):=by
  intro l
  induction l with
  |nil=>intro _ _ _ i s _;rw[eU,List.nil_append,List.append_nil]
  |cons y l ih=>
   intro hd1 hv hcn i s hs
   have hd1:=hd1 (by simp)
   have hv:vL (y::l) (d-1)=true:=by rcases hv with h |h;cases h;exact h
   rw[fk,Bool.and_eq_true]at hv
   rw[List.length_cons]at hs
   rw[bf]at hcn
   rw[bj,hr hd1 y hv.1 (by omega),ae,aD (by simp only[List.length_cons,List.length_nil];omega),ae]
   rw[ih (fun _=>hd1) (.inr hv.2) (by omega) _ _ (by rw[List.length_append];simp only[List.length_cons,List.length_nil];omega),List.append_assoc]
   rfl
 have hb:x.b.length≤4096:=by obtain⟨k,n,b,l⟩:=x;exact mA h
 have hk:x.l = []∨1≤d∧vL x.l (d-1)=true:=by obtain⟨k,n,b,l⟩:=x;exact nG h
 have hx:=pF x
 have hl:=cW x.l
 unfold gb
 rw[aD (by rw[List.length_nil];omega),ae]
 refine(key x.l (fun hne=>?_) ?_ (by omega) 0 [] (by rw[List.length_nil];omega)).trans (by obtain⟨k,n,b,l⟩:=x;rfl)
 ·rcases hk with h |h
  ·exact absurd h hne
  ·exact h.1
 ·rcases hk with h |h
  ·exact .inl h
  ·exact .inr h.2
theorem BA(j:Nat): ∀(d:Nat) (x:Tr),vT x d=true→bU x≤300→fX (j+d+1) x=some x
 |0,x,h,hc=>wK _ 0 (fun h=>absurd h (by omega)) x h hc
 |d+1,x,h,hc=>wK _ (d+1) (fun _ y hy hcy=>BA j d y hy hcy) x h hc
theorem Ia{x:Tr}(h:eV x=true):cw x=some x:=by
 obtain⟨h1,h2,_⟩:=cR.1 h
 exact BA 31 8 x h1 (by omega)
theorem E4{α:Type}(z x:α)(b:List α): ∀a:List α,(a++z::b).set a.length x=a++x::b
 | []=>rfl
 |y::a=>by rw[List.cons_append,List.length_cons,List.set_cons_succ,E4 z x b a];rfl
theorem wg(rec:Tr→Option Tr)(d:Nat)(hr:1≤d→∀y,vT y (d-1)=true→bU y≤300→rec y=some y)(x:Tr)(h:vT x d=true)(hc:bU x≤300):kB rec x=some x:=by
 have hb:x.b.length≤4096:=by obtain⟨k,n,b,l⟩:=x;exact mA h
 have hk:x.l = []∨1≤d∧vL x.l (d-1)=true:=by obtain⟨k,n,b,l⟩:=x;exact nG h
 have hx:=pF x
 have hl:=cW x.l
 have key : ∀(l a:List Tr),(l≠[]→1≤d)→(l = []∨vL l (d-1)=true)→cV l≤300→a.length+l.length≤300→a6 (R:=Go.Gk.Tr) (S:=(List Go.Gk.Tr)) (α:=Go.Gk.Tr) (fun k3 s4=>
   bnd (β:=Go.Gk.Tr) (letm (((s4.length:Int)==0)) fun x5=>cond x5 (some (Tr.mk x.k x.n x.b [])) (some (Tr.mk x.k x.n x.b s4))) fun v6=>some v6)
   (fun x7 k8 s9 self10=>bnd (rec x7) fun x11=>bnd (aV s9 (k8:Int)) fun x12=>bnd (aV s9 ((((k8:Int):Int)).toNat:Int)) fun x13=>letm ((s9.set (((k8:Int):Int)).toNat x11)) fun x14=>self10 x14) l a.length (a++List.replicate l.length (Tr.mk 0 0 [] []))=some (Tr.mk x.k x.n x.b (a++l)):=by
  intro l
  induction l with
  |nil=>
   intro a _ _ _ _
   rw[eU,List.length_nil,List.replicate_zero,List.append_nil,aa]
   cases a with
   |nil=>rfl
   |cons y a=>
    rw[show(((y::a).length:Int)==0)=false by rw[←Bool.not_eq_true,beq_iff_eq,List.length_cons];omega]
    rfl
  |cons y l ih=>
   intro a hd1 hv hcn hs
   have hd1:=hd1 (by simp)
   have hv:vL (y::l) (d-1)=true:=by rcases hv with h |h;cases h;exact h
   rw[fk,Bool.and_eq_true]at hv
   rw[List.length_cons]at hs
   rw[bf]at hcn
   have hi:(a++List.replicate (y::l).length (Tr.mk 0 0 [] []))[a.length]?=some (Tr.mk 0 0 [] []):=by rw[List.length_cons,List.replicate_succ];simp
   have hset:(a++List.replicate (y::l).length (Tr.mk 0 0 [] [])).set a.length y=(a ++ [y])++List.replicate l.length (Tr.mk 0 0 [] []):=by
    rw[List.length_cons,List.replicate_succ,E4,List.append_assoc];rfl
   rw[bj,hr hd1 y hv.1 (by omega),ae,aM hi,ae,Int.toNat_natCast,aM hi,ae,aa,hset]
   have:=ih (a ++ [y]) (fun _=>hd1) (.inr hv.2) (by omega) (by simp;omega)
   rw[List.length_append,List.length_singleton]at this
   rw[this,List.append_assoc]
   rfl
 unfold kB
 refine ac (eY (l:=x.b) (by omega)) ?_
 have hm:Nq (x.l.length:Int) (Tr.mk 0 0 [] [])=some (List.replicate x.l.length (Tr.mk 0 0 [] [])):=by
  unfold Nq
  rw[show(decide (0≤(x.l.length:Int))&&decide ((x.l.length:Int)≤65536))=true by simp;omega];rfl
 refine ac hm ?_
 refine(key x.l [] (fun hne=>?_) ?_ (by omega) (by rw[List.length_nil];omega)).trans (by obtain⟨k,n,b,l⟩:=x;rfl)
 ·rcases hk with h |h
  ·exact absurd h hne
  ·exact h.1
 ·rcases hk with h |h
  ·exact .inl h
  ·exact .inr h.2
theorem Bg(j:Nat): ∀(d:Nat) (x:Tr),vT x d=true→bU x≤300→kz (j+d+1) x=some x
 |0,x,h,hc=>wg _ 0 (fun h=>absurd h (by omega)) x h hc
 |d+1,x,h,hc=>wg _ (d+1) (fun _ y hy hcy=>Bg j d y hy hcy) x h hc
theorem Jw{x:Tr}(h:eV x=true):cQ x=some x:=by
 obtain⟨h1,h2,_⟩:=cR.1 h
 exact Bg 31 8 x h1 (by omega)
theorem pG : ∀a b:List UInt8,Lib.compareBytes a b=0↔a=b
 | [],[]=>⟨fun _=>rfl,fun _=>rfl⟩
 | [],_::_=>⟨fun h=>absurd (show(-1:Int)=0 from h) (by omega),fun h=>by cases h⟩
 |_::_,[]=>⟨fun h=>absurd (show(1:Int)=0 from h) (by omega),fun h=>by cases h⟩
 |a::x,b::y=>by
  rw[sY]
  by_cases h1:a.toNat<b.toNat
  ·rw[if_pos h1]
   exact⟨fun h=>absurd h (by omega),fun h=>by injection h with h _;rw[h]at h1;omega⟩
  ·rw[if_neg h1]
   by_cases h2:b.toNat<a.toNat
   ·rw[if_pos h2]
    exact⟨fun h=>absurd h (by omega),fun h=>by injection h with h _;rw[h]at h2;omega⟩
   ·rw[if_neg h2,pG x y]
    have e:a=b:=UInt8.toNat_inj.1 (by omega)
    rw[e]
    exact⟨fun h=>by rw[h],fun h=>by injection h⟩
def yN(r:Option Bool)(x y:Tr):Prop:=∃b,r=some b∧(b=true↔x=y)
theorem yZ(rec:Tr→Tr→Option Bool)(d:Nat)(hr:1≤d→∀x y e,vT x (d-1)=true→vT y e=true→bU x≤300→bU y≤300→yN (rec x y) x y)(x y:Tr)(e:Nat)(h:vT x d=true)(h2:vT y e=true)(hc:bU x≤300)(hc2:bU y≤300):yN (fY rec x y) x y:=by
 obtain⟨k,n,b,l⟩:=x
 obtain⟨k',n',b',l'⟩:=y
 have hb:=mA h
 have hb2:=mA h2
 have hk:=nG h
 have hk2:=nG h2
 rw[fP]at hc hc2
 have hcl:=cW l
 have hcl2:=cW l'
 have key : ∀(m m':List Tr) (i:Nat),(m≠[]→1≤d)→(∀z∈m,vT z (d-1)=true∧bU z≤300)→m.length=m'.length→(∀z∈m',vT z e=true∧bU z≤300)→l'.drop i=m'→yN (a6 (R:=Bool) (S:=Unit) (α:=Go.Gk.Tr) (fun k8 s9=>some true)
   (fun x10 k11 s12 self13=>bnd (aV l' (k11:Int)) fun x14=>bnd (rec x10 x14) fun x15=>letm ((!x15)) fun x16=>cond x16 (some false) (self13 ())) m i ()) (Tr.mk 0 0 [] m) (Tr.mk 0 0 [] m'):=by
  intro m
  induction m with
  |nil=>
   intro m' i _ _ hlen _ _
   have:m' = []:=List.length_eq_zero_iff.1 (by simpa using hlen.symm)
   subst this
   exact⟨true,rfl,⟨fun _=>rfl,fun _=>rfl⟩⟩
  |cons z m ih=>
   intro m' i hd1 hm hlen hm' hdrop
   cases m' with
   |nil=>simp at hlen
   |cons z' m'=>
    have hd1:=hd1 (by simp)
    have hi:i<l'.length:=by
     have:=congrArg List.length hdrop
     rw[List.length_drop,List.length_cons]at this;omega
    have hz:l'[i]=z'∧l'.drop (i+1)=m':=by
     rw[List.drop_eq_getElem_cons hi]at hdrop
     injection hdrop with a b
     exact⟨a,b⟩
    obtain⟨b1,e1,e2⟩:=hr hd1 z z' e (hm z (by simp)).1 (hm' z' (by simp)).1 (hm z (by simp)).2 (hm' z' (by simp)).2
    rw[bj,aM (List.getElem?_eq_getElem hi),ae,hz.1,e1,ae,aa]
    cases b1 with
    |false=>
     refine⟨false,rfl,⟨fun h=>(by cases h),fun h=>?_⟩⟩
     injection h with _ _ _ h
     injection h with h _
     exact e2.2 h
    |true=>
     obtain⟨b2,e3,e4⟩:=ih m' (i+1) (fun _=>hd1) (fun z hz=>hm z (by simp[hz])) (by simpa using hlen) (fun z hz=>hm' z (by simp[hz])) hz.2
     refine⟨b2,e3,?_⟩
     rw[e4,e2.1 rfl]
     exact⟨fun h=>by injection h with _ _ _ h;rw[h],fun h=>by injection h with _ _ _ h;injection h with _ h;rw[h]⟩
 unfold fY
 have hcmp:aT b b'=some (Lib.compareBytes b b'):=rT _ _ (by omega) (by omega)
 show yN (bnd (β:=Bool) (letm (k != k') fun x2=>cond x2 (some true) (letm ((n.toNat:Int) != (n'.toNat:Int)) fun x3=>cond x3 (some true) (bnd (aT b b') fun x4=>letm (x4 != 0) fun x5=>cond x5 (some true) (letm ((l.length:Int) != (l'.length:Int)) fun x6=>some x6)))) _) _ _
 have no : ∀{R:Option Bool},R=some false→¬(Tr.mk k n b l=Tr.mk k' n' b' l')→yN R (Tr.mk k n b l) (Tr.mk k' n' b' l'):=fun h1 h2=>⟨false,h1,⟨fun h=>(by cases h),fun h=>absurd h h2⟩⟩
 rw[aa]
 by_cases g1:k=k'
 ·rw[show(k != k')=false by rw[g1];simp,ay,aa]
  by_cases g2:n=n'
  ·rw[show((n.toNat:Int) != (n'.toNat:Int))=false by rw[g2];simp,ay,hcmp,ae,aa]
   by_cases g3:b=b'
   ·rw[(pG b b').2 g3,show((0:Int) != 0)=false from rfl,ay,aa]
    by_cases g4:l.length=l'.length
    ·rw[show((l.length:Int) != (l'.length:Int))=false by rw[g4];simp,ae,ay]
     obtain⟨b2,e3,e4⟩:=key l l' 0 (fun hne=>by rcases hk with h |h;exact absurd h hne;exact h.1)
      (fun z hz=>by rcases hk with h |h;(rw[h]at hz;cases hz);exact⟨Dx h.2 hz,by have:=vW hz;omega⟩) g4
      (fun z hz=>by rcases hk2 with h |h;(rw[h]at hz;cases hz);exact⟨vz z (e-1) e (by omega) (Dx h.2 hz),by have:=vW hz;omega⟩) rfl
     refine⟨b2,e3,?_⟩
     rw[e4,g1,g2,g3]
     exact⟨fun h=>by injection h with _ _ _ h;rw[h],fun h=>by injection h with _ _ _ h;rw[h]⟩
    ·rw[show((l.length:Int) != (l'.length:Int))=true by rw[bne_iff_ne];omega,ae,a7]
     exact no rfl (fun h=>by injection h with _ _ _ h;exact g4 (by rw[h]))
   ·have:Lib.compareBytes b b'≠0:=fun h=>g3 ((pG b b').1 h)
    rw[show(Lib.compareBytes b b' != 0)=true by rw[bne_iff_ne];exact this,a7,ae,a7]
    exact no rfl (fun h=>by injection h with _ _ h _;exact g3 h)
  ·have:n.toNat≠n'.toNat:=fun h=>g2 (UInt64.toNat_inj.1 h)
   rw[show((n.toNat:Int) != (n'.toNat:Int))=true by rw[bne_iff_ne];omega,a7,ae,a7]
   exact no rfl (fun h=>by injection h with _ h _ _;exact g2 h)
 ·rw[show(k != k')=true by rw[bne_iff_ne];exact g1,a7,ae,a7]
  exact no rfl (fun h=>by injection h with h _ _ _;exact g1 h)
theorem A'(j:Nat): ∀(d:Nat) (x y:Tr) (e:Nat),vT x d=true→vT y e=true→bU x≤300→bU y≤300→yN (f' (j+d+1) x y) x y
 |0,x,y,e,h,h2,hc,hc2=>yZ _ 0 (fun h=>absurd h (by omega)) x y e h h2 hc hc2
 |d+1,x,y,e,h,h2,hc,hc2=>yZ _ (d+1) (fun _ x y e h h2 hc hc2=>A' j d x y e h h2 hc hc2) x y e h h2 hc hc2
theorem KS{x y:Tr}(hx:eV x=true)(hy:eV y=true): ∃b,aB x y=some b∧(b=true↔x=y):=by
 obtain⟨h1,h2,_⟩:=cR.1 hx
 obtain⟨h3,h4,_⟩:=cR.1 hy
 exact A' 31 8 x y 8 h1 h3 (by omega) (by omega)
open Classical in
theorem mc{x y:Tr}(hx:eV x=true)(hy:eV y=true):aB x y=some (decide (x=y)):=by
 obtain⟨b,h1,h2⟩:=KS hx hy
 rw[h1]
 refine congrArg some ?_
 rw[Bool.eq_iff_iff,h2,decide_eq_true_eq]
open Classical in
noncomputable def jY:List Tr→Tr→Option Tr
 |k::v::r,x=>if k=x then some v else jY r x
 |_,_=>none
def fU:List Tr→List (Tr×Tr)
 |k::v::r=>(k,v)::fU r
 |_=>[]
noncomputable def GZ (o:Option Tr):Tr×Bool:=match o with
 |some v=>(v,true)
 |none=>(Tr.mk 0 0 [] [],false)
theorem E_{α:Type}{l:List α}{i:Nat}(h:i+1<l.length):l.drop i=l[i]::l[i+1]::l.drop (i+2):=by
 rw[List.drop_eq_getElem_cons (show i<l.length by omega),List.drop_eq_getElem_cons h]
open Classical in
theorem v_{K:Int}{N:UInt64}{bb:List UInt8}{l:List Tr}{x:Tr}(hl : ∀y∈l,eV y=true)(hn:l.length≤1000)(hx:eV x=true):bm (.mk K N bb l) x=some (GZ (jY l x)):=by
 have key : ∀(f i:Nat) (z:Tr),l.length+1<f+i→i≤l.length+1→bo (R:=(Go.Gk.Tr×Bool)) (S:=(Int×Go.Gk.Tr)) (fun self3 s2=>
   letm ((aF (s2.1+1))) fun x4=>letm (decide (x4<(l.length:Int))) fun x5=>cond x5 (bnd (aV l s2.1) fun x6=>bnd (aB x6 x) fun x7=>cond x7 (letm ((aF (s2.1+1))) fun x8=>bnd (aV l x8) fun x9=>some (x9,true))
    (letm ((aF (s2.1+2))) fun x10=>self3 (x10,s2.2))) (some ((Tr.mk 0 0 [] []),false))) f ((i:Int),z)=some (GZ (jY (l.drop i) x)):=by
  intro f
  induction f with
  |zero=>intro i z h1 h2;omega
  |succ f ih=>
   intro i z h1 h2
   rw[bS,aa,aa]
   show cond (decide (aF ((i:Int)+1)<(l.length:Int))) _ _=_
   rw[ap (x:=(i:Int)+1) (by omega) (by omega)]
   by_cases hi:i+1<l.length
   ·rw[decide_eq_true (by omega),a7]
    refine ac (aM (List.getElem?_eq_getElem (show i<l.length by omega))) ?_
    rw[mc (hl _ (List.getElem_mem _)) hx,ae,E_ hi]
    unfold jY
    by_cases e:l[i]=x
    ·rw[if_pos e,decide_eq_true e,a7,aa]
     show bnd (aV l ((i:Int)+1)) _=_
     rw[show((i:Int)+1)=((i+1:Nat):Int) by omega,aM (List.getElem?_eq_getElem hi),ae]
     rfl
    ·rw[if_neg e,decide_eq_false e,ay,aa]
     show bo _ f (aF ((i:Int)+2),z)=_
     rw[ap (x:=(i:Int)+2) (by omega) (by omega),show((i:Int)+2)=((i+2:Nat):Int) by omega]
     exact ih (i+2) z (by omega) (by omega)
   ·rw[decide_eq_false (by omega),ay]
    have hd:(l.drop i).length≤1:=by rw[List.length_drop];omega
    match hld:l.drop i,hd with
    | [],_=>rfl
    | [_],_=>rfl
    |_::_::_,h=>simp at h
 unfold bm
 exact key cS 0 _ (by rw[dU];omega) (by omega)
theorem E5{a b:List UInt8}:(a==b)=decide (a=b):=by rw[Bool.eq_iff_iff,beq_iff_eq,decide_eq_true_eq]
open Classical in
theorem lR{m x:Tr}(hk:m.k=5)(hm:eV m=true)(hx:eV x=true):fO m x=some (GZ (jY m.l x)):=by
 obtain⟨v1,c1,l1⟩:=cR.1 hx
 have hcl:=cW m.l
 have hcm:=pF m
 obtain⟨_,cm,_⟩:=cR.1 hm
 have hev:m.l.length%2=0:=by
  obtain⟨k,n,b,l⟩:=m
  obtain⟨v2,_,_⟩:=cR.1 hm
  have hk:k=5:=hk
  subst hk
  rcases nd v2 with⟨hk,_⟩ | ⟨hk,_⟩ | ⟨hk,_⟩ | ⟨hk,_⟩ | ⟨hk,_⟩ | ⟨hk,_⟩ | ⟨_,_,_,_,h,_⟩ | ⟨hk,_⟩<;>first |exact h |omega
 have key : ∀(f i:Nat) (z:Tr),m.l.length<f+i→i≤m.l.length→i%2=0→bo (R:=(Go.Gk.Tr×Bool)) (S:=(Int×Go.Gk.Tr)) (fun self10 s9=>
   letm (decide (s9.1<(m.l.length:Int))) fun x11=>cond x11 (bnd (aV m.l s9.1) fun x12=>bnd (dA [] x12) fun x13=>bnd (bD x13 (aK x)) fun x14=>cond x14 (letm ((aF (s9.1+1))) fun x15=>bnd (aV m.l x15) fun x16=>bnd (cQ x16) fun x17=>some (x17,true))
    (letm ((aF (s9.1+2))) fun x18=>self10 (x18,s9.2))) (some ((Tr.mk 0 0 [] []),false))) f ((i:Int),z)=some (GZ (jY (m.l.drop i) x)):=by
  intro f
  induction f with
  |zero=>intro i z h1 h2;omega
  |succ f ih=>
   intro i z h1 h2 hi2
   rw[bS,aa]
   show cond (decide ((i:Int)<(m.l.length:Int))) _ _=_
   by_cases hi:i<m.l.length
   ·have hi1:i+1<m.l.length:=by omega
    have hok:=iV hm (List.getElem_mem hi)
    obtain⟨v3,c3,l3⟩:=cR.1 hok
    rw[decide_eq_true (by omega),a7]
    refine ac (aM (List.getElem?_eq_getElem hi)) ?_
    refine ac (qq v3 (by omega) (by omega)) ?_
    unfold bD
    rw[aa,ae,E5,E_ hi1]
    unfold jY
    by_cases e:m.l[i]=x
    ·rw[if_pos e,decide_eq_true (by rw[e]),a7,aa]
     show bnd (aV m.l (aF ((i:Int)+1))) _=_
     rw[ap (x:=(i:Int)+1) (by omega) (by omega),show((i:Int)+1)=((i+1:Nat):Int) by omega,aM (List.getElem?_eq_getElem hi1),ae,Jw (iV hm (List.getElem_mem hi1)),ae]
     rfl
    ·rw[if_neg e,decide_eq_false (fun h=>e (LF hok hx h)),ay,aa]
     show bo _ f (aF ((i:Int)+2),z)=_
     rw[ap (x:=(i:Int)+2) (by omega) (by omega),show((i:Int)+2)=((i+2:Nat):Int) by omega]
     exact ih (i+2) z (by omega) (by omega) (by omega)
   ·rw[decide_eq_false (by omega),ay,List.drop_of_length_le (by omega)]
    rfl
 unfold fO
 refine ac (y:=false) ?_ ?_
 ·rw[aa,hk,show((5:Int) != 5)=false from rfl,ay,ko,ae,hm,aa,Bool.not_true,ay,ko,ae,hx,aa,Bool.not_true]
 ·rw[ay]
  refine ac (qq v1 (by omega) (by omega)) ?_
  have:=key cS 0 (Tr.mk 0 0 [] []) (by rw[dU];omega) (by omega) (by omega)
  unfold bD at this⊢
  exact this
set_option maxRecDepth 100000
theorem sH : ∀(a b:List Tr),a.length%2=0→fU (a++b)=fU a++fU b
 | [],b,_=>rfl
 | [_],b,h=>by simp at h
 |k::v::a,b,h=>by
  have:=sH a b (by simp only[List.length_cons]at h;omega)
  show(k,v)::fU (a++b)=(k,v)::fU a++fU b
  rw[this];rfl
def NI(p:Tr×Tr):Nat:=bU p.1+bU p.2
def Pc(p:Tr×Tr):Nat:=(aK p.1).length+(aK p.2).length
theorem zX : ∀(l:List Tr),l.length%2=0→cV l=((fU l).map NI).sum
 | [],_=>by rw[cN];rfl
 | [_],h=>by simp at h
 |k::v::l,h=>by
  rw[bf,bf,zX l (by simp only[List.length_cons]at h;omega)]
  show _=(((k,v)::fU l).map NI).sum
  rw[List.map_cons,List.sum_cons]
  show _=bU k+bU v+_
  omega
theorem AC : ∀(l:List Tr),l.length%2=0→(cU l).length=((fU l).map Pc).sum
 | [],_=>by rw[bB];rfl
 | [_],h=>by simp at h
 |k::v::l,h=>by
  rw[aX,aX,List.length_append,List.length_append,AC l (by simp only[List.length_cons]at h;omega)]
  show _=(((k,v)::fU l).map Pc).sum
  rw[List.map_cons,List.sum_cons]
  show _=(aK k).length+(aK v).length+_
  omega
theorem sq : ∀(l:List Tr),l.length%2=0→∀y,y∈l↔∃p∈fU l,y=p.1∨y=p.2
 | [],_,y=>⟨fun h=>(by cases h),fun⟨p,hp,_⟩=>(by cases hp)⟩
 | [_],h,_=>by simp at h
 |k::v::l,h,y=>by
  have ih:=sq l (by simp only[List.length_cons]at h;omega) y
  constructor
  ·intro hy
   rcases List.mem_cons.1 hy with rfl |hy
   ·exact⟨(y,v),List.mem_cons_self,.inl rfl⟩
   ·rcases List.mem_cons.1 hy with rfl |hy
    ·exact⟨(k,y),List.mem_cons_self,.inr rfl⟩
    ·obtain⟨p,hp,h⟩:=ih.1 hy
     exact⟨p,List.mem_cons_of_mem _ hp,h⟩
  ·rintro⟨p,hp,h⟩
   rcases List.mem_cons.1 hp with rfl |hp
   ·rcases h with rfl |rfl
    ·exact List.mem_cons_self
    ·exact List.mem_cons_of_mem _ List.mem_cons_self
   ·exact List.mem_cons_of_mem _ (List.mem_cons_of_mem _ (ih.2 ⟨p,hp,h⟩))
theorem zl{α:Type}(f:α→Nat){l m:List α}(h:l.Perm m):(l.map f).sum=(m.map f).sum:=by
 induction h with
 |nil=>rfl
 |cons x _ ih=>rw[List.map_cons,List.map_cons,List.sum_cons,List.sum_cons,ih]
 |swap x y l=>simp only[List.map_cons,List.sum_cons];omega
 |trans _ _ h1 h2=>exact h1.trans h2
structure PP(l m:List Tr):Prop where
 e:l.length%2=0
 e2:m.length%2=0
 p:(fU l).Perm (fU m)
theorem PP.cnt{l m:List Tr}(h:PP l m):cV l=cV m:=by rw[zX l h.e,zX m h.e2,zl NI h.p]
theorem PP.len{l m:List Tr}(h:PP l m):(cU l).length=(cU m).length:=by rw[AC l h.e,AC m h.e2,zl Pc h.p]
theorem PP.mem{l m:List Tr}(h:PP l m){y:Tr}:y∈l↔y∈m:=by
 rw[sq l h.e,sq m h.e2]
 constructor<;>(rintro⟨p,hp,h2⟩)
 ·exact⟨p,h.p.mem_iff.1 hp,h2⟩
 ·exact⟨p,h.p.mem_iff.2 hp,h2⟩
theorem yE : ∀a b c:List UInt8,Lib.compareBytes a b<0→Lib.compareBytes b c<0→Lib.compareBytes a c<0
 |a,[],c,h1,_=>by cases a with
  |nil=>exact absurd (show(0:Int)<0 from h1) (by omega)
  |cons _ _=>exact absurd (show(1:Int)<0 from h1) (by omega)
 | [],_::_,[],_,h=>absurd (show(1:Int)<0 from h) (by omega)
 | [],_::_,_::_,_,_=>(by omega:(-1:Int)<0)
 |_::_,_::_,[],_,h=>absurd (show(1:Int)<0 from h) (by omega)
 |a::x,b::y,c::z,h1,h2=>by
  rw[sY]at h1 h2⊢
  by_cases e1:a.toNat<b.toNat
  ·by_cases e2:b.toNat<c.toNat
   ·rw[if_pos (show a.toNat<c.toNat by omega)];omega
   ·rw[if_neg e2]at h2
    by_cases e3:c.toNat<b.toNat
    ·rw[if_pos e3]at h2;omega
    ·rw[if_pos (show a.toNat<c.toNat by omega)];omega
  ·rw[if_neg e1]at h1
   by_cases e3:b.toNat<a.toNat
   ·rw[if_pos e3]at h1;omega
   ·rw[if_neg e3]at h1
    by_cases e2:b.toNat<c.toNat
    ·rw[if_pos (show a.toNat<c.toNat by omega)];omega
    ·rw[if_neg e2]at h2
     by_cases e4:c.toNat<b.toNat
     ·rw[if_pos e4]at h2;omega
     ·rw[if_neg e4]at h2
      rw[if_neg (show ¬a.toNat<c.toNat by omega),if_neg (show ¬c.toNat<a.toNat by omega)]
      exact yE x y z h1 h2
theorem In : ∀(l:List Tr),jR (l.map aK)=true→l.length%2=0→(fU l).Pairwise fun p q=>Lib.compareBytes (aK p.1) (aK q.1)<0
 | [],_,_=>List.Pairwise.nil
 | [_],_,h=>by simp at h
 | [k,v],_,_=>by show List.Pairwise _ [(k,v)];exact List.pairwise_singleton _ _
 | [_,_,_],_,h=>by simp at h
 |k::v::k2::v2::l,h,he=>by
  simp only[List.map_cons,jR,Bool.and_eq_true,decide_eq_true_eq]at h
  have ih:=In (k2::v2::l) (by simp only[List.map_cons];exact h.2) (by simp only[List.length_cons]at he⊢;omega)
  show List.Pairwise _ ((k,v)::fU (k2::v2::l))
  rw[List.pairwise_cons]
  refine⟨fun q hq=>?_,ih⟩
  have ih2:List.Pairwise (fun p q=>Lib.compareBytes (aK p.1) (aK q.1)<0) ((k2,v2)::fU l):=ih
  rw[List.pairwise_cons]at ih2
  have hq:q∈(k2,v2)::fU l:=hq
  rcases List.mem_cons.1 hq with rfl |hq
  ·exact h.1
  ·exact yE _ _ _ h.1 (ih2.1 q hq)
theorem CR : ∀(l:List Tr),(fU l).Pairwise (fun p q=>Lib.compareBytes (aK p.1) (aK q.1)<0)→l.length%2=0→∀k v,(k,v)∈fU l↔jY l k=some v
 | [],_,_,k,v=>⟨fun h=>(by cases h),fun h=>(by unfold jY at h;cases h)⟩
 | [_],_,h,_,_=>by simp at h
 |a::b::l,hp,he,k,v=>by
  have hp:List.Pairwise (fun p q=>Lib.compareBytes (aK p.1) (aK q.1)<0) ((a,b)::fU l):=hp
  rw[List.pairwise_cons]at hp
  have ih:=CR l hp.2 (by simp only[List.length_cons]at he;omega) k v
  show(k,v)∈(a,b)::fU l↔_
  unfold jY
  by_cases e:a=k
  ·rw[if_pos e]
   constructor
   ·intro h
    rcases List.mem_cons.1 h with h |h
    ·injection h with _ h;rw[h]
    ·have:=hp.1 _ h
     rw[e]at this
     rw[(pG _ _).2 rfl]at this
     omega
   ·intro h
    injection h with h
    rw[e,h];exact List.mem_cons_self
  ·rw[if_neg e]
   constructor
   ·intro h
    rcases List.mem_cons.1 h with h |h
    ·injection h with h _;exact absurd h.symm e
    ·exact ih.1 h
   ·intro h
    exact List.mem_cons_of_mem _ (ih.2 h)
theorem jE{m:Tr}(hk:m.k=5)(hm:eV m=true):m=Tr.mk 5 0 [] m.l∧m.l.length%2=0∧(fU m.l).Pairwise (fun p q=>Lib.compareBytes (aK p.1) (aK q.1)<0):=by
 obtain⟨k,n,b,l⟩:=m
 obtain⟨v2,_,_⟩:=cR.1 hm
 have hk:k=5:=hk
 subst hk
 rcases nd v2 with⟨hk,_⟩ | ⟨hk,_⟩ | ⟨hk,_⟩ | ⟨hk,_⟩ | ⟨hk,_⟩ | ⟨hk,_⟩ | ⟨_,rfl,rfl,_,h,_,h2⟩ | ⟨hk,_⟩<;>first |exact⟨rfl,h,In l h2 h⟩ |omega
theorem kD{S R:Type}{b:(S→Option R)→S→Option R}(I:Nat→S→Prop)(Q:R→Prop)(hb : ∀n s self,I n s→(∀m s',m<n→I m s'→∃r,self s'=some r∧Q r)→∃r,b self s=some r∧Q r): ∀(f n:Nat) (s:S),n<f→I n s→∃r,bo b f s=some r∧Q r
 |0,n,s,h,_=>absurd h (Nat.not_lt_zero _)
 |f+1,n,s,h,hI=>by
  rw[bS]
  exact hb n s _ hI fun m s' hm hI'=>kD I Q hb f m s' (by omega) hI'
theorem jo{α β:Type}{X:Option β}{K:β→Option α}(P:β→Prop){Q:α→Prop}(h : ∃y,X=some y∧P y)(k : ∀y,P y→∃r,K y=some r∧Q r): ∃r,bnd X K=some r∧Q r:=by
 obtain⟨y,rfl,hy⟩:=h
 exact k y hy
theorem iG{α β:Type}{e:β}{K:β→Option α}{Q:α→Prop}(k : ∃r,K e=some r∧Q r): ∃r,letm e K=some r∧Q r:=k
theorem gJ{α:Type}{c:Bool}{x y:Option α}{Q:α→Prop}(h1:c=true→∃r,x=some r∧Q r)(h2:c=false→∃r,y=some r∧Q r): ∃r,cond c x y=some r∧Q r:=by
 cases c with
 |true=>exact h1 rfl
 |false=>exact h2 rfl
theorem HL{x:Tr}(h:eV x=true):aN x=some (aK x)∧(aK x).length≤4096:=by
 obtain⟨h1,h2,h3⟩:=cR.1 h
 exact⟨vh h1 (by omega) (by omega),h3⟩
theorem Pp{s l:List Tr}{i t:Nat}(h:PP s (l.take i))(hi:i+1<l.length)(ht:t%2=0)(htl:t≤s.length):PP ([]++s.take t ++ [l[i],l[i+1]]++s.drop t) (l.take (i+2)):=by
 have hlen:(l.take i).length=i:=by rw[List.length_take];omega
 have e1:=h.e
 have e2:=h.e2
 rw[hlen]at e2
 have hlt:(s.take t).length=t:=by rw[List.length_take];omega
 have htk:l.take (i+2)=l.take i ++ [l[i],l[i+1]]:=by
  rw[List.take_add_one,List.take_add_one,List.getElem?_eq_getElem (show i<l.length by omega),List.getElem?_eq_getElem hi,List.append_assoc];rfl
 refine⟨?_,?_,?_⟩
 ·simp only[List.length_append,List.length_take,List.length_drop,List.length_cons,List.length_nil];omega
 ·rw[htk];simp only[List.length_append,hlen,List.length_cons,List.length_nil];omega
 ·rw[htk,sH (l.take i) _ (by rw[hlen];exact e2),List.nil_append,List.append_assoc,sH (s.take t) _ (by rw[hlt];exact ht)]
  show(fU (s.take t)++(l[i],l[i+1])::fU (s.drop t)).Perm (fU (l.take i) ++ [(l[i],l[i+1])])
  refine List.perm_middle.trans (List.Perm.trans ?_ (List.perm_append_comm (l₁:=[(l[i],l[i+1])])))
  refine List.Perm.cons _ ?_
  rw[←sH (s.take t) _ (by rw[hlt];exact ht),List.take_append_drop]
  exact h.p
theorem xE(l0:List Tr)(hl:l0.length≤100): ∃r,dW l0=some r∧(r.2=0→∃l,r.1=Tr.mk 5 0 [] l∧eV r.1=true∧PP l l0∧∀y∈l0,eV y=true):=by
 unfold dW
 rw[Mu,ae]
 refine iG (gJ (fun _=>⟨_,rfl,fun h=>absurd h (by decide)⟩) (fun hev=>?_))
 have hev:l0.length%2=0:=by
  simp only[bne_eq_false_iff_eq]at hev
  omega
 -- all are valid, or an error
 have key : ∀(l:List Tr) (i:Nat) (s:Tr),∃r,a6 (R:=((Go.Gk.Tr×Int)⊕Go.Gk.Tr)) (S:=Go.Gk.Tr) (α:=Go.Gk.Tr) (fun k3 s4=>some (.inr s4))
    (fun x5 k6 s7 self8=>bnd (aW x5) fun x9=>letm ((!x9)) fun x10=>cond x10 (some (.inl ((Tr.mk 0 0 [] []),1))) (self8 s7)) l i s=some r∧(r = .inl ((Tr.mk 0 0 [] []),1)∨r = .inr s∧∀y,y∈l→eV y=true):=by
  intro l
  induction l with
  |nil=>intro i s;exact⟨_,rfl,.inr ⟨rfl,fun y hy=>by cases hy⟩⟩
  |cons y l ih=>
   intro i s
   rw[bj,lQ,ae,aa]
   cases hy:eV y with
   |false=>exact⟨_,rfl,.inl rfl⟩
   |true=>
    obtain⟨r,hr,h⟩:=ih (i+1) s
    refine⟨r,hr,?_⟩
    rcases h with h | ⟨h,h2⟩
    ·exact .inl h
    ·refine .inr ⟨h,fun z hz=>?_⟩
     rcases List.mem_cons.1 hz with rfl |hz
     ·exact hy
     ·exact h2 z hz
 obtain⟨r,hr,h⟩:=key l0 0 (Tr.mk 0 0 [] [])
 rw[hr]
 rcases h with rfl | ⟨rfl,hok⟩
 ·exact⟨_,rfl,fun h=>absurd h (by decide)⟩
 rw[i6]
 have hget : ∀(i:Nat) (h:i<l0.length),eV l0[i]=true:=fun i h=>hok _ (List.getElem_mem h)
 refine jo (fun r=>PP r.1 l0) ?_ fun v47 hv47=>gJ (fun _=>⟨_,rfl,fun h=>absurd h (by decide)⟩) (fun _=>?_)
 ·refine kD (S:=List Tr×(Bool×Int)) (R:=List Tr×Bool) (fun n s=>∃i:Nat,s.2.2=(i:Int)∧i%2=0∧i+n=l0.length∧s.1.length=i∧(∀y,y∈s.1→eV y=true)∧PP s.1 (l0.take i)) (fun r=>PP r.1 l0) (fun n s self hI ih=>?_) cS l0.length _ (by rw[dU];omega) ⟨0,rfl,rfl,by omega,rfl,(fun y hy=>by cases hy),⟨rfl,rfl,List.Perm.nil⟩⟩
  obtain⟨i,hi,hi2,hin,hsl,hall,hpp⟩:=hI
  have sget : ∀(i:Nat) (h:i<s.1.length),eV s.1[i]=true:=fun i h=>hall _ (List.getElem_mem h)
  rw[hi]
  refine iG (gJ (fun hc=>?_) (fun hc=>⟨_,rfl,?_⟩))
  rotate_left
  ·rw[dC,decide_eq_false_iff_not]at hc
   rw[List.take_of_length_le (by omega)]at hpp
   exact hpp
  rw[dC,decide_eq_true_eq]at hc
  have cmpv : ∀(t:Nat) (h2:2≤t) (h3:t≤s.1.length) (K:Int→Option Bool),(bnd (aV s.1 ((t-2:Nat):Int)) fun x19=>bnd (aN x19) fun x20=>bnd (aV l0 (i:Int)) fun x21=>bnd (aN x21) fun x22=>bnd (aT x20 x22) K)=K (Lib.compareBytes (aK (s.1[t-2]'(by omega))) (aK l0[i])):=by
   intro t h2 h3 K
   obtain⟨e1,l1⟩:=HL (sget (t-2) (by omega))
   obtain⟨e2,l2⟩:=HL (hget i hc)
   rw[aM (List.getElem?_eq_getElem (show t-2<s.1.length by omega)),ae,e1,ae,aM (List.getElem?_eq_getElem hc),ae,e2,ae,rT _ _ (by omega) (by omega),ae]
  refine jo (fun v45=>v45.1.length=i+2∧(∀y,y∈v45.1→eV y=true)∧PP v45.1 (l0.take (i+2))) ?_ fun v45 hv45=>?_
  ·refine jo (fun k=>∃t:Nat,k=(t:Int)∧t%2=0∧t≤s.1.length) ?_ fun v27 hv27=>?_
   ·refine kD (S:=Int) (R:=Int) (fun n k=>k=(n:Int)∧n%2=0∧n≤s.1.length) (fun k=>∃t:Nat,k=(t:Int)∧t%2=0∧t≤s.1.length) (fun n k self hI ih=>?_) cS s.1.length _ (by rw[dU];omega) ⟨rfl,by omega,by omega⟩
    obtain⟨rfl,hn2,hnl⟩:=hI
    refine jo (fun b=>b=true→0<n) ?_ fun v25 h25=>?_
    ·refine iG (gJ (fun h0=>?_) (fun _=>⟨false,rfl,fun h=>Bool.noConfusion h⟩))
     rw[EE,decide_eq_true_eq]at h0
     rw[aa,ap (by omega) (by omega),show((n:Nat):Int)-2=((n-2:Nat):Int) by omega,cmpv n (by omega) hnl]
     exact⟨_,rfl,fun _=>h0⟩
    ·refine gJ (fun h=>?_) (fun _=>⟨_,rfl,n,rfl,hn2,hnl⟩)
     have h0:=h25 h
     rw[aa,ap (by omega) (by omega),show((n:Nat):Int)-2=((n-2:Nat):Int) by omega]
     exact ih (n-2) _ (by omega) ⟨rfl,by omega,by omega⟩
   ·obtain⟨t,rfl,ht2,htl⟩:=hv27
    refine jo (fun _=>True) ?_ fun v36 _=>?_
    ·refine gJ (fun _=>⟨true,rfl,trivial⟩) (fun _=>iG (gJ (fun h0=>?_) (fun _=>⟨false,rfl,trivial⟩)))
     rw[EE,decide_eq_true_eq]at h0
     rw[aa,ap (by omega) (by omega),show((t:Nat):Int)-2=((t-2:Nat):Int) by omega,cmpv t (by omega) htl]
     exact⟨_,rfl,trivial⟩
    ·have c1:Gk.cut s.1 0 (t:Int)=some (s.1.take t):=by unfold Gk.cut;rw[if_pos (by omega)];simp
     have c2:Gk.cut s.1 (t:Int) (s.1.length:Int)=some (s.1.drop t):=vM htl
     have hi1:i+1<l0.length:=by omega
     rw[c1,ae,aD (by simp;omega),ae,aM (List.getElem?_eq_getElem hc),ae,aa,ap (by omega) (by omega),show((i:Nat):Int)+1=((i+1:Nat):Int) by omega,aM (List.getElem?_eq_getElem hi1),ae,
      aD (by simp;omega),ae,c2,ae,aD (by simp;omega),ae]
     refine⟨_,rfl,?_,fun y hy=>?_,?_⟩
     ·simp only[List.length_append,List.length_take,List.length_drop,List.length_cons,List.length_nil];omega
     ·simp only[List.nil_append,List.mem_append,List.mem_cons,List.not_mem_nil,or_false]at hy
      rcases hy with(hy |rfl |rfl) |hy
      ·exact hall _ (List.mem_of_mem_take hy)
      ·exact hget _ hc
      ·exact hget _ hi1
      ·exact hall _ (List.mem_of_mem_drop hy)
     ·exact Pp hpp hi1 ht2 htl
  ·rw[aa,ap (by omega) (by omega)]
   exact ih (n-2) _ (by omega) ⟨i+2,by show(i:Int)+2=_;omega,by omega,by omega,hv45.1,hv45.2.1,hv45.2.2⟩
 ·rw[lQ,ae,aa]
  cases hv:eV (Tr.mk 5 0 [] v47.1)with
  |false=>exact⟨_,rfl,fun h=>absurd h (by decide)⟩
  |true=>
   rw[Bool.not_true,ay,Ia hv,ae]
   exact⟨_,rfl,fun _=>⟨v47.1,rfl,hv,hv47,hok⟩⟩
set_option maxRecDepth 100000
def I0(n:UInt64):Tr:=Tr.mk 0 n [] []
theorem Gw(n:UInt64):eV (I0 n)=true:=by
 have hl:=iX 0 n
 refine cR.2 ⟨?_,?_,?_⟩
 ·unfold I0;rw[qn];rfl
 ·unfold I0;rw[fP,cN];omega
 ·unfold I0;rw[dd,own0];omega
theorem mr{R α:Type}{bn:Nat→Unit→Option R}{bs:α→Nat→Unit→(Unit→Option R)→Option R}(p:α→Bool)(F:Option R): ∀(xs:List α) (k:Nat),(∀x,x∈xs→∀k self,bs x k () self=cond (p x) (self ()) F)→
  a6 bn bs xs k ()=cond (xs.all p) (bn (k+xs.length) ()) F
 | [],k,_=>by rw[eU];rfl
 |x::xs,k,h=>by
  rw[bj,h x (by simp),List.all_cons,mr p F xs (k+1) fun y hy=>h y (by simp[hy]),List.length_cons,show k+1+xs.length=k+(xs.length+1) by omega]
  cases p x<;>rfl
theorem uk{R:Type}(l:List Tr)(g:Tr→Tr→Bool)(bad good:Option R)(b:(Int→Option R)→Int→Option R)(h1 : ∀self (i:Nat) (hi:i+1<l.length),b self (i:Int)=cond (g (l[i]'(by omega)) l[i+1]) (self ((i+2:Nat):Int)) bad)(h2 : ∀self,b self (l.length:Int)=good):
  ∀(f i:Nat),l.length<f+i→i≤l.length→(l.length-i)%2=0→bo b f (i:Int)=cond ((fU (l.drop i)).all (fun p=>g p.1 p.2)) good bad
 |0,i,h3,h4,_=>by omega
 |f+1,i,h3,h4,h5=>by
  rw[bS]
  by_cases hi:i+1<l.length
  ·rw[h1 _ i hi,uk l g bad good b h1 h2 f (i+2) (by omega) (by omega) (by omega),E_ hi]
   show _=cond (((l[i],l[i+1])::fU (l.drop (i+2))).all _) good bad
   rw[List.all_cons]
   cases g l[i] l[i+1]<;>rfl
  ·have:i=l.length:=by omega
   subst this
   rw[h2,List.drop_of_length_le (Nat.le_refl _)];rfl
def nE(x:Tr):Bool:=x.k==3||(x.k==0||x.k==1)&&decide (x.n.toNat≤65535)
def Kd(x:Tr):Bool:=(x.k==0||x.k==1)&&decide (x.n.toNat≤65535)
theorem Ek(x:Tr):ey x=some (Kd x):=by
 unfold ey Kd
 refine ac (y:=(x.k==0||x.k==1)&&decide (x.n.toNat≤65535)) ?_ rfl
 simp only[aa]
 rw[show decide ((UInt64.toNat x.n:Int)≤(UInt64.toNat 65535:Int))=decide (x.n.toNat≤65535)from p_ _ 65535]
 cases(x.k==0)<;>cases(x.k==1)<;>rfl
theorem FX(x:Tr):dg x=some (nE x):=by
 unfold dg nE
 refine ac (y:=x.k==3||(x.k==0||x.k==1)&&decide (x.n.toNat≤65535)) ?_ rfl
 simp only[aa]
 rw[show decide ((UInt64.toNat x.n:Int)≤(UInt64.toNat 65535:Int))=decide (x.n.toNat≤65535)from p_ _ 65535]
 cases(x.k==3)<;>cases(x.k==0)<;>cases(x.k==1)<;>rfl
def K7(v:Tr):Bool:=(v.k==0&&decide (0<v.n.toNat)||v.k==1)&&decide (v.n.toNat≤65535)
open Classical in
noncomputable def mW (key v:Tr) (l:List Tr):Bool:=
 if key=I0 1 then K7 v else if key=I0 2 then v.k==4&&(!v.l.isEmpty&&v.l.all fun x=>(jY l x).isSome)
 else if key=I0 4∨key=I0 5∨key=I0 6∨key=I0 12 then v.k==2 else true
theorem jU(o:Option Tr):(GZ o).2=o.isSome:=by cases o<;>rfl
theorem jI(n:Nat)(h:n<9223372036854775808):av (n:Int)=some (I0 (UInt64.ofNat n)):=by
 unfold av
 rw[aa,decide_eq_false (by omega),ay,aa,bC];rfl
theorem xc(n:Nat)(h:n<9223372036854775808):iA (n:Int)=some (I0 (UInt64.ofNat n)):=by
 unfold iA
 rw[aa,decide_eq_false (by omega),ay,aa,bC];rfl
open Classical in
theorem GM{key v:Tr}{K:Int}{N:UInt64}{bb:List UInt8}{l:List Tr}(hk:eV key=true)(hv:eV v=true)(hl : ∀y∈l,eV y=true)(hn:l.length≤1000):cL key v (.mk K N bb l)=some (mW key v l):=by
 unfold cL mW
 refine ac (jI 1 (by omega)) ?_
 rw[mc hk (Gw _),ae,show UInt64.ofNat 1=1 from rfl]
 by_cases e1:key=I0 1
 ·rw[if_pos e1,decide_eq_true e1,a7]
  refine ac (y:=K7 v) ?_ rfl
  unfold K7
  simp only[aa]
  rw[show decide ((UInt64.toNat v.n:Int)≤(UInt64.toNat 65535:Int))=decide (v.n.toNat≤65535)from p_ _ 65535,show decide ((UInt64.toNat 0:Int)<(UInt64.toNat v.n:Int))=decide (0<v.n.toNat)from dC 0 _]
  cases(v.k==0)<;>cases(v.k==1)<;>cases decide (0<v.n.toNat)<;>rfl
 ·rw[if_neg e1,decide_eq_false e1,ay]
  refine ac (jI 2 (by omega)) ?_
  rw[mc hk (Gw _),ae,show UInt64.ofNat 2=2 from rfl]
  by_cases e2:key=I0 2
  ·rw[if_pos e2,decide_eq_true e2,a7]
   refine ac (y:=v.k != 4||v.l.isEmpty) ?_ ?_
   ·rw[aa,aa,oQ]
    refine congrArg some ?_
    congr 1
    exact ie v.l
   ·have hkid : ∀x∈v.l,eV x=true:=fun x hx=>iV hv hx
    have hloop:=mr (R:=Bool) (bn:=fun k18 s19=>some true) (bs:=fun x20 k21 s22 self23=>bnd (bm (.mk K N bb l) x20) fun x24=>letm ((!x24.2)) fun x25=>cond x25 (some false) (self23 ())) (fun x=>(jY l x).isSome) (some false) v.l 0 (fun x hx k self=>by
     rw[v_ hl hn (hkid x hx),ae,aa,jU]
     cases(jY l x).isSome<;>rfl)
    rw[hloop]
    cases h4:(v.k==4)with
    |false=>rw[show(v.k != 4)=true by rw[bne,h4];rfl];rfl
    |true=>
     rw[show(v.k != 4)=false by rw[bne,h4];rfl]
     cases v.l.isEmpty<;>cases(v.l.all fun x=>(jY l x).isSome)<;>rfl
  ·rw[if_neg e2,decide_eq_false e2,ay]
   have st : ∀(n:Nat) (h:n<9223372036854775808) (R:Option Bool),(bnd (av (n:Int)) fun x32=>bnd (aB key x32) fun x33=>cond x33 (letm ((v.k==2)) fun x34=>some x34) R)=cond (decide (key=I0 (UInt64.ofNat n))) (some (v.k==2)) R:=fun n h R=>by
    rw[jI n h,ae,mc hk (Gw _),ae,aa]
   show(bnd (av ((4:Nat):Int)) fun x32=>bnd (aB key x32) fun x33=>cond x33 (letm ((v.k==2)) fun x34=>some x34)
    (bnd (av ((5:Nat):Int)) fun x32=>bnd (aB key x32) fun x33=>cond x33 (letm ((v.k==2)) fun x34=>some x34)
    (bnd (av ((6:Nat):Int)) fun x32=>bnd (aB key x32) fun x33=>cond x33 (letm ((v.k==2)) fun x34=>some x34)
    (bnd (av ((12:Nat):Int)) fun x32=>bnd (aB key x32) fun x33=>cond x33 (letm ((v.k==2)) fun x34=>some x34) (some true)))))=_
   rw[st 4 (by omega),st 5 (by omega),st 6 (by omega),st 12 (by omega)]
   show cond (decide (key=I0 4)) _ (cond (decide (key=I0 5)) _ (cond (decide (key=I0 6)) _ (cond (decide (key=I0 12)) _ _)))=_
   by_cases a:key=I0 4
   ·rw[decide_eq_true a,if_pos (.inl a)];rfl
   rw[decide_eq_false a]
   by_cases b:key=I0 5
   ·rw[decide_eq_true b,if_pos (.inr (.inl b))];rfl
   rw[decide_eq_false b]
   by_cases c:key=I0 6
   ·rw[decide_eq_true c,if_pos (.inr (.inr (.inl c)))];rfl
   rw[decide_eq_false c]
   by_cases d:key=I0 12
   ·rw[decide_eq_true d,if_pos (.inr (.inr (.inr d)))];rfl
   rw[decide_eq_false d,if_neg (by rintro(h |h |h |h)<;>contradiction)];rfl
noncomputable def oc (p u:Tr) (n:UInt64):Option Tr:=match jY p.l (I0 n)with
 |some v=>some v
 |none=>jY u.l (I0 n)
theorem BX{p u:Tr}(hp:eV p=true)(hu:eV u=true)(n:Nat)(h:n<9223372036854775808):cz (p,u) (n:Int)=some (GZ (oc p u (UInt64.ofNat n))):=by
 obtain⟨K,N,bb,l⟩:=p
 obtain⟨K',N',bb',l'⟩:=u
 have c1:=(cR.1 hp).2.1
 have c2:=(cR.1 hu).2.1
 rw[fP]at c1 c2
 have d1:=cW l
 have d2:=cW l'
 unfold cz oc
 rw[jI n h,ae]
 refine ac (v_ (l:=l) (fun y hy=>iV hp hy) (by omega) (Gw _)) ?_
 rw[jU]
 show cond (jY l (I0 (UInt64.ofNat n))).isSome _ _=some (GZ (match jY l (I0 (UInt64.ofNat n))with |some v=>some v |none=>jY l' (I0 (UInt64.ofNat n))))
 cases ha:jY l (I0 (UInt64.ofNat n))with
 |some v=>rfl
 |none=>
  show cond false _ _=_
  rw[ay,ae]
  refine ac (v_ (l:=l') (fun y hy=>iV hu hy) (by omega) (Gw _)) ?_
  cases jY l' (I0 (UInt64.ofNat n))<;>rfl
open Classical in
/-- Valid headers. -/
noncomputable def P2 (p u:Tr):Bool:=
 ((p.k==5&&u.k==5)&&(eV p&&eV u))&&(((fU p.l).all (fun q=>nE q.1&&mW q.1 q.2 p.l)&&(fU u.l).all (fun q=>nE q.1&&mW q.1 q.2 u.l))&&((fU u.l).all (fun q=>!((jY p.l q.1).isSome||decide (q.1=I0 2)))&&!((oc p u 5).isSome&&(oc p u 6).isSome)))
theorem kM{m:Tr}(hk:m.k=5)(hm:eV m=true):m.l.length%2=0:=(jE hk hm).2.1
theorem ql{m:Tr}(hm:eV m=true):m.l.length≤256:=by
 have c1:=(cR.1 hm).2.1
 have d1:=cW m.l
 have:=pF m
 omega
open Classical in
theorem pO(p u:Tr):cK (p,u)=some (P2 p u):=by
 unfold cK
 refine ac (y:=!((p.k==5&&u.k==5)&&(eV p&&eV u))) ?_ ?_
 ·show(letm (p.k != 5) fun x1=>cond x1 (some true) (letm (u.k != 5) fun x2=>cond x2 (some true) (bnd (aW p) fun x3=>letm (!x3) fun x4=>cond x4 (some true) (bnd (aW u) fun x5=>letm (!x5) fun x6=>some x6))))=_
  rw[aa,aa,lQ,ae,aa,lQ,ae,aa]
  unfold bne
  cases(p.k==5)<;>cases(u.k==5)<;>cases eV p<;>cases eV u<;>rfl
 unfold P2
 cases h0:((p.k==5&&u.k==5)&&(eV p&&eV u))with
 |false=>rfl
 |true=>
  rw[Bool.not_true,ay,Bool.true_and]
  simp only[Bool.and_eq_true,beq_iff_eq]at h0
  obtain⟨⟨k1,k2⟩,o1,o2⟩:=h0
  have ev1:=kM k1 o1
  have ev2:=kM k2 o2
  have ln1:=ql o1
  have ln2:=ql o2
  have inner : ∀(m:Tr),m.k=5→eV m=true→∀(F G:Option ((Bool⊕Unit)⊕Unit)),bo (R:=((Bool⊕Unit)⊕Unit)) (S:=Int) (fun self15 s14=>
    letm (decide (s14<(m.l.length:Int))) fun x16=>cond x16 (bnd (β:=Bool) (bnd (aV m.l s14) fun x17=>bnd (dg x17) fun x18=>letm ((!x18)) fun x19=>cond x19 (some true)
     (bnd (aV m.l s14) fun x20=>letm ((aF (s14+1))) fun x21=>bnd (aV m.l x21) fun x22=>bnd (cL x20 x22 m) fun x23=>letm ((!x23)) fun x24=>some x24)) fun v25=>cond v25 F (letm ((aF (s14+2))) fun x26=>self15 x26)) G) cS 0=cond ((fU m.l).all (fun q=>nE q.1&&mW q.1 q.2 m.l)) G F:=by
   intro m km om F G
   have evm:=kM km om
   have lnm:=ql om
   refine uk m.l (fun a b=>nE a&&mW a b m.l) F G _ ?_ ?_ cS 0 (by rw[dU];omega) (by omega) (by omega)
   ·intro self i hi
    have hi0:i<m.l.length:=by omega
    have oa:=iV om (List.getElem_mem hi0)
    have ob:=iV om (List.getElem_mem hi)
    rw[aa,decide_eq_true (by omega),a7]
    have hval:cL m.l[i] m.l[i+1] m=some (mW m.l[i] m.l[i+1] m.l):=by
     obtain⟨K,N,bb,l⟩:=m
     exact GM oa ob (fun y hy=>iV om hy) (by have:l.length≤256:=lnm;omega)
    refine ac (y:=!(nE m.l[i]&&mW m.l[i] m.l[i+1] m.l)) ?_ ?_
    ·rw[aM (List.getElem?_eq_getElem hi0),ae,FX,ae,aa,ae,aa,ap (by omega) (by omega),show((i:Int)+1)=((i+1:Nat):Int) by omega,aM (List.getElem?_eq_getElem hi),ae,hval,ae,aa]
     cases nE m.l[i]<;>rfl
    ·rw[aa,ap (by omega) (by omega),show((i:Int)+2)=((i+2:Nat):Int) by omega]
     cases(nE m.l[i]&&mW m.l[i] m.l[i+1] m.l)<;>rfl
   ·intro self
    rw[aa,decide_eq_false (by omega),ay]
  have hA:a6 (R:=(Bool⊕Unit)) (S:=Unit) (α:=Tr) (fun k8 s9=>some (.inr ()))
    (fun x10 k11 s12 self13=>fI (ρ:=(Bool⊕Unit)) (ρ':=(Bool⊕Unit)) (Y:=Unit) (bo (R:=((Bool⊕Unit)⊕Unit)) (S:=Int) (fun self15 s14=>
    letm (decide (s14<(x10.l.length:Int))) fun x16=>cond x16 (bnd (β:=Bool) (bnd (aV x10.l s14) fun x17=>bnd (dg x17) fun x18=>letm ((!x18)) fun x19=>cond x19 (some true)
     (bnd (aV x10.l s14) fun x20=>letm ((aF (s14+1))) fun x21=>bnd (aV x10.l x21) fun x22=>bnd (cL x20 x22 x10) fun x23=>letm ((!x23)) fun x24=>some x24)) fun v25=>cond v25 (some (.inl (.inl false))) (letm ((aF (s14+2))) fun x26=>self15 x26)) (some (.inr ()))) cS 0) (fun q=>q) fun v27=>self13 ()) [p,u] 0 () =
    cond ((fU p.l).all (fun q=>nE q.1&&mW q.1 q.2 p.l)&&(fU u.l).all (fun q=>nE q.1&&mW q.1 q.2 u.l)) (some (.inr ())) (some (.inl false)):=by
   rw[bj,inner p k1 o1]
   cases(fU p.l).all (fun q=>nE q.1&&mW q.1 q.2 p.l)with
   |false=>rfl
   |true=>
    rw[cond_true,i6,bj,inner u k2 o2]
    cases(fU u.l).all (fun q=>nE q.1&&mW q.1 q.2 u.l)<;>rfl
  refine(congrArg (fun z=>fI z _ _) hA).trans ?_
  cases((fU p.l).all (fun q=>nE q.1&&mW q.1 q.2 p.l)&&(fU u.l).all (fun q=>nE q.1&&mW q.1 q.2 u.l))with
  |false=>rfl
  |true=>
   rw[cond_true,i6,Bool.true_and]
   have hB:bo (R:=(Bool⊕Unit)) (S:=Int) (fun self30 s29=>letm (decide (s29<(u.l.length:Int))) fun x31=>cond x31 (bnd (aV u.l s29) fun x32=>bnd (bm p x32) fun x33=>bnd (β:=Bool) (cond x33.2 (some true)
      (bnd (aV u.l s29) fun x34=>bnd (av 2) fun x35=>bnd (aB x34 x35) fun x36=>some x36)) fun v37=>cond v37 (some (.inl false)) (letm ((aF (s29+2))) fun x38=>self30 x38)) (some (.inr ()))) cS 0 =
     cond ((fU u.l).all (fun q=>!((jY p.l q.1).isSome||decide (q.1=I0 2)))) (some (.inr ())) (some (.inl false)):=by
    refine uk u.l (fun a b=>!((jY p.l a).isSome||decide (a=I0 2))) (some (Sum.inl false)) (some (Sum.inr ())) _ ?_ ?_ cS 0 (by rw[dU];omega) (by omega) (by omega)
    ·intro self i hi
     have hi0:i<u.l.length:=by omega
     have oa:=iV o2 (List.getElem_mem hi0)
     have hat:bm p u.l[i]=some (GZ (jY p.l u.l[i])):=by
      obtain⟨K,N,bb,l⟩:=p
      exact v_ (fun y hy=>iV o1 hy) (by have:l.length≤256:=ln1;omega) oa
     rw[aa,decide_eq_true (by omega),a7,aM (List.getElem?_eq_getElem hi0),ae,hat,ae,ae,jU]
     have hint:av 2=some (I0 2):=jI 2 (by omega)
     rw[hint,ae,mc oa (Gw _),ae,oQ,ae,aa,ap (by omega) (by omega),show((i:Int)+2)=((i+2:Nat):Int) by omega]
     cases((jY p.l u.l[i]).isSome||decide (u.l[i]=I0 2))<;>rfl
    ·intro self
     rw[aa,decide_eq_false (by omega),ay]
   refine(congrArg (fun z=>fI z _ _) hB).trans ?_
   cases((fU u.l).all (fun q=>!((jY p.l q.1).isSome||decide (q.1=I0 2))))with
   |false=>rfl
   |true=>
    rw[cond_true,i6,Bool.true_and]
    refine ac (BX o1 o2 5 (by omega)) (ac (BX o1 o2 6 (by omega)) ?_)
    rw[jU,jU,aa,aa]
    show bnd (cond (!(oc p u 5).isSome) (some true) (some (!(oc p u 6).isSome))) _=_
    cases(oc p u 5).isSome<;>cases(oc p u 6).isSome<;>rfl
set_option maxRecDepth 100000
theorem A_{m:Tr}(he:m.l.length%2=0)(hn:m.l.length≤1000):gq m=some (fU m.l):=by
 have key : ∀(f i:Nat) (acc:List az),m.l.length+1<f+i→i≤m.l.length→i%2=0→acc.length+m.l.length≤2000+i→bo (R:=(List az)) (S:=((List az)×Int)) (fun self2 s1=>
   letm ((aF (s1.2+1))) fun x3=>letm (decide (x3<(m.l.length:Int))) fun x4=>cond x4 (bnd (aV m.l s1.2) fun x5=>letm ((aF (s1.2+1))) fun x6=>bnd (aV m.l x6) fun x7=>bnd (cO s1.1 [(x5,x7)]) fun x8=>letm ((aF (s1.2+2))) fun x9=>self2 (x8,x9)) (some s1.1)) f (acc,(i:Int))=some (acc++fU (m.l.drop i)):=by
  intro f
  induction f with
  |zero=>intro i acc h1 h2;omega
  |succ f ih=>
   intro i acc h1 h2 h3 h4
   rw[bS,aa,aa]
   show cond (decide (aF ((i:Int)+1)<(m.l.length:Int))) _ _=_
   rw[ap (x:=(i:Int)+1) (by omega) (by omega)]
   by_cases hi:i+1<m.l.length
   ·have hi0:i<m.l.length:=by omega
    rw[decide_eq_true (by omega),a7]
    refine ac (aM (List.getElem?_eq_getElem hi0)) ?_
    rw[aa]
    show bnd (aV m.l ((i:Int)+1)) _=_
    rw[show((i:Int)+1)=((i+1:Nat):Int) by omega]
    refine ac (aM (List.getElem?_eq_getElem hi)) ?_
    refine ac (aD (xs:=acc) (by simp only[List.length_cons,List.length_nil];omega)) ?_
    rw[aa]
    show bo _ f (acc ++ [(m.l[i],m.l[i+1])],aF ((i:Int)+2))=_
    rw[ap (x:=(i:Int)+2) (by omega) (by omega),show((i:Int)+2)=((i+2:Nat):Int) by omega]
    rw[ih (i+2) _ (by omega) (by omega) (by omega) (by rw[List.length_append];simp only[List.length_cons,List.length_nil];omega),E_ hi,List.append_assoc]
    rfl
   ·rw[decide_eq_false (by omega),ay]
    have:i=m.l.length:=by omega
    subst this
    rw[List.drop_of_length_le (Nat.le_refl _)]
    show some acc=some (acc ++ [])
    rw[List.append_nil]
 unfold gq
 have:=key cS 0 [] (by rw[dU];omega) (by omega) rfl (by rw[List.length_nil];omega)
 rw[List.nil_append]at this
 exact this
open Classical in
theorem An{k v:Tr}{l:List Tr}(hk:eV k=true)(h:(nE k&&mW k v l)=true):fb (k,v)=some true:=by
 rw[Bool.and_eq_true]at h
 obtain⟨h1,h2⟩:=h
 unfold fb
 show(letm (k.k==3) fun x1=>cond x1 (some true) (bnd (ey k) fun x2=>letm (!x2) fun x3=>cond x3 (some false) (letm (k.k==1) fun x4=>_)))=_
 rw[aa,Ek,ae,aa]
 unfold nE at h1
 cases e3:(k.k==3)with
 |true=>rfl
 |false=>
  rw[e3,Bool.false_or]at h1
  rw[ay,show Kd k=true from h1,Bool.not_true,ay,aa]
  cases e1:(k.k==1)with
  |true=>rfl
  |false=>
   rw[e1,Bool.or_false,Bool.and_eq_true,beq_iff_eq,decide_eq_true_eq]at h1
   rw[ay]
   -- the key is a small number
   have hI:k=I0 k.n:=by
    obtain⟨kk,n,b,l'⟩:=k
    have h0:kk=0:=h1.1
    subst h0
    rcases nd (cR.1 hk).1 with⟨_,rfl,rfl⟩ | ⟨h,_⟩ | ⟨h,_⟩ | ⟨h,_⟩ | ⟨h,_⟩ | ⟨h,_⟩ | ⟨h,_⟩ | ⟨h,_⟩<;>first |rfl |omega
   have inj : ∀(a b:UInt64),I0 a=I0 b→a=b:=fun a b h=>by injection h
   have hz : ∀(c:UInt64),((UInt64.toNat k.n:Int)==(UInt64.toNat c:Int))=decide (k=I0 c):=fun c=>by
    rw[Bool.eq_iff_iff,beq_iff_eq,decide_eq_true_eq]
    constructor
    ·intro h
     rw[hI]
     have:k.n=c:=UInt64.toNat_inj.1 (by omega)
     rw[this]
    ·intro h
     rw[h];rfl
   unfold mW at h2
   show(letm ((UInt64.toNat k.n:Int)==(UInt64.toNat 1:Int)) fun x5=>_)=_
   rw[aa,hz]
   by_cases c1:k=I0 1
   ·rw[if_pos c1]at h2
    rw[decide_eq_true c1,a7]
    refine ac (y:=true) ?_ rfl
    show(bnd (ey v) fun x6=>cond x6 (letm (v.k==1) fun x7=>cond x7 (some true) (letm ((UInt64.toNat v.n:Int) != (UInt64.toNat 0:Int)) fun x8=>some x8)) (some false))=_
    rw[Ek,ae]
    unfold K7 at h2
    rw[Bool.and_eq_true,Bool.or_eq_true,Bool.and_eq_true,decide_eq_true_eq,decide_eq_true_eq]at h2
    obtain⟨ha,hb⟩:=h2
    have hnum:Kd v=true:=by
     unfold Kd
     rw[decide_eq_true hb,Bool.and_true,Bool.or_eq_true]
     rcases ha with ha |ha
     ·exact .inl ha.1
     ·exact .inr ha
    rw[hnum,a7,aa,aa]
    cases h11:(v.k==1)with
    |true=>rfl
    |false=>
     rcases ha with ha |ha
     ·rw[ay]
      refine congrArg some ?_
      rw[bne_iff_ne]
      have:((UInt64.toNat 0:Nat):Int)=0:=rfl
      omega
     ·rw[h11]at ha;cases ha
   ·rw[if_neg c1]at h2
    rw[decide_eq_false c1,ay]
    by_cases c4:k=I0 4∨k=I0 5∨k=I0 6∨k=I0 12
    ·have c2 : ¬k=I0 2:=by
      rintro c2
      rcases c4 with h |h |h |h<;>(rw[c2]at h;have:=inj _ _ h;revert this;decide)
     rw[if_neg c2,if_pos c4]at h2
     refine ac (y:=true) ?_ ?_
     ·simp only[aa]
      show(cond ((UInt64.toNat k.n:Int)==(UInt64.toNat 4:Int)) (some true) (cond ((UInt64.toNat k.n:Int)==(UInt64.toNat 5:Int)) (some true) (cond ((UInt64.toNat k.n:Int)==(UInt64.toNat 6:Int)) (some true) (some ((UInt64.toNat k.n:Int)==(UInt64.toNat 12:Int))))))=_
      rw[hz,hz,hz,hz]
      rcases c4 with h |h |h |h<;>(simp only[decide_eq_true h];try (cases decide (k=I0 4)<;>cases decide (k=I0 5)<;>cases decide (k=I0 6)<;>rfl))
     ·show(cond true (letm (v.k==2) fun x15=>some x15) (some true))=_
      rw[h2];rfl
    ·refine ac (y:=false) ?_ rfl
     simp only[aa]
     show(cond ((UInt64.toNat k.n:Int)==(UInt64.toNat 4:Int)) (some true) (cond ((UInt64.toNat k.n:Int)==(UInt64.toNat 5:Int)) (some true) (cond ((UInt64.toNat k.n:Int)==(UInt64.toNat 6:Int)) (some true) (some ((UInt64.toNat k.n:Int)==(UInt64.toNat 12:Int))))))=_
     rw[hz,hz,hz,hz,decide_eq_false (fun h=>c4 (.inl h)),decide_eq_false (fun h=>c4 (.inr (.inl h))),decide_eq_false (fun h=>c4 (.inr (.inr (.inl h)))),decide_eq_false (fun h=>c4 (.inr (.inr (.inr h))))]
     rfl
theorem Iy{p u:Tr}(k1:p.k=5)(k2:u.k=5)(hp:eV p=true)(hu:eV u=true)(n:Nat)(h:n<9223372036854775808):ia (p,u) (n:Int)=some (GZ (oc p u (UInt64.ofNat n))):=by
 unfold ia oc
 rw[xc n h,ae]
 refine ac (lR k1 hp (Gw _)) ?_
 rw[jU]
 cases ha:jY p.l (I0 (UInt64.ofNat n))with
 |some v=>rfl
 |none=>
  show cond false _ _=_
  rw[ay,ae]
  refine ac (lR k2 hu (Gw _)) ?_
  cases jY u.l (I0 (UInt64.ofNat n))<;>rfl
structure HV(p u:Tr):Prop where
 k1:p.k=5
 k2:u.k=5
 o1:eV p=true
 o2:eV u=true
 pp : ∀q∈fU p.l,(nE q.1&&mW q.1 q.2 p.l)=true
 pu : ∀q∈fU u.l,(nE q.1&&mW q.1 q.2 u.l)=true
 ex : ∀q∈fU u.l,jY p.l q.1=none∧q.1≠I0 2
 iv : ¬((oc p u 5).isSome=true∧(oc p u 6).isSome=true)
open Classical in
theorem Do{p u:Tr}:P2 p u=true→HV p u:=by
 intro h
 unfold P2 at h
 simp only[Bool.and_eq_true,beq_iff_eq,List.all_eq_true,Bool.not_eq_true',Bool.or_eq_false_iff,decide_eq_false_iff_not,Option.isSome_eq_false_iff]at h
 obtain⟨⟨⟨a,b⟩,c,d⟩,⟨e,f⟩,g,i⟩:=h
 exact⟨a,b,c,d,fun q hq=>by rw[Bool.and_eq_true];exact e q hq,fun q hq=>by rw[Bool.and_eq_true];exact f q hq,fun q hq=>⟨Option.isNone_iff_eq_none.1 (g q hq).1,(g q hq).2⟩,fun⟨x,y⟩=>by
  rw[x,y]at i;cases i⟩
theorem Ae{x:Tr}: ∀{l:List Tr},l.length%2=0→(∀q∈fU l,q.1≠x)→jY l x=none
 | [],_,_=>by unfold jY;rfl
 | [_],h,_=>by simp at h
 |k::v::l,h,hq=>by
  unfold jY
  rw[if_neg (hq (k,v) List.mem_cons_self)]
  exact Ae (by simp only[List.length_cons]at h;omega) fun q hq'=>hq q (List.mem_cons_of_mem _ hq')
theorem mM : ∀{l:List Tr} {x v:Tr},jY l x=some v→(x,v)∈fU l
 | [],x,v,h=>by unfold jY at h;cases h
 | [_],x,v,h=>by unfold jY at h;cases h
 |a::b::l,x,v,h=>by
  unfold jY at h
  by_cases e:a=x
  ·rw[if_pos e]at h
   injection h with h
   rw[e,h];exact List.mem_cons_self
  ·rw[if_neg e]at h
   exact List.mem_cons_of_mem _ (mM h)
theorem Iu{m:Tr}(hm:eV m=true)(he:m.l.length%2=0){q:Tr×Tr}(hq:q∈fU m.l):eV q.1=true∧eV q.2=true:=
 ⟨iV hm ((sq m.l he q.1).2 ⟨q,hq,.inl rfl⟩),iV hm ((sq m.l he q.2).2 ⟨q,hq,.inr rfl⟩)⟩
theorem LE{u:Tr}{p:Tr}(h:HV p u):jY u.l (I0 2)=none:=Ae (kM h.k2 h.o2) fun q hq=>(h.ex q hq).2
open Classical in
/-- The program accepts what the document accepts. -/
theorem l_{p u:Tr}(h:HV p u):d8 (p,u)=some true:=by
 have ev1:=kM h.k1 h.o1
 have ev2:=kM h.k2 h.o2
 have ln1:=ql h.o1
 have ln2:=ql h.o2
 unfold d8
 have one : ∀(m:Tr),m.k=5→eV m=true→(∀q∈fU m.l,(nE q.1&&mW q.1 q.2 m.l)=true)→
   (bnd (β:=Bool) (letm ((m.k != 5)) fun x7=>cond x7 (some true) (bnd (bX m) fun x8=>letm ((!x8)) fun x9=>some x9)) fun v10=>cond v10 (some (.inl (.inl false))) (bnd (gq m) fun x11=>
    a6 (R:=((Bool⊕Unit)⊕Unit)) (S:=Unit) (α:=az) (fun k12 s13=>some (.inr ())) (fun x14 k15 s16 self17=>bnd (fb x14) fun x18=>letm ((!x18)) fun x19=>cond x19 (some (.inl (.inl false))) (self17 ())) x11 0 ()))=some (Sum.inr ()):=by
  intro m km om hq
  have ev:=kM km om
  refine ac (y:=false) ?_ ?_
  ·rw[aa,km,show((5:Int) != 5)=false from rfl,ay,ko,ae,om];rfl
  ·rw[ay]
   refine ac (A_ ev (by have:=ql om;omega)) ?_
   rw[mr (fun _=>true) (some (Sum.inl (Sum.inl false))) (fU m.l) 0 fun x hx k self=>?_]
   ·rw[show(fU m.l).all (fun _=>true)=true by rw[List.all_eq_true];exact fun _ _=>rfl];rfl
   ·obtain⟨a,b⟩:=x
    rw[An (Iu om ev hx).1 (hq _ hx)];rfl
 refine iF (y:=()) ?_ ?_
 ·rw[bj]
  refine iF (one p h.k1 h.o1 h.pp) ?_
  rw[bj]
  exact iF (one u h.k2 h.o2 h.pu) rfl
 refine iF (y:=()) ?_ ?_
 ·refine ac (A_ (m:=p) ev1 (by omega)) ?_
  rw[mr (fun _=>true) (some (Sum.inl false)) (fU p.l) 0 fun x hx k self=>?_]
  ·rw[show(fU p.l).all (fun _=>true)=true by rw[List.all_eq_true];exact fun _ _=>rfl];rfl
  ·refine ac (lR h.k2 h.o2 (Iu h.o1 ev1 hx).1) ?_
   have hn:jY u.l x.1=none:=by
    refine Ae ev2 fun q hq e=>?_
    have:=(h.ex q hq).1
    rw[e,(CR p.l (jE h.k1 h.o1).2.2 ev1 x.1 x.2).1 hx]at this
    cases this
   rw[hn];rfl
 refine ac (Iy h.k1 h.k2 h.o1 h.o2 5 (by omega)) (ac (Iy h.k1 h.k2 h.o1 h.o2 6 (by omega)) (ac (xc 2 (by omega)) (ac (lR h.k2 h.o2 (Gw _)) ?_)))
 have hu2:jY u.l (I0 (UInt64.ofNat 2))=none:=LE h
 rw[hu2]
 refine ac (y:=false) ?_ ?_
 ·show cond false _ _=_
  rw[ay,jU,jU]
  show cond (oc p u 5).isSome (some (oc p u 6).isSome) (some false)=_
  have:=h.iv
  cases h5:(oc p u 5).isSome with
  |false=>rfl
  |true=>
   cases h6:(oc p u 6).isSome with
   |false=>rfl
   |true=>exact absurd ⟨h5,h6⟩ this
 rw[ay]
 refine ac (xc 2 (by omega)) (ac (lR h.k1 h.o1 (Gw _)) ?_)
 rw[aa,jU]
 show cond (!(jY p.l (I0 2)).isSome) _ _=_
 cases hc:jY p.l (I0 2)with
 |none=>rfl
 |some v=>
  show cond false _ _=_
  rw[ay]
  have hm:=mM hc
  have hv:=h.pp _ hm
  rw[Bool.and_eq_true]at hv
  have hv:=hv.2
  have n1:I0 2≠I0 1:=fun e=>by injection e with _ e;revert e;decide
  unfold mW at hv
  have hv:(v.k==4&&(!v.l.isEmpty&&v.l.all fun x=>(jY p.l x).isSome))=true:=by
   rw[if_neg n1,if_pos rfl]at hv;exact hv
  rw[Bool.and_eq_true,Bool.and_eq_true,List.all_eq_true]at hv
  obtain⟨g1,g2,g3⟩:=hv
  have ov:=(Iu h.o1 ev1 hm).2
  show fI (a6 _ _ v.l 0 ()) _ _=_
  refine iF (y:=()) ?_ ?_
  ·rw[mr (fun _=>true) (some (Sum.inl false)) v.l 0 fun x hx k self=>?_]
   ·rw[show v.l.all (fun _=>true)=true by rw[List.all_eq_true];exact fun _ _=>rfl];rfl
   ·refine ac (lR h.k1 h.o1 (iV ov hx)) ?_
    rw[aa,jU,g3 x hx];rfl
  ·refine ac (y:=true) ?_ rfl
   show(letm (v.k==4) fun x48=>cond x48 (letm (decide (0<(v.l.length:Int))) fun x49=>some x49) (some false))=_
   rw[aa,g1,a7,aa]
   refine congrArg some (decide_eq_true ?_)
   cases hl:v.l with
   |nil=>rw[hl]at g2;cases g2
   |cons a b=>rw[List.length_cons];omega
theorem BL{p u:Tr}(h:HV p u)(ha:oc p u 1=some (I0 30)):jX (p,u)=some 30:=by
 unfold jX nN
 refine ac (y:=(I0 30,true)) ?_ ?_
 ·refine ac (l_ h) ?_
  rw[aa,Bool.not_true,ay]
  refine ac (Iy h.k1 h.k2 h.o1 h.o2 1 (by omega)) ?_
  rw[show UInt64.ofNat 1=1 from rfl,ha];rfl
 ·rfl
theorem vQ{x:Tr}(h:eV x=true):im x=some (aK x,0):=by
 obtain⟨v,c,l⟩:=cR.1 h
 unfold im
 rw[ko,ae,h,aa,Bool.not_true,ay]
 exact ac (qq v (by omega) (by omega)) rfl
noncomputable def jg (p:Tr):List UInt8:=bif p.l.isEmpty then []else aK p
theorem zA{p u:Tr}(h:HV p u):e_ (p,u)=some (jg p,0):=by
 unfold e_ jg
 refine ac (l_ h) ?_
 rw[aa,Bool.not_true,ay,aa]
 show cond ((p.l.length:Int)==0) _ _=_
 rw[ie]
 cases p.l.isEmpty with
 |true=>rfl
 |false=>
  rw[ay]
  exact ac (vQ h.o1) rfl
set_option maxRecDepth 100000
mutual
def xQ:Tr→Nat→Bool
 | .mk k _ _ l,d=>(iE k&&l.isEmpty)||(decide (1≤d)&&G0 l (d-1))
def G0:List Tr→Nat→Bool
 | [],_=>true
 |x::l,d=>xQ x d&&G0 l d
end
theorem mZ(k n b l d):xQ (.mk k n b l) d=((iE k&&l.isEmpty)||(decide (1≤d)&&G0 l (d-1))):=by unfold xQ;rfl
theorem AP(d):G0 [] d=true:=by unfold G0;rfl
theorem sL(x l d):G0 (x::l) d=(xQ x d&&G0 l d):=by rw[G0]
theorem H_{l:List Tr}{d:Nat}(h : ∀y∈l,xQ y d=true):G0 l d=true:=by
 induction l with
 |nil=>exact AP d
 |cons x l ih=>rw[sL,h x (by simp),ih fun y hy=>h y (by simp[hy])];rfl
mutual
theorem Bj:(x:Tr)→(d e:Nat)→d≤e→xQ x d=true→xQ x e=true
 | .mk k n b l,d,e,hde,h=>by
  rw[mZ]at h⊢
  rw[Bool.or_eq_true]at h⊢
  rcases h with h |h
  ·exact .inl h
  ·refine .inr ?_
   rw[Bool.and_eq_true,decide_eq_true_eq]at h⊢
   exact⟨by omega,BO l (d-1) (e-1) (by omega) h.2⟩
theorem BO:(l:List Tr)→(d e:Nat)→d≤e→G0 l d=true→G0 l e=true
 | [],_,e,_,_=>AP e
 |x::l,d,e,hde,h=>by
  rw[sL,Bool.and_eq_true]at h⊢
  exact⟨Bj x d e hde h.1,BO l d e hde h.2⟩
end
mutual
theorem II:(x:Tr)→(d e:Nat)→vT x e=true→xQ x d=true→vT x d=true
 | .mk k n b l,d,e,h,hl=>by
  rw[mZ,Bool.or_eq_true]at hl
  rw[qn,Bool.or_eq_true]at h⊢
  rcases h with h |h
  ·exact .inl h
  ·refine .inr ?_
   rw[Bool.and_eq_true,Bool.and_eq_true]at h⊢
   have h1:=h.1.1
   have hbx:=h1
   unfold A7 at hbx
   simp only[Bool.and_eq_true,Bool.or_eq_true,beq_iff_eq,decide_eq_true_eq]at hbx
   have hnl:iE k=false:=by
    unfold iE
    rcases hbx.1.1.1.1 with(rfl |rfl) |rfl<;>rfl
   rcases hl with hl |hl
   ·rw[hnl]at hl;cases hl
   ·rw[Bool.and_eq_true,decide_eq_true_eq]at hl
    refine⟨⟨?_,No l (d-1) (e-1) h.1.2 hl.2⟩,h.2⟩
    unfold A7 at h1⊢
    simp only[Bool.and_eq_true,decide_eq_true_eq]at h1⊢
    exact⟨⟨⟨⟨h1.1.1.1.1,hl.1⟩,h1.1.1.2⟩,h1.1.2⟩,h1.2⟩
theorem No:(l:List Tr)→(d e:Nat)→vL l e=true→G0 l d=true→vL l d=true
 | [],d,_,_,_=>kg d
 |x::l,d,e,h,hl=>by
  rw[fk,Bool.and_eq_true]at h⊢
  rw[sL,Bool.and_eq_true]at hl
  exact⟨II x d e h.1 hl.1,No l d e h.2 hl.2⟩
end
structure IB(d c n:Nat)(x:Tr):Prop where
 lv:xQ x d=true
 cnt:bU x≤c
 len:(aK x).length≤n
theorem IB.leaf{k:Int}{n:UInt64}{b:List UInt8}(hk:iE k=true)(hb:b.length≤32)(d:Nat):IB d 1 41 (Tr.mk k n b []):=
 ⟨by rw[mZ,hk];rfl,by rw[dz];omega,by rw[dd];have:=(cM k n b 0).2;omega⟩
theorem IB.up{d e c c' n n':Nat}{x:Tr}(h:IB d c n x)(h1:d≤e)(h2:c≤c')(h3:n≤n'):IB e c' n' x:=⟨Bj x d e h1 h.lv,by have:=h.cnt;omega,by have:=h.len;omega⟩
theorem QF{c n:Nat}: ∀{l:List Tr},(∀y∈l,bU y≤c∧(aK y).length≤n)→cV l≤l.length*c∧(cU l).length≤l.length*n
 | [],_=>⟨by rw[cN];omega,by rw[bB];simp⟩
 |x::l,h=>by
  have h1:=h x (by simp)
  have h2:=QF (l:=l) fun y hy=>h y (by simp[hy])
  rw[bf,aX,List.length_append,List.length_cons,Nat.succ_mul,Nat.succ_mul]
  omega
theorem IB.box{k:Int}{n:UInt64}{l:List Tr}(hl:l.length≤6)(h : ∀y∈l,IB 0 1 41 y):IB 1 7 255 (Tr.mk k n [] l):=by
 have hs:=QF (c:=1) (n:=41) (l:=l) fun y hy=>⟨(h y hy).cnt,(h y hy).len⟩
 have ho:=cM k n [] l.length
 refine⟨?_,?_,?_⟩
 ·rw[mZ,Bool.or_eq_true]
  refine .inr ?_
  rw[Bool.and_eq_true]
  exact⟨rfl,H_ fun y hy=>(h y hy).lv⟩
 ·rw[fP];omega
 ·rw[fM,List.length_append]
  rw[List.length_nil]at ho
  omega
def Nj(k:Nat)(x:Tr):Prop:=(k=0→IB 0 1 41 x)∧IB 1 7 255 x
theorem Nj.leaf{k:Nat}{kk:Int}{n:UInt64}{b:List UInt8}(hk:iE kk=true)(hb:b.length≤32):Nj k (Tr.mk kk n b []):=⟨fun _=>IB.leaf hk hb 0,(IB.leaf hk hb 1).up (by omega) (by omega) (by omega)⟩
theorem HG(x n:UInt64): ∃y,@Eq (Option UInt64) (c_ .u64 x (UInt64.toNat n:Int)) (some y):=⟨_,(show pC x ((UInt64.toNat n:Nat):Int)=_ by unfold pC;rw[if_neg (by omega)])⟩
theorem tI(x n:UInt64): ∃y,@Eq (Option UInt64) (et .u64 x (UInt64.toNat n:Int)) (some y):=pX x n
theorem Au(x:Int)(n:UInt64): ∃y,Gk.shl x (UInt64.toNat n:Int)=some y:=⟨_,(by unfold Gk.shl;rw[if_neg (by omega)])⟩
theorem Hg(x17:UInt64): ∃r,bo (R:=Int) (S:=Int) (fun self36 s35=>
  letm ((aF (s35+1))) fun x37=>
  letm ((aC x37)) fun x38=>
  bnd ((c_ .u64 (x17:UInt64) (UInt64.toNat x38:Int):Option UInt64)) fun(x39:UInt64)=>
  letm (decide ((UInt64.toNat 0:Int)<(UInt64.toNat x39:Int))) fun x40=>
  cond x40 (letm ((aF (s35+1))) fun x41=>
  self36 x41)
   (some s35)) cS 0=some r:=by
 have h:=kD (R:=Int) (S:=Int) (b:=fun self36 s35=>
  letm ((aF (s35+1))) fun x37=>
  letm ((aC x37)) fun x38=>
  bnd ((c_ .u64 (x17:UInt64) (UInt64.toNat x38:Int):Option UInt64)) fun(x39:UInt64)=>
  letm (decide ((UInt64.toNat 0:Int)<(UInt64.toNat x39:Int))) fun x40=>
  cond x40 (letm ((aF (s35+1))) fun x41=>
  self36 x41)
   (some s35)) (fun n s=>∃k:Nat,s=(k:Int)∧n+k=64) (fun _=>True) (fun n s self hI ih=>by
   obtain⟨k,rfl,hk⟩:=hI
   have hx:=x17.toNat_lt
   rw[aa,aa,ap (by omega) (by omega),show((k:Nat):Int)+1=((k+1:Nat):Int) by omega,gD (by omega)]
   by_cases hk2:k+1≤64
   ·rw[show((((k+1:Nat):Int):Int))=((k+1:Nat):Int)from rfl]
    refine jo (fun y=>y=UInt64.ofNat (x17.toNat/2^(k+1))) ⟨_,n_ _ _ hk2,rfl⟩ fun y hy=>?_
    refine iG (gJ (fun _=>iG ?_) (fun _=>⟨_,rfl,trivial⟩))
    exact ih (n-1) _ (by omega) ⟨k+1,rfl,by omega⟩
   ·have hk3:k=64:=by omega
    subst hk3
    refine jo (fun y=>y=UInt64.ofNat 0) ⟨_,?_,rfl⟩ fun y hy=>?_
    ·show pC x17 _=_
     unfold pC
     rw[if_neg (by omega),show min (((64+1:Nat):Int).toNat) 64=64 from rfl]
     exact congrArg (fun z=>some (UInt64.ofNat z)) (Nat.div_eq_of_lt (by simpa using hx))
    ·subst hy
     refine iG (gJ (fun h=>?_) (fun _=>⟨_,rfl,trivial⟩))
     exact absurd h (by decide)) cS 64 0 (by rw[dU];omega) ⟨0,rfl,rfl⟩
 obtain⟨r,hr,_⟩:=h
 exact⟨r,hr⟩
theorem Cn(a0:UInt64)(a1 a2:Int): ∃y,dZ a0 a1 a2=some y:=by
 unfold dZ
 refine fy (fy (kT (HG _ _) fun x5=>kT (tI _ _) fun x6=>fy (kT (HG _ _) fun x8=>fy (fy (kT (Au _ _) fun x11=>fy (fy (fy (kT (tI _ _) fun x15=>fy (fy (fy (kT (Au _ _) fun x19=>fy (fy (fy (kT (Au _ _) fun x23=>fy (fy ?_)))))))))))))))
 refine rU (fun _=>fy (fy (fy (kT (tI _ _) fun _=>fy (qT _))))) (fun _=>?_)
 refine kT ?_ fun v33=>rU (fun _=>qT _) (fun _=>?_)
 ·exact fy (rU (fun _=>fy (qT _)) (fun _=>qT _))
 refine fy (rU (fun _=>?_) (fun _=>?_))
 ·refine kT ?_ fun v42=>fy (fy (fy (fy (fy (kT (tI _ _) fun _=>fy (fy (fy (kT (tI _ _) fun _=>fy (fy (qT _))))))))))
  exact Hg _
 ·exact fy (fy (fy (kT (tI _ _) fun _=>fy (fy (fy (kT (tI _ _) fun _=>fy (qT _)))))))
theorem zm{d:ab}(h:bt d): ∃r,cT d=some r∧bt r.2:=by
 unfold cT
 obtain⟨v,d1,e1,v0,v1,h1⟩:=bI h (n:=6) (by omega) (by omega)
 rw[e1,ae]
 refine iG (gJ (fun _=>?_) (fun _=>iG (gJ (fun _=>?_) (fun _=>?_))))
 ·obtain⟨v2,d2,e2,w0,w1,h2⟩:=bI h1 (n:=9) (by omega) (by omega)
  show ∃r,bnd (ah d1 9) _=some r∧_
  rw[e2,ae]
  obtain⟨x,hx,_⟩:=qM [(23:UInt64),24,255,256,65535,65536,4294967295,4294967296,18446744073709551615] w0 w1
  exact⟨(x,d2),ac hx rfl,h2⟩
 ·obtain⟨v2,d2,e2,w0,w1,h2⟩:=bI h1 (n:=1073741824) (by omega) (by omega)
  show ∃r,bnd (ah d1 1073741824) _=some r∧_
  rw[e2,ae]
  exact⟨(aC v2,d2),rfl,h2⟩
 ·obtain⟨v2,d2,e2,w0,w1,h2⟩:=bI h1 (n:=30) (by omega) (by omega)
  show ∃r,bnd (ah d1 30) _=some r∧_
  rw[e2,ae]
  exact⟨(aC v2,d2),rfl,h2⟩
theorem G9{d:ab}(h:bt d): ∃r,aH d 30=some r∧r.1.length≤30∧bt r.2:=by
 unfold aH
 obtain⟨v,d1,e1,v0,v1,h1⟩:=bI h (n:=31) (by omega) (by omega)
 rw[aa,show aF (30+1)=31 from rfl,e1,ae]
 refine kD (S:=List UInt8×(Int×ab)) (R:=List UInt8×ab) (fun n s=>(s.2.1=(n:Int))∧s.1.length+n≤30∧bt s.2.2) (fun r=>r.1.length≤30∧bt r.2) (fun n s self hI ih=>?_) cS v.toNat _ (by rw[dU];omega) ⟨by show v=_;omega,by rw[List.length_nil];omega,h1⟩
 obtain⟨i1,i2,i3⟩:=hI
 refine iG (gJ (fun hc=>?_) (fun hc=>⟨_,rfl,(show s.1.length≤30 by omega),i3⟩))
 rw[decide_eq_true_eq]at hc
 obtain⟨v2,d2,e2,w0,w1,h2⟩:=bI i3 (n:=256) (by omega) (by omega)
 rw[e2,ae,aa,aD (by simp only[List.length_cons,List.length_nil];omega),ae,aa,ap (by omega) (by omega)]
 exact ih (n-1) _ (by omega) ⟨by show s.2.1-1=_;omega,by rw[List.length_append];simp only[List.length_cons,List.length_nil];omega,h2⟩
theorem Ly{d:ab}(h:bt d): ∃r,ef d 8=some r∧r.1.length≤24∧bt r.2:=by
 unfold ef
 obtain⟨v,d1,e1,v0,v1,h1⟩:=bI h (n:=9) (by omega) (by omega)
 rw[aa,show aF (8+1)=9 from rfl,e1,ae]
 refine kD (S:=List UInt8×(Int×ab)) (R:=List UInt8×ab) (fun n s=>(s.2.1=(n:Int))∧s.1.length+3*n≤24∧bt s.2.2) (fun r=>r.1.length≤24∧bt r.2) (fun n s self hI ih=>?_) cS v.toNat _ (by rw[dU];omega) ⟨by show v=_;omega,by rw[List.length_nil];omega,h1⟩
 obtain⟨i1,i2,i3⟩:=hI
 refine iG (gJ (fun hc=>?_) (fun hc=>⟨_,rfl,(show s.1.length≤24 by omega),i3⟩))
 rw[decide_eq_true_eq]at hc
 obtain⟨v2,d2,e2,w0,w1,h2⟩:=bI i3 (n:=10) (by omega) (by omega)
 rw[e2,ae]
 obtain⟨x,hx,hm⟩:=qM [([97]:List UInt8),[98],[47],[34],[92],[10],[127],[37],[195,169],[226,130,172]] w0 w1
 have hxl:x.length≤3:=by
  simp only[List.mem_cons,List.not_mem_nil,or_false]at hm
  rcases hm with rfl |rfl |rfl |rfl |rfl |rfl |rfl |rfl |rfl |rfl<;>simp
 refine jo (fun y=>y=x) ⟨x,hx,rfl⟩ fun y hy=>?_
 subst hy
 rw[aD (by omega),ae,aa,ap (by omega) (by omega)]
 exact ih (n-1) _ (by omega) ⟨by show s.2.1-1=_;omega,by rw[List.length_append];omega,h2⟩
theorem JC{d:ab}(h:bt d): ∃r,dR d=some r∧bt r.2:=by
 unfold dR
 obtain⟨v,d1,e1,v0,v1,h1⟩:=bI h (n:=1073741824) (by omega) (by omega)
 rw[e1,ae,aa]
 obtain⟨v2,d2,e2,w0,w1,h2⟩:=bI h1 (n:=5) (by omega) (by omega)
 show ∃r,bnd (ah d1 5) _=some r∧_
 rw[e2,ae]
 refine iG (gJ (fun _=>?_) (fun _=>iG (gJ (fun _=>?_) (fun _=>iG (gJ (fun _=>?_) (fun _=>?_))))))
 ·obtain⟨y,hy⟩:=HG (aC v) 14
  refine iG (jo (fun _=>True) ⟨y,hy,trivial⟩ fun x6 _=>iG (iG ?_))
  obtain⟨z,hz⟩:=Cn (aU .or .u64 (aU .and .u64 (aC v) (31743:UInt64)) (aU .and .u64 x6 (32768:UInt64))) 5 10
  exact⟨(z,d2),ac hz rfl,h2⟩
 ·refine iG ?_
  obtain⟨z,hz⟩:=Cn (aU .and .u64 (aC v) (2139095039:UInt64)) 8 23
  exact⟨(z,d2),ac hz rfl,h2⟩
 ·obtain⟨v3,d3,e3,z0,z1,h3⟩:=bI h2 (n:=7) (by omega) (by omega)
  show ∃r,bnd (ah d2 7) _=some r∧_
  rw[e3,ae]
  obtain⟨x,hx,_⟩:=qM [(9221120237041090560:UInt64),9218868437227405312,18442240474082181120,9223372036854775808,0,1,4609434218613702656] z0 z1
  exact⟨(x,d3),ac hx rfl,h3⟩
 ·obtain⟨y,hy⟩:=tI (aC v) 34
  refine jo (fun _=>True) ⟨y,hy,trivial⟩ fun x16 _=>?_
  obtain⟨v3,d3,e3,z0,z1,h3⟩:=bI h2 (n:=1073741824) (by omega) (by omega)
  show ∃r,bnd (ah d2 1073741824) _=some r∧_
  rw[e3,ae,aa]
  obtain⟨y2,hy2⟩:=tI (aC v3) 4
  refine jo (fun _=>True) ⟨y2,hy2,trivial⟩ fun x19 _=>iG ?_
  refine jo (fun _=>True) ⟨_,wP _,trivial⟩ fun x21 _=>?_
  exact gJ (fun _=>⟨_,rfl,h3⟩) (fun _=>⟨_,rfl,h3⟩)
theorem AQ{b:List UInt8}(h:b.length≤100):dX b=some (Tr.mk 2 0 b [])∧gf b=some (Tr.mk 3 0 b []):=by
 unfold dX gf
 rw[aD (by simp;omega),ae,ae]
 exact⟨rfl,rfl⟩
theorem Jd(x:Tr):dI x=some (if eV x=true then x else Tr.mk 0 0 [] []):=by
 unfold dI
 rw[lQ,ae,aa]
 cases eV x<;>rfl
theorem za{k:Int}{n:UInt64}{l:List Tr}(hl:l.length≤6)(h : ∀y∈l,IB 0 1 41 y): ∃u,dI (Tr.mk k n [] l)=some u∧IB 1 7 255 u:=by
 refine⟨_,Jd _,?_⟩
 split
 ·exact IB.box hl h
 ·exact(IB.leaf rfl (by simp) 1).up (by omega) (by omega) (by omega)
theorem yP(rec:ab→Int→Option (Tr×ab))(k:Nat)(hk:k≤1)(hr:1≤k→∀d,bt d→∃r,rec d ((k-1:Nat):Int)=some r∧bt r.2∧IB 0 1 41 r.1)(d:ab)(h:bt d): ∃r,er rec d (k:Int)=some r∧bt r.2∧Nj k r.1:=by
 unfold er
 obtain⟨v,d1,e1,v0,v1,h1⟩:=bI h (n:=9) (by omega) (by omega)
 rw[e1,ae]
 refine jo (fun w=>k=0→w=0∨w=1∨w=2∨w=3∨w=7∨w=8) ?_ fun v7 hv7=>?_
 ·rw[aa,aa,aa,iz,iz,ae]
  refine gJ (fun _=>⟨0,rfl,fun _=>.inl rfl⟩) (fun hc=>⟨v,rfl,fun hk0=>?_⟩)
  subst hk0
  have hc:(true&&(decide (4≤v)&&decide (v≤6)))=false:=hc
  rw[Bool.true_and,←Bool.not_eq_true,Bool.and_eq_true,decide_eq_true_eq,decide_eq_true_eq]at hc
  omega
 refine jo (fun b=>b=(v7==0||v7==1)) ⟨_,(show _=some (v7==0||v7==1) by rw[aa,aa,oQ]),rfl⟩ fun v10 h10=>?_
 have hw:1≤k→aF ((k:Int)-1)=((k-1:Nat):Int):=fun h=>by rw[ap (by omega) (by omega)];omega
 refine gJ (fun hl1=>?_) (fun _=>iG (gJ (fun _=>?_) (fun _=>iG (gJ (fun _=>?_) (fun _=>iG (gJ (fun h6=>?_) (fun _=>iG (gJ (fun hl7=>?_) (fun _=>iG (gJ (fun hl8=>?_) (fun _=>?_)))))))))))
 ·obtain⟨r,hr1,h2⟩:=zm h1
  refine⟨_,ac hr1 rfl,h2,Nj.leaf ?_ (by simp)⟩
  rw[h10]at hl1
  unfold iE;rw[hl1];rfl
 ·obtain⟨r,hr1,hl,h2⟩:=G9 h1
  exact⟨_,ac hr1 (ac (AQ (by omega)).1 rfl),h2,Nj.leaf rfl (by omega)⟩
 ·obtain⟨r,hr1,hl,h2⟩:=Ly h1
  exact⟨_,ac hr1 (ac (AQ (by omega)).2 rfl),h2,Nj.leaf rfl (by omega)⟩
 ·have hk1:1≤k:=by
   rw[beq_iff_eq]at h6
   rcases Nat.eq_zero_or_pos k with hk0 |hk0
   ·have:=hv7 hk0;omega
   ·exact hk0
  obtain⟨r,hr1,h2⟩:=zm h1
  refine jo (fun y=>bt y.2) ⟨r,hr1,h2⟩ fun y hy=>iG ?_
  rw[hw hk1]
  refine jo (fun y=>bt y.2∧IB 0 1 41 y.1) (hr hk1 _ hy) fun z hz=>?_
  obtain⟨u,hu,hb⟩:=za (k:=v7) (n:=y.1) (l:=[z.1]) (by simp) (fun y hy=>by rw[List.mem_singleton.1 hy];exact hz.2)
  exact⟨_,ac hu rfl,hz.1,(fun h=>absurd h (by omega)),hb⟩
 ·obtain⟨v2,d2,e2,w0,w1,h2⟩:=bI h1 (n:=8) (by omega) (by omega)
  show ∃r,bnd (ah d1 8) _=some r∧_
  rw[e2,ae]
  obtain⟨x,hx,_⟩:=qM [(20:UInt64),21,22,23,0,19,32,255] w0 w1
  exact⟨_,ac hx rfl,h2,Nj.leaf (by unfold iE;rw[hl7];simp) (by simp)⟩
 ·obtain⟨r,hr1,h2⟩:=JC h1
  exact⟨_,ac hr1 rfl,h2,Nj.leaf (by unfold iE;rw[hl8];simp) (by simp)⟩
 rename_i g0 g2 g3 g6 g7 g8
 have hk1:1≤k:=by
  rcases Nat.eq_zero_or_pos k with hk0 |hk0
  ·have:=hv7 (by omega)
   rw[g0]at h10
   rw[←Bool.not_eq_true,beq_iff_eq]at g2 g3 g7 g8
   have h10:=h10.symm
   rw[←Bool.not_eq_true,Bool.or_eq_true,beq_iff_eq,beq_iff_eq]at h10
   omega
  ·exact hk0
 refine jo (fun r=>r.1.length≤6∧bt r.2∧∀y∈r.1,IB 0 1 41 y) ?_ fun v41 hv41=>?_
 ·obtain⟨v2,d2,e2,w0,w1,h2⟩:=bI h1 (n:=4) (by omega) (by omega)
  show ∃r,bnd (ah d1 4) _=some r∧_
  rw[e2,ae]
  refine kD (S:=List Tr×(Int×ab)) (R:=List Tr×ab) (fun n s=>s.2.1=(n:Int)∧s.1.length+2*n≤6∧bt s.2.2∧∀y∈s.1,IB 0 1 41 y) (fun r=>r.1.length≤6∧bt r.2∧∀y∈r.1,IB 0 1 41 y) (fun n s self hI ih=>?_) cS v2.toNat _ (by rw[dU];omega) ⟨by show v2=_;omega,by rw[List.length_nil];omega,h2,fun y hy=>by cases hy⟩
  obtain⟨i1,i2,i3,i4⟩:=hI
  refine iG (gJ (fun hc=>?_) (fun hc=>⟨_,rfl,(show s.1.length≤6 by omega),i3,i4⟩))
  rw[decide_eq_true_eq]at hc
  refine jo (fun r=>r.1.length≤s.1.length+2∧bt r.2∧∀y∈r.1,IB 0 1 41 y) ?_ fun v39 hv39=>?_
  ·rw[aa,hw hk1]
   refine jo (fun y=>bt y.2∧IB 0 1 41 y.1) (hr hk1 _ i3) fun z hz=>?_
   rw[aD (by simp only[List.length_cons,List.length_nil];omega),ae]
   refine iG (gJ (fun _=>?_) (fun _=>⟨_,rfl,(by rw[List.length_append];simp only[List.length_cons,List.length_nil];omega),hz.1,fun y hy=>by
     rcases List.mem_append.1 hy with hy |hy
     ·exact i4 y hy
     ·rw[List.mem_singleton.1 hy];exact hz.2⟩))
   rw[aa]
   refine jo (fun y=>bt y.2∧IB 0 1 41 y.1) (hr hk1 _ hz.1) fun z2 hz2=>?_
   rw[aD (by rw[List.length_append];simp only[List.length_cons,List.length_nil];omega),ae]
   exact⟨_,rfl,(by rw[List.length_append,List.length_append];simp only[List.length_cons,List.length_nil];omega),hz2.1,fun y hy=>by
     rcases List.mem_append.1 hy with hy |hy
     ·rcases List.mem_append.1 hy with hy |hy
      ·exact i4 y hy
      ·rw[List.mem_singleton.1 hy];exact hz.2
     ·rw[List.mem_singleton.1 hy];exact hz2.2⟩
  ·rw[aa,ap (by omega) (by omega)]
   exact ih (n-1) _ (by omega) ⟨by show s.2.1-1=_;omega,by show v39.1.length+_≤_;omega,hv39.2.1,hv39.2.2⟩
 ·refine iG (gJ (fun _=>?_) (fun _=>?_))
  ·obtain⟨u,hu,hb⟩:=za (k:=v7) (n:=0) (l:=v41.1) hv41.1 hv41.2.2
   exact⟨_,ac hu rfl,hv41.2.1,(fun h=>absurd h (by omega)),hb⟩
  ·obtain⟨u,hu,hb⟩:=xE v41.1 (by omega)
   refine jo (fun y=>y=u) ⟨u,hu,rfl⟩ fun y hy=>iG (gJ (fun _=>⟨_,rfl,hv41.2.1,(fun h=>absurd h (by omega)),IB.box (l:=[]) (by simp) (fun y hy=>by cases hy)⟩) (fun h0=>⟨_,rfl,hv41.2.1,(fun h=>absurd h (by omega)),?_⟩))
   subst hy
   rw[bne_eq_false_iff_eq]at h0
   obtain⟨l,e1,_,e3,_⟩:=hb h0
   show IB 1 7 255 y.1
   rw[e1]
   have hlen:l.length=v41.1.length:=by
    have a1:=e3.p.length_eq
    have a2 : ∀l:List Tr,l.length%2=0→l.length=2*(fU l).length:=by
     intro l
     induction l using fU.induct with
     |case1 k v r ih=>intro h;have:=ih (by simp only[List.length_cons]at h;omega);show(k::v::r).length=2*((k,v)::fU r).length;simp only[List.length_cons];omega
     |case2 l hne=>
      intro h
      match l,h,hne with
      | [],_,_=>rfl
      | [_],h,_=>simp at h
      |a::b::r,_,hne=>exact absurd rfl (hne a b r)
    rw[a2 l e3.e,a2 v41.1 e3.e2,a1]
   exact IB.box (by omega) fun y hy=>hv41.2.2 y (e3.mem.1 hy)
theorem Q0{d:ab}(h:bt d)(j:Nat): ∃r,cE (j+1) d 0=some r∧bt r.2∧IB 0 1 41 r.1:=by
 obtain⟨r,h1,h2,h3⟩:=yP (cE j) 0 (by omega) (fun h=>absurd h (by omega)) d h
 exact⟨r,h1,h2,h3.1 rfl⟩
theorem Qo{d:ab}(h:bt d): ∃r,bY d 1=some r∧bt r.2∧IB 1 7 255 r.1:=by
 obtain⟨r,h1,h2,h3⟩:=yP (cE 39) 1 (by omega) (fun _ d hd=>Q0 hd 38) d h
 exact⟨r,h1,h2,h3.2⟩
end Go.Proofs.YthejfljhiaeoeaaGreatDoor
