/- A part of the proof of TopKeys. No condition. -/
import Derived.Test.YtiilbonamnegaaaGreatDoorZl
namespace Go.Proofs.YtiilbonamnegaaaGreatDoor
open Go.Gk Go.RowKit
set_option maxRecDepth 100000
theorem Fn{m x:Tr}(hm:eU m=true)(hx:eU x=true):bO m x=some (H' (kA m.l x)):=by
 have:=pU hm
 obtain⟨K,N,bb,l⟩:=m
 exact wt (l:=l) (fun y hy=>jE hm hy) (by have h:l.length≤256:=this;omega) hx
theorem GG{p u x:Tr}{n:Int}(hn:ay n=some x)(ox:eU x=true)(hp:eU p=true)(hu:eU u=true): ∃r,cR (p,u) n=some r∧(r.2=false→kA p.l x=none∧kA u.l x=none):=by
 unfold cR
 rw[hn,ae]
 have e1:bO (p,u).1 x=some (H' (kA p.l x)):=Fn hp ox
 have e2:bO (p,u).2 x=some (H' (kA u.l x)):=Fn hu ox
 rw[e1,ae,kz]
 cases kA p.l x with
 |some v=>exact⟨_,rfl,fun h=>by cases h⟩
 |none=>
  show ∃r,cond false _ _=some r∧_
  rw[aw,ae,e2,ae]
  cases kA u.l x with
  |some v=>exact⟨_,rfl,fun h=>by cases h⟩
  |none=>exact⟨_,rfl,fun _=>⟨rfl,rfl⟩⟩
structure HS(c n:Nat)(p u:Tr):Prop where
 hv:HV p u
 alg:kA p.l (I0 1)=some (I0 5)∨kA u.l (I0 1)=some (I0 5)
 cnt:dz p.l+dz u.l≤c
 len:(co p.l).length+(co u.l).length≤n
 dp : ∀y∈p.l,yE y 1=true
 du : ∀y∈u.l,yE y 1=true
theorem QY{l m:Tr}(hl:l.k=5)(ol:eU l=true){q:List Tr}(h:PP l.l q){k v:Tr}(hq:(k,v)∈fS q):kA l.l k=some v:=by
 obtain⟨_,h2,h3⟩:=ji hl ol
 exact(ES l.l h3 h2 k v).1 (h.p.mem_iff.2 hq)
theorem yA{c n cv nv:Nat}{p u x v:Tr}{z:Int}(h:HS c n p u)(hc:c+1+cv≤90)(hz:ay z=some x)(ox:eU x=true)(lx:yE x 1=true)(cx:cD x≤1)(nx:(aG x).length≤9)(hv:IB 1 cv nv v)(b:Bool):
  ∃r,bZ (p,u) b z v=some r∧(r.2=0→HS (c+1+cv) (n+9+nv) r.1.1 r.1.2):=by
 have hval:QG p u=true∨True:=.inr trivial
 unfold bZ
 refine gh (fun w=>w=false→eU v=true) ?_ fun w hw=>?_
 ·rw[qK,ae,ab]
  refine dt (fun _=>⟨true,rfl,fun h=>by cases h⟩) (fun _=>?_)
  rw[mo,ae,ab]
  exact⟨_,rfl,fun h=>by simpa using h⟩
 refine dt (fun _=>⟨_,rfl,fun h=>absurd h (by decide)⟩) (fun hw0=>?_)
 have ov:=hw hw0
 obtain⟨r,hr,hrn⟩:=GG hz ox h.hv.o1 h.hv.o2
 rw[hr,ae]
 refine dt (fun _=>⟨_,rfl,fun h=>absurd h (by decide)⟩) (fun hr0=>?_)
 obtain⟨na,nb⟩:=hrn hr0
 have hcp:gz (p,u)=some (p,u):=by
  unfold gz
  refine ac (Lc h.hv.o1) (ac (Lc h.hv.o2) rfl)
 rw[hcp,ae]
 obtain⟨t,ht⟩ : ∃t,t=bif b then p else u:=⟨_,rfl⟩
 have hsel:(cond b (some (p,u).1) (some (p,u).2):Option Tr)=some t:=by rw[ht];cases b<;>rfl
 rw[hsel,ae]
 have tk:t.k=5:=by rw[ht];cases b;exact h.hv.k2;exact h.hv.k1
 have to:eU t=true:=by rw[ht];cases b;exact h.hv.o2;exact h.hv.o1
 have tev:=lj tk to
 have tl:t.l.length≤90:=by
  have a1:=dA p.l
  have a2:=dA u.l
  have a3:=h.cnt
  rw[ht];cases b
  ·show u.l.length≤90;omega
  ·show p.l.length≤90;omega
 rw[aF (by rw[List.length_nil];omega),ae,List.nil_append,hz,ae,aF (by simp only[List.length_cons,List.length_nil];omega),ae]
 obtain⟨q,hq,hqs⟩:=xv (t.l ++ [x,v]) (by simp only[List.length_append,List.length_cons,List.length_nil];omega)
 rw[hq,ae,ab]
 refine dt (fun _=>⟨_,rfl,fun h=>absurd h (by decide)⟩) (fun hq0=>?_)
 rw[bne_eq_false_iff_eq]at hq0
 obtain⟨l,e1,e2,e3,e4⟩:=hqs hq0
 obtain⟨m,hm⟩ : ∃m,m=q.1:=⟨_,rfl⟩
 rw[←hm]at e1 e2⊢
 have hml:m.l=l:=by rw[e1];rfl
 have hmk:m.k=5:=by rw[e1];rfl
 rw[←hml]at e3
 obtain⟨p',hp'⟩ : ∃p',p'=bif b then m else p:=⟨_,rfl⟩
 obtain⟨u',hu'⟩ : ∃u',u'=bif b then u else m:=⟨_,rfl⟩
 have hsel2:(cond b (some (m,(p,u).2)) (some ((p,u).1,m)):Option ax)=some (p',u'):=by rw[hp',hu'];cases b<;>rfl
 rw[hsel2,ae,qK,ae,ab]
 refine dt (fun _=>⟨_,rfl,fun h=>absurd h (by decide)⟩) (fun hv'=>?_)
 refine⟨_,rfl,fun _=>?_⟩
 have HV':HV p' u':=EN (by simpa using hv')
 have ccl : ∀(a b:List Tr),dz (a++b)=dz a+dz b:=by
  intro a b
  induction a with
  |nil=>rw[cU,List.nil_append];omega
  |cons y a ih=>rw[List.cons_append,bC,bC,ih];omega
 have ecl : ∀(a b:List Tr),(co (a++b)).length=(co a).length+(co b).length:=by
  intro a b
  induction a with
  |nil=>rw[bP,List.nil_append,List.length_nil];omega
  |cons y a ih=>rw[List.cons_append,bh,bh,List.length_append,List.length_append,ih];omega
 have mcnt:dz m.l≤dz t.l+1+cv:=by
  rw[e3.cnt,ccl,bC,bC,cU]
  have:=hv.cnt;omega
 have mlen:(co m.l).length≤(co t.l).length+9+nv:=by
  rw[e3.len,ecl,bh,bh,bP,List.length_append,List.length_append,List.length_nil]
  have:=hv.len;omega
 have tdep : ∀y∈t.l,yE y 1=true:=by
  intro y hy
  rw[ht]at hy
  cases b
  ·exact h.du y hy
  ·exact h.dp y hy
 have mdep : ∀y∈m.l,yE y 1=true:=by
  intro y hy
  have:=e3.mem.1 hy
  rcases List.mem_append.1 this with hy |hy
  ·exact tdep y hy
  ·simp only[List.mem_cons,List.not_mem_nil,or_false]at hy
   rcases hy with rfl |rfl
   ·exact lx
   ·exact hv.lv
 have hprs:fS (t.l ++ [x,v])=fS t.l ++ [(x,v)]:=ua t.l [x,v] tev
 have keep:kA t.l (I0 1)=some (I0 5)→kA m.l (I0 1)=some (I0 5):=fun ha=>by
  refine QY (m:=m) hmk e2 e3 ?_
  rw[hprs]
  exact List.mem_append_left _ (nG ha)
 have hcnt:=h.cnt
 have hlen:=h.len
 refine⟨HV',?_,?_,?_,?_,?_⟩
 ·rw[hp',hu']
  rcases h.alg with ha |ha
  ·cases b
   ·exact .inl ha
   ·refine .inl (keep ?_);rw[ht];exact ha
  ·cases b
   ·refine .inr (keep ?_);rw[ht];exact ha
   ·exact .inr ha
 ·rw[ht]at mcnt
  show dz p'.l+dz u'.l≤_
  rw[hp',hu']
  cases b
  ·simp only[cond_false]at mcnt⊢;omega
  ·simp only[cond_true]at mcnt⊢;omega
 ·rw[ht]at mlen
  show(co p'.l).length+(co u'.l).length≤_
  rw[hp',hu']
  cases b
  ·simp only[cond_false]at mlen⊢;omega
  ·simp only[cond_true]at mlen⊢;omega
 ·show ∀y∈p'.l,_
  rw[hp'];cases b
  ·exact h.dp
  ·exact mdep
 ·show ∀y∈u'.l,_
  rw[hu'];cases b
  ·exact mdep
  ·exact h.du
theorem HS.up{c n c' n':Nat}{p u:Tr}(h:HS c n p u)(h1:c≤c')(h2:n≤n'):HS c' n' p u:=⟨h.hv,h.alg,by have:=h.cnt;omega,by have:=h.len;omega,h.dp,h.du⟩
theorem mE(n:UInt64):yE (I0 n) 1=true∧cD (I0 n)≤1∧(aG (I0 n)).length≤9:=by
 have hl:=jb 0 n
 refine⟨?_,?_,?_⟩
 ·unfold I0;rw[nS];rfl
 ·unfold I0;rw[dD];omega
 ·unfold I0;rw[cV,own0];omega
theorem G5(b:Bool): ∃p u,bZ (Tr.mk 5 0 [] [],Tr.mk 5 0 [] []) b 1 (I0 5)=some ((p,u),0)∧((p=Tr.mk 5 0 [] [I0 1,I0 5]∧u=Tr.mk 5 0 [] [])∨(p=Tr.mk 5 0 [] []∧u=Tr.mk 5 0 [] [I0 1,I0 5])):=by
 cases b with
 |true=>exact⟨_,_,(by kernel_rfl),.inl ⟨rfl,rfl⟩⟩
 |false=>exact⟨_,_,(by kernel_rfl),.inr ⟨rfl,rfl⟩⟩
theorem Nd:ay (-7)=some (Tr.mk 1 6 [] []):=by kernel_rfl
theorem RZ(k:Int)(n:UInt64)(hk:k=0∨k=1):eU (Tr.mk k n [] [])=true∧yE (Tr.mk k n [] []) 1=true∧cD (Tr.mk k n [] [])≤1∧(aG (Tr.mk k n [] [])).length≤9:=by
 have hl:=de k n [] 0
 rw[List.length_nil]at hl
 have hv:vT (Tr.mk k n [] []) 8=true:=by rcases hk with rfl |rfl<;>(rw[od];rfl)
 have hlv:yE (Tr.mk k n [] []) 1=true:=by rcases hk with rfl |rfl<;>(rw[nS];rfl)
 refine⟨cT.2 ⟨hv,?_,?_⟩,hlv,?_,?_⟩
 ·rw[dD];omega
 ·rw[cV];omega
 ·rw[dD];omega
 ·rw[cV];omega
theorem CS{z:Int}(h:z∈([4,6,3,99,-7]:List Int)): ∃x,ay z=some x∧eU x=true∧yE x 1=true∧cD x≤1∧(aG x).length≤9:=by
 simp only[List.mem_cons,List.not_mem_nil,or_false]at h
 have p : ∀n:Nat,n<9223372036854775808→∃x,ay (n:Int)=some x∧eU x=true∧yE x 1=true∧cD x≤1∧(aG x).length≤9:=fun n hn=>⟨_,j3 n hn,Gw _,mE _⟩
 rcases h with rfl |rfl |rfl |rfl |rfl
 ·exact p 4 (by omega)
 ·exact p 6 (by omega)
 ·exact p 3 (by omega)
 ·exact p 99 (by omega)
 ·exact⟨_,Nd,RZ 1 6 (.inr rfl)⟩
theorem IY{p u:Tr}(h:(p=Tr.mk 5 0 [] [I0 1,I0 5]∧u=Tr.mk 5 0 [] [])∨(p=Tr.mk 5 0 [] []∧u=Tr.mk 5 0 [] [I0 1,I0 5])):HS 2 20 p u:=by
 have v1:dg (Tr.mk 5 0 [] [I0 1,I0 5],Tr.mk 5 0 [] [])=some true:=by kernel_rfl
 have v2:dg (Tr.mk 5 0 [] [],Tr.mk 5 0 [] [I0 1,I0 5])=some true:=by kernel_rfl
 rw[qK]at v1 v2
 have a1:=mE 1
 have a2:=mE 5
 have hat:kA [I0 1,I0 5] (I0 1)=some (I0 5):=by unfold kA;rw[if_pos rfl]
 have hc:dz [I0 1,I0 5]=2:=by rw[bC,bC,cU];show cD (Tr.mk 0 1 [] [])+(cD (Tr.mk 0 5 [] [])+0)=2;rw[dD,dD]
 have hl:(co [I0 1,I0 5]).length≤18:=by rw[bh,bh,bP,List.length_append,List.length_append,List.length_nil];omega
 have hd : ∀y∈[I0 1,I0 5],yE y 1=true:=by
  intro y hy
  simp only[List.mem_cons,List.not_mem_nil,or_false]at hy
  rcases hy with rfl |rfl
  ·exact a1.1
  ·exact a2.1
 have hd0 : ∀y∈([]:List Tr),yE y 1=true:=fun y hy=>by cases hy
 rcases h with⟨rfl,rfl⟩ | ⟨rfl,rfl⟩
 ·refine⟨EN (by injection v1),.inl hat,?_,?_,hd,hd0⟩
  ·show dz [I0 1,I0 5]+dz []≤2;rw[hc,cU];omega
  ·show(co [I0 1,I0 5]).length+(co []).length≤20;rw[bP,List.length_nil];omega
 ·refine⟨EN (by injection v2),.inr hat,?_,?_,hd0,hd⟩
  ·show dz []+dz [I0 1,I0 5]≤2;rw[hc,cU];omega
  ·show(co []).length+(co [I0 1,I0 5]).length≤20;rw[bP,List.length_nil];omega
theorem GX:jF [I0 98]=some (Tr.mk 4 0 [] [I0 98]):=by kernel_rfl
theorem L5:IB 1 2 41 (Tr.mk 4 0 [] [I0 98]):=by
 have a:=mE 98
 have hl:=de 4 0 [] 1
 rw[List.length_nil]at hl
 refine⟨?_,?_,?_⟩
 ·rw[nS,tJ,A8];show _||(true&&(yE (Tr.mk 0 98 [] []) 0&&true))=true;rw[nS];rfl
 ·rw[fc,bC,cU];omega
 ·rw[fJ,bh,bP,List.length_append,List.length_append,List.length_nil]
  show(fB 4 0 [] 1).length+_≤41
  omega
theorem AS{d:ah}(h:bM d): ∃r,dW d 5=some r∧(bM r.2∧HS 40 800 r.1.1 r.1.2):=by
 unfold dW
 have he:je=some (Tr.mk 5 0 [] [],Tr.mk 5 0 [] []):=rfl
 rw[he,ae]
 refine gh (fun v=>bM v.1∧HS 2 20 v.2.1 v.2.2) ?_ fun v8 hv8=>?_
 ·rw[ab,show((5:Int) != 0)=true from rfl,bf]
  obtain⟨v,d1,e1,v0,v1,h1⟩:=bB h (n:=4) (by omega) (by omega)
  rw[e1,ae,ab,show ay 5=some (I0 5)from j3 5 (by omega),ae]
  obtain⟨p,u,e2,hpu⟩:=G5 (decide (0<v))
  exact⟨_,ac e2 rfl,h1,IY hpu⟩
 obtain⟨v,d1,e1,v0,v1,h1⟩:=bB hv8.1 (n:=3) (by omega) (by omega)
 rw[e1,ae]
 refine fy (S:=Int×(ah×ax)) (R:=ax×ah) (fun n s=>s.1=(n:Int)∧n≤2∧bM s.2.1∧HS (18-8*n) (600-264*n) s.2.2.1 s.2.2.2) (fun r=>bM r.2∧HS 40 800 r.1.1 r.1.2) (fun n s self hI ih=>?_) bA v.toNat _ (by rw[cG];omega) ⟨by show v=_;omega,by omega,h1,hv8.2.up (by omega) (by omega)⟩
 obtain⟨i1,i2,i3,i4⟩:=hI
 refine bH (dt (fun hc=>?_) (fun hc=>?_))
 ·rw[decide_eq_true_eq]at hc
  refine gh (fun v=>bM v.1∧HS (18-8*(n-1)) (600-264*(n-1)) v.2.1 v.2.2) ?_ fun v24 hv24=>?_
  ·obtain⟨w,d2,e2,w0,w1,h2⟩:=bB i3 (n:=5) (by omega) (by omega)
   rw[e2,ae]
   obtain⟨z,hz,hzm⟩:=oB ([4,6,3,99,-7]:List Int) w0 (by show w<5;omega)
   refine gh (fun y=>y=z) ⟨z,hz,rfl⟩ fun y hy=>?_
   subst hy
   obtain⟨b,d3,e3,l3,h3⟩:=KA h2 (n:=5) (by omega)
   refine gh (fun y=>y=(b,d3)) ⟨_,e3,rfl⟩ fun y hy=>?_
   subst hy
   refine gh (fun y=>y=Tr.mk 2 0 b []) ⟨_,(AV (b:=b) (by omega)).1,rfl⟩ fun y hy=>?_
   subst hy
   refine gh (fun v=>bM v.1∧IB 1 7 255 v.2) ?_ fun v19 hv19=>?_
   ·refine bH (dt (fun _=>?_) (fun _=>⟨_,rfl,h3,(IB.leaf rfl (by omega) 1).up (by omega) (by omega) (by omega)⟩))
    obtain⟨r,hr,hr2,hr3⟩:=RX h3
    exact⟨_,ac hr rfl,hr2,hr3⟩
   obtain⟨w2,d4,e4,x0,x1,h4⟩:=bB hv19.1 (n:=2) (by omega) (by omega)
   rw[e4,ae,ab]
   obtain⟨x,hx,ox,lx,cx,nx⟩:=CS hzm
   obtain⟨r,hr,hr2⟩:=yA i4 (by omega) hx ox lx cx nx hv19.2 (w2==0)
   have hr:bZ s.2.2 (w2==0) y v19.2=some r:=hr
   refine gh (fun y=>y=r) ⟨r,hr,rfl⟩ fun y hy=>?_
   subst hy
   refine bH (dt (fun h0=>⟨_,rfl,h4,?_⟩) (fun _=>⟨_,rfl,h4,i4.up (by omega) (by omega)⟩))
   rw[beq_iff_eq]at h0
   exact(hr2 h0).up (by omega) (by omega)
  ·rw[ab,an (by omega) (by omega)]
   exact ih (n-1) _ (by omega) ⟨by show s.1-1=_;omega,by omega,hv24.1,hv24.2⟩
 ·rw[decide_eq_false_iff_not]at hc
  have hn:n=0:=by omega
  subst hn
  refine gh (fun v=>bM v.1∧HS 40 800 v.2.1 v.2.2) ?_ fun v36 hv36=>⟨_,rfl,hv36.1,hv36.2⟩
  rw[show ay 1=some (I0 1)from j3 1 (by omega),ae]
  have f98:=mE 98
  have f1:=mE 1
  obtain⟨r,hr,hr2⟩:=yA (z:=98) i4 (by omega) (j3 98 (by omega)) (Gw _) f98.1 f98.2.1 f98.2.2 (cv:=1) (nv:=9) (v:=I0 1) ⟨f1.1,f1.2.1,f1.2.2⟩ true
  have hr:bZ s.2.2 true 98 (I0 1)=some r:=hr
  rw[hr,ae]
  obtain⟨w,d2,e2,w0,w1,h2⟩:=bB i3 (n:=6) (by omega) (by omega)
  refine gh (fun v=>bM v.2∧(v.1=true→r.2=0)) ?_ fun v31 hv31=>?_
  ·rw[e2,ae]
   refine bH (dt (fun _=>bH ⟨_,rfl,h2,fun h=>by rw[beq_iff_eq]at h;exact h⟩) (fun _=>⟨_,rfl,h2,fun h=>by cases h⟩))
  refine dt (fun h1=>?_) (fun _=>⟨_,rfl,hv31.1,i4.up (by omega) (by omega)⟩)
  have h98:=hr2 (hv31.2 h1)
  rw[show ay 98=some (I0 98)from j3 98 (by omega),ae,GX,ae]
  have f2:=mE 2
  obtain⟨r2,hr2',hr3⟩:=yA (z:=2) h98 (by omega) (j3 2 (by omega)) (Gw _) f2.1 f2.2.1 f2.2.2 L5 true
  have hr2':bZ r.1 true 2 (Tr.mk 4 0 [] [I0 98])=some r2:=hr2'
  rw[hr2',ae]
  refine bH (dt (fun h0=>⟨_,rfl,hv31.1,?_⟩) (fun _=>⟨_,rfl,hv31.1,h98.up (by omega) (by omega)⟩))
  rw[beq_iff_eq]at h0
  exact(hr3 h0).up (by omega) (by omega)
set_option maxRecDepth 100000
theorem KP{α R:Type}{p:α→Prop}{K:α→Option R}{r:R}(h : ∀y,p y→K y=some r)(hy : ∃y,p y):BG p K=some r:=by
 obtain⟨y,hy⟩:=hy
 have hx : ∃r,∀y,p y→K y=some r:=⟨r,h⟩
 have e:BG p K=some (Classical.choose hx):=dif_pos hx
 rw[e]
 have:=Classical.choose_spec hx y hy
 rw[h y hy]at this
 exact this.symm
noncomputable def dw (l:List Tr):List aU:=(fS l).map fun q=>(aG q.1,q)
theorem u4{l:List Tr}{k:Nat}(h:k<(dw l).length)(h2:k<(fS l).length):(dw l)[k]=(aG (fS l)[k].1,(fS l)[k]):=List.getElem_map _
theorem Cp{l:List Tr}(h:(fS l).Pairwise fun p q=>Lib.compareBytes (aG p.1) (aG q.1)<0):(dw l).Pairwise fun a b=>Lib.compareBytes a.1 b.1<0:=by
 unfold dw
 rw[List.pairwise_map]
 exact h
theorem CJ{α:Type}{R:α→α→Prop}: ∀{l:List α},l.Pairwise R→∀{a b:α},a∈l→b∈l→a=b∨R a b∨R b a
 | [],_,a,b,ha,_=>by cases ha
 |x::l,h,a,b,ha,hb=>by
  rw[List.pairwise_cons]at h
  rcases List.mem_cons.1 ha with e1 |ha'<;>rcases List.mem_cons.1 hb with e2 |hb'
  ·exact .inl (e1.trans e2.symm)
  ·exact .inr (.inl (e1▸h.1 _ hb'))
  ·exact .inr (.inr (e2▸h.1 _ ha'))
  ·exact CJ h.2 ha' hb'
theorem DO{l:List aU}(h:l.Pairwise fun a b=>Lib.compareBytes a.1 b.1<0){ys:List aU}(hy:pT l ys):ys=l:=by
 obtain⟨hp,hs⟩:=hy
 refine List.Perm.eq_of_pairwise (le:=fun a b=>vZ b a=false) (fun a b ha hb h1 h2=>?_) hs ?_ hp
 ·have g1:=of_decide_eq_false h1
  have g2:=of_decide_eq_false h2
  have g3:=Qx a.1 b.1
  have ha:=hp.mem_iff.1 ha
  rcases CJ h ha hb with e |e |e
  ·exact e
  ·omega
  ·omega
 ·refine h.imp fun{a b} hab=>decide_eq_false ?_
  have:=Qx a.1 b.1
  omega
theorem CX : ∀(l:List Tr),l.length%2=0→(fS l).flatMap (fun q=>[q.1,q.2])=l
 | [],_=>rfl
 | [_],h=>by simp at h
 |k::v::l,h=>by
  show [k,v]++(fS l).flatMap (fun q=>[q.1,q.2])=_
  rw[CX l (by simp only[List.length_cons]at h;omega)];rfl
theorem gX : ∀(l:List Tr),(fS l).length=l.length/2
 | []=>rfl
 | [_]=>by simp[fS]
 |k::v::l=>by
  show(fS l).length+1=(l.length+1+1)/2
  rw[gX l];omega
theorem su{p:Tr}(pk:p.k=5)(po:eU p=true):jy p.l=some (p,0):=by
 obtain⟨pe,ev,pw⟩:=ji pk po
 have ln:=pU po
 have kw:=Cp pw
 have klen:(dw p.l).length=p.l.length/2:=by unfold dw;rw[List.length_map,gX]
 unfold jy
 rw[Iw,ae,ab,ev,show(((0:Nat):Int)==1)=false from rfl,aw]
 have all : ∀(l:List Tr) (i:Nat) (s:Tr) (bn:Nat→Tr→Option (Tr×Int)),(∀y∈l,eU y=true)→cF (R:=(Tr×Int)) (S:=Tr) (α:=Tr) bn (fun x33 k34 s35 self36=>bnd (bG x33) fun x37=>letm ((!x37)) fun x38=>cond x38 (some ((Tr.mk 0 0 [] []),1)) (self36 s35)) l i s=bn (i+l.length) s:=by
  intro l
  induction l with
  |nil=>intro i s bn _;rfl
  |cons y l ih=>
   intro i s bn h
   rw[bT,gj,ae,h y (by simp),ab,Bool.not_true,aw,ih (i+1) s bn fun z hz=>h z (by simp[hz]),List.length_cons,show i+1+l.length=i+(l.length+1) by omega]
 rw[all p.l 0 _ _ fun y hy=>jE po hy]
 rw[MP (show p.l.length≤1000000 by omega),ae]
 refine ac (y:=[]) ?_ ?_
 ·unfold LB
  rw[show(decide (0≤((p.l.length/2:Nat):Int))&&decide (((p.l.length/2:Nat):Int)≤65536))=true by rw[Bool.and_eq_true,decide_eq_true_eq,decide_eq_true_eq];omega];rfl
 -- the sorted pairs become the map again
 have fin : ∀(rest:List aU) (k:Nat) (s:Tr),(dw p.l).drop k=rest→k≤(dw p.l).length→cF (R:=(Tr×Int)) (S:=(Tr×(Tr×(List Tr)))) (α:=aU) (fun k18 s19=>
   bnd (bG (Tr.mk s19.2.1.k s19.2.1.n s19.2.1.b s19.2.2)) fun x20=>letm ((!x20)) fun x21=>cond x21 (some ((Tr.mk 0 0 [] []),8)) (bnd (dm (Tr.mk s19.2.1.k s19.2.1.n s19.2.1.b s19.2.2)) fun x22=>some (x22,0)))
   (fun x23 k24 s25 self26=>bnd (β:=Bool) (letm (decide (0<(k24:Int))) fun x27=>cond x27 (letm ((aA ((k24:Int)-1))) fun x28=>bnd (aI (dw p.l) x28) fun x29=>bnd (bF x29.1 x23.1) fun x30=>some x30) (some false)) fun v31=>cond v31 (some ((Tr.mk 0 0 [] []),7))
    (bnd (app s25.2.2 [x23.2.1,x23.2.2]) fun x32=>self26 (s25.1,(s25.2.1,x32)))) rest k (s,(Tr.mk 5 0 [] [],((fS p.l).take k).flatMap (fun q=>[q.1,q.2])))=some (p,0):=by
  intro rest
  induction rest with
  |nil=>
   intro k s hd hk
   have hk2:k=(dw p.l).length:=by
    have:=congrArg List.length hd
    rw[List.length_drop,List.length_nil]at this;omega
   have htk:(fS p.l).take k=fS p.l:=List.take_of_length_le (by rw[gX];omega)
   rw[eP,htk,CX p.l ev]
   show bnd (bG (Tr.mk 5 0 [] p.l)) _=_
   rw[←pe,gj,ae,po,ab,Bool.not_true,aw]
   show bnd (dm (Tr.mk 5 0 [] p.l)) _=_
   rw[←pe,JA po,ae]
  |cons y rest ih=>
   intro k s hd hk
   have hlt:k<(dw p.l).length:=by
    have:=congrArg List.length hd
    rw[List.length_drop,List.length_cons]at this;omega
   have hy:(dw p.l)[k]=y∧(dw p.l).drop (k+1)=rest:=by
    rw[List.drop_eq_getElem_cons hlt]at hd
    injection hd with a b
    exact⟨a,b⟩
   have hlt2:k<(fS p.l).length:=by rw[gX];omega
   have hyq:y=(aG (fS p.l)[k].1,(fS p.l)[k]):=by
    rw[←hy.1,u4 hlt hlt2]
   rw[bT]
   refine ac (y:=false) ?_ ?_
   ·rw[ab]
    by_cases h0:k=0
    ·subst h0;rfl
    ·rw[decide_eq_true (by omega),bf,ab,an (by omega) (by omega),show((k:Int)-1)=((k-1:Nat):Int) by omega,aE (List.getElem?_eq_getElem (show k-1<(dw p.l).length by omega)),ae]
     have hr:=List.pairwise_iff_getElem.1 kw (k-1) k (by omega) hlt (by omega)
     rw[hy.1]at hr
     unfold bF
     rw[ab,ae,Bc,decide_eq_false]
     intro e
     rw[e,(mU _ _).2 rfl]at hr
     omega
   ·rw[aw]
    have hfl:(((fS p.l).take k).flatMap (fun q=>[q.1,q.2])).length≤600:=by
     have a : ∀l:List (Tr×Tr),(l.flatMap (fun q=>[q.1,q.2])).length=2*l.length:=by
      intro l
      induction l with
      |nil=>rfl
      |cons q l ih=>rw[List.flatMap_cons,List.length_append,ih];simp only[List.length_cons,List.length_nil];omega
     rw[a,List.length_take];omega
    refine ac (aF (xs:=((fS p.l).take k).flatMap (fun q=>[q.1,q.2])) (by simp only[List.length_cons,List.length_nil];omega)) ?_
    have htk:(fS p.l).take (k+1)=(fS p.l).take k ++ [(fS p.l)[k]]:=by rw[List.take_add_one,List.getElem?_eq_getElem hlt2];rfl
    have:=ih (k+1) s hy.2 hlt
    rw[htk,List.flatMap_append]at this
    rw[hyq]
    exact this
 have pairs : ∀(f i:Nat),p.l.length<f+i→i≤p.l.length→i%2=0→aM (R:=(Tr×Int)) (S:=(Int×((List aU)×(List aU)))) (fun self8 s7=>
   letm (decide (s7.1<(p.l.length:Int))) fun x9=>cond x9 (bnd (aI p.l s7.1) fun x10=>bnd (db [] x10) fun x11=>bnd (aI p.l s7.1) fun x12=>letm ((aA (s7.1+1))) fun x13=>bnd (aI p.l x13) fun x14=>bnd (app s7.2.2 [(x11,(x12,x14))]) fun x15=>letm ((aA (s7.1+2))) fun x16=>self8 (x16,(s7.2.1,x15)))
    (cond (Nat.ble (List.length s7.2.2) 4294967296) (BG (pT s7.2.2) fun v17=>cF (R:=(Tr×Int)) (S:=(Tr×(Tr×(List Tr)))) (α:=aU) (fun k18 s19=>
   bnd (bG (Tr.mk s19.2.1.k s19.2.1.n s19.2.1.b s19.2.2)) fun x20=>letm ((!x20)) fun x21=>cond x21 (some ((Tr.mk 0 0 [] []),8)) (bnd (dm (Tr.mk s19.2.1.k s19.2.1.n s19.2.1.b s19.2.2)) fun x22=>some (x22,0)))
   (fun x23 k24 s25 self26=>bnd (β:=Bool) (letm (decide (0<(k24:Int))) fun x27=>cond x27 (letm ((aA ((k24:Int)-1))) fun x28=>bnd (aI v17 x28) fun x29=>bnd (bF x29.1 x23.1) fun x30=>some x30) (some false)) fun v31=>cond v31 (some ((Tr.mk 0 0 [] []),7))
    (bnd (app s25.2.2 [x23.2.1,x23.2.2]) fun x32=>self26 (s25.1,(s25.2.1,x32)))) v17 0 ((Tr.mk 0 0 [] []),((Tr.mk 5 0 [] []),[]))) none)) f ((i:Int),([],(dw p.l).take (i/2)))=some (p,0):=by
  intro f
  induction f with
  |zero=>intro i h1 h2;omega
  |succ f ih=>
   intro i h1 h2 h3
   rw[bd,ab]
   by_cases hi:i<p.l.length
   ·have hi1:i+1<p.l.length:=by omega
    have ok:=jE po (List.getElem_mem hi)
    obtain⟨v3,c3,l3⟩:=cT.1 ok
    have hh:i/2<(fS p.l).length:=by rw[gX];omega
    refine eQ (decide_eq_true (by show(i:Int)<_;omega)) ?_
    refine ac (aE (List.getElem?_eq_getElem hi)) (ac (np v3 (by omega) (by omega)) (ac (aE (List.getElem?_eq_getElem hi)) ?_))
    rw[ab]
    show bnd (aI p.l (aA ((i:Int)+1))) _=_
    rw[an (x:=(i:Int)+1) (by omega) (by omega),show((i:Int)+1)=((i+1:Nat):Int) by omega]
    refine ac (aE (List.getElem?_eq_getElem hi1)) ?_
    refine ac (aF (xs:=(dw p.l).take (i/2)) (by rw[List.length_take];simp only[List.length_cons,List.length_nil];omega)) ?_
    rw[ab]
    have hget:(fS p.l)[i/2]=(p.l[i],p.l[i+1]):=by
     have gen : ∀(l:List Tr) (i:Nat) (h:i+1<l.length) (he:i%2=0) (hh:i/2<(fS l).length),(fS l)[i/2]=(l[i]'(by omega),l[i+1]):=by
      intro l
      induction l using fS.induct with
      |case1 k v r ih=>
       intro i h he hh
       match i,h,he,hh with
       |0,_,_,_=>rfl
       |1,_,he,_=>omega
       |i+2,h,he,hh=>
        have h':i+1<r.length:=by simp only[List.length_cons]at h;omega
        have:=ih i h' (by omega) (by rw[gX];omega)
        have e:(i+2)/2=i/2+1:=by omega
        simp only[e]
        exact this
      |case2 l hne=>
       intro i h he hh
       match l,h,hne with
       | [],h,_=>simp at h
       | [_],h,_=>simp at h
       |a::b::r,_,hne=>exact absurd rfl (hne a b r)
     exact gen p.l i hi1 h3 hh
    have hk2:(dw p.l).take (i/2+1)=(dw p.l).take (i/2) ++ [(aG p.l[i],(p.l[i],p.l[i+1]))]:=by
     rw[List.take_add_one,List.getElem?_eq_getElem (by rw[klen];omega)]
     have:(dw p.l)[i/2]'(by rw[klen];omega)=(aG p.l[i],(p.l[i],p.l[i+1])):=by rw[u4 _ hh,hget]
     rw[this];rfl
    have:=ih (i+2) (by omega) (by omega) (by omega)
    rw[show(i+2)/2=i/2+1 by omega,hk2]at this
    show aM _ f (aA ((i:Int)+2),_)=_
    rw[an (x:=(i:Int)+2) (by omega) (by omega),show((i:Int)+2)=((i+2:Nat):Int) by omega]
    exact this
   ·have hii:i=p.l.length:=by omega
    refine bo (decide_eq_false (by show ¬(i:Int)<_;omega)) ?_
    have htk:(dw p.l).take (i/2)=dw p.l:=List.take_of_length_le (by rw[klen,hii];omega)
    show cond (Nat.ble ((dw p.l).take (i/2)).length 4294967296) (BG (pT ((dw p.l).take (i/2))) _) none=_
    rw[htk]
    refine eQ (Nat.ble_eq_true_of_le (by omega)) ?_
    refine KP (fun ys hy=>?_) ⟨dw p.l,⟨List.Perm.refl _,?_⟩⟩
    ·rw[DO kw hy]
     exact fin (dw p.l) 0 _ rfl (by omega)
    ·refine kw.imp fun{a b} hab=>decide_eq_false ?_
     have:=Qx a.1 b.1
     omega
 have:=pairs bA 0 (by rw[cG];omega) (by omega) rfl
 exact this
set_option maxRecDepth 100000
theorem Ll{l:List UInt8}(h:l.length≤1000000):cP l=some l:=by
 unfold cP;rw[aF (by simp;omega)];rfl
theorem sP{b:List UInt8}(h:b.length≤1000000):ej b=some (Tr.mk 2 0 b []):=by
 unfold ej;exact ac (Ll h) rfl
theorem ld{b:List UInt8}(h:b.length≤4000):eU (Tr.mk 2 0 b [])=true:=by
 have ho:=(de 2 0 b 0).2
 refine cT.2 ⟨?_,?_,?_⟩
 ·rw[od,Bool.or_eq_true]
  refine .inl ?_
  show((0:UInt64).toNat==0&&true&&decide (b.length≤4096))=true
  rw[decide_eq_true (by omega)];rfl
 ·rw[dD];omega
 ·rw[cV];omega
theorem Jo{t:List UInt8}(hu:bw t=some true)(h:t.length≤4000):eU (Tr.mk 3 0 t [])=true:=by
 have ho:=(de 3 0 t 0).2
 have hv:Hj t=true:=by unfold Hj;rw[hu];rfl
 refine cT.2 ⟨?_,?_,?_⟩
 ·rw[od,Bool.or_eq_true]
  refine .inl ?_
  show((0:UInt64).toNat==0&&true&&decide (t.length≤4096)&&Hj t)=true
  rw[decide_eq_true (by omega),hv];rfl
 ·rw[dD];omega
 ·rw[cV];omega
theorem OS{l:List Tr}{c n:Nat}(h : ∀y∈l,eU y=true)(hd : ∀y∈l,vT y 7=true)(hc:dz l≤255)(hn:(co l).length≤4087):eU (Tr.mk 4 0 [] l)=true:=by
 have ho:=(de 4 0 [] l.length).2
 rw[List.length_nil]at ho
 refine cT.2 ⟨?_,?_,?_⟩
 ·rw[od,Bool.or_eq_true]
  refine .inr ?_
  rw[Bool.and_eq_true,Bool.and_eq_true]
  exact⟨⟨rfl,I2 hd⟩,rfl⟩
 ·rw[fc];omega
 ·rw[fJ,List.length_append];omega
theorem Ls{l:List Tr}(h : ∀y∈l,eU y=true)(hl:l.length≤300):mb l=some (Tr.mk 4 0 [] l):=by
 have key : ∀(l:List Tr) (k:Nat) (acc:List Tr),(∀y∈l,eU y=true)→acc.length+l.length≤300→cF (R:=Tr) (S:=(Tr×(List Tr))) (α:=Tr) (fun k1 s2=>some (Tr.mk s2.1.k s2.1.n s2.1.b s2.2))
   (fun x3 k4 s5 self6=>bnd (dm x3) fun x7=>bnd (app s5.2 [x7]) fun x8=>self6 (s5.1,x8)) l k ((Tr.mk 4 0 [] []),acc)=some (Tr.mk 4 0 [] (acc++l)):=by
  intro l
  induction l with
  |nil=>intro k acc _ _;rw[eP,List.append_nil];rfl
  |cons y l ih=>
   intro k acc h hl
   rw[List.length_cons]at hl
   rw[bT,JA (h y (by simp)),ae]
   refine ac (aF (xs:=acc) (by simp only[List.length_cons,List.length_nil];omega)) ?_
   have:=ih (k+1) (acc ++ [y]) (fun z hz=>h z (by simp[hz])) (by rw[List.length_append];simp only[List.length_cons,List.length_nil];omega)
   rw[List.append_assoc]at this
   exact this
 unfold mb
 have:=key l 0 [] h (by rw[List.length_nil];omega)
 rw[List.nil_append]at this
 exact this
structure EH(p u:Tr):Prop where
 hv:HV p u
 alg:oT p u 1=some (I0 5)
 pl:(jO p).length≤810
 ul:(aG u).length≤810
 uc:cD u≤41
 ud:vT u 6=true
theorem HS.eh{p u:Tr}(h:HS 40 800 p u):EH p u:=by
 have h1:=h.cnt
 have h2:=h.len
 have op:=(de p.k p.n p.b p.l.length).2
 have ou:=(de u.k u.n u.b u.l.length).2
 have ep:=wr p
 have eu:=wr u
 have bp:p.b = []:=by rw[(ji h.hv.k1 h.hv.o1).1];rfl
 have bu:u.b = []:=by rw[(ji h.hv.k2 h.hv.o2).1];rfl
 rw[bp,List.length_nil]at op
 rw[bu,List.length_nil]at ou
 rw[bp]at ep
 rw[bu]at eu
 refine⟨h.hv,?_,?_,?_,?_,?_⟩
 ·unfold oT
  rcases h.alg with ha |ha
  ·rw[ha]
  ·have:kA p.l (I0 1)=none:=(h.hv.ex _ (nG ha)).1
   rw[this];exact ha
 ·unfold jO
  cases p.l.isEmpty with
  |true=>exact Nat.zero_le _
  |false=>show(aG p).length≤810;rw[ep,List.length_append];omega
 ·rw[eu,List.length_append];omega
 ·have:=qq u;omega
 ·refine vS u 2 6 (by omega) (Ji u 2 8 (cT.1 h.hv.o2).1 ?_)
  have hu:=(ji h.hv.k2 h.hv.o2).1
  rw[hu,nS,Bool.or_eq_true]
  refine .inr ?_
  rw[Bool.and_eq_true]
  exact⟨rfl,I8 h.du⟩
theorem qt{x:Tr}(h:eU x=true)(hl:x.l = [])(hk:iH x.k=true)(d:Nat):vT x d=true:=by
 refine Ji x d 8 (cT.1 h).1 ?_
 obtain⟨k,n,b,l⟩:=x
 have hl:l = []:=hl
 subst hl
 rw[nS,show iH k=true from hk];rfl
set_option maxRecDepth 100000
def N0(n:UInt64):Tr:=Tr.mk 1 n [] []
def B0(b:List UInt8):Tr:=Tr.mk 2 0 b []
def SL(x:Tr):Prop:=(∃n:UInt64,n.toNat<24∧(x=I0 n∨x=N0 n))∨∃b:List UInt8,1≤b.length∧b.length≤32∧x=B0 b
theorem SL.i{n:UInt64}(h:n.toNat<24):SL (I0 n):=.inl ⟨n,h,.inl rfl⟩
theorem SL.n{n:UInt64}(h:n.toNat<24):SL (N0 n):=.inl ⟨n,h,.inr rfl⟩
theorem SL.b{b:List UInt8}(h1:1≤b.length)(h:b.length≤32):SL (B0 b):=.inr ⟨b,h1,h,rfl⟩
theorem TR(n:UInt64):eU (N0 n)=true:=by
 have hl:=jb 1 n
 refine cT.2 ⟨?_,?_,?_⟩
 ·unfold N0;rw[od];rfl
 ·unfold N0;rw[fc,cU];omega
 ·unfold N0;rw[cV,G4];omega
theorem SL.ok{x:Tr}(h:SL x):eU x=true:=by
 rcases h with⟨n,_,rfl |rfl⟩ | ⟨b,_,h,rfl⟩
 ·exact Gw n
 ·exact TR n
 ·exact ld (by omega)
theorem SL.leaf{x:Tr}(h:SL x):iH x.k=true∧x.l = []:=by
 rcases h with⟨n,_,rfl |rfl⟩ | ⟨b,_,h,rfl⟩<;>exact⟨rfl,rfl⟩
theorem SL.ib{x:Tr}(h:SL x):IB 0 1 41 x:=by
 rcases h with⟨n,_,rfl |rfl⟩ | ⟨b,_,h,rfl⟩
 ·exact IB.leaf rfl (by simp) 0
 ·exact IB.leaf rfl (by simp) 0
 ·exact IB.leaf rfl h 0
theorem SL.v{x:Tr}(h:SL x)(d:Nat):vT x d=true:=qt h.ok h.leaf.2 h.leaf.1 d
def iT(z:Int):Tr:=bif decide (z<0)then N0 (aB (-1-z))else I0 (aB z)
def iM(lab:Tr)(b:List UInt8):List Tr:=bif b.isEmpty then []else [lab,B0 b]
def wy(z:Int):List Tr:=bif z==0 then []else [I0 3,iT z]
structure KV(k:aD):Prop where
 kid:k.2.2.2.1.length≤4
 alg:k.2.2.1∈([0,10,-8,5]:List Int)
 kind:(k.1=4∧k.2.1=0∧k.2.2.2.2.1 = []∧k.2.2.2.2.2.1 = []∧1≤k.2.2.2.2.2.2.length∧k.2.2.2.2.2.2.length≤32)∨
  (k.1=1∧(k.2.1=4∨k.2.1=6)∧(k.2.2.2.2.1 = []∨k.2.2.2.2.1.length=32)∧(k.2.2.2.2.2.1 = []∨k.2.2.2.2.2.1.length=32)∧(k.2.2.2.2.1.length=32∨k.2.2.2.2.2.1.length=32)∧k.2.2.2.2.2.2 = [])
def lY(k:aD):List Tr:=
 [I0 1,iT k.1]++iM (I0 2) k.2.2.2.1++wy k.2.2.1 ++
  (bif k.1==4 then iM (N0 0) k.2.2.2.2.2.2 else [N0 0,iT k.2.1]++iM (N0 1) k.2.2.2.2.1++iM (N0 3) k.2.2.2.2.2.1)
def iX(k:aD):Tr:=Tr.mk 5 0 [] (lY k)
theorem Ga{n:UInt64}(h:n.toNat<24):aG (I0 n) = [UInt8.ofNat n.toNat]:=by
 unfold I0;rw[cV,own0];unfold hd;rw[if_pos h]
 refine congrArg (fun x=>[UInt8.ofNat x]) ?_
 omega
theorem FV{n:UInt64}(h:n.toNat<24):aG (N0 n) = [UInt8.ofNat (32+n.toNat)]:=by
 unfold N0;rw[cV,G4];unfold hd;rw[if_pos h]
theorem Qu:aG (I0 1) = [1]:=Ga (by decide)
theorem Sk:aG (I0 2) = [2]:=Ga (by decide)
theorem Sn:aG (I0 3) = [3]:=Ga (by decide)
theorem Qz:aG (N0 0) = [32]:=FV (by decide)
theorem TL:aG (N0 1) = [33]:=FV (by decide)
theorem TI:aG (N0 3) = [35]:=FV (by decide)
theorem QM{z:Int}(h:z∈([1,4,6,10,-8,5]:List Int)):SL (iT z):=by
 simp only[List.mem_cons,List.not_mem_nil,or_false]at h
 rcases h with rfl |rfl |rfl |rfl |rfl |rfl
 ·exact SL.i (n:=1) (by decide)
 ·exact SL.i (n:=4) (by decide)
 ·exact SL.i (n:=6) (by decide)
 ·exact SL.i (n:=10) (by decide)
 ·exact SL.n (n:=7) (by decide)
 ·exact SL.i (n:=5) (by decide)
theorem sH{z:Int}(h:z∈([1,2,3,-1,-2,-4,4,6,10,-8,5]:List Int)):cy z=some (iT z):=by
 simp only[List.mem_cons,List.not_mem_nil,or_false]at h
 rcases h with rfl |rfl |rfl |rfl |rfl |rfl |rfl |rfl |rfl |rfl |rfl<;>rfl
theorem mS(lab:Tr)(b:List UInt8):(b = []∧iM lab b = [])∨(1≤b.length∧iM lab b = [lab,B0 b]):=by
 cases b with
 |nil=>exact .inl ⟨rfl,rfl⟩
 |cons x b=>exact .inr ⟨by rw[List.length_cons];omega,rfl⟩
theorem sJ{z:Int}(h:z∈([0,10,-8,5]:List Int)):(z=0∧wy z = [])∨(z∈([10,-8,5]:List Int)∧wy z = [I0 3,iT z]):=by
 simp only[List.mem_cons,List.not_mem_nil,or_false]at h
 rcases h with rfl |rfl |rfl |rfl
 ·exact .inl ⟨rfl,rfl⟩
 ·exact .inr ⟨by simp,rfl⟩
 ·exact .inr ⟨by simp,rfl⟩
 ·exact .inr ⟨by simp,rfl⟩
theorem mt{k:aD}(h:KV k):(∀y∈lY k,SL y)∧iw ((lY k).map aG)=true∧(lY k).length%2=0∧(lY k).length≤12∧4≤(lY k).length:=by
 have h1 : ∀z∈([1,4,6,10,-8,5]:List Int),SL (iT z):=fun z hz=>QM hz
 have s1:SL (I0 1):=SL.i (by decide)
 have s2:SL (I0 2):=SL.i (by decide)
 have s3:SL (I0 3):=SL.i (by decide)
 have t0:SL (N0 0):=SL.n (by decide)
 have t1:SL (N0 1):=SL.n (by decide)
 have t3:SL (N0 3):=SL.n (by decide)
 have ek:SL (B0 k.2.2.2.1)∨k.2.2.2.1.length=0:=by
  by_cases e:k.2.2.2.1.length=0
  ·exact .inr e
  ·exact .inl (SL.b (by omega) (by have:=h.kid;omega))
 have ea:=sJ h.alg
 have em : ∀z∈([10,-8,5]:List Int),SL (iT z):=fun z hz=>h1 z (by simp only[List.mem_cons,List.not_mem_nil,or_false]at hz⊢;rcases hz with e |e |e<;>simp[e])
 unfold lY
 rcases h.kind with⟨e1,_,_,_,l1,l2⟩ | ⟨e1,c,x,d,xd,_⟩
 ·have sk:SL (iT k.1):=by rw[e1];exact h1 4 (by simp)
  have sb:SL (B0 k.2.2.2.2.2.2):=SL.b l1 l2
  rw[e1]at sk
  rw[e1,show((4:Int)==4)=true from rfl]
  show(∀y∈_++iM (N0 0) _,SL y)∧iw ((_++iM (N0 0) _).map aG)=true∧(_++iM (N0 0) _).length%2=0∧(_++iM (N0 0) _).length≤12∧4≤(_++iM (N0 0) _).length
  rcases mS (N0 0) k.2.2.2.2.2.2 with⟨e,_⟩ | ⟨_,e⟩
  ·rw[e,List.length_nil]at l1;omega
  rw[e]
  rcases mS (I0 2) k.2.2.2.1 with⟨_,e⟩ | ⟨g,e⟩<;>rw[e]<;>rcases ea with⟨_,e⟩ | ⟨m,e⟩<;>rw[e]
  ·exact⟨by simp[s1,sk,t0,sb],by simp[iw,Qu,Qz];decide,by simp,by simp,by simp⟩
  ·have:=em _ m
   exact⟨by simp[s1,s3,sk,t0,sb,this],by simp[iw,Qu,Sn,Qz];decide,by simp,by simp,by simp⟩
  ·have sg:SL (B0 k.2.2.2.1):=SL.b g (by have:=h.kid;omega)
   exact⟨by simp[s1,s2,sk,t0,sb,sg],by simp[iw,Qu,Sk,Qz];decide,by simp,by simp,by simp⟩
  ·have:=em _ m
   have sg:SL (B0 k.2.2.2.1):=SL.b g (by have:=h.kid;omega)
   exact⟨by simp[s1,s2,s3,sk,t0,sb,sg,this],by simp[iw,Qu,Sk,Sn,Qz];decide,by simp,by simp,by simp⟩
 ·have sk:SL (iT k.1):=by rw[e1];exact h1 1 (by simp)
  have sc:SL (iT k.2.1):=by rcases c with e |e<;>rw[e]<;>exact h1 _ (by simp)
  rw[e1]at sk
  rw[e1,show((1:Int)==4)=false from rfl]
  show(∀y∈_++([N0 0,_]++iM (N0 1) _++iM (N0 3) _),SL y)∧iw ((_++([N0 0,_]++iM (N0 1) _++iM (N0 3) _)).map aG)=true∧(_++([N0 0,_]++iM (N0 1) _++iM (N0 3) _)).length%2=0∧(_++([N0 0,_]++iM (N0 1) _++iM (N0 3) _)).length≤12∧4≤(_++([N0 0,_]++iM (N0 1) _++iM (N0 3) _)).length
  have sx:1≤k.2.2.2.2.1.length→SL (B0 k.2.2.2.2.1):=fun g=>SL.b g (by rcases x with e |e<;>simp[e])
  have sd:1≤k.2.2.2.2.2.1.length→SL (B0 k.2.2.2.2.2.1):=fun g=>SL.b g (by rcases d with e |e<;>simp[e])
  rcases mS (I0 2) k.2.2.2.1 with⟨_,e⟩ | ⟨g,e⟩<;>rw[e]<;>rcases ea with⟨_,e⟩ | ⟨m,e⟩<;>rw[e]<;>rcases mS (N0 1) k.2.2.2.2.1 with⟨_,e⟩ | ⟨gx,e⟩<;>rw[e]<;>rcases mS (N0 3) k.2.2.2.2.2.1 with⟨_,e⟩ | ⟨gd,e⟩<;>rw[e]
  all_goals refine⟨?_,?_,by simp,by simp,by simp⟩
  all_goals first
   | (simp[iw,Qu,Sk,Sn,Qz,TL,TI];done)
   | (simp[iw,Qu,Sk,Sn,Qz,TL,TI];decide)
   |skip
  all_goals try have sg:SL (B0 k.2.2.2.1):=SL.b g (by have:=h.kid;omega)
  all_goals try have sgx:=sx gx
  all_goals try have sgd:=sd gd
  all_goals try have sm:=em _ m
  all_goals simp_all
theorem qY{k:aD}(h:KV k):eU (iX k)=true:=by
 obtain⟨hs,ha,he,hl,_⟩:=mt h
 have hz:=NA (c:=1) (n:=41) (l:=lY k) fun y hy=>⟨(hs y hy).ib.cnt,(hs y hy).ib.len⟩
 have ho:=de 5 0 [] (lY k).length
 rw[List.length_nil]at ho
 refine cT.2 ⟨?_,?_,?_⟩
 ·unfold iX
  rw[od,Bool.or_eq_true]
  refine .inr ?_
  rw[Bool.and_eq_true,Bool.and_eq_true]
  refine⟨⟨?_,I2 fun y hy=>(hs y hy).v 7⟩,?_⟩
  ·show(((5:Int)==4||(5:Int)==5||(5:Int)==6)&&decide (1≤8)&&([]:List UInt8).isEmpty&&(bif (5:Int)==6 then(lY k).length==1 else(0:UInt64).toNat==0)&&((5:Int) != 5||(lY k).length%2==0))=true
   rw[he];rfl
  ·rw[ha];rfl
 ·unfold iX;rw[fc];omega
 ·unfold iX;rw[fJ,List.length_append];omega
theorem yv{k:aD}(h:KV k):(aG (iX k)).length≤502:=by
 obtain⟨hs,ha,he,hl,_⟩:=mt h
 have hz:=NA (c:=1) (n:=41) (l:=lY k) fun y hy=>⟨(hs y hy).ib.cnt,(hs y hy).ib.len⟩
 have ho:=de 5 0 [] (lY k).length
 rw[List.length_nil]at ho
 unfold iX;rw[fJ,List.length_append];omega
set_option maxRecDepth 100000
theorem Pw{α:Type}{l:List Tr}{a b:Tr}(hl:l.length≤1000)(K:List Tr→Option α):
  (bnd (app l [(Tr.mk 0 0 [] []),(Tr.mk 0 0 [] [])]) fun x7=>bnd (aI x7 (l.length:Int)) fun _=>bnd (aI x7 ((((l.length:Int):Int)).toNat:Int)) fun _=>letm ((x7.set (((l.length:Int):Int)).toNat a)) fun x10=>letm ((aA ((l.length:Int)+1))) fun x11=>
   bnd (aI x10 x11) fun _=>bnd (aI x10 (((x11:Int)).toNat:Int)) fun _=>letm ((x10.set ((x11:Int)).toNat b)) fun x14=>K x14)=K (l ++ [a,b]):=by
 rw[aF (by simp only[List.length_cons,List.length_nil];omega),ae,Int.toNat_natCast,aE (x:=Tr.mk 0 0 [] []) (by simp),ae,ae,ab,vX,ab,an (x:=(l.length:Int)+1) (by omega) (by omega),show((l.length:Int)+1)=((l.length+1:Nat):Int) by omega,Int.toNat_natCast,
  aE (x:=Tr.mk 0 0 [] []) (by rw[List.getElem?_append_right (by omega)];simp),ae,ae,ab]
 have h:=vX (Tr.mk 0 0 [] []) b [] (l ++ [a])
 rw[List.length_append,List.length_singleton,List.append_assoc,List.append_assoc]at h
 exact congrArg K h
theorem Bi{lab:Int}{b:List UInt8}{X l:List Tr}(hz:lab∈([2,-1,-2,-4]:List Int))(hb:b.length≤32)(hl:l.length≤100):f_ lab b X l=some (X,(l++iM (iT lab) b,())):=by
 unfold f_
 rw[ab]
 cases b with
 |nil=>
  show some (X,(l,()))=some (X,(l ++ [],()))
  rw[List.append_nil]
 |cons x b=>
  rw[decide_eq_true (by rw[List.length_cons];omega),bf]
  have hi:cy lab=some (iT lab):=sH (by simp only[List.mem_cons,List.not_mem_nil,or_false]at hz⊢;rcases hz with e |e |e |e<;>simp[e])
  rw[hi,ae,sP (b:=x::b) (by omega),ae]
  exact Pw (by omega) fun x14=>some (X,(x14,()))
theorem Fu(t:Tr)(b:List UInt8):(iM t b).length≤2:=by cases b<;>simp[iM]
theorem GZ{k:aD}(h:KV k):nF k=some (lY k):=by
 have e1:cy 1=some (iT 1):=sH (by simp)
 have ek:cy k.1=some (iT k.1):=sH (by rcases h.kind with h |h<;>rw[h.1]<;>simp)
 have l1:=Fu (iT 2) k.2.2.2.1
 unfold nF
 rw[e1,ae,ek,ae,Bi (by simp) (by have:=h.kid;omega) (by simp),ae]
 refine ac (y:=(([]:List Tr),[iT 1,iT k.1]++iM (iT 2) k.2.2.2.1++wy k.2.2.1)) ?_ ?_
 ·rw[ab]
  rcases sJ h.alg with⟨e,e2⟩ | ⟨e,e2⟩
  ·rw[e2,e,List.append_nil];rfl
  ·have hne:(k.2.2.1 != 0)=true:=by simp only[List.mem_cons,List.not_mem_nil,or_false]at e;rcases e with e |e |e<;>rw[e]<;>rfl
   rw[hne,bf,show cy 3=some (iT 3)from sH (by simp),ae,sH (z:=k.2.2.1) (by simp only[List.mem_cons,List.not_mem_nil,or_false]at e⊢;rcases e with e |e |e<;>simp[e]),ae,e2]
   refine(Pw (a:=iT 3) (b:=iT k.2.2.1) (l:=[iT 1,iT k.1]++iM (iT 2) k.2.2.2.1) (by simp only[List.length_append,List.length_cons,List.length_nil];omega) fun x14=>some (([]:List Tr),x14)).trans ?_
   rfl
 have l2:(wy k.2.2.1).length≤2:=by unfold wy;cases k.2.2.1==0<;>simp
 rw[ab]
 rcases h.kind with⟨k1,_,_,_,_,k6⟩ | ⟨k1,k2,k3,k4,_,_⟩
 ·rw[show(k.1==4)=true by rw[k1];rfl,bf,Bi (by simp) (by omega) (by simp only[List.length_append,List.length_cons,List.length_nil];omega),ae]
  unfold lY
  rw[show(k.1==4)=true by rw[k1];rfl]
  rfl
 ·rw[show(k.1==4)=false by rw[k1];rfl,aw,show cy (-1)=some (iT (-1))from sH (by simp),ae,sH (z:=k.2.1) (by rcases k2 with e |e<;>rw[e]<;>simp),ae]
  refine(Pw (l:=[iT 1,iT k.1]++iM (iT 2) k.2.2.2.1++wy k.2.2.1) (by simp only[List.length_append,List.length_cons,List.length_nil];omega) _).trans ?_
  have l3:=Fu (iT (-2)) k.2.2.2.2.1
  rw[Bi (by simp) (by rcases k3 with e |e<;>simp[e]) (by simp only[List.length_append,List.length_cons,List.length_nil];omega),ae,Bi (by simp) (by rcases k4 with e |e<;>simp[e]) (by simp only[List.length_append,List.length_cons,List.length_nil];omega),ae]
  unfold lY
  rw[show(k.1==4)=false by rw[k1];rfl]
  refine congrArg some ?_
  show((([iT 1,iT k.1]++iM (iT 2) k.2.2.2.1++wy k.2.2.1) ++ [iT (-1),iT k.2.1])++iM (iT (-2)) k.2.2.2.2.1)++iM (iT (-4)) k.2.2.2.2.2.1=([I0 1,iT k.1]++iM (I0 2) k.2.2.2.1++wy k.2.2.1)++(([N0 0,iT k.2.1]++iM (N0 1) k.2.2.2.2.1)++iM (N0 3) k.2.2.2.2.2.1)
  rw[←List.append_assoc,←List.append_assoc]
  rfl
theorem tN{b:List UInt8}(h:b = []∨b.length=32):f7 b=some true:=by
 rcases h with rfl |h
 ·rfl
 ·unfold f7
  rw[ab,ab,h];rfl
theorem zx{k:aD}(h:KV k):lq k=some true:=by
 have ha:=h.alg
 unfold lq
 refine ac (y:=false) ?_ ?_
 ·rw[ab,decide_eq_false (by have:=h.kid;omega),aw,ab,decide_eq_false (by simp only[List.mem_cons,List.not_mem_nil,or_false]at ha;omega),aw,ab,decide_eq_false (by simp only[List.mem_cons,List.not_mem_nil,or_false]at ha;omega)]
 rw[aw,ab]
 rcases h.kind with⟨k1,k2,k3,k4,k5,k6⟩ | ⟨k1,k2,k3,k4,k5,k6⟩
 ·rw[show(k.1==1)=false by rw[k1];rfl,aw,ab,show(k.1==4)=true by rw[k1];rfl,bf]
  refine ac (y:=true) ?_ rfl
  rw[ab,k2,k3,k4]
  show(letm (decide (1≤(k.2.2.2.2.2.2.length:Int))) fun x23=>cond x23 (letm (decide ((k.2.2.2.2.2.2.length:Int)≤64)) fun x24=>some x24) (some false))=_
  rw[ab,decide_eq_true (by omega),bf,ab,decide_eq_true (by omega)]
 ·rw[show(k.1==1)=true by rw[k1];rfl,bf]
  have hs:aA ((k.2.2.2.2.1.length:Int)+(k.2.2.2.2.2.1.length:Int))=(k.2.2.2.2.1.length:Int)+(k.2.2.2.2.2.1.length:Int):=an (by omega) (by rcases k3 with e |e<;>rcases k4 with e' |e'<;>simp[e,e'])
  refine ac (y:=true) ?_ rfl
  rcases k2 with e |e
  ·rw[ab,e]
   show(bnd (f7 _) _)=_
   rw[tN k3,ae,bf,tN k4,ae,bf,ab,hs,ab,decide_eq_true (by omega),bf,ab,k6];rfl
  ·rw[ab,e]
   show(bnd (f7 _) _)=_
   rw[tN k3,ae,bf,tN k4,ae,bf,ab,hs,ab,decide_eq_true (by omega),bf,ab,k6];rfl
theorem uX{k:aD}(h:KV k):ic k=some (iX k,0):=by
 unfold ic
 rw[zx h,ae,ab,Bool.not_true,aw,GZ h,ae]
 exact ac (su (p:=iX k) rfl (qY h)) rfl
theorem xo{k:aD}(h:KV k):jm k=some (aG (iX k),0):=by
 unfold jm
 rw[uX h,ae,ab]
 show bnd (dP (iX k)) _=_
 exact ac (qa (qY h)) rfl
inductive FP where
 |kty (z:Int)
 |alg (z:Int)
 |crv (z:Int)
 |kid (b:List UInt8)
 |kk (b:List UInt8)
 |x (b:List UInt8)
 |d (b:List UInt8)
def FP.p:FP→Tr×Tr
 | .kty z=>(I0 1,iT z)
 | .alg z=>(I0 3,iT z)
 | .crv z=>(N0 0,iT z)
 | .kid b=>(I0 2,B0 b)
 | .kk b=>(N0 0,B0 b)
 | .x b=>(N0 1,B0 b)
 | .d b=>(N0 3,B0 b)
def FP.u(s:aD):FP→aD
 | .kty z=>(z,s.2)
 | .alg z=>(s.1,(s.2.1,(z,s.2.2.2)))
 | .crv z=>(s.1,(z,s.2.2))
 | .kid b=>(s.1,(s.2.1,(s.2.2.1,(b,s.2.2.2.2))))
 | .kk b=>(s.1,(s.2.1,(s.2.2.1,(s.2.2.2.1,(s.2.2.2.2.1,(s.2.2.2.2.2.1,b))))))
 | .x b=>(s.1,(s.2.1,(s.2.2.1,(s.2.2.2.1,(b,s.2.2.2.2.2)))))
 | .d b=>(s.1,(s.2.1,(s.2.2.1,(s.2.2.2.1,(s.2.2.2.2.1,(b,s.2.2.2.2.2.2))))))
def FP.ok:FP→Prop
 | .kty z=>z∈([1,4]:List Int)
 | .alg z=>z∈([10,-8,5]:List Int)
 | .crv z=>z∈([4,6]:List Int)
 | .kid b | .kk b | .x b | .d b=>b.length≤32
def BQ(l:List FP):List Tr:=l.flatMap fun f=>[f.p.1,f.p.2]
def oV(f:List UInt8→FP)(b:List UInt8):List FP:=bif b.isEmpty then []else [f b]
def vB(k:aD):List FP:=
 [.kty k.1]++oV .kid k.2.2.2.1++(bif k.2.2.1==0 then []else [.alg k.2.2.1])++(bif k.1==4 then oV .kk k.2.2.2.2.2.2 else [.crv k.2.1]++oV .x k.2.2.2.2.1++oV .d k.2.2.2.2.2.1)
theorem uh(a b:List FP):BQ (a++b)=BQ a++BQ b:=List.flatMap_append
theorem vY(f:List UInt8→FP)(t:Tr)(hf : ∀b,(f b).p=(t,B0 b))(b:List UInt8):BQ (oV f b)=iM t b:=by
 cases b with
 |nil=>rfl
 |cons x b=>show [(f (x::b)).p.1,(f (x::b)).p.2] ++ []=_;rw[hf];rfl
theorem Jh(k:aD):lY k=BQ (vB k):=by
 unfold lY vB
 rw[uh,uh,uh,vY .kid (I0 2) (fun _=>rfl)]
 have h1:BQ (bif k.2.2.1==0 then []else [.alg k.2.2.1])=wy k.2.2.1:=by unfold wy;cases k.2.2.1==0<;>rfl
 have h2:BQ (bif k.1==4 then oV .kk k.2.2.2.2.2.2 else [.crv k.2.1]++oV .x k.2.2.2.2.1++oV .d k.2.2.2.2.2.1)=(bif k.1==4 then iM (N0 0) k.2.2.2.2.2.2 else [N0 0,iT k.2.1]++iM (N0 1) k.2.2.2.2.1++iM (N0 3) k.2.2.2.2.2.1):=by
  cases k.1==4
  ·show BQ ([.crv k.2.1]++oV .x k.2.2.2.2.1++oV .d k.2.2.2.2.2.1)=_
   rw[uh,uh,vY .x (N0 1) (fun _=>rfl),vY .d (N0 3) (fun _=>rfl)];rfl
  ·show BQ (oV .kk k.2.2.2.2.2.2)=_
   rw[vY .kk (N0 0) (fun _=>rfl)];rfl
 rw[h1,h2];rfl
def zK:aD:=(0,(0,(0,([],([],([],[]))))))
theorem tE(f:List UInt8→FP)(b:List UInt8)(s:aD)(hb:b = []→(f b).u s=s):(oV f b).foldl FP.u s=(f b).u s:=by
 cases b with
 |nil=>exact(hb rfl).symm
 |cons x b=>rfl
set_option maxRecDepth 100000
theorem Fh : ∀(F:List FP) (j:Nat) (h:j<F.length),(BQ F)[2*j]?=some F[j].p.1∧(BQ F)[2*j+1]?=some F[j].p.2
 |f::F,0,_=>⟨rfl,rfl⟩
 |f::F,j+1,h=>by
  have:=Fh F j (by simp only[List.length_cons]at h;omega)
  show(f.p.1::f.p.2::BQ F)[2*(j+1)]?=_∧(f.p.1::f.p.2::BQ F)[2*(j+1)+1]?=_
  rw[show 2*(j+1)=2*j+1+1 by omega,List.getElem?_cons_succ,List.getElem?_cons_succ,List.getElem?_cons_succ,List.getElem?_cons_succ]
  exact this
theorem Fg(F:List FP):(BQ F).length=2*F.length:=by
 induction F with
 |nil=>rfl
 |cons f F ih=>show(BQ F).length+1+1=_;rw[ih,List.length_cons];omega
theorem DP{z:Int}(h:z∈([1,2,3,-1,-2,-4,4,6,10,-8,5]:List Int)):h_ (iT z)=some (z,true):=by
 simp only[List.mem_cons,List.not_mem_nil,or_false]at h
 rcases h with rfl |rfl |rfl |rfl |rfl |rfl |rfl |rfl |rfl |rfl |rfl<;>rfl
theorem FT(b:List UInt8):h_ (B0 b)=some (0,false):=rfl
theorem Ef{R S:Type}{b:((Int×S)→Option R)→(Int×S)→Option R}(n:Nat)(hn:n≤1000)(st:Nat→S)(r:Option R)(h1 : ∀self j,j<n→b self (((2*j:Nat):Int),st j)=self (((2*(j+1):Nat):Int),st (j+1)))
  (h2 : ∀self,b self (((2*n:Nat):Int),st n)=r):aM b bA (0,st 0)=r:=by
 have key : ∀m j f,m+j=n→n<j+f→aM b f (((2*j:Nat):Int),st j)=r:=by
  intro m
  induction m with
  |zero=>
   intro j f hj hf
   obtain⟨f,rfl⟩ : ∃g,f=g+1:=⟨f-1,by omega⟩
   rw[bd,show j=n by omega]
   exact h2 _
  |succ m ih=>
   intro j f hj hf
   obtain⟨f,rfl⟩ : ∃g,f=g+1:=⟨f-1,by omega⟩
   rw[bd,h1 _ j (by omega)]
   exact ih (j+1) f (by omega) (by omega)
 exact key n 0 bA (by omega) (by rw[cG];omega)
theorem JO{x:Tr}(h:eU x=true):mB x x=some 0:=by
 obtain⟨v,c,l⟩:=cT.1 h
 unfold mB
 refine ac (y:=false) ?_ ?_
 ·rw[gj,ae,h,ab,Bool.not_true,aw,ae,ab];rfl
 ·rw[aw]
  exact ac (np v (by omega) (by omega)) (ac (np v (by omega) (by omega)) (ac (tc.trans (congrArg some ((mU _ _).2 rfl))) rfl))
theorem MH{k:aD}(h:KV k):(∀f∈vB k,f.ok)∧(vB k).foldl FP.u zK=k:=by
 have ho : ∀(f:List UInt8→FP) (b:List UInt8),b.length≤32→(∀c:List UInt8,c.length≤32→(f c).ok)→∀g∈oV f b,g.ok:=by
  intro f b hb hf g hg
  cases b with
  |nil=>cases hg
  |cons x b=>
   obtain rfl:g=f (x::b):=by simpa [oV]using hg
   exact hf _ hb
 have ha : ∀g∈(bif k.2.2.1==0 then []else [.alg k.2.2.1]:List FP),g.ok:=by
  intro g hg
  have hx:=h.alg
  simp only[List.mem_cons,List.not_mem_nil,or_false]at hx
  rcases hx with e |e |e |e<;>rw[e]at hg
  ·cases hg
  all_goals
   obtain rfl:g=_:=by simpa using hg
   show _∈([10,-8,5]:List Int)
   simp
 have hkid:=h.kid
 have fa : ∀s:aD,s.2.2.1=0→(bif k.2.2.1==0 then []else [.alg k.2.2.1]:List FP).foldl FP.u s=FP.u s (.alg k.2.2.1):=by
  intro s hs
  rcases sJ h.alg with⟨e,_⟩ | ⟨e,_⟩
  ·rw[e]
   show s=(s.1,(s.2.1,(0,s.2.2.2)))
   rw[←hs]
  ·have hne:(k.2.2.1==0)=false:=by simp only[List.mem_cons,List.not_mem_nil,or_false]at e;rcases e with e |e |e<;>rw[e]<;>rfl
   rw[hne];rfl
 obtain⟨a,c,g,kid,x,d,kk⟩:=k
 constructor
 ·intro f hf
  unfold vB at hf
  rw[List.mem_append,List.mem_append,List.mem_append]at hf
  rcases h.kind with⟨k1,k2,k3,k4,k5,k6⟩ | ⟨k1,k2,k3,k4,k5,k6⟩
  ·rcases hf with((hf |hf) |hf) |hf
   ·obtain rfl:f=_:=by simpa using hf
    show a∈([1,4]:List Int)
    rw[show a=4 from k1];simp
   ·exact ho .kid _ (by omega) (fun _ h=>h) f hf
   ·exact ha f hf
   ·rw[show(a==4)=true by rw[show a=4 from k1];rfl]at hf
    exact ho .kk _ k6 (fun _ h=>h) f hf
  ·rcases hf with((hf |hf) |hf) |hf
   ·obtain rfl:f=_:=by simpa using hf
    show a∈([1,4]:List Int)
    rw[show a=1 from k1];simp
   ·exact ho .kid _ (by omega) (fun _ h=>h) f hf
   ·exact ha f hf
   ·rw[show(a==4)=false by rw[show a=1 from k1];rfl]at hf
    have hf:f∈([.crv c]++oV .x x++oV .d d:List FP):=hf
    rw[List.mem_append,List.mem_append]at hf
    rcases hf with(hf |hf) |hf
    ·obtain rfl:f=_:=by simpa using hf
     show c∈([4,6]:List Int)
     rcases k2 with e |e<;>rw[show c=_ from e]<;>simp
    ·exact ho .x _ (k3.elim (fun e=>by rw[show x = []from e];simp) (fun e=>by rw[show x.length=32 from e];omega)) (fun _ h=>h) f hf
    ·exact ho .d _ (k4.elim (fun e=>by rw[show d = []from e];simp) (fun e=>by rw[show d.length=32 from e];omega)) (fun _ h=>h) f hf
 ·unfold vB
  rw[List.foldl_append,List.foldl_append,List.foldl_append]
  have e0:([FP.kty a]:List FP).foldl FP.u zK=(a,zK.2):=rfl
  have e1:=tE .kid kid (a,zK.2) (fun e=>by rw[e];rfl)
  have e2:=fa (FP.u (a,zK.2) (.kid kid)) rfl
  dsimp only at e2⊢
  rw[e0,e1,e2]
  rcases h.kind with⟨k1,k2,k3,k4,k5,k6⟩ | ⟨k1,k2,k3,k4,k5,k6⟩
  ·rw[show(a==4)=true by rw[show a=4 from k1];rfl]
   show(oV .kk kk).foldl FP.u _=_
   rw[tE .kk kk _ (fun e=>by rw[e];rfl),show c=0 from k2,show x = []from k3,show d = []from k4];rfl
  ·rw[show(a==4)=false by rw[show a=1 from k1];rfl]
   show([.crv c]++oV .x x++oV .d d:List FP).foldl FP.u _=_
   rw[List.foldl_append,List.foldl_append,tE .x x _ (fun e=>by rw[e];rfl),tE .d d _ (fun e=>by rw[e];rfl),show kk = []from k6];rfl
def px(s:aD×aD)(x8:Int×Bool)(x10:Tr)(x11:Int×Bool):Option ((aD×Int)⊕(aD×aD)):=
 bnd (β:=Bool) (cond x8.2 (cond x11.2 (cond (x8.1==1) (letm ((!false)) fun x12=>
 some x12)
  (cond (x8.1==3) (letm ((!false)) fun x13=>
 some x13)
  (cond (x8.1==(-1)) (letm ((!false)) fun x14=>
 some x14)
  (letm ((!true)) fun x15=>
 some x15))))
  (some false))
  (some false)) fun v16=>
 cond v16 (cond (x8.1==1) (some (.inr (s.1,(x11.1,s.2.2))))
  (cond (x8.1==3) (some (.inr (s.1,(s.2.1,(s.2.2.1,(x11.1,s.2.2.2.2))))))
  (cond (x8.1==(-1)) (some (.inr (s.1,(s.2.1,(x11.1,s.2.2.2)))))
  (none))))
  (cond (x8.1==2) (bnd (β:=Bool) (cond x8.2 (letm ((!false)) fun x17=>
 cond x17 (letm ((x10.k==2)) fun x18=>
 some x18)
  (some false))
  (some false)) fun v19=>
 cond v19 (bnd (aJ x10.b) fun x20=>
 some (.inr (s.1,(s.2.1,(s.2.2.1,(s.2.2.2.1,(x20,s.2.2.2.2.2)))))))
  (some (.inl ((0,(0,(0,([],([],([],[])))))),12))))
  (cond (x8.1==(-1)) (bnd (β:=Bool) (cond x8.2 (letm ((!false)) fun x21=>
 cond x21 (letm ((x10.k==2)) fun x22=>
 some x22)
  (some false))
  (some false)) fun v23=>
 cond v23 (bnd (aJ x10.b) fun x24=>
 some (.inr (s.1,(s.2.1,(s.2.2.1,(s.2.2.2.1,(s.2.2.2.2.1,(s.2.2.2.2.2.1,(s.2.2.2.2.2.2.1,x24)))))))))
  (some (.inl ((0,(0,(0,([],([],([],[])))))),12))))
  (cond (x8.1==(-2)) (bnd (β:=Bool) (cond x8.2 (letm ((!false)) fun x25=>
 cond x25 (letm ((x10.k==2)) fun x26=>
 some x26)
  (some false))
  (some false)) fun v27=>
 cond v27 (bnd (aJ x10.b) fun x28=>
 some (.inr (s.1,(s.2.1,(s.2.2.1,(s.2.2.2.1,(s.2.2.2.2.1,(x28,s.2.2.2.2.2.2))))))))
  (some (.inl ((0,(0,(0,([],([],([],[])))))),12))))
  (cond (x8.1==(-4)) (bnd (β:=Bool) (cond x8.2 (letm ((!false)) fun x29=>
 cond x29 (letm ((x10.k==2)) fun x30=>
 some x30)
  (some false))
  (some false)) fun v31=>
 cond v31 (bnd (aJ x10.b) fun x32=>
 some (.inr (s.1,(s.2.1,(s.2.2.1,(s.2.2.2.1,(s.2.2.2.2.1,(s.2.2.2.2.2.1,(x32,s.2.2.2.2.2.2.2)))))))))
  (some (.inl ((0,(0,(0,([],([],([],[])))))),12))))
  (bnd (β:=Bool) (cond x8.2 (letm ((!true)) fun x33=>
 cond x33 (letm ((x10.k==2)) fun x34=>
 some x34)
  (some false))
  (some false)) fun v35=>
 cond v35 (bnd (aJ x10.b) fun x36=>
 none)
  (some (.inl ((0,(0,(0,([],([],([],[])))))),12))))))))
theorem OK(s:aD×aD)(v:Tr)(z:Int):px s (1,true) v (z,true)=some (.inr (s.1,FP.u s.2 (.kty z))):=rfl
theorem OO(s:aD×aD)(v:Tr)(z:Int):px s (3,true) v (z,true)=some (.inr (s.1,FP.u s.2 (.alg z))):=rfl
theorem P3(s:aD×aD)(v:Tr)(z:Int):px s (-1,true) v (z,true)=some (.inr (s.1,FP.u s.2 (.crv z))):=rfl
theorem PM(s:aD×aD){b:List UInt8}(h:aJ (B0 b).b=some b):px s (2,true) (B0 b) (0,false)=some (.inr (s.1,FP.u s.2 (.kid b))):=by
 have e:px s (2,true) (B0 b) (0,false)=bnd (aJ (B0 b).b) fun c=>some (.inr (s.1,FP.u s.2 (.kid c))):=rfl
 rw[e,h,ae]
theorem R7(s:aD×aD){b:List UInt8}(h:aJ (B0 b).b=some b):px s (-1,true) (B0 b) (0,false)=some (.inr (s.1,FP.u s.2 (.kk b))):=by
 have e:px s (-1,true) (B0 b) (0,false)=bnd (aJ (B0 b).b) fun c=>some (.inr (s.1,FP.u s.2 (.kk c))):=rfl
 rw[e,h,ae]
theorem SS(s:aD×aD){b:List UInt8}(h:aJ (B0 b).b=some b):px s (-2,true) (B0 b) (0,false)=some (.inr (s.1,FP.u s.2 (.x b))):=by
 have e:px s (-2,true) (B0 b) (0,false)=bnd (aJ (B0 b).b) fun c=>some (.inr (s.1,FP.u s.2 (.x c))):=rfl
 rw[e,h,ae]
theorem SA(s:aD×aD){b:List UInt8}(h:aJ (B0 b).b=some b):px s (-4,true) (B0 b) (0,false)=some (.inr (s.1,FP.u s.2 (.d b))):=by
 have e:px s (-4,true) (B0 b) (0,false)=bnd (aJ (B0 b).b) fun c=>some (.inr (s.1,FP.u s.2 (.d c))):=rfl
 rw[e,h,ae]
theorem Pi(s:aD×aD){f:FP}(hf:f.ok): ∃x8 x11,h_ f.p.1=some x8∧h_ f.p.2=some x11∧px s x8 f.p.2 x11=some (.inr (s.1,FP.u s.2 f)):=by
 have hc : ∀b:List UInt8,b.length≤32→aJ (B0 b).b=some b:=fun b h=>hD (by show b.length≤_;omega)
 cases f with
 |kty z=>
  have hf:z∈([1,4]:List Int):=hf
  exact⟨_,_,rfl,DP (z:=z) (by simp only[List.mem_cons,List.not_mem_nil,or_false]at hf⊢;rcases hf with e |e<;>simp[e]),OK s _ z⟩
 |alg z=>
  have hf:z∈([10,-8,5]:List Int):=hf
  exact⟨_,_,rfl,DP (z:=z) (by simp only[List.mem_cons,List.not_mem_nil,or_false]at hf⊢;rcases hf with e |e |e<;>simp[e]),OO s _ z⟩
 |crv z=>
  have hf:z∈([4,6]:List Int):=hf
  exact⟨_,_,rfl,DP (z:=z) (by simp only[List.mem_cons,List.not_mem_nil,or_false]at hf⊢;rcases hf with e |e<;>simp[e]),P3 s _ z⟩
 |kid b=>exact⟨_,_,rfl,FT b,PM s (hc b hf)⟩
 |kk b=>exact⟨_,_,rfl,FT b,R7 s (hc b hf)⟩
 |x b=>exact⟨_,_,rfl,FT b,SS s (hc b hf)⟩
 |d b=>exact⟨_,_,rfl,FT b,SA s (hc b hf)⟩
theorem Cw{k:aD}(h:KV k):jf (iX k)=some (k,0):=by
 obtain⟨hF,hk⟩:=MH h
 have hok:=qY h
 have hL:(iX k).l=BQ (vB k):=Jh k
 have hlen:(vB k).length≤1000:=by
  have h1:=Fg (vB k)
  rw[←Jh]at h1
  have:=(mt h).2.2.2.1
  omega
 have hn:=Fg (vB k)
 have hfin:(bnd (ic k) fun x39=>bnd (β:=Bool) (letm ((x39.2 != 0)) fun x40=>cond x40 (some true) (bnd (mB (iX k) x39.1) fun x41=>letm ((x41 != 0)) fun x42=>some x42)) fun v43=>cond v43 (some (zK,12)) (some (k,0)))=some (k,(0:Int)):=by
  refine ac (uX h) ?_
  refine ac (y:=false) ?_ rfl
  rw[ab]
  refine bo rfl ?_
  exact ac (JO hok) rfl
 have hfin2:(vB k).foldl FP.u zK=k:=hk
 unfold jf
 rw[gj,ae,hok,ab,Bool.not_true,aw,ab]
 refine bo rfl ?_
 rw[hL]
 generalize vB k=F at hF hn hlen hk
 refine Ef F.length hlen (fun j=>(zK,(F.take j).foldl FP.u zK)) _ (fun self j hj=>?_) (fun self=>?_)
 ·obtain⟨g1,g2⟩:=Fh F j hj
  have hst:(F.take (j+1)).foldl FP.u zK=FP.u ((F.take j).foldl FP.u zK) F[j]:=by
   rw[List.take_add_one,List.getElem?_eq_getElem hj,List.foldl_append];rfl
  obtain⟨x8,x11,n1,n2,ks⟩:=Pi (zK,(F.take j).foldl FP.u zK) (hF _ (List.getElem_mem hj))
  have hw:aA (((2*j:Nat):Int)+1)=((2*j+1:Nat):Int):=by rw[an (by omega) (by omega)];omega
  rw[ab]
  refine eQ (decide_eq_true (by show((2*j:Nat):Int)<((BQ F).length:Int);omega)) ?_
  refine fF (y:=(zK,FP.u ((F.take j).foldl FP.u zK) F[j])) ?_ ?_
  ·rw[aE g1,ae,n1,ae,ab,hw,aE g2,ae,n2,ae]
   exact ks
  ·rw[ab,an (by omega) (by omega),show((2*j:Nat):Int)+2=((2*(j+1):Nat):Int) by omega,hst]
 ·have e:F.take F.length=F:=List.take_length
  rw[e,hk,ab]
  refine bo (decide_eq_false (by show ¬((2*F.length:Nat):Int)<((BQ F).length:Int);omega)) ?_
  exact hfin
theorem EL{k:aD}(h:KV k):ma (aG (iX k))=some (k,0):=by
 unfold ma
 rw[nf (qY h),ae,ab]
 show bnd (jf (iX k)) _=_
 exact ac (Cw h) rfl
end Go.Proofs.YtiilbonamnegaaaGreatDoor
