import Derived.Test.YthejfljhiaeoeaaGreatDoorZl
namespace Go.Proofs.YthejfljhiaeoeaaGreatDoor
open Go.Gk Go.RowKit
set_option maxRecDepth 100000
theorem EA{m x:Tr}(hm:eV m=true)(hx:eV x=true):bm m x=some (GZ (jY m.l x)):=by
 have:=ql hm
 obtain⟨K,N,bb,l⟩:=m
 exact v_ (l:=l) (fun y hy=>iV hm hy) (by have h:l.length≤256:=this;omega) hx
theorem FO{p u x:Tr}{n:Int}(hn:av n=some x)(ox:eV x=true)(hp:eV p=true)(hu:eV u=true): ∃r,cz (p,u) n=some r∧(r.2=false→jY p.l x=none∧jY u.l x=none):=by
 unfold cz
 rw[hn,ae]
 have e1:bm (p,u).1 x=some (GZ (jY p.l x)):=EA hp ox
 have e2:bm (p,u).2 x=some (GZ (jY u.l x)):=EA hu ox
 rw[e1,ae,jU]
 cases jY p.l x with
 |some v=>exact⟨_,rfl,fun h=>by cases h⟩
 |none=>
  show ∃r,cond false _ _=some r∧_
  rw[ay,ae,e2,ae]
  cases jY u.l x with
  |some v=>exact⟨_,rfl,fun h=>by cases h⟩
  |none=>exact⟨_,rfl,fun _=>⟨rfl,rfl⟩⟩
structure HS(c n:Nat)(p u:Tr):Prop where
 hv:HV p u
 alg:jY p.l (I0 1)=some (I0 30)∨jY u.l (I0 1)=some (I0 30)
 cnt:cV p.l+cV u.l≤c
 len:(cU p.l).length+(cU u.l).length≤n
 dp : ∀y∈p.l,xQ y 1=true
 du : ∀y∈u.l,xQ y 1=true
theorem PN{l m:Tr}(hl:l.k=5)(ol:eV l=true){q:List Tr}(h:PP l.l q){k v:Tr}(hq:(k,v)∈fU q):jY l.l k=some v:=by
 obtain⟨_,h2,h3⟩:=jE hl ol
 exact(CR l.l h3 h2 k v).1 (h.p.mem_iff.2 hq)
theorem vZ{c n cv nv:Nat}{p u x v:Tr}{z:Int}(h:HS c n p u)(hc:c+1+cv≤90)(hz:av z=some x)(ox:eV x=true)(lx:xQ x 1=true)(cx:bU x≤1)(nx:(aK x).length≤9)(hv:IB 1 cv nv v)(b:Bool):
  ∃r,bF (p,u) b z v=some r∧(r.2=0→HS (c+1+cv) (n+9+nv) r.1.1 r.1.2):=by
 have hval:P2 p u=true∨True:=.inr trivial
 unfold bF
 refine jo (fun w=>w=false→eV v=true) ?_ fun w hw=>?_
 ·rw[pO,ae,aa]
  refine gJ (fun _=>⟨true,rfl,fun h=>by cases h⟩) (fun _=>?_)
  rw[lQ,ae,aa]
  exact⟨_,rfl,fun h=>by simpa using h⟩
 refine gJ (fun _=>⟨_,rfl,fun h=>absurd h (by decide)⟩) (fun hw0=>?_)
 have ov:=hw hw0
 obtain⟨r,hr,hrn⟩:=FO hz ox h.hv.o1 h.hv.o2
 rw[hr,ae]
 refine gJ (fun _=>⟨_,rfl,fun h=>absurd h (by decide)⟩) (fun hr0=>?_)
 obtain⟨na,nb⟩:=hrn hr0
 have hcp:gj (p,u)=some (p,u):=by
  unfold gj
  refine ac (Ia h.hv.o1) (ac (Ia h.hv.o2) rfl)
 rw[hcp,ae]
 obtain⟨t,ht⟩ : ∃t,t=bif b then p else u:=⟨_,rfl⟩
 have hsel:(cond b (some (p,u).1) (some (p,u).2):Option Tr)=some t:=by rw[ht];cases b<;>rfl
 rw[hsel,ae]
 have tk:t.k=5:=by rw[ht];cases b;exact h.hv.k2;exact h.hv.k1
 have to:eV t=true:=by rw[ht];cases b;exact h.hv.o2;exact h.hv.o1
 have tev:=kM tk to
 have tl:t.l.length≤90:=by
  have a1:=cW p.l
  have a2:=cW u.l
  have a3:=h.cnt
  rw[ht];cases b
  ·show u.l.length≤90;omega
  ·show p.l.length≤90;omega
 rw[aD (by rw[List.length_nil];omega),ae,List.nil_append,hz,ae,aD (by simp only[List.length_cons,List.length_nil];omega),ae]
 obtain⟨q,hq,hqs⟩:=xE (t.l ++ [x,v]) (by simp only[List.length_append,List.length_cons,List.length_nil];omega)
 rw[hq,ae,aa]
 refine gJ (fun _=>⟨_,rfl,fun h=>absurd h (by decide)⟩) (fun hq0=>?_)
 rw[bne_eq_false_iff_eq]at hq0
 obtain⟨l,e1,e2,e3,e4⟩:=hqs hq0
 obtain⟨m,hm⟩ : ∃m,m=q.1:=⟨_,rfl⟩
 rw[←hm]at e1 e2⊢
 have hml:m.l=l:=by rw[e1];rfl
 have hmk:m.k=5:=by rw[e1];rfl
 rw[←hml]at e3
 obtain⟨p',hp'⟩ : ∃p',p'=bif b then m else p:=⟨_,rfl⟩
 obtain⟨u',hu'⟩ : ∃u',u'=bif b then u else m:=⟨_,rfl⟩
 have hsel2:(cond b (some (m,(p,u).2)) (some ((p,u).1,m)):Option az)=some (p',u'):=by rw[hp',hu'];cases b<;>rfl
 rw[hsel2,ae,pO,ae,aa]
 refine gJ (fun _=>⟨_,rfl,fun h=>absurd h (by decide)⟩) (fun hv'=>?_)
 refine⟨_,rfl,fun _=>?_⟩
 have HV':HV p' u':=Do (by simpa using hv')
 have ccl : ∀(a b:List Tr),cV (a++b)=cV a+cV b:=by
  intro a b
  induction a with
  |nil=>rw[cN,List.nil_append];omega
  |cons y a ih=>rw[List.cons_append,bf,bf,ih];omega
 have ecl : ∀(a b:List Tr),(cU (a++b)).length=(cU a).length+(cU b).length:=by
  intro a b
  induction a with
  |nil=>rw[bB,List.nil_append,List.length_nil];omega
  |cons y a ih=>rw[List.cons_append,aX,aX,List.length_append,List.length_append,ih];omega
 have mcnt:cV m.l≤cV t.l+1+cv:=by
  rw[e3.cnt,ccl,bf,bf,cN]
  have:=hv.cnt;omega
 have mlen:(cU m.l).length≤(cU t.l).length+9+nv:=by
  rw[e3.len,ecl,aX,aX,bB,List.length_append,List.length_append,List.length_nil]
  have:=hv.len;omega
 have tdep : ∀y∈t.l,xQ y 1=true:=by
  intro y hy
  rw[ht]at hy
  cases b
  ·exact h.du y hy
  ·exact h.dp y hy
 have mdep : ∀y∈m.l,xQ y 1=true:=by
  intro y hy
  have:=e3.mem.1 hy
  rcases List.mem_append.1 this with hy |hy
  ·exact tdep y hy
  ·simp only[List.mem_cons,List.not_mem_nil,or_false]at hy
   rcases hy with rfl |rfl
   ·exact lx
   ·exact hv.lv
 have hprs:fU (t.l ++ [x,v])=fU t.l ++ [(x,v)]:=sH t.l [x,v] tev
 have keep:jY t.l (I0 1)=some (I0 30)→jY m.l (I0 1)=some (I0 30):=fun ha=>by
  refine PN (m:=m) hmk e2 e3 ?_
  rw[hprs]
  exact List.mem_append_left _ (mM ha)
 have hcnt:=h.cnt
 have hlen:=h.len
 refine⟨HV',?_,?_,?_,?_,?_⟩
 ·rw[hp',hu']
  rcases h.alg with ha |ha
  ·cases b
   ·exact .inl ha
   ·refine .inl (keep ?_);rw[ht];exact ha
  ·cases b
   ·refine .inr (keep ?_);rw[ht];exact ha
   ·exact .inr ha
 ·rw[ht]at mcnt
  show cV p'.l+cV u'.l≤_
  rw[hp',hu']
  cases b
  ·simp only[cond_false]at mcnt⊢;omega
  ·simp only[cond_true]at mcnt⊢;omega
 ·rw[ht]at mlen
  show(cU p'.l).length+(cU u'.l).length≤_
  rw[hp',hu']
  cases b
  ·simp only[cond_false]at mlen⊢;omega
  ·simp only[cond_true]at mlen⊢;omega
 ·show ∀y∈p'.l,_
  rw[hp'];cases b
  ·exact h.dp
  ·exact mdep
 ·show ∀y∈u'.l,_
  rw[hu'];cases b
  ·exact mdep
  ·exact h.du
theorem HS.up{c n c' n':Nat}{p u:Tr}(h:HS c n p u)(h1:c≤c')(h2:n≤n'):HS c' n' p u:=⟨h.hv,h.alg,by have:=h.cnt;omega,by have:=h.len;omega,h.dp,h.du⟩
theorem mb(n:UInt64):xQ (I0 n) 1=true∧bU (I0 n)≤1∧(aK (I0 n)).length≤9:=by
 have hl:=iX 0 n
 refine⟨?_,?_,?_⟩
 ·unfold I0;rw[mZ];rfl
 ·unfold I0;rw[dz];omega
 ·unfold I0;rw[dd,own0];omega
theorem Gm(b:Bool): ∃p u,bF (Tr.mk 5 0 [] [],Tr.mk 5 0 [] []) b 1 (I0 30)=some ((p,u),0)∧((p=Tr.mk 5 0 [] [I0 1,I0 30]∧u=Tr.mk 5 0 [] [])∨(p=Tr.mk 5 0 [] []∧u=Tr.mk 5 0 [] [I0 1,I0 30])):=by
 cases b with
 |true=>exact⟨_,_,(by kernel_rfl),.inl ⟨rfl,rfl⟩⟩
 |false=>exact⟨_,_,(by kernel_rfl),.inr ⟨rfl,rfl⟩⟩
theorem Mx:av (-7)=some (Tr.mk 1 6 [] []):=by kernel_rfl
theorem Ql(k:Int)(n:UInt64)(hk:k=0∨k=1):eV (Tr.mk k n [] [])=true∧xQ (Tr.mk k n [] []) 1=true∧bU (Tr.mk k n [] [])≤1∧(aK (Tr.mk k n [] [])).length≤9:=by
 have hl:=cM k n [] 0
 rw[List.length_nil]at hl
 have hv:vT (Tr.mk k n [] []) 8=true:=by rcases hk with rfl |rfl<;>(rw[qn];rfl)
 have hlv:xQ (Tr.mk k n [] []) 1=true:=by rcases hk with rfl |rfl<;>(rw[mZ];rfl)
 refine⟨cR.2 ⟨hv,?_,?_⟩,hlv,?_,?_⟩
 ·rw[dz];omega
 ·rw[dd];omega
 ·rw[dz];omega
 ·rw[dd];omega
theorem CF{z:Int}(h:z∈([4,6,3,99,-7]:List Int)): ∃x,av z=some x∧eV x=true∧xQ x 1=true∧bU x≤1∧(aK x).length≤9:=by
 simp only[List.mem_cons,List.not_mem_nil,or_false]at h
 have p : ∀n:Nat,n<9223372036854775808→∃x,av (n:Int)=some x∧eV x=true∧xQ x 1=true∧bU x≤1∧(aK x).length≤9:=fun n hn=>⟨_,jI n hn,Gw _,mb _⟩
 rcases h with rfl |rfl |rfl |rfl |rfl
 ·exact p 4 (by omega)
 ·exact p 6 (by omega)
 ·exact p 3 (by omega)
 ·exact p 99 (by omega)
 ·exact⟨_,Mx,Ql 1 6 (.inr rfl)⟩
theorem IE{p u:Tr}(h:(p=Tr.mk 5 0 [] [I0 1,I0 30]∧u=Tr.mk 5 0 [] [])∨(p=Tr.mk 5 0 [] []∧u=Tr.mk 5 0 [] [I0 1,I0 30])):HS 2 20 p u:=by
 have v1:cK (Tr.mk 5 0 [] [I0 1,I0 30],Tr.mk 5 0 [] [])=some true:=by kernel_rfl
 have v2:cK (Tr.mk 5 0 [] [],Tr.mk 5 0 [] [I0 1,I0 30])=some true:=by kernel_rfl
 rw[pO]at v1 v2
 have a1:=mb 1
 have a2:=mb 30
 have hat:jY [I0 1,I0 30] (I0 1)=some (I0 30):=by unfold jY;rw[if_pos rfl]
 have hc:cV [I0 1,I0 30]=2:=by rw[bf,bf,cN];show bU (Tr.mk 0 1 [] [])+(bU (Tr.mk 0 30 [] [])+0)=2;rw[dz,dz]
 have hl:(cU [I0 1,I0 30]).length≤18:=by rw[aX,aX,bB,List.length_append,List.length_append,List.length_nil];omega
 have hd : ∀y∈[I0 1,I0 30],xQ y 1=true:=by
  intro y hy
  simp only[List.mem_cons,List.not_mem_nil,or_false]at hy
  rcases hy with rfl |rfl
  ·exact a1.1
  ·exact a2.1
 have hd0 : ∀y∈([]:List Tr),xQ y 1=true:=fun y hy=>by cases hy
 rcases h with⟨rfl,rfl⟩ | ⟨rfl,rfl⟩
 ·refine⟨Do (by injection v1),.inl hat,?_,?_,hd,hd0⟩
  ·show cV [I0 1,I0 30]+cV []≤2;rw[hc,cN];omega
  ·show(cU [I0 1,I0 30]).length+(cU []).length≤20;rw[bB,List.length_nil];omega
 ·refine⟨Do (by injection v2),.inr hat,?_,?_,hd0,hd⟩
  ·show cV []+cV [I0 1,I0 30]≤2;rw[hc,cN];omega
  ·show(cU []).length+(cU [I0 1,I0 30]).length≤20;rw[bB,List.length_nil];omega
theorem Gi:iU [I0 98]=some (Tr.mk 4 0 [] [I0 98]):=by kernel_rfl
theorem LZ:IB 1 2 41 (Tr.mk 4 0 [] [I0 98]):=by
 have a:=mb 98
 have hl:=cM 4 0 [] 1
 rw[List.length_nil]at hl
 refine⟨?_,?_,?_⟩
 ·rw[mZ,sL,AP];show _||(true&&(xQ (Tr.mk 0 98 [] []) 0&&true))=true;rw[mZ];rfl
 ·rw[fP,bf,cN];omega
 ·rw[fM,aX,bB,List.length_append,List.length_append,List.length_nil]
  show(fg 4 0 [] 1).length+_≤41
  omega
theorem z7{d:ab}(h:bt d): ∃r,dF d 30=some r∧(bt r.2∧HS 40 800 r.1.1 r.1.2):=by
 unfold dF
 have he:iB=some (Tr.mk 5 0 [] [],Tr.mk 5 0 [] []):=rfl
 rw[he,ae]
 refine jo (fun v=>bt v.1∧HS 2 20 v.2.1 v.2.2) ?_ fun v8 hv8=>?_
 ·rw[aa,show((30:Int) != 0)=true from rfl,a7]
  obtain⟨v,d1,e1,v0,v1,h1⟩:=bI h (n:=4) (by omega) (by omega)
  rw[e1,ae,aa,show av 30=some (I0 30)from jI 30 (by omega),ae]
  obtain⟨p,u,e2,hpu⟩:=Gm (decide (0<v))
  exact⟨_,ac e2 rfl,h1,IE hpu⟩
 obtain⟨v,d1,e1,v0,v1,h1⟩:=bI hv8.1 (n:=3) (by omega) (by omega)
 rw[e1,ae]
 refine kD (S:=Int×(ab×az)) (R:=az×ab) (fun n s=>s.1=(n:Int)∧n≤2∧bt s.2.1∧HS (18-8*n) (600-264*n) s.2.2.1 s.2.2.2) (fun r=>bt r.2∧HS 40 800 r.1.1 r.1.2) (fun n s self hI ih=>?_) cS v.toNat _ (by rw[dU];omega) ⟨by show v=_;omega,by omega,h1,hv8.2.up (by omega) (by omega)⟩
 obtain⟨i1,i2,i3,i4⟩:=hI
 refine iG (gJ (fun hc=>?_) (fun hc=>?_))
 ·rw[decide_eq_true_eq]at hc
  refine jo (fun v=>bt v.1∧HS (18-8*(n-1)) (600-264*(n-1)) v.2.1 v.2.2) ?_ fun v24 hv24=>?_
  ·obtain⟨w,d2,e2,w0,w1,h2⟩:=bI i3 (n:=5) (by omega) (by omega)
   rw[e2,ae]
   obtain⟨z,hz,hzm⟩:=qM ([4,6,3,99,-7]:List Int) w0 (by show w<5;omega)
   refine jo (fun y=>y=z) ⟨z,hz,rfl⟩ fun y hy=>?_
   subst hy
   obtain⟨b,d3,e3,l3,h3⟩:=sJ h2 (n:=5) (by omega)
   refine jo (fun y=>y=(b,d3)) ⟨_,e3,rfl⟩ fun y hy=>?_
   subst hy
   refine jo (fun y=>y=Tr.mk 2 0 b []) ⟨_,(AQ (b:=b) (by omega)).1,rfl⟩ fun y hy=>?_
   subst hy
   refine jo (fun v=>bt v.1∧IB 1 7 255 v.2) ?_ fun v19 hv19=>?_
   ·refine iG (gJ (fun _=>?_) (fun _=>⟨_,rfl,h3,(IB.leaf rfl (by omega) 1).up (by omega) (by omega) (by omega)⟩))
    obtain⟨r,hr,hr2,hr3⟩:=Qo h3
    exact⟨_,ac hr rfl,hr2,hr3⟩
   obtain⟨w2,d4,e4,x0,x1,h4⟩:=bI hv19.1 (n:=2) (by omega) (by omega)
   rw[e4,ae,aa]
   obtain⟨x,hx,ox,lx,cx,nx⟩:=CF hzm
   obtain⟨r,hr,hr2⟩:=vZ i4 (by omega) hx ox lx cx nx hv19.2 (w2==0)
   have hr:bF s.2.2 (w2==0) y v19.2=some r:=hr
   refine jo (fun y=>y=r) ⟨r,hr,rfl⟩ fun y hy=>?_
   subst hy
   refine iG (gJ (fun h0=>⟨_,rfl,h4,?_⟩) (fun _=>⟨_,rfl,h4,i4.up (by omega) (by omega)⟩))
   rw[beq_iff_eq]at h0
   exact(hr2 h0).up (by omega) (by omega)
  ·rw[aa,ap (by omega) (by omega)]
   exact ih (n-1) _ (by omega) ⟨by show s.1-1=_;omega,by omega,hv24.1,hv24.2⟩
 ·rw[decide_eq_false_iff_not]at hc
  have hn:n=0:=by omega
  subst hn
  refine jo (fun v=>bt v.1∧HS 40 800 v.2.1 v.2.2) ?_ fun v36 hv36=>⟨_,rfl,hv36.1,hv36.2⟩
  rw[show av 1=some (I0 1)from jI 1 (by omega),ae]
  have f98:=mb 98
  have f1:=mb 1
  obtain⟨r,hr,hr2⟩:=vZ (z:=98) i4 (by omega) (jI 98 (by omega)) (Gw _) f98.1 f98.2.1 f98.2.2 (cv:=1) (nv:=9) (v:=I0 1) ⟨f1.1,f1.2.1,f1.2.2⟩ true
  have hr:bF s.2.2 true 98 (I0 1)=some r:=hr
  rw[hr,ae]
  obtain⟨w,d2,e2,w0,w1,h2⟩:=bI i3 (n:=6) (by omega) (by omega)
  refine jo (fun v=>bt v.2∧(v.1=true→r.2=0)) ?_ fun v31 hv31=>?_
  ·rw[e2,ae]
   refine iG (gJ (fun _=>iG ⟨_,rfl,h2,fun h=>by rw[beq_iff_eq]at h;exact h⟩) (fun _=>⟨_,rfl,h2,fun h=>by cases h⟩))
  refine gJ (fun h1=>?_) (fun _=>⟨_,rfl,hv31.1,i4.up (by omega) (by omega)⟩)
  have h98:=hr2 (hv31.2 h1)
  rw[show av 98=some (I0 98)from jI 98 (by omega),ae,Gi,ae]
  have f2:=mb 2
  obtain⟨r2,hr2',hr3⟩:=vZ (z:=2) h98 (by omega) (jI 2 (by omega)) (Gw _) f2.1 f2.2.1 f2.2.2 LZ true
  have hr2':bF r.1 true 2 (Tr.mk 4 0 [] [I0 98])=some r2:=hr2'
  rw[hr2',ae]
  refine iG (gJ (fun h0=>⟨_,rfl,hv31.1,?_⟩) (fun _=>⟨_,rfl,hv31.1,h98.up (by omega) (by omega)⟩))
  rw[beq_iff_eq]at h0
  exact(hr3 h0).up (by omega) (by omega)
theorem IW{cb nonce text:List UInt8}{i:Nat}(h:i<text.length)(h2:i<(tB cb nonce text).length):(tB cb nonce text)[i]=text[i] ^^^ PO cb nonce i:=by
 simp only[tB,AS,List.getElem_mapIdx];rw[if_pos h]
theorem N5(cb nonce text:List UInt8):tB cb nonce (tB cb nonce text)=text:=by
 apply List.ext_getElem
 ·rw[mO,mO]
 ·intro i h1 h2
  rw[IW (by rw[mO];exact h2),IW h2,UInt8.xor_assoc,UInt8.xor_self,UInt8.xor_zero]
theorem Cq{b k:List UInt8}(hb:b.length=16): ∀(i:Nat),i≤16→∀(j:Nat),j<16→(nL b k i).getD j 0=if j<i then b.getD j 0 ^^^ k.getD j 0 else b.getD j 0
 |0,_,j,_=>by rw[if_neg (by omega)];rfl
 |i+1,hi,j,hj=>by
  have ih:=Cq (k:=k) hb i (by omega)
  have hl:=i7 b k i
  rw[nA]
  by_cases e:i=j
  ·subst e
   rw[if_pos (by omega),List.getD_eq_getElem?_getD,List.getElem?_set_self (by omega),Option.getD_some,ih i hj,if_neg (by omega)]
  ·have h2:=ih j hj
   rw[List.getD_eq_getElem?_getD,List.getElem?_set_ne e,←List.getD_eq_getElem?_getD,h2]
   by_cases h:j<i
   ·rw[if_pos h,if_pos (by omega)]
   ·rw[if_neg h,if_neg (by omega)]
theorem Jk{cb nonce g:List UInt8}(hg:g.length=16){j:Nat}(hj:j<16):(uK cb nonce g).getD j 0=g.getD j 0 ^^^ (KF cb (DW (Fj nonce.length) nonce 0)).getD j 0:=by
 unfold uK;rw[Cq hg 16 (by omega) j hj,if_pos hj]
theorem BP{l:List UInt8}{j:Nat}(h:j<l.length):l[j]=l.getD j 0:=by rw[List.getD_eq_getElem?_getD,List.getElem?_eq_getElem h,Option.getD_some]
theorem OT{cb nonce g:List UInt8}{t:Nat}(hg:g.length=16)(ht:t≤16):(uK cb nonce ((uK cb nonce g).take t++List.replicate (16-t) 0)).take t=g.take t:=by
 have hl:=lw (cb:=cb) (nonce:=nonce) hg
 have hx:((uK cb nonce g).take t++List.replicate (16-t) 0).length=16:=by rw[List.length_append,List.length_take,List.length_replicate];omega
 have hl2:=lw (cb:=cb) (nonce:=nonce) hx
 apply List.ext_getElem
 ·rw[List.length_take,List.length_take,hl2,hg]
 ·intro j h1 h2
  rw[List.length_take]at h1 h2
  have hj:j<16:=by omega
  rw[List.getElem_take,List.getElem_take,BP,BP,Jk hx hj]
  have e:((uK cb nonce g).take t++List.replicate (16-t) 0).getD j 0=(uK cb nonce g).getD j 0:=by
   rw[List.getD_eq_getElem?_getD,List.getElem?_append_left (by rw[List.length_take];omega),List.getElem?_take_of_lt (by omega),←List.getD_eq_getElem?_getD]
  rw[e,Jk hg hj,UInt8.xor_assoc,UInt8.xor_self,UInt8.xor_zero]
theorem H5{key nonce aad plain:List UInt8}{t:Nat}(ht:t≤16)(ha:aad.length≤4096)(hp:plain.length≤4096):
  ∃c,GY true key nonce aad plain t=(c,0)∧c.length=plain.length+t∧CL true key nonce aad c t=(plain,0):=by
 have hal:=sr (tK key) nonce aad plain t
 generalize hau:Nf (tK key) nonce aad plain t=au at hal
 have htl:=lw (cb:=tK key) (nonce:=nonce) hal
 have hsl:=mO (tK key) nonce plain
 have hc:(tB (tK key) nonce plain++(uK (tK key) nonce au).take t).length=plain.length+t:=by rw[List.length_append,List.length_take,hsl,htl];omega
 refine⟨tB (tK key) nonce plain++(uK (tK key) nonce au).take t,?_,hc,?_⟩
 ·unfold GY
  rw[decide_eq_false (by omega : ¬4096<aad.length),decide_eq_false (by omega : ¬4096<plain.length),hau];rfl
 ·unfold CL
  have hd:plain.length+t-t=plain.length:=by omega
  rw[hc,hd,decide_eq_false (by omega : ¬4096<aad.length),decide_eq_false (by omega : ¬4096+t<plain.length+t),decide_eq_false (by omega : ¬plain.length+t<t)]
  have e1:(tB (tK key) nonce plain++(uK (tK key) nonce au).take t).take plain.length=tB (tK key) nonce plain:=by rw[←hsl,List.take_left'];rfl
  have e2:(tB (tK key) nonce plain++(uK (tK key) nonce au).take t).drop plain.length=(uK (tK key) nonce au).take t:=by rw[←hsl,List.drop_left'];rfl
  rw[e1,e2,N5,hau,OT hal ht]
  simp only[Bool.or_false,cond_true,cond_false,beq_self_eq_true]
set_option maxRecDepth 100000
theorem J4{α R:Type}{p:α→Prop}{K:α→Option R}{r:R}(h : ∀y,p y→K y=some r)(hy : ∃y,p y):AR p K=some r:=by
 obtain⟨y,hy⟩:=hy
 have hx : ∃r,∀y,p y→K y=some r:=⟨r,h⟩
 have e:AR p K=some (Classical.choose hx):=dif_pos hx
 rw[e]
 have:=Classical.choose_spec hx y hy
 rw[h y hy]at this
 exact this.symm
noncomputable def h_ (l:List Tr):List cI:=(fU l).map fun q=>(aK q.1,q)
theorem yy{l:List Tr}{k:Nat}(h:k<(h_ l).length)(h2:k<(fU l).length):(h_ l)[k]=(aK (fU l)[k].1,(fU l)[k]):=List.getElem_map _
theorem I6{l:List Tr}(h:(fU l).Pairwise fun p q=>Lib.compareBytes (aK p.1) (aK q.1)<0):(h_ l).Pairwise fun a b=>Lib.compareBytes a.1 b.1<0:=by
 unfold h_
 rw[List.pairwise_map]
 exact h
theorem Cr{α:Type}{R:α→α→Prop}: ∀{l:List α},l.Pairwise R→∀{a b:α},a∈l→b∈l→a=b∨R a b∨R b a
 | [],_,a,b,ha,_=>by cases ha
 |x::l,h,a,b,ha,hb=>by
  rw[List.pairwise_cons]at h
  rcases List.mem_cons.1 ha with e1 |ha'<;>rcases List.mem_cons.1 hb with e2 |hb'
  ·exact .inl (e1.trans e2.symm)
  ·exact .inr (.inl (e1▸h.1 _ hb'))
  ·exact .inr (.inr (e2▸h.1 _ ha'))
  ·exact Cr h.2 ha' hb'
theorem CV{l:List cI}(h:l.Pairwise fun a b=>Lib.compareBytes a.1 b.1<0){ys:List cI}(hy:pR l ys):ys=l:=by
 obtain⟨hp,hs⟩:=hy
 refine List.Perm.eq_of_pairwise (le:=fun a b=>vr b a=false) (fun a b ha hb h1 h2=>?_) hs ?_ hp
 ·have g1:=of_decide_eq_false h1
  have g2:=of_decide_eq_false h2
  have g3:=PE a.1 b.1
  have ha:=hp.mem_iff.1 ha
  rcases Cr h ha hb with e |e |e
  ·exact e
  ·omega
  ·omega
 ·refine h.imp fun{a b} hab=>decide_eq_false ?_
  have:=PE a.1 b.1
  omega
theorem Bn : ∀(l:List Tr),l.length%2=0→(fU l).flatMap (fun q=>[q.1,q.2])=l
 | [],_=>rfl
 | [_],h=>by simp at h
 |k::v::l,h=>by
  show [k,v]++(fU l).flatMap (fun q=>[q.1,q.2])=_
  rw[Bn l (by simp only[List.length_cons]at h;omega)];rfl
theorem j_ : ∀(l:List Tr),(fU l).length=l.length/2
 | []=>rfl
 | [_]=>by simp[fU]
 |k::v::l=>by
  show(fU l).length+1=(l.length+1+1)/2
  rw[j_ l];omega
theorem xF{p:Tr}(pk:p.k=5)(po:eV p=true):jW p.l=some (p,0):=by
 obtain⟨pe,ev,pw⟩:=jE pk po
 have ln:=ql po
 have kw:=I6 pw
 have klen:(h_ p.l).length=p.l.length/2:=by unfold h_;rw[List.length_map,j_]
 unfold jW
 rw[Mu,ae,aa,ev,show(((0:Nat):Int)==1)=false from rfl,ay]
 have all : ∀(l:List Tr) (i:Nat) (s:Tr) (bn:Nat→Tr→Option (Tr×Int)),(∀y∈l,eV y=true)→a6 (R:=(Tr×Int)) (S:=Tr) (α:=Tr) bn (fun x33 k34 s35 self36=>bnd (bX x33) fun x37=>letm ((!x37)) fun x38=>cond x38 (some ((Tr.mk 0 0 [] []),1)) (self36 s35)) l i s=bn (i+l.length) s:=by
  intro l
  induction l with
  |nil=>intro i s bn _;rfl
  |cons y l ih=>
   intro i s bn h
   rw[bj,ko,ae,h y (by simp),aa,Bool.not_true,ay,ih (i+1) s bn fun z hz=>h z (by simp[hz]),List.length_cons,show i+1+l.length=i+(l.length+1) by omega]
 rw[all p.l 0 _ _ fun y hy=>iV po hy]
 rw[KL (show p.l.length≤1000000 by omega),ae]
 refine ac (y:=[]) ?_ ?_
 ·unfold PB
  rw[show(decide (0≤((p.l.length/2:Nat):Int))&&decide (((p.l.length/2:Nat):Int)≤65536))=true by rw[Bool.and_eq_true,decide_eq_true_eq,decide_eq_true_eq];omega];rfl
 -- the sorted pairs become the map again
 have fin : ∀(rest:List cI) (k:Nat) (s:Tr),(h_ p.l).drop k=rest→k≤(h_ p.l).length→a6 (R:=(Tr×Int)) (S:=(Tr×(Tr×(List Tr)))) (α:=cI) (fun k18 s19=>
   bnd (bX (Tr.mk s19.2.1.k s19.2.1.n s19.2.1.b s19.2.2)) fun x20=>letm ((!x20)) fun x21=>cond x21 (some ((Tr.mk 0 0 [] []),8)) (bnd (cQ (Tr.mk s19.2.1.k s19.2.1.n s19.2.1.b s19.2.2)) fun x22=>some (x22,0)))
   (fun x23 k24 s25 self26=>bnd (β:=Bool) (letm (decide (0<(k24:Int))) fun x27=>cond x27 (letm ((aF ((k24:Int)-1))) fun x28=>bnd (aV (h_ p.l) x28) fun x29=>bnd (bD x29.1 x23.1) fun x30=>some x30) (some false)) fun v31=>cond v31 (some ((Tr.mk 0 0 [] []),7))
    (bnd (cO s25.2.2 [x23.2.1,x23.2.2]) fun x32=>self26 (s25.1,(s25.2.1,x32)))) rest k (s,(Tr.mk 5 0 [] [],((fU p.l).take k).flatMap (fun q=>[q.1,q.2])))=some (p,0):=by
  intro rest
  induction rest with
  |nil=>
   intro k s hd hk
   have hk2:k=(h_ p.l).length:=by
    have:=congrArg List.length hd
    rw[List.length_drop,List.length_nil]at this;omega
   have htk:(fU p.l).take k=fU p.l:=List.take_of_length_le (by rw[j_];omega)
   rw[eU,htk,Bn p.l ev]
   show bnd (bX (Tr.mk 5 0 [] p.l)) _=_
   rw[←pe,ko,ae,po,aa,Bool.not_true,ay]
   show bnd (cQ (Tr.mk 5 0 [] p.l)) _=_
   rw[←pe,Jw po,ae]
  |cons y rest ih=>
   intro k s hd hk
   have hlt:k<(h_ p.l).length:=by
    have:=congrArg List.length hd
    rw[List.length_drop,List.length_cons]at this;omega
   have hy:(h_ p.l)[k]=y∧(h_ p.l).drop (k+1)=rest:=by
    rw[List.drop_eq_getElem_cons hlt]at hd
    injection hd with a b
    exact⟨a,b⟩
   have hlt2:k<(fU p.l).length:=by rw[j_];omega
   have hyq:y=(aK (fU p.l)[k].1,(fU p.l)[k]):=by
    rw[←hy.1,yy hlt hlt2]
   rw[bj]
   refine ac (y:=false) ?_ ?_
   ·rw[aa]
    by_cases h0:k=0
    ·subst h0;rfl
    ·rw[decide_eq_true (by omega),a7,aa,ap (by omega) (by omega),show((k:Int)-1)=((k-1:Nat):Int) by omega,aM (List.getElem?_eq_getElem (show k-1<(h_ p.l).length by omega)),ae]
     have hr:=List.pairwise_iff_getElem.1 kw (k-1) k (by omega) hlt (by omega)
     rw[hy.1]at hr
     unfold bD
     rw[aa,ae,E5,decide_eq_false]
     intro e
     rw[e,(pG _ _).2 rfl]at hr
     omega
   ·rw[ay]
    have hfl:(((fU p.l).take k).flatMap (fun q=>[q.1,q.2])).length≤600:=by
     have a : ∀l:List (Tr×Tr),(l.flatMap (fun q=>[q.1,q.2])).length=2*l.length:=by
      intro l
      induction l with
      |nil=>rfl
      |cons q l ih=>rw[List.flatMap_cons,List.length_append,ih];simp only[List.length_cons,List.length_nil];omega
     rw[a,List.length_take];omega
    refine ac (aD (xs:=((fU p.l).take k).flatMap (fun q=>[q.1,q.2])) (by simp only[List.length_cons,List.length_nil];omega)) ?_
    have htk:(fU p.l).take (k+1)=(fU p.l).take k ++ [(fU p.l)[k]]:=by rw[List.take_add_one,List.getElem?_eq_getElem hlt2];rfl
    have:=ih (k+1) s hy.2 hlt
    rw[htk,List.flatMap_append]at this
    rw[hyq]
    exact this
 have pairs : ∀(f i:Nat),p.l.length<f+i→i≤p.l.length→i%2=0→bo (R:=(Tr×Int)) (S:=(Int×((List cI)×(List cI)))) (fun self8 s7=>
   letm (decide (s7.1<(p.l.length:Int))) fun x9=>cond x9 (bnd (aV p.l s7.1) fun x10=>bnd (dA [] x10) fun x11=>bnd (aV p.l s7.1) fun x12=>letm ((aF (s7.1+1))) fun x13=>bnd (aV p.l x13) fun x14=>bnd (cO s7.2.2 [(x11,(x12,x14))]) fun x15=>letm ((aF (s7.1+2))) fun x16=>self8 (x16,(s7.2.1,x15)))
    (cond (Nat.ble (List.length s7.2.2) 4294967296) (AR (pR s7.2.2) fun v17=>a6 (R:=(Tr×Int)) (S:=(Tr×(Tr×(List Tr)))) (α:=cI) (fun k18 s19=>
   bnd (bX (Tr.mk s19.2.1.k s19.2.1.n s19.2.1.b s19.2.2)) fun x20=>letm ((!x20)) fun x21=>cond x21 (some ((Tr.mk 0 0 [] []),8)) (bnd (cQ (Tr.mk s19.2.1.k s19.2.1.n s19.2.1.b s19.2.2)) fun x22=>some (x22,0)))
   (fun x23 k24 s25 self26=>bnd (β:=Bool) (letm (decide (0<(k24:Int))) fun x27=>cond x27 (letm ((aF ((k24:Int)-1))) fun x28=>bnd (aV v17 x28) fun x29=>bnd (bD x29.1 x23.1) fun x30=>some x30) (some false)) fun v31=>cond v31 (some ((Tr.mk 0 0 [] []),7))
    (bnd (cO s25.2.2 [x23.2.1,x23.2.2]) fun x32=>self26 (s25.1,(s25.2.1,x32)))) v17 0 ((Tr.mk 0 0 [] []),((Tr.mk 5 0 [] []),[]))) none)) f ((i:Int),([],(h_ p.l).take (i/2)))=some (p,0):=by
  intro f
  induction f with
  |zero=>intro i h1 h2;omega
  |succ f ih=>
   intro i h1 h2 h3
   rw[bS,aa]
   by_cases hi:i<p.l.length
   ·have hi1:i+1<p.l.length:=by omega
    have ok:=iV po (List.getElem_mem hi)
    obtain⟨v3,c3,l3⟩:=cR.1 ok
    have hh:i/2<(fU p.l).length:=by rw[j_];omega
    refine AV (decide_eq_true (by show(i:Int)<_;omega)) ?_
    refine ac (aM (List.getElem?_eq_getElem hi)) (ac (qq v3 (by omega) (by omega)) (ac (aM (List.getElem?_eq_getElem hi)) ?_))
    rw[aa]
    show bnd (aV p.l (aF ((i:Int)+1))) _=_
    rw[ap (x:=(i:Int)+1) (by omega) (by omega),show((i:Int)+1)=((i+1:Nat):Int) by omega]
    refine ac (aM (List.getElem?_eq_getElem hi1)) ?_
    refine ac (aD (xs:=(h_ p.l).take (i/2)) (by rw[List.length_take];simp only[List.length_cons,List.length_nil];omega)) ?_
    rw[aa]
    have hget:(fU p.l)[i/2]=(p.l[i],p.l[i+1]):=by
     have gen : ∀(l:List Tr) (i:Nat) (h:i+1<l.length) (he:i%2=0) (hh:i/2<(fU l).length),(fU l)[i/2]=(l[i]'(by omega),l[i+1]):=by
      intro l
      induction l using fU.induct with
      |case1 k v r ih=>
       intro i h he hh
       match i,h,he,hh with
       |0,_,_,_=>rfl
       |1,_,he,_=>omega
       |i+2,h,he,hh=>
        have h':i+1<r.length:=by simp only[List.length_cons]at h;omega
        have:=ih i h' (by omega) (by rw[j_];omega)
        have e:(i+2)/2=i/2+1:=by omega
        simp only[e]
        exact this
      |case2 l hne=>
       intro i h he hh
       match l,h,hne with
       | [],h,_=>simp at h
       | [_],h,_=>simp at h
       |a::b::r,_,hne=>exact absurd rfl (hne a b r)
     exact gen p.l i hi1 h3 hh
    have hk2:(h_ p.l).take (i/2+1)=(h_ p.l).take (i/2) ++ [(aK p.l[i],(p.l[i],p.l[i+1]))]:=by
     rw[List.take_add_one,List.getElem?_eq_getElem (by rw[klen];omega)]
     have:(h_ p.l)[i/2]'(by rw[klen];omega)=(aK p.l[i],(p.l[i],p.l[i+1])):=by rw[yy _ hh,hget]
     rw[this];rfl
    have:=ih (i+2) (by omega) (by omega) (by omega)
    rw[show(i+2)/2=i/2+1 by omega,hk2]at this
    show bo _ f (aF ((i:Int)+2),_)=_
    rw[ap (x:=(i:Int)+2) (by omega) (by omega),show((i:Int)+2)=((i+2:Nat):Int) by omega]
    exact this
   ·have hii:i=p.l.length:=by omega
    refine MH (decide_eq_false (by show ¬(i:Int)<_;omega)) ?_
    have htk:(h_ p.l).take (i/2)=h_ p.l:=List.take_of_length_le (by rw[klen,hii];omega)
    show cond (Nat.ble ((h_ p.l).take (i/2)).length 4294967296) (AR (pR ((h_ p.l).take (i/2))) _) none=_
    rw[htk]
    refine AV (Nat.ble_eq_true_of_le (by omega)) ?_
    refine J4 (fun ys hy=>?_) ⟨h_ p.l,⟨List.Perm.refl _,?_⟩⟩
    ·rw[CV kw hy]
     exact fin (h_ p.l) 0 _ rfl (by omega)
    ·refine kw.imp fun{a b} hab=>decide_eq_false ?_
     have:=PE a.1 b.1
     omega
 have:=pairs cS 0 (by rw[dU];omega) (by omega) rfl
 exact this
set_option maxRecDepth 100000
theorem Kg{l:List UInt8}(h:l.length≤1000000):cr l=some l:=by
 unfold cr;rw[aD (by simp;omega)];rfl
theorem Aq{b:List UInt8}(h:b.length≤1000000):eM b=some (Tr.mk 2 0 b []):=by
 unfold eM;exact ac (Kg h) rfl
theorem qJ{b:List UInt8}(h:b.length≤4000):eV (Tr.mk 2 0 b [])=true:=by
 have ho:=(cM 2 0 b 0).2
 refine cR.2 ⟨?_,?_,?_⟩
 ·rw[qn,Bool.or_eq_true]
  refine .inl ?_
  show((0:UInt64).toNat==0&&true&&decide (b.length≤4096))=true
  rw[decide_eq_true (by omega)];rfl
 ·rw[dz];omega
 ·rw[dd];omega
def BJ:List UInt8:=[69,110,99,114,121,112,116,48]
theorem Es:bk BJ=some true:=by kernel_rfl
theorem Ig:eW BJ=some true:=by kernel_rfl
theorem HE{t:List UInt8}(hu:bk t=some true)(h:t.length≤4000):eV (Tr.mk 3 0 t [])=true:=by
 have ho:=(cM 3 0 t 0).2
 have hv:FW t=true:=by unfold FW;rw[hu];rfl
 refine cR.2 ⟨?_,?_,?_⟩
 ·rw[qn,Bool.or_eq_true]
  refine .inl ?_
  show((0:UInt64).toNat==0&&true&&decide (t.length≤4096)&&FW t)=true
  rw[decide_eq_true (by omega),hv];rfl
 ·rw[dz];omega
 ·rw[dd];omega
theorem OM{l:List Tr}{c n:Nat}(h : ∀y∈l,eV y=true)(hd : ∀y∈l,vT y 7=true)(hc:cV l≤255)(hn:(cU l).length≤4087):eV (Tr.mk 4 0 [] l)=true:=by
 have ho:=(cM 4 0 [] l.length).2
 rw[List.length_nil]at ho
 refine cR.2 ⟨?_,?_,?_⟩
 ·rw[qn,Bool.or_eq_true]
  refine .inr ?_
  rw[Bool.and_eq_true,Bool.and_eq_true]
  exact⟨⟨rfl,Na hd⟩,rfl⟩
 ·rw[fP];omega
 ·rw[fM,List.length_append];omega
theorem Ir{l:List Tr}(h : ∀y∈l,eV y=true)(hl:l.length≤300):lN l=some (Tr.mk 4 0 [] l):=by
 have key : ∀(l:List Tr) (k:Nat) (acc:List Tr),(∀y∈l,eV y=true)→acc.length+l.length≤300→a6 (R:=Tr) (S:=(Tr×(List Tr))) (α:=Tr) (fun k1 s2=>some (Tr.mk s2.1.k s2.1.n s2.1.b s2.2))
   (fun x3 k4 s5 self6=>bnd (cQ x3) fun x7=>bnd (cO s5.2 [x7]) fun x8=>self6 (s5.1,x8)) l k ((Tr.mk 4 0 [] []),acc)=some (Tr.mk 4 0 [] (acc++l)):=by
  intro l
  induction l with
  |nil=>intro k acc _ _;rw[eU,List.append_nil];rfl
  |cons y l ih=>
   intro k acc h hl
   rw[List.length_cons]at hl
   rw[bj,Jw (h y (by simp)),ae]
   refine ac (aD (xs:=acc) (by simp only[List.length_cons,List.length_nil];omega)) ?_
   have:=ih (k+1) (acc ++ [y]) (fun z hz=>h z (by simp[hz])) (by rw[List.length_append];simp only[List.length_cons,List.length_nil];omega)
   rw[List.append_assoc]at this
   exact this
 unfold lN
 have:=key l 0 [] h (by rw[List.length_nil];omega)
 rw[List.nil_append]at this
 exact this
structure EH(p u:Tr):Prop where
 hv:HV p u
 alg:oc p u 1=some (I0 30)
 pl:(jg p).length≤810
 ul:(aK u).length≤810
 uc:bU u≤41
 ud:vT u 6=true
theorem HS.eh{p u:Tr}(h:HS 40 800 p u):EH p u:=by
 have h1:=h.cnt
 have h2:=h.len
 have op:=(cM p.k p.n p.b p.l.length).2
 have ou:=(cM u.k u.n u.b u.l.length).2
 have ep:=ue p
 have eu:=ue u
 have bp:p.b = []:=by rw[(jE h.hv.k1 h.hv.o1).1];rfl
 have bu:u.b = []:=by rw[(jE h.hv.k2 h.hv.o2).1];rfl
 rw[bp,List.length_nil]at op
 rw[bu,List.length_nil]at ou
 rw[bp]at ep
 rw[bu]at eu
 refine⟨h.hv,?_,?_,?_,?_,?_⟩
 ·unfold oc
  rcases h.alg with ha |ha
  ·rw[ha]
  ·have:jY p.l (I0 1)=none:=(h.hv.ex _ (mM ha)).1
   rw[this];exact ha
 ·unfold jg
  cases p.l.isEmpty with
  |true=>exact Nat.zero_le _
  |false=>show(aK p).length≤810;rw[ep,List.length_append];omega
 ·rw[eu,List.length_append];omega
 ·have:=pF u;omega
 ·refine vz u 2 6 (by omega) (II u 2 8 (cR.1 h.hv.o2).1 ?_)
  have hu:=(jE h.hv.k2 h.hv.o2).1
  rw[hu,mZ,Bool.or_eq_true]
  refine .inr ?_
  rw[Bool.and_eq_true]
  exact⟨rfl,H_ h.du⟩
noncomputable def GQ (p:Tr):Tr:=Tr.mk 4 0 [] [Tr.mk 3 0 BJ [],Tr.mk 2 0 (jg p) [],Tr.mk 2 0 [] []]
theorem vA{x:Tr}(h:eV x=true)(hl:x.l = [])(hk:iE x.k=true)(d:Nat):vT x d=true:=by
 refine II x d 8 (cR.1 h).1 ?_
 obtain⟨k,n,b,l⟩:=x
 have hl:l = []:=hl
 subst hl
 rw[mZ,show iE k=true from hk];rfl
theorem H7{p u:Tr}(h:EH p u):eV (GQ p)=true:=by
 have o1:eV (Tr.mk 3 0 BJ [])=true:=HE Es (by decide)
 have o2:eV (Tr.mk 2 0 (jg p) [])=true:=qJ (by have:=h.pl;omega)
 have o3:eV (Tr.mk 2 0 [] [])=true:=qJ (by simp)
 have n1:=(cM 3 0 BJ 0).2
 have n2:=(cM 2 0 (jg p) 0).2
 have n3:=(cM 2 0 [] 0).2
 have e8:BJ.length=8:=rfl
 refine OM (c:=0) (n:=0) ?_ ?_ ?_ ?_
 ·intro y hy
  simp only[List.mem_cons,List.not_mem_nil,or_false]at hy
  rcases hy with rfl |rfl |rfl<;>assumption
 ·intro y hy
  simp only[List.mem_cons,List.not_mem_nil,or_false]at hy
  rcases hy with rfl |rfl |rfl
  ·exact vA o1 rfl rfl 7
  ·exact vA o2 rfl rfl 7
  ·exact vA o3 rfl rfl 7
 ·rw[bf,bf,bf,cN,dz,dz,dz];omega
 ·rw[aX,aX,aX,bB,dd,dd,dd]
  simp only[List.length_append,List.length_nil]at n1 n2 n3⊢
  have:=h.pl
  omega
theorem B'{p u:Tr}(h:EH p u):gw [69,110,99,114,121,112,116,48] (p,u) [] []=some (aK (GQ p),0):=by
 have o1:eV (Tr.mk 3 0 BJ [])=true:=HE Es (by decide)
 have o2:eV (Tr.mk 2 0 (jg p) [])=true:=qJ (by have:=h.pl;omega)
 have o3:eV (Tr.mk 2 0 [] [])=true:=qJ (by simp)
 unfold gw
 refine ac (zA h.hv) ?_
 rw[aa]
 show cond false _ _=_
 rw[ay]
 refine ac Ig ?_
 rw[aa,Bool.not_true,ay]
 refine ac (y:=Tr.mk 3 0 BJ []) ?_ ?_
 ·unfold qj;rw[aD (by decide)];rfl
 refine ac (Aq (by have:=h.pl;show(jg p).length≤_;omega)) (ac (Aq (b:=[]) (by simp)) ?_)
 rw[eU]
 refine ac (Ir ?_ (by simp)) ?_
 ·intro y hy
  simp only[List.mem_cons,List.not_mem_nil,or_false]at hy
  rcases hy with rfl |rfl |rfl<;>assumption
 refine ac (vQ (H7 h)) ?_
 rfl
theorem MU{p u:Tr}(h:EH p u):(aK (GQ p)).length≤4096:=(cR.1 (H7 h)).2.2
theorem En{key nonce:List UInt8}(hk:key.length=16)(hn:nonce.length=13):eR key nonce 16=some true:=by
 unfold eR
 rw[hk,hn];rfl
theorem y6:fZ 30=some 16:=rfl
theorem Ga{p u:Tr}(h:EH p u){key nonce plain:List UInt8}(hk:key.length=16)(hn:nonce.length=13)(hp:plain.length≤4096):
  ∃c,jm (p,u) [] plain key nonce=some (((p,u),(c,[])),0)∧c.length=plain.length+16∧gZ ((p,u),(c,[])) [] key nonce=some (plain,0):=by
 obtain⟨c,h1,h2,h3⟩:=H5 (key:=key) (nonce:=nonce) (aad:=aK (GQ p)) (plain:=plain) (t:=16) (by omega) (MU h) hp
 have hs:oG key nonce (aK (GQ p)) plain 16=some (c,0):=by
  unfold oG
  rw[En hk hn,ae]
  exact congrArg some h1
 have ho:nM key nonce (aK (GQ p)) c 16=some (plain,0):=by
  unfold nM
  rw[En hk hn,ae]
  exact congrArg some h3
 have hown:iP (p,u)=some (p,u):=by
  unfold iP
  exact ac (xF h.hv.k1 h.hv.o1) (ac (xF h.hv.k2 h.hv.o2) rfl)
 refine⟨c,?_,h2,?_⟩
 ·unfold jm
  refine ac (l_ h.hv) ?_
  rw[aa,Bool.not_true,ay]
  refine ac (BL h.hv h.alg) (ac y6 ?_)
  rw[aa]
  show cond false _ _=_
  rw[ay]
  refine ac (B' h) ?_
  rw[aa]
  show cond false _ _=_
  rw[ay]
  refine ac hs ?_
  rw[aa]
  show cond false _ _=_
  rw[ay]
  exact ac hown rfl
 ·unfold gZ
  refine ac (y:=false) ?_ ?_
  ·exact ac (l_ h.hv) rfl
  rw[ay]
  refine ac (BL h.hv h.alg) (ac y6 ?_)
  rw[aa]
  show cond false _ _=_
  rw[ay]
  refine ac (B' h) ?_
  rw[aa]
  show cond false _ _=_
  rw[ay]
  exact ac ho rfl
noncomputable def wH (p u:Tr) (c:List UInt8):Tr:=Tr.mk 6 16 [] [Tr.mk 4 0 [] [Tr.mk 2 0 (jg p) [],u,Tr.mk 2 0 c []]]
theorem DC{p u:Tr}(h:EH p u){c:List UInt8}(hc:c.length≤2000):eV (wH p u c)=true:=by
 have o2:eV (Tr.mk 2 0 (jg p) [])=true:=qJ (by have:=h.pl;omega)
 have o3:eV (Tr.mk 2 0 c [])=true:=qJ (by omega)
 have n2:=(cM 2 0 (jg p) 0).2
 have n3:=(cM 2 0 c 0).2
 have n4:=(cM 4 0 [] (0+1+1+1)).2
 have n6:=(cM 6 16 [] (0+1)).2
 rw[List.length_nil]at n4 n6
 have hpl:=h.pl
 have hul:=h.ul
 have huc:=h.uc
 refine cR.2 ⟨?_,?_,?_⟩
 ·unfold wH
  have hv:vT (Tr.mk 4 0 [] [Tr.mk 2 0 (jg p) [],u,Tr.mk 2 0 c []]) 7=true:=by
   rw[qn,Bool.or_eq_true]
   refine .inr ?_
   rw[Bool.and_eq_true,Bool.and_eq_true]
   refine⟨⟨rfl,Na fun y hy=>?_⟩,rfl⟩
   simp only[List.mem_cons,List.not_mem_nil,or_false]at hy
   rcases hy with rfl |rfl |rfl
   ·exact vA o2 rfl rfl 6
   ·exact h.ud
   ·exact vA o3 rfl rfl 6
  rw[qn,Bool.or_eq_true]
  refine .inr ?_
  rw[Bool.and_eq_true,Bool.and_eq_true,fk,kg,hv]
  exact⟨⟨rfl,rfl⟩,rfl⟩
 ·unfold wH
  rw[fP,bf,cN,fP,bf,bf,bf,cN,dz,dz];omega
 ·unfold wH
  rw[fM,aX,bB,fM,aX,aX,aX,bB,dd,dd]
  simp only[List.length_append,List.length_nil,List.length_cons]at n2 n3 n4 n6⊢
  omega
theorem Dm{p u:Tr}(h:EH p u){c:List UInt8}(hc:c.length≤2000):ir 16 ((p,u),(c,[]))=some (aK (wH p u c),0):=by
 unfold ir
 refine ac (zA h.hv) ?_
 refine ac (y:=false) rfl ?_
 rw[ay]
 refine ac (Aq (by have:=h.pl;show(jg p).length≤_;omega)) (ac (Aq (b:=c) (by omega)) ?_)
 refine ac (y:=[Tr.mk 2 0 (jg p) [],u,Tr.mk 2 0 c []]) rfl ?_
 rw[aa]
 have e16:aC 16=16:=rfl
 rw[e16]
 refine ac (vQ (DC h hc)) ?_
 rfl
theorem Dg{p u:Tr}(h:EH p u){c:List UInt8}(hc:c.length≤2000):fJ (aK (wH p u c))=some (16,(((p,u),(c,[])),0)):=by
 have hf:iw (wH p u c)=some (16,[Tr.mk 2 0 (jg p) [],u,Tr.mk 2 0 c []]):=by
  unfold iw wH
  refine ac (y:=false) rfl ?_
  rw[ay]
  refine ac (y:=[2,5,2]) rfl ?_
  refine ac (y:=Tr.mk 4 0 [] [Tr.mk 2 0 (jg p) [],u,Tr.mk 2 0 c []]) rfl ?_
  rw[aa]
  show cond false _ _=_
  rw[ay,bj]
  show a6 _ _ [5,2] 1 ()=_
  rw[bj]
  show(letm (u.k != 5) fun x20=>cond x20 _ _)=_
  rw[aa,h.hv.k2]
  rfl
 unfold fJ
 refine ac (n5 (DC h hc)) ?_
 rw[aa]
 show cond false _ _=_
 rw[ay]
 refine ac hf ?_
 refine ac (y:=false) rfl ?_
 rw[ay]
 refine ac (y:=(Tr.mk 5 0 [] [],Tr.mk 5 0 [] [])) rfl ?_
 refine ac (y:=Tr.mk 2 0 c []) rfl (ac (y:=u) rfl ?_)
 refine iF (y:=((((Tr.mk 0 0 [] []),(Tr.mk 0 0 [] [])),([],[])),((p,u),(c,[])))) ?_ ?_
 ·refine ac (y:=Tr.mk 2 0 (jg p) []) rfl ?_
  rw[aa]
  show cond (decide (0<((jg p).length:Int))) _ _=_
  obtain⟨pe,_,_⟩:=jE h.hv.k1 h.hv.o1
  unfold jg
  cases hl:p.l with
  |nil=>
   show some (Sum.inr _)=_
   rw[pe,hl];rfl
  |cons a b=>
   have hpos:1≤(aK p).length:=by have:=Bf p;rw[ue,List.length_append];omega
   show cond (decide (0<((aK p).length:Int))) _ _=_
   rw[decide_eq_true (by omega),a7]
   refine ac (y:=Tr.mk 2 0 (aK p) []) rfl ?_
   refine ac (n5 h.hv.o1) ?_
   refine ac (y:=false) ?_ ?_
   ·show(letm ((p.l.length:Int)==0) fun x13=>some x13)=some false
    rw[aa,hl,List.length_cons]
    refine congrArg some ?_
    rw[←Bool.not_eq_true,beq_iff_eq];omega
   ·rfl
 ·refine ac (y:=((p,u),(c,[]))) rfl ?_
  refine ac (l_ h.hv) ?_
  rfl
end Go.Proofs.YthejfljhiaeoeaaGreatDoor
