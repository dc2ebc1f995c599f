/- A part of the proof of TopKeys. No condition. -/
import Derived.Test.YtiilbonamnegaaaGreatDoorZc
namespace Go.Gk
open Go.RowKit
def kL(n:Nat)(i:Int):Option Nat:=if 0≤i∧i<(n:Int)then some i.toNat else none
theorem KQ{n:Nat}{i:Int}{j:Nat}(h:kL n i=some j):i=(j:Int)∧j<n:=by
 unfold kL at h
 split at h
 ·cases h;omega
 ·cases h
def TM:PT→Option (Nat×IntKind)
 | .ar n k=>some (n,k)
 |_=>none
theorem Pp{t:PT}{n:Nat}{k:IntKind}(h:TM t=some (n,k)):t = .ar n k:=by cases t<;>cases h;rfl
def P8{P:Program}(l:List (TE P))(T:TypeId):Option (TE P×Nat×IntKind):=match d_ l T with
 |some te=>match TM te.pt with
  |some (n,k)=>some (te,n,k)
  |none=>none
 |none=>none
theorem Mw{P:Program}{l:List (TE P)}{T:TypeId}{te:TE P}{n:Nat}{k:IntKind}(h:P8 l T=some (te,n,k)): ∃E,P.underlying T=some (.array n E)∧lA P E:=by
 unfold P8 at h
 split at h
 ·rename_i te' hte
  split at h
  ·rename_i n' k' hn
   cases h
   have h1:=te.ok
   rw[Pp hn,ba hte]at h1
   exact h1.und
  ·cases h
 ·cases h
theorem zS{t:PT}(h:PT.eqb t t=true)(x:den t):bX t t x=some x:=by unfold bX;rw[dif_pos h]
theorem F7(k:IntKind):PT.eqb (.int k) (.int k)=true:=by cases k<;>rfl
section
variable {P : Program} {N : Nat} {ops : Array Oper} {F : List (Nat × Value)} {w w' : World} {e : iy} {lab lab' : bN} {nid : Nat} {d : Nat} {v u : Value}
variable {ty : TypeId} {pos : String} {af : Array Edge} {g : Option (Nat × Bool)} {x y z : Operand} {T : TypeId} {a b : RA}
def wx(n:Nat)(a b:RA):bc:=match a,AW b with
 | (.ptr id o,_),some ⟨k,i⟩=>.bnd Nat (kL n (cO k i)) fun j=>.ret (o1 (.ptr id (o+j)))
 | (.dat (.cp (.ar m k)) y,_),some ⟨ik,i⟩=>match Nat.beq m n with
  |true=>.bnd (List (bK k)) y fun X=>.bnd (bK k) (aI X (cO ik i)) fun q=>.ret (o1 (.dptr (.int k) q 0))
  |false=>.stuck
 |_,_=>.stuck
theorem ER{n:Nat}{out:dJ}{E:TypeId}(hU:P.underlying T=some (.array n E))(hO:lA P E)(hx:ev F x=some v)(hy:ev F y=some u)(hv:fU e lab w a v)(hu:fU e lab w b u)(hr:fL (wx n a b) out)(tp:c_ lab w)(hw:Wn ops F g)(hd:Nat.blt d N=true):
  LW P N ops [⟨some d,.indexAddr T x y,ty,pos,af,g⟩] F w (Fin N F e nid lab w (some d) out):=by
 have run : ∀{i:Nat} {k:IntKind} {p:Addr},i<n→v = .pointer (some p)→u = .int k (i:Int)→∀aa,qS F N aa→(execOp aa.eval ⟨some d,.indexAddr T x y,ty,pos,af,g⟩).run P w = .ok (.value (.pointer (some (p.add i)))) w:=by
  intro i k p hi hv hu aa ha
  have h1:(i:Int)<(n:Int):=by omega
  rw[hv]at hx;rw[hu]at hy
  simp[execOp,ha.eval hx,ha.eval hy,Instr.indexAt,asIntOf,run_underlying hU,Instr.sureAddr,h1,hi,Nat.not_le_of_lt hi,hO.size w]
 unfold wx at hr
 split at hr
 ·rename_i id o m k i hi
  have hu:=iL hu hi
  obtain⟨G,h1,rfl⟩:=hv.1
  cases hr with
  |bnd hj hr=>
   rename_i j
   obtain rfl:=hr.ret_eq
   obtain⟨h2,h3⟩:=KQ hj
   rw[h2]at hu
   refine LW.val rfl hw rfl hd (fun aa ha=>run h3 rfl hu aa ha) (aC tp ⟨G,h1,by rw[df]⟩)
 ·rename_i m k y' _ ik i hi
  have hu:=iL hu hi
  split at hr
  ·rename_i hmn
   obtain rfl:=Nat.eq_of_beq_eq_true hmn
   cases hr with
   |bnd hX hr=>
    rename_i X
    cases hr with
    |bnd hq hr=>
     rename_i q
     obtain rfl:=hr.ret_eq
     have hX:y'=some X:=hX
     subst hX
     obtain⟨cs,⟨p,ds,h1,h2,h3⟩,h4⟩:=hv.1
     have h4:cs = [v]:=h4
     rw[h1]at h4
     simp at h4
     obtain⟨h5,h6⟩:List.length (α:=bK k) X=m∧ds=List.map (fun y=>Value.int k (cO k y)) X:=h3
     unfold aI at hq
     split at hq
     ·rename_i h0
      have hlt:(cO ik i).toNat<List.length (α:=bK k) X:=(List.getElem?_eq_some_iff.1 hq).1
      have hi2:cO ik i=((cO ik i).toNat:Int):=by omega
      rw[hi2]at hu
      refine LW.val rfl hw rfl hd (fun aa ha=>run (by omega) h4.symm hu aa ha) (aC tp ⟨p.add (cO ik i).toNat,[.int k (cO k q)],by rw[dn],?_,rfl⟩)
      intro j u' hj
      cases j with
      |succ j=>simp at hj
      |zero=>
       simp at hj
       subst hj
       have h7:ds[(cO ik i).toNat]?=some (Value.int k (cO k q)):=by rw[h6,List.getElem?_map,hq];rfl
       have h8:=h2 _ _ h7
       rw[iG,dn]
       exact h8
     ·cases hq
  ·cases hr
 ·cases hr
theorem Sb{k:IntKind}{x:List (bK k)}{i:Nat}{q:bK k}(h:x[i]?=some q):(x.map fun y=>Value.int k (cO k y))[i]?=some (.int k (cO k q)):=by rw[List.getElem?_map,h];rfl
def wR{P:Program}(te:TE P)(a b:RA):bc:=match te.pt,a,AW b with
 | .ar n k,(.dat (.ar m k') X,_),some ⟨ik,i⟩=>match Nat.beq m n&&IntKind.eqb k k' with
  |true=>.bnd (bK k') (aI X (cO ik i)) fun q=>.ret (o1 (.dat (.int k') q))
  |false=>.stuck
 |_,_,_=>.stuck
theorem D5{te:TE P}{out:dJ}(hT:te.id=T)(hx:ev F x=some v)(hy:ev F y=some u)(hv:fU e lab w a v)(hu:fU e lab w b u)(hr:fL (wR te a b) out)(tp:c_ lab w)(hw:Wn ops F g)(hd:Nat.blt d N=true):
  LW P N ops [⟨some d,.index T x y,ty,pos,af,g⟩] F w (Fin N F e nid lab w (some d) out):=by
 subst hT
 unfold wR at hr
 split at hr
 ·rename_i n k m k' X _ ik i hpt hi
  obtain rfl:=iL hu hi
  split at hr
  ·rename_i hb
   simp only[Bool.and_eq_true]at hb
   obtain rfl:=Nat.eq_of_beq_eq_true hb.1
   have hok:=te.ok
   rw[hpt]at hok
   obtain⟨E,hU,hO⟩ : ∃E,P.underlying te.id=some (.array m E)∧lA P E:=hok.und
   cases hr with
   |bnd hq hr=>
    rename_i q
    obtain rfl:=hr.ret_eq
    obtain⟨cs,h1,h2⟩:=hv.1
    obtain⟨h5,h6⟩:List.length (α:=bK k') X=m∧cs=List.map (fun y=>Value.int k' (cO k' y)) X:=h1
    have h2:v = .agg cs.toArray:=h2
    subst h2
    unfold aI at hq
    split at hq
    ·rename_i h0
     have hlt:(cO ik i).toNat<List.length (α:=bK k') X:=(List.getElem?_eq_some_iff.1 hq).1
     have hlt':cO ik i<(m:Int):=by omega
     have hz:cs[(cO ik i).toNat]?=some (Value.int k' (cO k' q)):=by rw[h6];exact Sb (x:=X) hq
     refine LW.val (v:=.int k' (cO k' q)) rfl hw rfl hd (fun aa ha=>?_) (aC tp (br.ofInt (k:=k') _))
     simp[execOp,ha.eval hx,ha.eval hy,Instr.index,asIntOf,run_underlying hU,h0,hlt',part,hO.agg,hO.size,hz]
    ·cases hq
  ·cases hr
 ·cases hr
def D6(t:PT)(a:RA):Option ((k:IntKind)×List (bK k)×Nat):=match a,t with
 | (.ptr _ o,some (.box _ _ (.ar _ k) X)),.int k'=>match IntKind.eqb k k' with
  |true=>some ⟨k,X,o⟩
  |false=>none
 |_,_=>none
def Bx(k:IntKind)(xs:List (bK k))(o:Nat):bc:=.bnd (bK k) (aI xs (o:Int)) fun y=>.ret (o1 (.dat (.int k) y))
theorem HD{te:TE P}{out:dJ}{k:IntKind}{xs:List (bK k)}{o:Nat}(hT:te.id=T)(hx:ev F x=some v)(hv:fU e lab w a v)(ht:D6 te.pt a=some ⟨k,xs,o⟩)(hr:fL (Bx k xs o) out)(tp:c_ lab w)(hw:Wn ops F g)(hd:Nat.blt d N=true):
  LW P N ops [⟨some d,.load T x,ty,pos,af,g⟩] F w (Fin N F e nid lab w (some d) out):=by
 unfold D6 at ht
 split at ht
 ·rename_i id o' kk T' n k1 X k' hpt
  split at ht
  ·rename_i hk
   cases ht
   have hk:=IntKind.eqb_eq hk
   subst hk
   unfold Bx at hr
   cases hr with
   |bnd hq hr=>
    rename_i q
    obtain rfl:=hr.ret_eq
    obtain⟨G,cs,b1,b2,b3⟩:=hv.2 _ rfl
    obtain⟨G',b4,rfl⟩:=hv.1
    have b1:(e id).oa=some ⟨G,0,none⟩:=b1
    rw[b1]at b4;cases b4
    subst hT
    have hok:BT P te.id (.int k):=by have:=te.ok;rw[hpt]at this;exact this
    obtain⟨h5,h6⟩:List.length (α:=bK k) xs=n∧cs=List.map (fun y=>Value.int k (cO k y)) xs:=b3
    have hq':=vQ hq
    have h7:cs[o]?=some (Value.int k (cO k q)):=by rw[h6,List.getElem?_map,hq'];rfl
    refine mQ (t:=.int k) (u:=.int k) (q:=⟨G,o,none⟩) (o:=0) (X:=q) (cs:=[Value.int k (cO k q)]) hok (by rw[hx,dn]) rfl (fun j c hj=>?_) ?_ tp hw hd
    ·cases j with
     |succ j=>simp at hj
     |zero=>
      simp at hj
      subst hj
      rw[dn,b2.cell];exact h7
    ·exact zS (t:=.int k) (F7 k) q
  ·cases ht
 ·cases ht
def J6(t:PT)(a:RA):Option ((k:IntKind)×List (bK k)×Nat×Nat×Nat×TypeId×Nat):=match a,t with
 | (.ptr id o,some (.box kb T (.ar n k) X)),.int k'=>match IntKind.eqb k k',Nat.beq kb 0 with
  |true,false=>some ⟨k,X,o,id,kb,T,n⟩
  |_,_=>none
 |_,_=>none
def yd(k:IntKind)(xs:List (bK k))(o id kb:Nat)(T:TypeId)(n:Nat)(b:RA):bc:=match yF (.int k) b with
 |some Y=>.bnd (bK k) (aI xs (o:Int)) fun _=>.letm (List (bK k)) (xs.set o Y) fun zs=>.ret ⟨.und,[kb],[(id,.box kb T (.ar n k) zs)],[]⟩
 |none=>.stuck
theorem Ew{te:TE P}{out:dJ}{k:IntKind}{xs:List (bK k)}{o id kb n:Nat}{T2:TypeId}(hT:te.id=T)(hx:ev F x=some v)(hy:ev F y=some u)(hv:fU e lab w a v)(hu:fU e lab w b u)(ht:J6 te.pt a=some ⟨k,xs,o,id,kb,T2,n⟩)(hr:fL (yd k xs o id kb T2 n b) out)(tp:c_ lab w)(hw:Wn ops F g):
  LW P N ops [⟨none,.store T x y,ty,pos,af,g⟩] F w (Fin N F e nid lab w none out):=by
 subst hT
 unfold J6 at ht
 split at ht
 ·rename_i id' o' kk T' n' k1 X k' hpt
  split at ht
  ·rename_i hk hkb
   cases ht
   have hk:=IntKind.eqb_eq hk
   subst hk
   unfold yd at hr
   split at hr
   ·rename_i Y hY
    have hd:=fw hu hY
    obtain⟨h1,h2⟩:=hv
    cases hr with
    |bnd hq hr=>
     cases hr with
     |letm hr=>
      obtain rfl:=hr.ret_eq
      obtain⟨G,cs,b1,b2,b3⟩:=h2 _ rfl
      obtain⟨G',b4,rfl⟩:=h1
      have b1:(e id).oa=some ⟨G,0,none⟩:=b1
      rw[b1]at b4;cases b4
      have hok:BT P te.id (.int k):=by have:=te.ok;rw[hpt]at this;exact this
      have h5:List.length (α:=bK k) xs=n:=b3.1
      have hlt:o<n:=by rw[←h5];exact(List.getElem?_eq_some_iff.1 (vQ hq)).1
      have hs:d5 (.ar n k) o (.int k) xs Y=some (List.set (α:=bK k) xs o Y):=by
       have hb:Nat.blt o n=true:=Nat.blt_eq.mpr hlt
       show(match bX (.int k) (.ar n k) Y with |some z=>(match Nat.beq o 0 with |true=>some z |false=>none) |none=>(match Nat.blt o n,bX (.int k) (.int k) Y with |true,some z=>some (List.set (α:=bK k) xs o z) |_,_=>none))=_
       rw[zS (F7 k),hb]
       rfl
      obtain⟨w',cs',r1,r2,r3,r4⟩:=ze (P:=P) hkb hok b2 b3 hd hs tp
      refine LW.gen rfl hw fun q hq=>?_
      unfold Oper.wp
      simp only[execOp,hq.eval hx,hq.eval hy,Sem.run_bind,r1,Result.andThen_ok,Sem.run_pure,Oper.upon_skip]
      refine wpList_nil ⟨rfl,e,lab,undef,hq.none_ undef,fun _ _=>rfl,r2.stp (.inl (by simp)),rfl,fun p hp=>?_,fun p hp=>by simp at hp⟩
      simp at hp;subst hp
      exact⟨G,cs',b1,r3,r4⟩
   ·cases hr
  ·cases ht
 ·cases ht
def FG{β:Type}(xs ys:List β):List β:=ys.take (min ys.length xs.length)++xs.drop (min ys.length xs.length)
theorem F6{sz:Nat}: ∀(css:List (List Value)),(∀cs∈css,cs.length=sz)→∀n,css.flatten.take (n*sz)=(css.take n).flatten
 | [],_,n=>by simp
 |cs::css,h,0=>by simp
 |cs::css,h,n+1=>by
  have h1:cs.length=sz:=h cs (by simp)
  rw[List.flatten_cons,List.take_succ_cons,List.flatten_cons,List.take_append,List.take_of_length_le (by rw[h1,Nat.add_mul];omega),h1,show(n+1)*sz-sz=n*sz by rw[Nat.add_mul];omega,F6 css (fun c hc=>h c (by simp[hc])) n]
theorem FH{sz:Nat}: ∀(css:List (List Value)),(∀cs∈css,cs.length=sz)→∀n,css.flatten.drop (n*sz)=(css.drop n).flatten
 | [],_,n=>by simp
 |cs::css,h,0=>by simp
 |cs::css,h,n+1=>by
  have h1:cs.length=sz:=h cs (by simp)
  rw[List.flatten_cons,List.drop_succ_cons,List.drop_append,List.drop_of_length_le (by rw[h1,Nat.add_mul];omega),h1,show(n+1)*sz-sz=n*sz by rw[Nat.add_mul];omega,FH css (fun c hc=>h c (by simp[hc])) n,List.nil_append]
theorem Iv{β:Type}{ρ:cL β}{k E S nb c c':Nat}{zv:Value}{oa oa':Option Addr}{xs ys:List β}(tp:c_ lab w)(hk:Nat.beq k 0=false)(o:dU ρ lab w k E oa c xs)(f:C7 ρ lab w oa' ys){E':TypeId}(hT:iK P T E' ρ.sz nb zv):
  ∃w',(Builtin.copy_ #[T,S] ty #[.slice oa xs.length c,.slice oa' ys.length c']).run P w = .ok (goInt ((min ys.length xs.length:Nat):Int)) w'∧j4 lab k w lab w'∧dU ρ lab w' k E oa c (FG xs ys):=by
 obtain⟨i,hi,_,hsz,_⟩:=hT.info
 have run : ∀(vs:List Value) w',(Builtin.firstCells ρ.sz (min ys.length xs.length) (.slice oa' ys.length c')).run P w = .ok vs.toArray w→(∀a,oa=some a→(storeCells a vs).run P w = .ok () w')→(oa=none→w'=w)→(Builtin.copy_ #[T,S] ty #[.slice oa xs.length c,.slice oa' ys.length c']).run P w = .ok (goInt ((min ys.length xs.length:Nat):Int)) w':=by
  intro vs w' h1 h2 h3
  have hm:Nat.min ys.length xs.length=min ys.length xs.length:=rfl
  generalize min ys.length xs.length=m at hm h1⊢
  have hm3:min ys.length xs.length=m:=hm
  cases oa with
  |none=>
   obtain rfl:=h3 rfl
   simp[Builtin.copy_,run_underlying hT.und,Builtin.lenOf,sizeOf,typeInfo,hi,hsz,hm,h1]
  |some a=>simp[Builtin.copy_,run_underlying hT.und,Builtin.lenOf,sizeOf,typeInfo,hi,hsz,hm,h1,h2 a rfl]
 have zero:min ys.length xs.length=0→FG xs ys=xs:=fun h=>by unfold FG;rw[h];simp
 have first0:min ys.length xs.length=0→(Builtin.firstCells ρ.sz (min ys.length xs.length) (.slice oa' ys.length c')).run P w = .ok ([]:List Value).toArray w:=fun h=>by
  rw[h]
  cases oa' with
  |none=>rfl
  |some a=>
   show(loadCells a (0*ρ.sz)).run P w=_
   rw[Nat.zero_mul]
   exact run_loadCells_list w a [] (fun j v hj=>by simp at hj)
 by_cases h0:min ys.length xs.length=0
 ·refine⟨w,run [] w (first0 h0) (fun a _=>by simp[storeCells]) (fun _=>rfl),⟨rfl,rfl,rfl,Nat.le_refl _,fun _ _ _=>rfl,fun _ _=>rfl,tp⟩,?_⟩
  rw[zero h0];exact o
 ·obtain⟨f1,css',f2,f3⟩:=f
  obtain⟨css,a1,a2⟩:=o
  have hys:ys≠[]:=fun e=>by subst e;simp at h0
  obtain⟨a',ha'⟩ : ∃a',oa'=some a':=by
   cases h:oa' with
   |none=>exact absurd (f1 h) hys
   |some a=>exact⟨a,rfl⟩
  rcases a2 with⟨h,_,hx0⟩ | ⟨g',eb,ha,hg,h3,h4,h5,h6,h7⟩
  ·subst hx0;simp at h0
  ·generalize hn:min ys.length xs.length=n at *
   have hn1:n≤ys.length:=by omega
   have hn2:n≤xs.length:=by omega
   have hlen':=fun cs h=>(f2.each cs h).1
   have hlen:=fun cs h=>(a1.each cs h).1
   have hvl:(css'.take n).flatten.length=n*ρ.sz:=by
    rw[jd _ (fun cs h=>hlen' cs (List.mem_of_mem_take h)),List.length_take,f2.len,Nat.min_eq_left hn1]
   have b:j0 lab w k g' E eb.toList:=⟨hg,h7⟩
   have hcap:xs.length*ρ.sz≤c*ρ.sz:=Nat.mul_le_mul_right _ h3
   have hnx:n*ρ.sz≤xs.length*ρ.sz:=Nat.mul_le_mul_right _ hn2
   obtain⟨w',hr,b',hs⟩:=gR (P:=P) (css'.take n).flatten 0 eb.toList w b (by rw[hvl];simp;omega) (fun u hu=>by
    obtain⟨cs,hcs,hu⟩:=List.mem_flatten.1 hu
    exact(f2.each cs (List.mem_of_mem_take hcs)).2 u hu) 0 0 rfl
   have hst:=hs tp hk
   subst ha' ha
   refine⟨w',run (css'.take n).flatten w' ?_ (fun a e=>by cases e;exact hr) (fun e=>by cases e),hst,css'.take n++css.drop n,?_,.inr ⟨g',_,rfl,b'.1,?_,h4,?_,?_,b'.2⟩⟩
   ·show(loadCells a' (n*ρ.sz)).run P w=_
    rw[←hvl]
    refine run_loadCells_list w a' _ fun j v hj=>f3 a' rfl j v ?_
    rw[←F6 css' hlen']at hj
    rw[List.getElem?_take]at hj
    split at hj
    ·exact hj
    ·cases hj
   ·unfold FG
    rw[hn]
    exact dM.append ((dM.take (css:=([]:List (List Value))) n f2).keep hst.keeps) ((dM.drop n a1).keep hst.keeps)
   ·unfold FG;rw[hn];simp;omega
   ·simp only[List.take_zero,List.nil_append,Nat.zero_add,hvl,List.size_toArray,List.length_append,List.length_drop,Array.length_toList];omega
   ·have hl:(FG xs ys).length=xs.length:=by unfold FG;rw[hn];simp;omega
    rw[hl,List.flatten_append,←FH css hlen,←h6]
    simp only[List.take_zero,List.nil_append,Nat.zero_add,hvl]
    rw[List.take_append,List.take_of_length_le (by rw[hvl];exact hnx),hvl,List.drop_take]
def DH{P:Program}(se:SE P)(a b:RA):bc:=match Mh se.pt b,a with
 |some ys,(.own id,some (.row k E t xs))=>match Nat.beq k 0,bX (.sl t) (.sl se.pt) xs with
  |false,some xs=>.letm (List (den se.pt)) (FG xs ys) fun zs=>.ret ⟨.dat (.int .i64) ((min ys.length xs.length:Nat):Int),[k],[(id,.row k E se.pt zs)],[]⟩
  |_,_=>.stuck
 |_,_=>.stuck
theorem Jz{se:SE P}{out:dJ}(hT:se.id=T)(hx:ev F x=some v)(hy:ev F y=some u)(hv:fU e lab w a v)(hu:fU e lab w b u)(hr:fL (DH se a b) out)(tp:c_ lab w)(hw:Wn ops F g)(hd:Nat.blt d N=true):
  LW P N ops [⟨some d,.call { callee:=.builtin .copy,args:=#[x,y],argTypes:=#[T,T] },ty,pos,af,g⟩] F w (Fin N F e nid lab w (some d) out):=by
 subst hT
 unfold DH at hr
 split at hr
 ·rename_i ys id k E t xs hys
  obtain⟨oa',c',rfl,hfl⟩:=F1 hu hys
  split at hr
  ·rename_i _ _ xs' hk hc
   obtain⟨h0,h1⟩:=aN hc
   have h0':t=se.pt:=by injection h0
   subst h0'
   have h1:xs=xs':=h1
   subst h1
   obtain⟨b1,b2,b3⟩:=hv.2 _ rfl
   have b1:(e id).n=xs.length:=b1
   have h2:v = .slice (e id).oa (e id).n (e id).c:=hv.1
   rw[b1]at h2
   subst h2
   cases hr with
   |letm hr=>
    obtain rfl:=hr.ret_eq
    obtain⟨w',r1,r2,r3⟩:=Iv (P:=P) (ty:=ty) (S:=se.id) (c':=c') tp hk b3 hfl se.ok.rep
    refine LW.val (w':=w') (v:=goInt ((min ys.length xs.length:Nat):Int)) rfl hw rfl hd (fun q hq=>?_) (LW.nil fun q hq=>⟨rfl,e,lab,_,hq,fun _ _=>rfl,r2.stp (.inl (by simp)),br.ofInt (k:=.i64) _,fun p hp=>?_,fun p hp=>by simp at hp⟩)
    ·have e1:(#[x,y].map q.eval) = #[.slice (e id).oa xs.length (e id).c,.slice oa' ys.length c']:=by simp[hq.eval hx,hq.eval hy]
     simp only[execOp,resolve,e1,invoke,builtin,Sem.run_bind,Result.andThen_ok,Sem.run_pure]
     exact congrArg (fun r=>Result.andThen r fun a w'=>Result.ok (Next.value a) w') r1
    simp at hp;subst hp
    refine⟨?_,b2,r3⟩
    rw[b1];unfold FG;simp;omega
  ·cases hr
 ·cases hr
def vW(sv:SV):bc:=match sv with
 | .dat (.cp t) y=>.bnd (den t) y fun _=>.ret (o1 (.dat (.cp t) y))
 |_=>.stuck
theorem Ha{out:dJ}(hx:ev F x=some v)(hv:fU e lab w a v)(hr:fL (vW a.1) out)(tp:c_ lab w)(hw:Wn ops F g)(hd:Nat.blt d N=true):
  LW P N ops [⟨some d,.nilCheck x,ty,pos,af,g⟩] F w (Fin N F e nid lab w (some d) out):=by
 obtain⟨sv,m⟩:=a
 unfold vW at hr
 dsimp only at hr
 split at hr
 ·rename_i t y'
  cases hr with
  |bnd hX hr=>
   rename_i X
   obtain rfl:=hr.ret_eq
   have hX:y'=some X:=hX
   subst hX
   have hv':=hv.1
   obtain⟨cs,⟨p,ds,h1,h2,h3⟩,h4⟩:=hv.1
   have h4:cs = [v]:=h4
   rw[h1]at h4
   simp at h4
   subst h4
   exact LW.nilCheck hw hd hx (aC tp hv')
 ·cases hr
def ra(off:Nat)(sv:SV):bc:=match sv with
 | .dat (.cp t) y=>.bnd (den t) y fun X=>.ret (o1 (.dptr t X off))
 |_=>.stuck
theorem Hw{f off:Nat}{out:dJ}(hf:wW P T f off)(hx:ev F x=some v)(hv:fU e lab w a v)(hr:fL (ra off a.1) out)(tp:c_ lab w)(hw:Wn ops F g)(hd:Nat.blt d N=true):
  LW P N ops [⟨some d,.fieldAddr T x f,ty,pos,af,g⟩] F w (Fin N F e nid lab w (some d) out):=by
 obtain⟨sv,m⟩:=a
 unfold ra at hr
 dsimp only at hr
 split at hr
 ·rename_i t y'
  cases hr with
  |bnd hX hr=>
   rename_i X
   obtain rfl:=hr.ret_eq
   have hX:y'=some X:=hX
   subst hX
   obtain⟨cs,⟨p,ds,h1,h2,h3⟩,h4⟩:=hv.1
   have h4:cs = [v]:=h4
   rw[h1]at h4
   simp at h4
   subst h4
   refine LW.fldA hf hw hd hx (aC tp ?_)
   exact⟨p,ds,rfl,h2,h3⟩
 ·cases hr
end
structure MQ(P:Program) where
 id:TypeId
 kt:TypeId
 el:TypeId
 und:P.underlying id=some (.map kt el)
 ku:P.underlying kt=some (.int .i64)
 zok:m8 P el (.pointer none)
 pu:P.underlying el=some (.pointer (P.pointee el))
def xB{P:Program}:List (MQ P)→TypeId→Option (MQ P)
 | [],_=>none
 |e::r,T=>match Nat.beq e.id T with
  |true=>some e
  |false=>xB r T
theorem uF{P:Program}: ∀{l:List (MQ P)} {T:TypeId} {e:MQ P},xB l T=some e→e.id=T
 | [],_,_,h=>by cases h
 |q::r,T,e,h=>by
  unfold xB at h
  split at h
  ·rename_i hb;cases h;exact Nat.eq_of_beq_eq_true hb
  ·exact uF h
def vR{P:Program}:List (MQ P)→TypeId→Option (MQ P)
 | [],_=>none
 |e::r,T=>match Nat.beq e.el T with
  |true=>some e
  |false=>vR r T
theorem xM{P:Program}: ∀{l:List (MQ P)} {T:TypeId} {e:MQ P},vR l T=some e→e.el=T
 | [],_,_,h=>by cases h
 |q::r,T,e,h=>by
  unfold vR at h
  split at h
  ·rename_i hb;cases h;exact Nat.eq_of_beq_eq_true hb
  ·exact xM h
def Oj(G:Nat):List (Int×Nat)→Int→Value
 | [],_=>.pointer none
 |q::l,z=>bif z==q.1 then .pointer (some ⟨G,q.2,none⟩)else Oj G l z
def So(id:Nat)(z:Int):List (Int×Nat)→bc
 | []=>.ret (o1 .pnil)
 |q::l=>.cnd (BEq.beq (α:=Int) z q.1) (.ret (o1 (.ptr id q.2))) (So id z l)
def Hk(z:Int):List (Int×Nat)→Bool
 | []=>false
 |q::l=>BEq.beq (α:=Int) z q.1||Hk z l
theorem ve.push{G:Nat}{x:MapEntry}{q:Int×Nat}(hx:x.key = .int .i64 q.1∧x.val = .pointer (some ⟨G,q.2,none⟩)): ∀{es:List MapEntry} {l:List (Int×Nat)},ve G es l→ve G (es ++ [x]) (l ++ [q])
 | [],[],_=>⟨hx.1,hx.2,trivial⟩
 | [],_::_,h=>h.elim
 |_::_,[],h=>h.elim
 |_::_,_::_,h=>⟨h.1,h.2.1,ve.push hx h.2.2⟩
theorem Eu{G:Nat}(z:Int): ∀{es:List MapEntry} {l:List (Int×Nat)},ve G es l→∀i,(Hk z l=false∧Oj G l z = .pointer none∧Instr.findNow (.int .i64) (.int .i64 z) es i=some none)∨∃j v,Instr.findNow (.int .i64) (.int .i64 z) es i=some (some (j,v))∧v=Oj G l z∧Hk z l=true
 | [],[],_,i=>.inl ⟨rfl,rfl,rfl⟩
 | [],_::_,h,_=>h.elim
 |_::_,[],h,_=>h.elim
 |e::es,q::l,h,i=>by
  have hs:Instr.sameNow (.int .i64) (.int .i64 z) e.key=some (z==q.1):=by
   rw[h.1]
   show(if IntKind.i64=IntKind.i64 then some (z==q.1)else none)=_
   rw[if_pos rfl]
  have e1:Instr.findNow (.int .i64) (.int .i64 z) (e::es) i=match Instr.sameNow (.int .i64) (.int .i64 z) e.key with |some true=>some (some (i,e.val)) |some false=>Instr.findNow (.int .i64) (.int .i64 z) es (i+1) |none=>none:=rfl
  rw[e1,hs]
  unfold Oj Hk
  cases hz:z==q.1 with
  |true=>exact .inr ⟨i,e.val,rfl,h.2.1,rfl⟩
  |false=>exact Eu z h.2.2 (i+1)
section
variable {P : Program} {N : Nat} {ops : Array Oper} {F : List (Nat × Value)} {w w' : World} {e : iy} {lab lab' : bN} {nid : Nat} {d : Nat} {v u : Value}
variable {ty : TypeId} {pos : String} {af : Array Edge} {g : Option (Nat × Bool)} {x y z : Operand} {T : TypeId} {a b : RA}
theorem wA{kt:TypeId}(ku:P.underlying kt=some (.int .i64))(b:Bool)(n:Nat)(k:Int):(Instr.checkKey b (n+1) kt (.int .i64 k)).run P w = .ok () w:=by
 unfold Instr.checkKey
 simp[run_underlying ku]
theorem C0{me:MQ P}{G g:Nat}{es:Array MapEntry}{c:Nat}{l:List (Int×Nat)}(k:Int)(hh:w.heap[g]?=some (.map es c))(hm:ve G es.toList l):(Instr.lookup me.id (.map (some g)) (.int .i64 k) false).run P w = .ok (Oj G l k) w:=by
 have hck : ∀b,(Instr.checkKey b 10000 me.kt (.int .i64 k)).run P w = .ok () w:=fun b=>wA me.ku b 9999 k
 rcases Eu k hm 0 with⟨_,h1,h2⟩ | ⟨j,v,h2,h1,_⟩
 ·rw[h1]
  simp[Instr.lookup,run_underlying me.und,getObj,Sem.run,hh,hck,Instr.findKey,run_underlying me.ku,h2,me.zok w,Result.andThen]
 ·rw[←h1]
  simp[Instr.lookup,run_underlying me.und,getObj,Sem.run,hh,hck,Instr.findKey,run_underlying me.ku,h2,Result.andThen]
theorem Kb{me:MQ P}{G g:Nat}{es:Array MapEntry}{c:Nat}{l:List (Int×Nat)}(k:Int)(off:Nat)(hh:w.heap[g]?=some (.map es c))(hm:ve G es.toList l)(hz:Hk k l=false):
  (Instr.mapUpdate me.id (.map (some g)) (.int .i64 k) (.pointer (some ⟨G,off,none⟩))).run P w = .ok () { w with heap:=w.heap.setIfInBounds g (.map (es.push { key:=.int .i64 k,val:=.pointer (some ⟨G,off,none⟩),born:=c }) (c+1)) }:=by
 have hck : ∀b,(Instr.checkKey b 10000 me.kt (.int .i64 k)).run P w = .ok () w:=fun b=>wA me.ku b 9999 k
 rcases Eu k hm 0 with⟨_,_,h2⟩ | ⟨j,v,_,_,h2⟩
 ·simp[Instr.mapUpdate,run_underlying me.und,getObj,setObj,Sem.run,hh,hck,Instr.findKey,run_underlying me.ku,h2,Result.andThen]
 ·rw[hz]at h2;cases h2
theorem Ih{id:Nat}{z:Int}{out:dJ}: ∀{l:List (Int×Nat)},fL (So id z l) out→∃sv,out=o1 sv∧∀G,(e id).oa=some ⟨G,0,none⟩→RV e sv lab w (Oj G l z)
 | [],h=>⟨.pnil,h.ret_eq,fun _ _=>rfl⟩
 |q::l,h=>by
  unfold So at h
  unfold Oj
  cases hz:z==q.1 with
  |true=>
   rw[hz]at h
   cases h with
   |t h=>exact⟨.ptr id q.2,h.ret_eq,fun G hG=>⟨G,hG,rfl⟩⟩
  |false=>
   rw[hz]at h
   cases h with
   |f h=>exact Ih h
def u6(a b:RA)(ok:Bool):bc:=match a.1,AW b,ok with
 | .mpq id l,some ⟨.i64,z⟩,false=>So id z l
 |_,_,_=>.stuck
theorem Cb{me:MQ P}{out:dJ}{ok:Bool}(hT:me.id=T)(hx:ev F x=some v)(hy:ev F y=some u)(hv:fU e lab w a v)(hu:fU e lab w b u)(hr:fL (u6 a b ok) out)(tp:c_ lab w)(hw:Wn ops F g)(hd:Nat.blt d N=true):
  LW P N ops [⟨some d,.lookup T x y ok,ty,pos,af,g⟩] F w (Fin N F e nid lab w (some d) out):=by
 subst hT
 unfold u6 at hr
 split at hr
 ·rename_i id l z ha hi
  obtain rfl:=iL hu hi
  have h1:=hv.1
  rw[ha]at h1
  obtain⟨G,gm,es,c,q1,rfl,q2,q3,q4,q5⟩:=h1
  obtain⟨sv,rfl,h2⟩:=Ih (e:=e) (lab:=lab) (w:=w) hr
  have hrun:=C0 (P:=P) (me:=me) z q4 q5
  have hy:ev F y=some (.int .i64 z):=hy
  exact LW.val (v:=Oj G l z) rfl hw rfl hd (fun q hq=>by simp[execOp,hq.eval hx,hq.eval hy,hrun]) (aC tp (h2 G q1))
 ·cases hr
def EA:SV→Option Bool
 | .ptr _ _=>some false
 | .pnil=>some true
 |_=>none
def D7(o:BinOp)(s:SV):bc:=match o,EA s with
 | .neq,some c=>.letm Bool (!c) sy
 | .eql,some c=>.letm Bool c sy
 |_,_=>.stuck
def Kq:SV→Bool
 | .pnil=>true
 |_=>false
theorem H6{s:SV}(h:Kq s=true):s = .pnil:=by cases s<;>first |rfl |cases h
theorem J_{o:BinOp}{t':TypeId}{out:dJ}{me:MQ P}(hT:me.el=T)(hx:ev F x=some v)(hy:ev F y=some u)(hv:fU e lab w a v)(hu:fU e lab w b u)(hb:b.1 = .pnil)(hr:fL (D7 o a.1) out)(tp:c_ lab w)(hw:Wn ops F g)(hd:Nat.blt d N=true):
  LW P N ops [⟨some d,.binOp o T x y t',ty,pos,af,g⟩] F w (Fin N F e nid lab w (some d) out):=by
 subst hT
 have h2:=hu.1
 rw[hb]at h2
 have h2:u = .pointer none:=h2
 subst h2
 have key : ∀c,EA a.1=some c→((c=true∧v = .pointer none)∨(c=false∧∃p,v = .pointer (some p))):=by
  intro c hc
  have h1:=hv.1
  unfold EA at hc
  split at hc
  ·rename_i id off ha
   rw[ha]at h1
   obtain⟨g,_,rfl⟩:=h1
   cases hc;exact .inr ⟨rfl,_,rfl⟩
  ·rename_i ha
   rw[ha]at h1
   cases hc;exact .inl ⟨rfl,h1⟩
  ·cases hc
 unfold D7 at hr
 split at hr
 ·rename_i c hc
  cases hr with
  |letm hr=>
   obtain rfl:=hr.ret_eq
   have hp:=fun p=>run_neq_pointer_nil (P:=P) (w:=w) me.el p me.pu
   rcases key c hc with⟨rfl,rfl⟩ | ⟨rfl,p,rfl⟩
   ·exact LW.val rfl hw rfl hd (fun _ ha=>dy _ _ _ (ha.eval hx) (ha.eval hy) rfl (hp none)) (aC tp (br.ofBool _))
   ·exact LW.val rfl hw rfl hd (fun _ ha=>dy _ _ _ (ha.eval hx) (ha.eval hy) rfl (hp (some p))) (aC tp (br.ofBool _))
 ·rename_i c hc
  cases hr with
  |letm hr=>
   obtain rfl:=hr.ret_eq
   have hp:=fun p=>run_eql_pointer_nil (P:=P) (w:=w) me.el p me.pu
   rcases key c hc with⟨rfl,rfl⟩ | ⟨rfl,p,rfl⟩
   ·exact LW.val rfl hw rfl hd (fun _ ha=>dy _ _ _ (ha.eval hx) (ha.eval hy) rfl (hp none)) (aC tp (br.ofBool _))
   ·exact LW.val rfl hw rfl hd (fun _ ha=>dy _ _ _ (ha.eval hx) (ha.eval hy) rfl (hp (some p))) (aC tp (br.ofBool _))
 ·cases hr
end
def El:(k:IntKind)→Int→Option (bK k)
 | .i64,n=>some n | .i32,n=>some n | .i16,n=>some n | .i8,n=>some n | .u16,n=>some n
 | .u8,n=>match decide (cO .u8 (av n)=n)with |true=>some (av n) |false=>none
 | .u64,n=>match decide (cO .u64 (aB n)=n)with |true=>some (aB n) |false=>none
 | .u32,n=>match decide (cO .u32 (aq n)=n)with |true=>some (aq n) |false=>none
theorem HR{k:IntKind}{n:Int}{x:bK k}(h:El k n=some x):cO k x=n:=by
 cases k<;>first | (cases h;rfl) | (unfold El at h;simp only at h;split at h;(rename_i hd;cases h;exact of_decide_eq_true hd);cases h)
def K_:List Value→Bool
 | [.int .i64 (.ofNat a),.int .u64 (.ofNat b),.slice none c d,.slice none e f]=>Nat.beq a 0&&(Nat.beq b 0&&(Nat.beq c 0&&(Nat.beq d 0&&(Nat.beq e 0&&Nat.beq f 0))))
 |_=>false
theorem K7{l:List Value}(h:K_ l=true):l=zc .tree:=by
 unfold K_ at h
 split at h
 ·simp only[Bool.and_eq_true]at h
  obtain⟨h1,h2,h3,h4,h5,h6⟩:=h
  rw[Nat.eq_of_beq_eq_true h1,Nat.eq_of_beq_eq_true h2,Nat.eq_of_beq_eq_true h3,Nat.eq_of_beq_eq_true h4,Nat.eq_of_beq_eq_true h5,Nat.eq_of_beq_eq_true h6]
  rfl
 ·cases h
def Bj:Value→Option SV
 | .agg cs=>match K_ cs.toList with |true=>some (.dat .tree (zt .tree)) |false=>none
 | .int k n=>match El k n with |some x=>some (.dat (.int k) x) |none=>none
 | .bool b=>some (.dat .bool b)
 | .string s=>some (.dat .str s.data.toList)
 | .slice none 0 0=>some .nil
 | .pointer none=>some .pnil
 | .nilFunc=>some (.dat (.clo 0 .un) none)
 | .nilIface=>some (.dat .err false)
 | .float .f64 n=>match Nat.blt n 18446744073709551616 with |true=>some (.dat .fl (UInt64.ofNat n)) |false=>none
 |_=>none
def Ca:SV→Option Nat
 | .agh _ _ _ id=>some id | .clb _ id=>some id | .mp id=>some id | .ptr id _=>some id | .own id=>some id | .eptr id _ _=>some id | .rix id=>some id | .rlen id=>some id | .rsl id=>some id | .rnx id=>some id | .rcn id=>some id |_=>none
def pB(ps:PS)(sv:SV):Option d6:=
 match Ca sv with
 |none=>none
 |some id=>match aY ps.mem id with
  |some (_,m)=>some m
  |none=>none
def cn(ps:PS):Operand→Option RA
 | .tmp t=>match aY ps.sl t with
  |some (_,sv)=>some (sv,pB ps sv)
  |none=>none
 | .const v=>match Bj v with
  |some sv=>some (sv,none)
  |none=>none
 | .func f=>some (.dat (.clo f .un) (some ()),none)
 | .global _=>none
section
variable {P : Program} {N : Nat} {ops : Array Oper} {F : List (Nat × Value)} {w w' : World} {e : iy} {lab lab' : bN} {ps : PS} {v : Value} {a : RA}
theorem GC{sv:SV}(h:Bj v=some sv):RV e sv lab w v:=by
 unfold Bj at h
 split at h
 ·rename_i cs
  split at h
  ·rename_i hz
   cases h
   exact⟨zc .tree,gu _ _ .tree,by show Value.agg cs = .agg (zc .tree).toArray;rw[←K7 hz]⟩
  ·cases h
 ·split at h
  ·rename_i x hx
   cases h
   rw[←HR hx];exact br.ofInt x
  ·cases h
 ·cases h;exact br.ofBool _
 ·rename_i s
  cases h
  have:(Value.string s)=er s.data.toList:=by simp[er]
  rw[this];exact br.ofStr _
 ·cases h;rfl
 ·cases h;rfl
 ·cases h;exact⟨[.nilFunc],rfl,rfl⟩
 ·cases h;exact⟨[.nilIface],rfl,rfl⟩
 ·rename_i n
  split at h
  ·rename_i hn
   cases h
   have hn:n<18446744073709551616:=Nat.blt_eq.mp hn
   exact⟨[.float .f64 n],by show [Value.float .f64 n] = [.float .f64 (UInt64.ofNat n).toNat];rw[UInt64.toNat_ofNat_of_lt' hn],rfl⟩
  ·cases h
 ·cases h
theorem Ka{sv:SV}{id:Nat}(h:Ca sv=some id):OP sv=id:=by cases sv<;>first | (cases h;rfl) |cases h
theorem ui(h:sB e ps F lab w){sv:SV}{m:d6}(hm:pB ps sv=some m):bU e lab w (OP sv) m:=by
 unfold pB at hm
 split at hm
 ·cases hm
 ·rename_i id hid
  split at hm
  ·rename_i st m' hf
   cases hm
   rw[Ka hid]
   exact h.mem _ _ _ (ap hf)
  ·cases hm
theorem aP(h:sB e ps F lab w){x:Operand}(hx:cn ps x=some a): ∃v,ev F x=some v∧fU e lab w a v:=by
 unfold cn at hx
 split at hx
 ·rename_i t
  split at hx
  ·rename_i st sv hf
   cases hx
   obtain⟨v,hv,hr⟩:=h.sl _ _ _ (ap hf)
   exact⟨v,hv,hr,fun m hm=>ui h hm⟩
  ·cases hx
 ·rename_i v
  split at hx
  ·rename_i sv hs
   cases hx
   exact⟨v,rfl,GC hs,fun m hm=>by cases hm⟩
  ·cases hx
 ·rename_i f
  cases hx
  exact⟨_,rfl,⟨[.func (.func f) #[] #[]],⟨[],rfl,rfl⟩,rfl⟩,fun m hm=>by cases hm⟩
 ·cases hx
theorem nA(wf:WF ps){x:Operand}(hx:cn ps x=some a): ∀i∈jx a.1,i<ps.nxt:=by
 unfold cn at hx
 split at hx
 ·split at hx
  ·rename_i st sv hf
   cases hx
   exact(wf.sl _ _ _ (ap hf)).2
  ·cases hx
 ·split at hx
  ·rename_i v sv hs
   cases hx
   intro i hi
   unfold Bj at hs
   split at hs
   ·split at hs
    ·cases hs;simp[jx,kH]at hi
    ·cases hs
   all_goals first | (cases hs;done) | (cases hs;simp[jx,kH]at hi) | (split at hs<;>first | (cases hs;done) | (cases hs;simp[jx,kH]at hi))
  ·cases hx
 ·cases hx
  intro i hi
  simp[jx,kH]at hi
 ·cases hx
def ph(ps:PS):List Operand→Option (List RA)
 | []=>some []
 |x::xs=>match cn ps x,ph ps xs with
  |some a,some as=>some (a::as)
  |_,_=>none
theorem nI(h:sB e ps F lab w): ∀{xs:List Operand} {as:List RA},ph ps xs=some as→∃vs,iN F e lab w xs as vs
 | [],as,hx=>by cases hx;exact⟨[],.nil⟩
 |x::xs,as,hx=>by
  unfold ph at hx
  split at hx
  ·rename_i a as' ha has
   cases hx
   obtain⟨v,h1,h2⟩:=aP h ha
   obtain⟨vs,h3⟩:=nI h has
   exact⟨v::vs,.cons h1 h2 h3⟩
  ·cases hx
def Bt(ps:PS):List (Nat×Operand)→Option (List (Nat×RA))
 | []=>some []
 | (i,x)::xs=>match cn ps x,Bt ps xs with
  |some a,some as=>some ((i,a)::as)
  |_,_=>none
theorem wg(h:sB e ps F lab w): ∀{xs:List (Nat×Operand)} {as:List (Nat×RA)},Bt ps xs=some as→∃vs,gG F e lab w xs as vs
 | [],as,hx=>by cases hx;exact⟨[],.nil⟩
 | (i,x)::xs,as,hx=>by
  unfold Bt at hx
  split at hx
  ·rename_i a as' ha has
   cases hx
   obtain⟨v,h1,h2⟩:=aP h ha
   obtain⟨vs,h3⟩:=wg h has
   exact⟨(i,v)::vs,.cons h1 h2 h3⟩
  ·cases hx
theorem vw(wf:WF ps){xs:List Operand}: ∀{qs:List PK} {as:List RA} {c:CA qs},ph ps xs=some as→a7 qs as=some c→∀p,c.po=some p→p.1<ps.nxt:=by
 induction xs with
 |nil=>
  intro qs as c h hc p hp
  cases h
  cases qs with
  |nil=>cases hc;cases hp
  |cons q qs=>cases q<;>cases hc
 |cons x xs ih=>
  intro qs as c h hc p hp
  unfold ph at h
  split at h
  ·rename_i a as' ha has
   cases h
   cases qs with
   |nil=>cases hc
   |cons q qs=>
   cases q with
   |d t=>
    unfold a7 at hc
    split at hc
    ·cases hc
    ·rename_i c' hc'
     split at hc
     ·cases hc;exact ih has hc' p hp
     ·split at hc
      ·cases hc;exact ih has hc' p hp
      ·cases hc
   |p T t=>
    unfold a7 at hc
    split at hc
    ·cases hc
    ·split at hc
     ·split at hc
      ·cases hc
       cases hp
       exact nA wf ha _ (by simp[jx,kH])
      ·cases hc
     ·cases hc
   |r E t=>
    unfold a7 at hc
    split at hc
    ·cases hc
    ·split at hc
     ·split at hc
      ·cases hc;cases hp
      ·cases hc
     ·cases hc;cases hp
     ·cases hc
  ·cases h
end
section
variable {ps : PS}
theorem tO : ∀{t:PT} {x:den t} {cs:List RA} {qs:List PK} {c:CA qs},vu t x=some cs→a7 qs cs=some c→c.po=none
 | .un,x,cs,qs,c,h,hc=>by
  cases h
  cases qs with
  |nil=>cases hc;rfl
  |cons q qs=>cases q<;>cases hc
 | .pr (.cp a) b,x,cs,qs,c,h,hc=>by
  unfold vu at h
  split at h
  ·rename_i r hb
   cases h
   cases qs with
   |nil=>cases hc
   |cons q qs=>
    cases q with
    |d t=>
     unfold a7 at hc
     split at hc
     ·cases hc
     ·rename_i c' hc'
      have ih:=tO hb hc'
      split at hc
      ·cases hc;exact ih
      ·split at hc
       ·cases hc;exact ih
       ·cases hc
    |p T t=>
     unfold a7 at hc
     split at hc
     ·cases hc
     ·cases hc
    |r E t=>
     unfold a7 at hc
     split at hc
     ·cases hc
     ·split at hc<;>first | (cases hc;done) |contradiction |skip
      all_goals (rename_i h2;cases h2)
  ·cases h
 | .int _,_,_,_,_,h,_=>by cases h
 | .bool,_,_,_,_,h,_=>by cases h
 | .str,_,_,_,_,h,_=>by cases h
 | .sl _,_,_,_,_,h,_=>by cases h
 | .st _,_,_,_,_,h,_=>by cases h
 | .cp _,_,_,_,_,h,_=>by cases h
 | .clo _ _,_,_,_,_,h,_=>by cases h
 | .tree,_,_,_,_,h,_=>by cases h
 | .err,_,_,_,_,h,_=>by cases h
 | .fl,_,_,_,_,h,_=>by cases h
 | .f4,_,_,_,_,h,_=>by cases h
 | .ar _ _,_,_,_,_,h,_=>by cases h
 | .pr (.int _) _,_,_,_,_,h,_=>by cases h
 | .pr .bool _,_,_,_,_,h,_=>by cases h
 | .pr .str _,_,_,_,_,h,_=>by cases h
 | .pr (.sl _) _,_,_,_,_,h,_=>by cases h
 | .pr (.pr _ _) _,_,_,_,_,h,_=>by cases h
 | .pr (.st _) _,_,_,_,_,h,_=>by cases h
 | .pr .un _,_,_,_,_,h,_=>by cases h
 | .pr (.clo _ _) _,_,_,_,_,h,_=>by cases h
 | .pr .tree _,_,_,_,_,h,_=>by cases h
 | .pr .err _,_,_,_,_,h,_=>by cases h
 | .pr .fl _,_,_,_,_,h,_=>by cases h
 | .pr .f4 _,_,_,_,_,h,_=>by cases h
 | .pr (.ar _ _) _,_,_,_,_,h,_=>by cases h
theorem tw{n:Nat}: ∀{qs:List PK} {as:List RA} {c:CA qs},a7 qs as=some c→(∀a∈as,∀i∈jx a.1,i<n)→∀p,c.po=some p→p.1<n
 | [],[],c,h,_,p,hp=>by cases h;cases hp
 | [],_::_,c,h,_,_,_=>by cases h
 | .d t::ps,[],c,h,_,_,_=>by cases h
 | .p T t::ps,[],c,h,_,_,_=>by cases h
 | .r T t::ps,[],c,h,_,_,_=>by cases h
 | .d t::ps,a::as,c,h,hi,p,hp=>by
  unfold a7 at h
  split at h
  ·cases h
  ·rename_i c' hc
   have ih:=tw hc fun a ha=>hi a (by simp[ha])
   split at h
   ·cases h;exact ih p hp
   ·split at h
    ·cases h;exact ih p hp
    ·cases h
 | .p T t::ps,a::as,c,h,hi,p,hp=>by
  unfold a7 at h
  split at h
  ·cases h
  ·split at h
   ·split at h
    ·cases h;cases hp
     exact hi _ List.mem_cons_self _ (List.mem_singleton.2 rfl)
    ·cases h
   ·cases h
 | .r E t::ps,a::as,c,h,hi,p,hp=>by
  unfold a7 at h
  split at h
  ·cases h
  ·split at h
   ·split at h
    ·cases h;cases hp
    ·cases h
   ·cases h;cases hp
   ·cases h
theorem Gv(wf:WF ps): ∀{xs:List Operand} {as:List RA},ph ps xs=some as→∀a∈as,∀i∈jx a.1,i<ps.nxt
 | [],as,h,a,ha=>by cases h;cases ha
 |x::xs,as,h,a,ha=>by
  unfold ph at h
  split at h
  ·rename_i b bs hb hbs
   cases h
   rcases List.mem_cons.1 ha with rfl |ha
   ·exact fun i hi=>nA wf hb i hi
   ·exact Gv wf hbs a ha
  ·cases h
theorem Bh(wf:WF ps){t:PT}{x:den t}{cs:List RA}(hcs:vu t x=some cs){xs:List Operand}: ∀{qs:List PK} {as:List RA} {c:CA qs},ph ps xs=some as→a7 qs (as++cs)=some c→∀p,c.po=some p→p.1<ps.nxt:=by
 induction xs with
 |nil=>
  intro qs as c h hc p hp
  cases h
  rw[List.nil_append]at hc
  rw[tO hcs hc]at hp;cases hp
 |cons x xs ih=>
  intro qs as c h hc p hp
  unfold ph at h
  split at h
  ·rename_i a as' ha has
   cases h
   cases qs with
   |nil=>cases hc
   |cons q qs=>
   cases q with
   |d t=>
    rw[List.cons_append]at hc
    unfold a7 at hc
    split at hc
    ·cases hc
    ·rename_i c' hc'
     split at hc
     ·cases hc;exact ih has hc' p hp
     ·split at hc
      ·cases hc;exact ih has hc' p hp
      ·cases hc
   |p T t=>
    rw[List.cons_append]at hc
    unfold a7 at hc
    split at hc
    ·cases hc
    ·split at hc
     ·split at hc
      ·cases hc
       cases hp
       exact nA wf ha _ (by simp[jx,kH])
      ·cases hc
     ·cases hc
   |r E t=>
    rw[List.cons_append]at hc
    unfold a7 at hc
    split at hc
    ·cases hc
    ·split at hc
     ·split at hc
      ·cases hc;cases hp
      ·cases hc
     ·cases hc;cases hp
     ·cases hc
  ·cases h
end
structure Sp(P:Program) where
 fid:FuncId
 clo:Nat
 ift:TypeId
 el:TypeId
 pt:PT
 rel:List (den pt)→List (den pt)→Prop
 und:P.underlying ift=some (.slice el)
 fn:Pg P fid
 ok : ∀{lab:bN} {w:World} {k c G:Nat} {oa:Option Addr} {xs:List (den pt)},xs.length≤zJ→c_ lab w→GL lab w→k≠0→dU (rep pt) lab w k el oa c xs→w.cell? ⟨G,0,none⟩=some (.slice oa xs.length c)→lab G≠k→lab G≠0→
  Calls P fid #[.iface ift (.slice oa xs.length c),.func (.func clo) #[] #[.pointer (some ⟨G,0,none⟩)]] w fun e' w'=>e' = .returned (.tuple #[])∧∃lab' ys,rel xs ys∧ys.length=xs.length∧iV [k] lab w lab' w'∧dU (rep pt) lab' w' k el oa c ys
structure XE(P:Program) where
 id:FuncId
 src:PT
 dst:PT
 f:den src→den dst
 ok : ∀(x:den src) (v:Value) (lab:bN) (w:World),br src x lab w v→∃v',(callFunc id #[v]).run P w = .ok (.value v') w∧br dst (f x) lab w v'
def Bl{P:Program}:List (XE P)→FuncId→Option (XE P)
 | [],_=>none
 |c::r,f=>match Nat.beq c.id f with
  |true=>some c
  |false=>Bl r f
theorem zk{P:Program}: ∀{l:List (XE P)} {f:FuncId} {c:XE P},Bl l f=some c→c.id=f
 | [],_,_,h=>by cases h
 |q::r,f,c,h=>by
  unfold Bl at h
  split at h
  ·rename_i hb;cases h;exact Nat.eq_of_beq_eq_true hb
  ·exact zk h
def PY{P:Program}(xe:XE P)(a:RA):bc:=match yF xe.src a with
 |some x=>.letm (den xe.dst) (xe.f x) fun y=>.ret (o1 (.dat xe.dst y))
 |none=>.stuck
theorem OI{P:Program}{N:Nat}{ops:Array Oper}{F:List (Nat×Value)}{w:World}{lab:bN}{e:iy}{nid d:Nat}{a:RA}{vs:List Value}{xs:List Operand}{ts:Array TypeId}{ty:TypeId}{pos:String}{af:Array Edge}{g:Option (Nat×Bool)}{xe:XE P}{out:dJ}(ha:iN F e lab w xs [a] vs)(hr:fL (PY xe a) out)(tp:c_ lab w)(hw:Wn ops F g)(hd:Nat.blt d N=true):
  LW P N ops [⟨some d,.call { callee:=.value (.func xe.id),args:=xs.toArray,argTypes:=ts },ty,pos,af,g⟩] F w (Fin N F e nid lab w (some d) out):=by
 cases ha with
 |cons hx hv h4=>
 cases h4
 rename_i x v
 unfold PY at hr
 split at hr
 ·rename_i z hz
  obtain⟨v',h1,h2⟩:=xe.ok z v lab w (fw hv hz)
  cases hr with
  |letm hr=>
   obtain rfl:=hr.ret_eq
   exact LW.val rfl hw rfl hd (fun q hq=>by
    have e:([x].toArray.map q.eval) = #[v]:=by simp[hq.eval hx]
    simp only[execOp,resolve,e,Act.eval,Deferred.ofValue,invoke,Sem.run_bind,Sem.run_pure,Result.andThen_ok]
    have e2:(#[] ++ #[v] ++ #[]:Array Value) = #[v]:=by simp
    rw[e2,h1]) (aC (sv:=.dat xe.dst (xe.f z)) tp h2)
 ·cases hr
structure XM(P:Program) where
 id:FuncId
 ps:List PT
 rs:List PT
 m:eb (ps.map PK.d) (Option (n_ (rs.map RK.d)))
 ok : ∀(a:hl (ps.map PK.d)) r (vs:List Value) (lab:bN) (w:World),rO (ps.map PK.d) m a=some r→fC 0 0 lab w (ps.map PK.d) a vs→∃us,(callFunc id vs.toArray).run P w = .ok (.value (vD us)) w∧iq 0 0 0 lab w (rs.map RK.d) (fk _ r) us
def A2{P:Program}:List (XM P)→FuncId→Option (XM P)
 | [],_=>none
 |c::r,f=>match Nat.beq c.id f with
  |true=>some c
  |false=>A2 r f
theorem z_{P:Program}: ∀{l:List (XM P)} {f:FuncId} {c:XM P},A2 l f=some c→c.id=f
 | [],_,_,h=>by cases h
 |q::r,f,c,h=>by
  unfold A2 at h
  split at h
  ·rename_i hb;cases h;exact Nat.eq_of_beq_eq_true hb
  ·exact z_ h
def CY:(ps:List PT)→List RA→Option (hl (ps.map PK.d))
 | [],[]=>some ()
 |t::ps,a::as=>match yF t a,CY ps as with
  |some x,some xs=>some (x,xs)
  |_,_=>none
 |_,_=>none
theorem yq{F:List (Nat×Value)}{w:World}{lab:bN}{e:iy}: ∀{ps:List PT} {as:List RA} {xs:List Operand} {vs:List Value} {x:hl (ps.map PK.d)},iN F e lab w xs as vs→CY ps as=some x→fC 0 0 lab w (ps.map PK.d) x vs
 | [],[],_,_,_,.nil,_=>trivial
 | [],_::_,_,_,_,_,h=>by cases h
 |_::_,[],_,_,_,_,h=>by cases h
 |t::ps,a::as,_,_,x,.cons h1 h2 h3,h=>by
  unfold CY at h
  split at h
  ·rename_i y ys hy hys
   cases h
   exact⟨fw h2 hy,yq h3 hys⟩
  ·cases h
theorem wl : ∀(rs:List PT),eC (rs.map RK.d)=0
 | []=>rfl
 |_::rs=>wl rs
def PX{P:Program}(xm:XM P)(as:List RA):bc:=match CY xm.ps as with
 |some x=>.bnd (n_ (xm.rs.map RK.d)) (rO (xm.ps.map PK.d) xm.m x) fun r=>.ret (o1 (Ft (p8 0 (xm.rs.map RK.d) (fk _ r))))
 |none=>.stuck
theorem Qa{P:Program}{N:Nat}{ops:Array Oper}{F:List (Nat×Value)}{w:World}{lab:bN}{e:iy}{nid d:Nat}{as:List RA}{vs:List Value}{xs:List Operand}{ts:Array TypeId}{ty:TypeId}{pos:String}{af:Array Edge}{g:Option (Nat×Bool)}{xm:XM P}{out:dJ}(ha:iN F e lab w xs as vs)(hr:fL (PX xm as) out)(tp:c_ lab w)(hw:Wn ops F g)(hd:Nat.blt d N=true):
  LW P N ops [⟨some d,.call { callee:=.value (.func xm.id),args:=xs.toArray,argTypes:=ts },ty,pos,af,g⟩] F w (Fin N F e nid lab w (some d) out):=by
 unfold PX at hr
 split at hr
 ·rename_i x hx
  cases hr with
  |bnd hb hr=>
   obtain rfl:=hr.ret_eq
   obtain⟨us,h1,h2⟩:=xm.ok _ _ vs lab w hb (yq ha hx)
   exact LW.val rfl hw rfl hd (fun q hq=>by
    have e:(xs.toArray.map q.eval)=vs.toArray:=by rw[List.map_toArray,hq.evals ha.evs]
    simp only[execOp,resolve,e,Act.eval,Deferred.ofValue,invoke,Sem.run_bind,Sem.run_pure,Result.andThen_ok]
    have e2:(#[]++vs.toArray ++ #[]:Array Value)=vs.toArray:=by simp
    rw[e2,h1]) (aC tp (DA (qc 0 h2 (.inl (wl _)))))
 ·cases hr
def xK(x y c:UInt64):Option (UInt64×UInt64):=match Nat.ble c.toNat 1 with
 |true=>some (UInt64.ofNat ((x.toNat+y.toNat+c.toNat)%18446744073709551616),UInt64.ofNat ((x.toNat+y.toNat+c.toNat)/18446744073709551616))
 |false=>none
def zM(x y c:UInt64):Option (UInt64×UInt64):=match Nat.ble c.toNat 1 with
 |true=>some (UInt64.ofNat ((x.toNat+18446744073709551616-y.toNat-c.toNat)%18446744073709551616),bif Nat.blt x.toNat (y.toNat+c.toNat)then 1 else 0)
 |false=>none
theorem tG{lab:bN}{w:World}{n:Nat}(h:n<18446744073709551616):br (.int .u64) (UInt64.ofNat n) lab w (.int .u64 (Int.ofNat n)):=by
 have:cO .u64 (UInt64.ofNat n)=Int.ofNat n:=by show((UInt64.ofNat n).toNat:Int)=_;rw[UInt64.toNat_ofNat_of_lt' h];rfl
 rw[←this];exact br.ofInt (k:=.u64) _
section
variable {P : Program} {f : FuncId}
theorem xY{lab:bN}{w:World}{a:hl (List.map PK.d [.int .u64,.int .u64,.int .u64])}{vs:List Value}(ha:fC 0 0 lab w (List.map PK.d [.int .u64,.int .u64,.int .u64]) a vs):
  vs = [.int .u64 (UInt64.toNat a.1:Int),.int .u64 (UInt64.toNat a.2.1:Int),.int .u64 (UInt64.toNat a.2.2.1:Int)]:=by
 obtain⟨x,y,c,u⟩:=a
 match vs,ha with
 | [_,_,_],⟨h1,h2,h3,_⟩=>rw[br.int (k:=.u64) h1,br.int (k:=.u64) h2,br.int (k:=.u64) h3];rfl
theorem Dn{c:UInt64}(h:Nat.ble c.toNat 1=true):c.toNat=0∨c.toNat=1:=by have:=Nat.le_of_ble_eq_true h;omega
theorem Ie(h0 : ∀(x y:Int) (w:World),(callFunc f #[.int .u64 x,.int .u64 y,.int .u64 0]).run P w = .ok (.value (Extern.MathBitsCarry.pair ((x.toNat+y.toNat+0)%Extern.MathBitsCarry.m64) ((x.toNat+y.toNat+0)/Extern.MathBitsCarry.m64))) w)
  (h1 : ∀(x y:Int) (w:World),(callFunc f #[.int .u64 x,.int .u64 y,.int .u64 1]).run P w = .ok (.value (Extern.MathBitsCarry.pair ((x.toNat+y.toNat+1)%Extern.MathBitsCarry.m64) ((x.toNat+y.toNat+1)/Extern.MathBitsCarry.m64))) w)
  (a:hl (List.map PK.d [.int .u64,.int .u64,.int .u64])) (r:UInt64×UInt64) (vs:List Value) (lab:bN) (w:World) (h:rO (R:=Option (UInt64×UInt64)) (List.map PK.d [.int .u64,.int .u64,.int .u64]) xK a=some r) (ha:fC 0 0 lab w (List.map PK.d [.int .u64,.int .u64,.int .u64]) a vs) :
  ∃us,(callFunc f vs.toArray).run P w = .ok (.value (vD us)) w∧iq 0 0 0 lab w (List.map RK.d [.int .u64,.int .u64]) (fk (List.map RK.d [.int .u64,.int .u64]) r) us:=by
 have hv:=xY ha
 obtain⟨x,y,c,u⟩:=a
 have h:xK x y c=some r:=h
 unfold xK at h
 split at h
 ·rename_i hc
  cases h
  have hx:=x.toNat_lt
  have hy:=y.toNat_lt
  have hc':=Dn hc
  refine⟨[.int .u64 (Int.ofNat ((x.toNat+y.toNat+c.toNat)%18446744073709551616)),.int .u64 (Int.ofNat ((x.toNat+y.toNat+c.toNat)/18446744073709551616))],?_,tG (Nat.mod_lt _ (by omega)),tG (by omega),trivial⟩
  rw[hv]
  rcases hc' with hc' |hc'
  ·rw[show(Value.int .u64 (UInt64.toNat c:Int)) = .int .u64 0 by rw[hc'];rfl,hc'];exact h0 _ _ w
  ·rw[show(Value.int .u64 (UInt64.toNat c:Int)) = .int .u64 1 by rw[hc'];rfl,hc'];exact h1 _ _ w
 ·cases h
theorem KO(h0 : ∀(x y:Int) (w:World),(callFunc f #[.int .u64 x,.int .u64 y,.int .u64 0]).run P w = .ok (.value (Extern.MathBitsCarry.pair ((x.toNat+Extern.MathBitsCarry.m64-y.toNat-0)%Extern.MathBitsCarry.m64) (if x.toNat<y.toNat+0 then 1 else 0))) w)
  (h1 : ∀(x y:Int) (w:World),(callFunc f #[.int .u64 x,.int .u64 y,.int .u64 1]).run P w = .ok (.value (Extern.MathBitsCarry.pair ((x.toNat+Extern.MathBitsCarry.m64-y.toNat-1)%Extern.MathBitsCarry.m64) (if x.toNat<y.toNat+1 then 1 else 0))) w)
  (a:hl (List.map PK.d [.int .u64,.int .u64,.int .u64])) (r:UInt64×UInt64) (vs:List Value) (lab:bN) (w:World) (h:rO (R:=Option (UInt64×UInt64)) (List.map PK.d [.int .u64,.int .u64,.int .u64]) zM a=some r) (ha:fC 0 0 lab w (List.map PK.d [.int .u64,.int .u64,.int .u64]) a vs) :
  ∃us,(callFunc f vs.toArray).run P w = .ok (.value (vD us)) w∧iq 0 0 0 lab w (List.map RK.d [.int .u64,.int .u64]) (fk (List.map RK.d [.int .u64,.int .u64]) r) us:=by
 have hv:=xY ha
 obtain⟨x,y,c,u⟩:=a
 have h:zM x y c=some r:=h
 unfold zM at h
 split at h
 ·rename_i hc
  cases h
  have hc':=Dn hc
  have hb : ∀(p q:Nat),br (.int .u64) (cond (Nat.blt p q) (1:UInt64) (0:UInt64)) lab w (.int .u64 (Int.ofNat (if p<q then 1 else 0))):=by
   intro p q
   by_cases hlt:p<q
   ·rw[if_pos hlt,Nat.blt_eq.mpr hlt];exact tG (n:=1) (by omega)
   ·rw[if_neg hlt,show Nat.blt p q=false by cases hb:Nat.blt p q with |false=>rfl |true=>exact absurd (Nat.blt_eq.mp hb) hlt];exact tG (n:=0) (by omega)
  refine⟨[.int .u64 (Int.ofNat ((x.toNat+18446744073709551616-y.toNat-c.toNat)%18446744073709551616)),.int .u64 (Int.ofNat (if x.toNat<y.toNat+c.toNat then 1 else 0))],?_,tG (Nat.mod_lt _ (by omega)),hb _ _,trivial⟩
  rw[hv]
  rcases hc' with hc' |hc'
  ·rw[show(Value.int .u64 (UInt64.toNat c:Int)) = .int .u64 0 by rw[hc'];rfl,hc'];exact h0 _ _ w
  ·rw[show(Value.int .u64 (UInt64.toNat c:Int)) = .int .u64 1 by rw[hc'];rfl,hc'];exact h1 _ _ w
 ·cases h
def C6(x:UInt64):Option UInt64:=(FloatKind.f64.format.sqrt x.toNat).map UInt64.ofNat
def Om:Ieee.Datum→Bool
 | .nan _ _=>true
 |_=>false
def sK(way:Ieee.Toward)(x:UInt64):Option UInt64:=match Om (FloatKind.f64.decode x.toNat)with
 |true=>none
 |false=>some (UInt64.ofNat (FloatKind.f64.encode ((FloatKind.f64.decode x.toNat).integral way)))
theorem KH{lab:bN}{w:World}{a:hl (List.map PK.d [.fl])}{vs:List Value}(ha:fC 0 0 lab w (List.map PK.d [.fl]) a vs):vs = [.float .f64 (UInt64.toNat a.1)]:=by
 obtain⟨x,u⟩:=a
 match vs,ha with
 | [_],⟨h1,_⟩=>rw[br.fl h1]
theorem Io{x n:Nat}{w:World}(h1:FloatKind.f64.format.sqrt x=some n):(Extern.MathSqrt.sqrt #[.float .f64 x] >>= fun v=>pure (Next.value v)).run P w = .ok (.value (.float .f64 n)) w:=by
 conv in Extern.MathSqrt.sqrt _=>whnf
 rw[h1];rfl
theorem Hy{nm:String}{way:Ieee.Toward}{x:Nat}{w:World}(h1:Om (FloatKind.f64.decode x)=false):(Extern.MathFloor.toIntegral nm way #[.float .f64 x] >>= fun v=>pure (Next.value v)).run P w = .ok (.value (.float .f64 (FloatKind.f64.encode ((FloatKind.f64.decode x).integral way)))) w:=by
 conv in Extern.MathFloor.toIntegral _ _ _=>whnf
 cases hd:FloatKind.f64.decode x with
 |nan s t=>rw[hd]at h1;cases h1
 |infinity s=>rfl
 |number s m e=>rfl
theorem Js(h0 : ∀(n:Nat) (w:World),(callFunc f #[.float .f64 n]).run P w=(Extern.MathSqrt.sqrt #[.float .f64 n] >>= fun v=>pure (Next.value v)).run P w)
  (a:hl (List.map PK.d [.fl])) (r:UInt64) (vs:List Value) (lab:bN) (w:World) (h:rO (R:=Option UInt64) (List.map PK.d [.fl]) C6 a=some r) (ha:fC 0 0 lab w (List.map PK.d [.fl]) a vs) :
  ∃us,(callFunc f vs.toArray).run P w = .ok (.value (vD us)) w∧iq 0 0 0 lab w (List.map RK.d [.fl]) (fk (List.map RK.d [.fl]) r) us:=by
 have hv:=KH ha
 obtain⟨x,u⟩:=a
 have h:C6 x=some r:=h
 unfold C6 at h
 rw[Option.map_eq_some_iff]at h
 obtain⟨n,h1,rfl⟩:=h
 have hn:(UInt64.ofNat n).toNat=n:=UInt64.toNat_ofNat_of_lt' (Ieee.Format.sqrt_lt _ h1)
 refine⟨[.float .f64 (UInt64.ofNat n).toNat],?_,br.ofFl _,trivial⟩
 rw[hv,hn]
 show(callFunc f #[.float .f64 (UInt64.toNat x)]).run P w=_
 rw[h0,Io h1];rfl
theorem zQ{nm:String}{way:Ieee.Toward}(h0 : ∀(n:Nat) (w:World),(callFunc f #[.float .f64 n]).run P w=(Extern.MathFloor.toIntegral nm way #[.float .f64 n] >>= fun v=>pure (Next.value v)).run P w)
  (a:hl (List.map PK.d [.fl])) (r:UInt64) (vs:List Value) (lab:bN) (w:World) (h:rO (R:=Option UInt64) (List.map PK.d [.fl]) (sK way) a=some r) (ha:fC 0 0 lab w (List.map PK.d [.fl]) a vs) :
  ∃us,(callFunc f vs.toArray).run P w = .ok (.value (vD us)) w∧iq 0 0 0 lab w (List.map RK.d [.fl]) (fk (List.map RK.d [.fl]) r) us:=by
 have hv:=KH ha
 obtain⟨x,u⟩:=a
 have h:sK way x=some r:=h
 unfold sK at h
 split at h
 ·cases h
 ·rename_i hn
  cases h
  have he:=FF (encode_wf .f64 ((FloatKind.f64.decode x.toNat).integral way))
  refine⟨[.float .f64 (UInt64.ofNat (FloatKind.f64.encode ((FloatKind.f64.decode x.toNat).integral way))).toNat],?_,br.ofFl _,trivial⟩
  rw[hv,he]
  show(callFunc f #[.float .f64 (UInt64.toNat x)]).run P w=_
  rw[h0,Hy hn];rfl
end
def TC(P:Program)(fid:FuncId)(ps rs:List PT)(T:TypeId)(t0:PT)(off:Nat)(E:TypeId)(t:PT)(a:hl (ps.map PK.d))(X:den t0)(xs:List (den t))(X':den t0)(ys:List (den t))(r:uv (rs.map RK.d)):Prop:=
 ∀(kb kr g:Nat) (lab:bN) (w:World) (vs cs:List Value) (oa:Option Addr) (c:Nat),c_ lab w→GL lab w→kb≠0→kr≠0→kb≠kr→fC 0 0 lab w (ps.map PK.d) a vs→j0 lab w kb g T cs→(rep t0).rd lab w (cs.set off (.slice none 0 0)) X→cs[off]?=some (.slice oa xs.length c)→dU (rep t) lab w kr E oa c xs→
  Calls P fid (vs ++ [Value.pointer (some ⟨g,0,none⟩)]).toArray w fun e w'=>∃us lab' oa' c' cs',e = .returned (vD us)∧iV [kb,kr] lab w lab' w'∧j0 lab' w' kb g T cs'∧(rep t0).rd lab' w' (cs'.set off (.slice none 0 0)) X'∧cs'[off]?=some (.slice oa' ys.length c')∧dU (rep t) lab' w' kr E oa' c' ys∧iq 0 0 0 lab' w' (rs.map RK.d) r us
structure yY(P:Program) where
 fid:FuncId
 ps:List PT
 rs:List PT
 T:TypeId
 t0:PT
 off:Nat
 E:TypeId
 t:PT
 fn:Pg P fid
 m:eb (ps.map PK.d) (den t0→List (den t)→Option (den t0×(List (den t)×n_ (rs.map RK.d))))
 ok : ∀(a:hl (ps.map PK.d)) X xs X' ys r,rO (ps.map PK.d) m a X xs=some (X',(ys,r))→TC P fid ps rs T t0 off E t a X xs X' ys (fk _ r)
def AG{P:Program}:List (yY P)→FuncId→Option (yY P)
 | [],_=>none
 |c::r,f=>match Nat.beq c.fid f with
  |true=>some c
  |false=>AG r f
theorem zW{P:Program}: ∀{l:List (yY P)} {f:FuncId} {c:yY P},AG l f=some c→c.fid=f
 | [],_,_,h=>by cases h
 |q::r,f,c,h=>by
  unfold AG at h
  split at h
  ·rename_i hb;cases h;exact Nat.eq_of_beq_eq_true hb
  ·exact zW h
structure kC(P:Program) where
 te:List (TE P)
 se:List (SE P)
 fe:List (FE P)
 be:List (BE P)
 cs:List (bI P)
 hold:List Nat
 fd:List (FD P)
 nil:List (Nat×Nat×TypeId)
 qe:List (QE P)
 ge:List (GE P)
 me:List (ME P)
 so:List (Sp P)
 xe:List (XE P)
 xm:List (XM P)
 ch:List (yY P)
 mq:List (MQ P)
def fm:List Nat→Nat→Bool
 | [],_=>false
 |x::r,n=>Nat.beq x n||fm r n
def wZ:Operand→Option Nat
 | .tmp t=>some t
 |_=>none
theorem Ij{x:Operand}: ∀i,wZ x=some i→x = .tmp i:=fun i h=>by cases x<;>cases h;rfl
def KT:Operand→Operand→Bool
 | .tmp a,.tmp b=>Nat.beq a b
 | .const (.int k n),.const (.int k' n')=>IntKind.eqb k k'&&decide (n=n')
 |_,_=>false
theorem KG{x y:Operand}(h:KT x y=true):x=y:=by
 unfold KT at h
 split at h
 ·rw[Nat.eq_of_beq_eq_true h]
 ·simp only[Bool.and_eq_true]at h
  rw[IntKind.eqb_eq h.1,of_decide_eq_true h.2]
 ·cases h
def Sy{P:Program}(c:bI P):Bool:=c.rs.all fun r=>match r with | .x _ _=>false |_=>true
def OM(ps:PS):Option Operand→Option (Option ((k:IntKind)×bK k))
 |none=>some none
 |some x=>match cn ps x with
  |some a=>match AW a with
   |some i=>some (some i)
   |none=>none
  |none=>none
def w6(l:List Nat)(x:Operand):Option Nat:=
 match wZ x with
 |some s=>match fm l s with |true=>some s |false=>none
 |none=>none
def Fr:List (Nat×Nat×TypeId)→Nat→List (Nat×TypeId)
 | [],_=>[]
 | (d',off,t)::r,d=>match Nat.beq d' d with |true=>(off,t)::Fr r d |false=>Fr r d
def QJ{P:Program}(A':List (SE P)):List (Nat×TypeId)→Option (List (Nat×TypeId×PT))
 | []=>some []
 | (off,st)::r=>match gY A' st,QJ A' r with
  |some se,some l=>some ((off,se.el,se.pt)::l)
  |_,_=>none
def IL:SV→Option ((t:PT)×den t×List (Nat×TypeId×PT))
 | .agn t x l=>some ⟨t,x,l⟩
 |_=>none
theorem KI{sv:SV}{t:PT}{x:den t}{l:List (Nat×TypeId×PT)}(h:IL sv=some ⟨t,x,l⟩):sv = .agn t x l:=by
 unfold IL at h
 split at h
 ·cases h;rfl
 ·cases h
def Jk:SV→Option ((t:PT)×den t×Nat×Nat)
 | .agh t x off id=>some ⟨t,x,off,id⟩
 |_=>none
theorem Kx{sv:SV}{t:PT}{x:den t}{off id:Nat}(h:Jk sv=some ⟨t,x,off,id⟩):sv = .agh t x off id:=by
 unfold Jk at h
 split at h
 ·cases h;rfl
 ·cases h
def Fe(hold:List Nat):List Operand→Bool
 | [x]=>match wZ x with
  |some s=>fm hold (4000000+s)
  |none=>false
 |_=>false
def JI:RA→Option (Nat×RA)
 | (.clb f id,m)=>some (f,(.ptr id 0,m))
 |_=>none
theorem J7{a a2:RA}{f:Nat}(h:JI a=some (f,a2)): ∃id,a.1 = .clb f id∧a2=(.ptr id 0,a.2):=by
 unfold JI at h
 split at h
 ·cases h;exact⟨_,rfl,rfl⟩
 ·cases h
def wT{P:Program}(tes:List (TE P))(T:TypeId):Bool:=
 match d_ tes T with
 |some ⟨_,.str,_⟩=>true
 |_=>false
theorem u5{P:Program}{tes:List (TE P)}{T:TypeId}(h:wT tes T=true):P.underlying T=some .string:=by
 unfold wT at h
 split at h
 ·rename_i i ok hf
  have e1:i=T:=ba hf
  subst e1
  exact ok.und
 ·cases h
def JU:SV→Option (Nat×((t:PT)×Option (den t)))
 | .dat (.clo f t) y=>some (f,⟨t,y⟩)
 |_=>none
theorem JN{sv:SV}{f:Nat}{t:PT}{y:Option (den t)}(h:JU sv=some (f,⟨t,y⟩)):sv = .dat (.clo f t) y:=by
 unfold JU at h
 split at h
 ·cases h;rfl
 ·cases h
section
variable {P : Program}
def ip(T:kC P)(own rng:List Nat)(ps:PS)(dst:Option Nat)(op:Op):bc:=
 match op,dst with
 | .move x,some _=>match cn ps x with |some a=>.ret (o1 a.1) |none=>.stuck
 | .assign x,some _=>match cn ps x with |some a=>.ret (o1 a.1) |none=>.stuck
 | .pick c x y,some _=>match cn ps c,cn ps x,cn ps y with |some c,some a,some b=>Ee c a b |_,_,_=>.stuck
 | .alloc t,some d=>match d_ T.te t with |some e=>.ret (sn (10+d) ps.nxt t e.pt (zt e.pt)) |none=>.stuck
 | .box t x,some d=>match d_ T.te t,cn ps x with |some e,some a=>(match yF e.pt a with |some u=>.ret (sn (10+d) ps.nxt t e.pt u) |none=>.stuck) |_,_=>.stuck
 | .fieldAddr t x f,some _=>match qG T.fe t f,cn ps x with |some e,some a=>(match Co e.off a.1 with |some sv=>.ret (o1 sv) |none=>ra e.off a.1) |_,_=>.stuck
 | .nilCheck x,some _=>match cn ps x with |some a=>(match Co 0 a.1 with |some _=>.ret (o1 a.1) |none=>vW a.1) |none=>.stuck
 | .load t x,some d=>match Jw x with
  |some g=>(match xl T.ge t g with |some ge=>Bv ge |none=>.stuck)
  |none=>match d_ T.te t,cn ps x with
   |some e,some a=>match E6 a with
    |some (id,i,k,E,E2,⟨t',xs⟩)=>A7 e ps.nxt (10+d) id i k E E2 t' xs
    |none=>match D6 e.pt a with
     |some ⟨k,xs,o⟩=>Bx k xs o
     |none=>DR e a
   |_,_=>.stuck
 | .store t x y,none=>match w6 T.hold x with
  |some s=>match d_ T.te t,cn ps x,cn ps y with
   |some e,some a,some b=>match IL b.1 with
    |some ⟨t2,X2,l⟩=>match PT.eqb e.pt t2 with
     |true=>wP ps.nxt (1000010+s) a t2 X2 l
     |false=>.stuck
    |none=>match Jk b.1 with
     |some ⟨t2,X2,off,id⟩=>match PT.eqb e.pt t2 with
      |true=>xF a t2 X2 off id
      |false=>.stuck
     |none=>match gY T.se t with
      |some se=>ug e se.el ps.nxt (1000010+s) a b.1
      |none=>.stuck
   |_,_,_=>.stuck
  |none=>match d_ T.te t,cn ps x,cn ps y with
   |some e,some a,some b=>match NU a b with
    |some (id,i,k,E,E2,⟨t',xs⟩,q,E2',⟨u,z⟩)=>yn e id i k E E2 t' xs q E2' u z
    |none=>match J6 e.pt a with
     |some ⟨k,xs,o,id,kb,T2,n⟩=>yd k xs o id kb T2 n b
     |none=>match O2 a.2 with
      |true=>uQ e a b
      |false=>A9 e a b
   |_,_,_=>.stuck
 | .binOp o t x y _,some _=>match cn ps x,cn ps y with |some a,some b=>(match DQ y with |true=>Ko T.te o t a |false=>match Ba T.qe t with |some qe=>JB qe o a b |none=>(match D8 y with |true=>(match gY T.se t with |some _=>D9 o a |none=>.stuck) |false=>(match vR T.mq t,Kq b.1 with |some _,true=>D7 o a.1 |_,_=>JG T.te o t a b))) |_,_=>.stuck
 | .index t x y,some _=>match wT T.te t,cn ps x,cn ps y with |true,some a,some b=>ye a b |false,some a,some b=>(match By T.ge t with |some ge=>xC ge a b |none=>match d_ T.te t with |some te=>wR te a b |none=>.stuck) |_,_,_=>.stuck
 | .unOp .not _ x,some _=>match cn ps x with |some a=>Iq a |none=>.stuck
 | .unOp .xor _ x,some _=>match cn ps x with |some a=>EE a |none=>.stuck
 | .unOp .neg _ x,some _=>match cn ps x with |some a=>IP a |none=>.stuck
 | .convert s t x,some _=>match cn ps x with |some a=>Ec T.te T.se s t a |none=>.stuck
 | .build t parts,some d=>match Fr T.nil d with
  | []=>match wV T.be t,Bt ps parts.toList with
   |some e,some as=>match Fr T.nil (3000000+d)with
    | [(off,_)]=>match I9 as e.fs off with
     |some rid=>xw e as off rid
     |none=>.stuck
    |_=>Ay e as
   |_,_=>.stuck
  |q=>match wV T.be t,QJ T.se q,Bt ps parts.toList with |some e,some l,some as=>wo e as l |_,_,_=>.stuck
 | .field t x f,some _=>match AB T.fd t f,cn ps x with
  |some fd,some a=>match d_ T.te fd.ft with |some te=>Bb fd te a |none=>.stuck
  |_,_=>.stuck
 | .makeFunc (.func f) first caps,some _=>match Fe T.hold caps.toList with
  |false=>match first.toList,ph ps caps.toList with
   | [],some as=>AF f as
   |_,_=>.stuck
  |true=>match first.toList,ph ps caps.toList with
   | [],some as=>Bs f as
   |_,_=>.stuck
 | .buildSlice t n parts,some d=>match gY T.se t,Bt ps parts.toList with |some e,some as=>(match P7 n as with |some (q,E2,⟨t',z⟩)=>yB e ps.nxt (10+d) q E2 t' z |none=>xQ e ps.nxt (10+d) (fm own d) n as) |_,_=>.stuck
 | .makeSlice t x y,some d=>match O3 x with
  |true=>(match gY T.se t,cn ps y with |some e,some a=>Bw e ps.nxt (10+d) (fm own d) a |_,_=>.stuck)
  |false=>(match gY T.se t,cn ps x,KT y x with |some e,some a,true=>E3 e ps.nxt (10+d) (fm own d) a |_,_,_=>.stuck)
 | .slice t x lo hi none,some _=>match wT T.te t,cn ps x,OM ps lo,OM ps hi with
  |true,some a,some i,some j=>yx a i j
  |false,some a,some i,some j=>(match gY T.se t with |some e=>AE e ps.nxt a i j |none=>.stuck)
  |_,_,_,_=>.stuck
 | .slice t x none (some hi) (some mx),some _=>match gY T.se t,cn ps x,cn ps hi,cn ps mx with
  |some e,some a,some b,some c=>xX e a b c
  |_,_,_,_=>.stuck
 | .indexAddr t x y,some _=>match Jw x with
  |none=>match P8 T.te t with
   |some (_,n,_)=>(match cn ps x,cn ps y with |some a,some b=>wx n a b |_,_=>.stuck)
   |none=>(match gY T.se t,cn ps x,cn ps y with |some e,some a,some b=>(match Cr a with |some (n,E)=>(match Nat.beq E e.el&&Nat.beq (cX e.pt) 1 with |true=>xp (FX a) n b |false=>.stuck) |none=>A6 e a b) |_,_,_=>.stuck)
  |some g=>(match xl T.ge t g,cn ps y with |some e,some b=>xI e b |_,_=>.stuck)
 | .makeMap t none,some d=>match uO T.me t with |some me=>Ak me ps.nxt (10+d) |none=>.stuck
 | .lookup t x y ok,some _=>match uO T.me t,cn ps x,cn ps y with |some me,some a,some b=>w7 me a b ok |none,some a,some b=>(match xB T.mq t with |some _=>u6 a b ok |none=>.stuck) |_,_,_=>.stuck
 | .mapUpdate t x y z,none=>match uO T.me t,cn ps x,cn ps y,cn ps z with |some me,some a,some b,some c=>xV me a b c |_,_,_,_=>.stuck
 | .extract x i,some _=>match cn ps x with |some a=>uz a i |none=>.stuck
 | .call c,some d=>match c.callee,c.args.toList,c.argTypes.toList with
  | .builtin .len,[x],[t]=>match cn ps x with
   |none=>.stuck
   |some a=>match gY T.se t with
    |some e=>match Cr a with
     |some (n,_)=>.ret (o1 (.dat (.int .i64) (n:Int)))
     |none=>KX e ps.nxt (fm rng d) (wZ x) a
    |none=>match d_ T.te t,kF a with
     |some ⟨_,.str,_⟩,some ⟨.str,l⟩=>.ret (o1 (.dat (.int .i64) (List.length (α:=UInt8) l:Int)))
     |_,_=>.stuck
  | .builtin .append,[x,y],[t,t']=>match Nat.beq t' t,gY T.se t,cn ps x,cn ps y with
   |true,some e,some a,some b=>match Ud b with
    |true=>uJ e ps.nxt (10+d) a b
    |false=>xi e ps.nxt (10+d) (fm own d) a b
   |false,some e,some a,some b=>match wT T.te t' with
    |true=>u9 e ps.nxt (10+d) (fm own d) a b
    |false=>.stuck
   |_,_,_,_=>.stuck
  | .builtin .copy,[x,y],[t,t']=>match Nat.beq t' t,gY T.se t,cn ps x,cn ps y with
   |true,some e,some a,some b=>DH e a b
   |_,_,_,_=>.stuck
  | .builtin .max,[x,y],_=>match cn ps x,cn ps y with |some a,some b=>Mv true a b |_,_=>.stuck
  | .builtin .min,[x,y],_=>match cn ps x,cn ps y with |some a,some b=>Mv false a b |_,_=>.stuck
  | .value (.func f),xs,_=>match oP T.cs f,ph ps xs with
   |some c,some as=>match Sy c with
    |true=>match fm T.hold (7000000+d)with
     |false=>qo c ps.nxt (10+d) as
     |true=>rg c ps.nxt (10+d) as
    |false=>.stuck
   |none,some as=>match A2 T.xm f with
    |some xm=>PX xm as
    |none=>match as with
     | [a]=>match Bl T.xe f with
      |some xe=>PY xe a
      |none=>.stuck
     |_=>.stuck
   |_,_=>.stuck
  | .value (.tmp s),xs,_=>match cn ps (.tmp s),ph ps xs with
   |some b,some as=>match JU b.1 with
    |some (f,⟨t,y⟩)=>.bnd (den t) y fun z=>match oP T.cs f,vu t z with
     |some c,some cs=>match Sy c with
      |true=>qo c ps.nxt (10+d) (as++cs)
      |false=>.stuck
     |_,_=>.stuck
    |none=>match JI b with
     |some (f,a2)=>match oP T.cs f with
      |some c=>match Sy c with
       |true=>rg c ps.nxt (10+d) (as ++ [a2])
       |false=>.stuck
      |none=>.stuck
     |none=>.stuck
   |_,_=>.stuck
  |_,_,_=>.stuck
 |_,_=>.stuck
variable {N : Nat} {ops : Array Oper} {F : List (Nat × Value)} {w w' : World} {e : iy} {lab lab' : bN} {ps : PS} {v : Value} {a : RA}
theorem fv{α:Type}{xs:Array α}{l:List α}(h:xs.toList=l):xs=l.toArray:=by rw[←h]
theorem Bm(h:sB e ps F lab w){x:Option Operand}{i:Option ((k:IntKind)×bK k)}(hx:OM ps x=some i):Q9 F x i:=by
 unfold OM at hx
 split at hx
 ·cases hx;trivial
 ·split at hx
  ·rename_i a ha
   split at hx
   ·rename_i i' hi
    cases hx
    obtain⟨v,h1,h2⟩:=aP h ha
    obtain⟨k,j⟩:=i'
    show ev F _=some (.int k (cO k j))
    rw[h1,iL h2 hi]
   ·cases hx
  ·cases hx
theorem Mm{T:kC P}{own rng:List Nat}{dst:Option Nat}{op:Op}{ty:TypeId}{pos:String}{af:Array Edge}{g:Option (Nat×Bool)}{out:dJ}(h:sB e ps F lab w)(wf:WF ps)(tp:c_ lab w)(hr:fL (ip T own rng ps dst op) out)(hw:Wn ops F g)
  (hd : ∀d,dst=some d→Nat.blt d N=true):LW P N ops [⟨dst,op,ty,pos,af,g⟩] F w (Fin N F e ps.nxt lab w dst out):=by
 unfold ip at hr
 split at hr
 · -- move
  split at hr
  ·rename_i a ha
   obtain rfl:=hr.ret_eq
   obtain⟨v,h1,h2⟩:=aP h ha
   exact IA h1 h2.1 tp hw (hd _ rfl)
  ·cases hr
 ·split at hr
  ·rename_i a ha
   obtain rfl:=hr.ret_eq
   obtain⟨v,h1,h2⟩:=aP h ha
   exact DV h1 h2.1 tp hw (hd _ rfl)
  ·cases hr
 ·split at hr
  ·rename_i c a b hc ha hb
   obtain⟨v1,h1,h2⟩:=aP h hc
   obtain⟨v2,h3,h4⟩:=aP h ha
   obtain⟨v3,h5,h6⟩:=aP h hb
   exact If h1 h3 h5 h2 h4.1 h6.1 hr tp hw (hd _ rfl)
  ·cases hr
 ·split at hr
  ·rename_i te hte
   obtain rfl:=hr.ret_eq
   obtain rfl:=ba hte
   exact Hz te.ok _ tp hw (hd _ rfl)
  ·cases hr
 ·split at hr
  ·rename_i te a hte ha
   split at hr
   ·rename_i u hu
    obtain rfl:=hr.ret_eq
    obtain⟨v,h1,h2⟩:=aP h ha
    exact Ng h1 (fw h2 hu) _ tp hw (hd _ rfl)
   ·cases hr
  ·cases hr
 ·split at hr
  ·rename_i fe a hfe ha
   split at hr
   ·rename_i sv hs
    obtain rfl:=hr.ret_eq
    obtain⟨rfl,rfl⟩:=qX hfe
    obtain⟨v,h1,h2⟩:=aP h ha
    exact NL fe.ok h1 h2.1 hs tp hw (hd _ rfl)
   ·obtain⟨rfl,rfl⟩:=qX hfe
    obtain⟨v,h1,h2⟩:=aP h ha
    exact Hw fe.ok h1 h2 hr tp hw (hd _ rfl)
  ·cases hr
 ·split at hr
  ·rename_i a ha
   split at hr
   ·rename_i sv hs
    obtain rfl:=hr.ret_eq
    obtain⟨v,h1,h2⟩:=aP h ha
    exact BB h1 h2.1 hs tp hw (hd _ rfl)
   ·obtain⟨v,h1,h2⟩:=aP h ha
    exact Ha h1 h2 hr tp hw (hd _ rfl)
  ·cases hr
 ·split at hr
  ·rename_i gi hgi
   obtain rfl:=Dg hgi
   split at hr
   ·rename_i ge hge
    obtain⟨rfl,rfl⟩:=uN hge
    exact Hv h.gl hr tp hw (hd _ rfl)
   ·cases hr
  ·split at hr
   ·rename_i te a hte ha
    obtain⟨v,h1,h2⟩:=aP h ha
    split at hr
    ·rename_i hq
     exact Hq (ba hte) h1 h2 hq hr (fun i hi=>nA wf ha i hi) tp hw (hd _ rfl)
    ·split at hr
     ·rename_i ht
      exact HD (ba hte) h1 h2 ht hr tp hw (hd _ rfl)
     ·exact JY (ba hte) h1 h2 hr tp hw (hd _ rfl)
   ·cases hr
 ·split at hr
  ·split at hr
   ·rename_i te a b hte ha hb
    obtain⟨v,h1,h2⟩:=aP h ha
    obtain⟨u,h3,h4⟩:=aP h hb
    split at hr
    ·rename_i t2 X2 l hag
     have hag:=KI hag
     split at hr
     ·rename_i hpt
      have h5:=h4.1
      rw[hag]at h5
      exact DT (ba hte) hpt h1 h3 h2 h5 hr (fun i hi=>nA wf ha i hi) tp hw
     ·cases hr
    ·split at hr
     ·rename_i t2 X2 off id hag
      have hag:=Kx hag
      split at hr
      ·rename_i hpt
       have h5:=h4.1
       rw[hag]at h5
       exact D' (ba hte) hpt h1 h3 h2 h5 hr tp hw
      ·cases hr
     split at hr
     ·rename_i se hse
      refine DZ (ba hte) h1 h3 h2 h4 hr (fun i hi=>?_) tp hw
      rcases List.mem_append.1 hi with hi |hi
      ·exact nA wf ha i hi
      ·exact nA wf hb i hi
     ·cases hr
   ·cases hr
  ·split at hr
   ·rename_i te a b hte ha hb
    obtain⟨v,h1,h2⟩:=aP h ha
    obtain⟨u,h3,h4⟩:=aP h hb
    split at hr
    ·rename_i hq
     exact Ek (ba hte) h1 h3 h2 h4 hq hr tp hw
    ·split at hr
     ·rename_i ht
      exact Ew (ba hte) h1 h3 h2 h4 ht hr tp hw
     ·split at hr
      ·exact Dk (ba hte) h1 h3 h2 h4 hr tp hw
      ·exact Gy (ba hte) h1 h3 h2 h4 hr tp hw
   ·cases hr
 ·split at hr
  ·rename_i a b ha hb
   obtain⟨v,h1,h2⟩:=aP h ha
   obtain⟨u,h3,h4⟩:=aP h hb
   split at hr
   ·rename_i hnc
    obtain rfl:=H4 hnc
    exact MW h1 h2 hr tp hw (hd _ rfl)
   ·split at hr
    ·rename_i qe hq
     exact Ni (zV hq) h1 h3 h2 h4 hr tp hw (hd _ rfl)
    ·split at hr
     ·rename_i hns
      obtain rfl:=HB hns
      split at hr
      ·rename_i se hse
       obtain rfl:=cY hse
       exact Ld se.ok.elem.1 h1 h2 hr tp hw (hd _ rfl)
      ·cases hr
     ·split at hr
      ·rename_i me hme hpn
       exact J_ (xM hme) h1 h3 h2 h4 (H6 hpn) hr tp hw (hd _ rfl)
      ·exact MS h1 h3 h2 h4 hr tp hw (hd _ rfl)
  ·cases hr
 ·split at hr
  ·rename_i a b hs ha hb
   obtain⟨v,h1,h2⟩:=aP h ha
   obtain⟨u,h3,h4⟩:=aP h hb
   exact Dw (u5 hs) h1 h3 h2 h4 hr tp hw (hd _ rfl)
  ·rename_i a b hs ha hb
   obtain⟨v,h1,h2⟩:=aP h ha
   obtain⟨u,h3,h4⟩:=aP h hb
   split at hr
   ·rename_i ge hge
    obtain⟨rfl,hag⟩:=zp hge
    exact Ei hag h1 h3 h2 h4 hr tp hw (hd _ rfl)
   ·split at hr
    ·rename_i te hte
     exact D5 (ba hte) h1 h3 h2 h4 hr tp hw (hd _ rfl)
    ·cases hr
  ·cases hr
 ·split at hr
  ·rename_i a ha
   obtain⟨v,h1,h2⟩:=aP h ha
   exact M0 h1 h2 hr tp hw (hd _ rfl)
  ·cases hr
 ·split at hr
  ·rename_i a ha
   obtain⟨v,h1,h2⟩:=aP h ha
   exact Kr h1 h2 hr tp hw (hd _ rfl)
  ·cases hr
 ·split at hr
  ·rename_i a ha
   obtain⟨v,h1,h2⟩:=aP h ha
   exact L4 h1 h2 hr tp hw (hd _ rfl)
  ·cases hr
 ·split at hr
  ·rename_i a ha
   obtain⟨v,h1,h2⟩:=aP h ha
   exact Iz h1 h2 hr tp hw (hd _ rfl)
  ·cases hr
 ·split at hr
  ·split at hr
   ·rename_i be as hbe ha
    obtain⟨vs,h1⟩:=wg h ha
    split at hr
    ·split at hr
     ·exact DW (qZ hbe) h1 hr tp hw (hd _ rfl)
     ·cases hr
    ·exact Hx (qZ hbe) h1 hr tp hw (hd _ rfl)
   ·cases hr
  ·split at hr
   ·rename_i be se as hbe hse ha
    obtain⟨vs,h1⟩:=wg h ha
    exact DN (qZ hbe) h1 hr tp hw (hd _ rfl)
   ·cases hr
 ·split at hr
  ·rename_i fd a hfd ha
   split at hr
   ·rename_i te hte
    obtain⟨v,h1,h2⟩:=aP h ha
    obtain⟨e1,e2⟩:=zC hfd
    exact HT e1 e2 (ba hte) h1 h2 hr tp hw (hd _ rfl)
   ·cases hr
  ·cases hr
 ·rename_i f first caps d
  split at hr
  ·split at hr
   ·rename_i as hfi has
    obtain⟨first⟩:=first
    obtain⟨caps⟩:=caps
    have hfi:first = []:=hfi
    subst hfi
    obtain⟨vs,h1⟩:=nI h has
    exact Hp h1 hr tp hw (hd _ rfl)
   ·cases hr
  ·split at hr
   ·rename_i as hfi has
    obtain⟨first⟩:=first
    obtain⟨caps⟩:=caps
    have hfi:first = []:=hfi
    subst hfi
    obtain⟨vs,h1⟩:=nI h has
    exact HF h1 hr tp hw (hd _ rfl)
   ·cases hr
 ·split at hr
  ·rename_i se as hse ha
   obtain⟨vs,h1⟩:=wg h ha
   split at hr
   ·rename_i hq
    exact Ey (cY hse) h1 hq hr tp hw (hd _ rfl)
   ·exact EX (cY hse) h1 hr tp hw (hd _ rfl)
  ·cases hr
 ·split at hr
  ·rename_i hz
   obtain rfl:=ML hz
   split at hr
   ·rename_i se a hse ha
    obtain⟨v,h1,h2⟩:=aP h ha
    exact HX (cY hse) h1 h2 hr tp hw (hd _ rfl)
   ·cases hr
  ·split at hr
   ·rename_i se a hse ha hsm
    obtain rfl:=KG hsm
    obtain⟨v,h1,h2⟩:=aP h ha
    exact JD (cY hse) h1 h2 hr tp hw (hd _ rfl)
   ·cases hr
 ·split at hr
  ·rename_i a i j hs ha hi hj
   obtain⟨v,h1,h2⟩:=aP h ha
   exact EZ (u5 hs) h1 (Bm h hi) (Bm h hj) h2 hr tp hw (hd _ rfl)
  ·rename_i a i j hs ha hi hj
   obtain⟨v,h1,h2⟩:=aP h ha
   split at hr
   ·rename_i se hse
    exact G_ (cY hse) h1 (Bm h hi) (Bm h hj) h2 hr tp hw (hd _ rfl)
   ·cases hr
  ·cases hr
 ·split at hr
  ·rename_i se a b c hse ha hb hc
   obtain⟨v,h1,h2⟩:=aP h ha
   obtain⟨u1,h3,h4⟩:=aP h hb
   obtain⟨u2,h5,h6⟩:=aP h hc
   exact EY (cY hse) h1 h3 h5 h2 h4 h6 hr tp hw (hd _ rfl)
  ·cases hr
 ·split at hr
  ·split at hr
   ·rename_i te n kk hte
    obtain⟨E,hU,hS⟩:=Mw hte
    split at hr
    ·rename_i a b ha hb
     obtain⟨v,h1,h2⟩:=aP h ha
     obtain⟨u,h3,h4⟩:=aP h hb
     exact ER hU hS h1 h3 h2 h4 hr tp hw (hd _ rfl)
    ·cases hr
   ·split at hr
    ·rename_i se a b hse ha hb
     obtain⟨v,h1,h2⟩:=aP h ha
     obtain⟨u,h3,h4⟩:=aP h hb
     split at hr
     ·rename_i hq
      split at hr
      ·rename_i hb
       simp only[Bool.and_eq_true]at hb
       exact EU (cY hse) (Nat.eq_of_beq_eq_true hb.1) h1 h3 h2 h4 hq hr tp hw (hd _ rfl) (Nat.eq_of_beq_eq_true hb.2)
      ·cases hr
     ·exact H7 (cY hse) h1 h3 h2 h4 hr tp hw (hd _ rfl)
    ·cases hr
  ·rename_i g hg
   split at hr
   ·rename_i ge b hge hb
    obtain⟨u,h3,h4⟩:=aP h hb
    obtain⟨e1,e2⟩:=uN hge
    obtain rfl:=Dg hg
    subst e1 e2
    exact Et h.gl h3 h4 hr tp hw (hd _ rfl)
   ·cases hr
 ·split at hr
  ·rename_i me hme
   exact Dd hr tp hw (hd _ rfl)
  ·cases hr
 ·split at hr
  ·rename_i me a b hme ha hb
   obtain⟨v,h1,h2⟩:=aP h ha
   obtain⟨u,h3,h4⟩:=aP h hb
   exact Ej (uT hme) h1 h3 h2 h4 hr tp hw (hd _ rfl)
  ·rename_i a b hme ha hb
   obtain⟨v,h1,h2⟩:=aP h ha
   obtain⟨u,h3,h4⟩:=aP h hb
   split at hr
   ·rename_i mq hmq
    exact Cb (uF hmq) h1 h3 h2 h4 hr tp hw (hd _ rfl)
   ·cases hr
  ·cases hr
 ·split at hr
  ·rename_i me a b c hme ha hb hc
   obtain⟨v,h1,h2⟩:=aP h ha
   obtain⟨u,h3,h4⟩:=aP h hb
   obtain⟨u2,h5,h6⟩:=aP h hc
   exact DF (uT hme) h1 h3 h5 h2 h4 h6 hr tp hw
  ·cases hr
 ·split at hr
  ·rename_i a ha
   obtain⟨v,h1,h2⟩:=aP h ha
   exact Ch h1 h2.1 hr tp hw (hd _ rfl)
  ·cases hr
 ·rename_i c d
  obtain⟨callee,args,ats⟩:=c
  simp only at hr
  split at hr
  ·rename_i x t hx ht
   obtain rfl:=fv hx
   obtain rfl:=fv ht
   split at hr
   ·cases hr
   ·rename_i a ha
    obtain⟨v,h1,h2⟩:=aP h ha
    split at hr
    ·rename_i se hse
     split at hr
     ·rename_i hq
      exact Jl (cY hse) h1 h2 hq hr tp hw (hd _ rfl)
     ·exact MB (cY hse) Ij h1 h2 hr tp hw (hd _ rfl)
    ·split at hr
     ·rename_i i ok l hte hl
      obtain rfl:=hr.ret_eq
      have e2:i=t:=ba hte
      subst e2
      obtain rfl:=br.str (cE h2 hl)
      exact LW.lenS ok.und hw (hd _ rfl) h1 (aC tp (br.ofInt (k:=.i64) _))
     ·cases hr
  ·rename_i x y t t' hx ht
   obtain rfl:=fv hx
   obtain rfl:=fv ht
   split at hr
   ·rename_i se a b hb hse ha hb'
    obtain rfl:=Nat.eq_of_beq_eq_true hb
    obtain⟨v,h1,h2⟩:=aP h ha
    obtain⟨u,h3,h4⟩:=aP h hb'
    split at hr
    ·exact Dh (cY hse) h1 h3 h2 h4 hr tp hw (hd _ rfl)
    ·exact Em (cY hse) h1 h3 h2 h4 hr tp hw (hd _ rfl)
   ·rename_i se a b hb hse ha hb'
    obtain⟨v,h1,h2⟩:=aP h ha
    obtain⟨u,h3,h4⟩:=aP h hb'
    split at hr
    ·rename_i hst
     exact C5 (cY hse) (u5 hst) h1 h3 h2 h4 hr tp hw (hd _ rfl)
    ·cases hr
   ·cases hr
  ·rename_i x y t t' hx ht
   obtain rfl:=fv hx
   obtain rfl:=fv ht
   split at hr
   ·rename_i se a b hb hse ha hb'
    obtain rfl:=Nat.eq_of_beq_eq_true hb
    obtain⟨v,h1,h2⟩:=aP h ha
    obtain⟨u,h3,h4⟩:=aP h hb'
    exact Jz (cY hse) h1 h3 h2 h4 hr tp hw (hd _ rfl)
   ·cases hr
  ·rename_i x y l hx
   obtain rfl:=fv hx
   split at hr
   ·rename_i a b ha hb
    obtain⟨v,h1,h2⟩:=aP h ha
    obtain⟨u,h3,h4⟩:=aP h hb
    exact I' (mx:=true) h1 h3 h2 h4 hr tp hw (hd _ rfl)
   ·cases hr
  ·rename_i x y l hx
   obtain rfl:=fv hx
   split at hr
   ·rename_i a b ha hb
    obtain⟨v,h1,h2⟩:=aP h ha
    obtain⟨u,h3,h4⟩:=aP h hb
    exact I' (mx:=false) h1 h3 h2 h4 hr tp hw (hd _ rfl)
   ·cases hr
  ·rename_i f xs l
   split at hr
   ·rename_i c as hc has
    split at hr
    ·rename_i hx
     obtain⟨vs,h1⟩:=nI h has
     split at hr
     ·exact Dm (mF hc) hx h1 (fun ca hca p hp=>vw wf has hca p hp) hr tp h.gl hw (hd _ rfl)
     ·exact Hc (mF hc) hx h1 (fun ca hca p hp=>vw wf has hca p hp) hr tp h.gl hw (hd _ rfl)
    ·cases hr
   ·rename_i as _ has
    obtain⟨vs,h1⟩:=nI h has
    split at hr
    ·rename_i xm hxm
     obtain rfl:=z_ hxm
     exact Qa h1 hr tp hw (hd _ rfl)
    ·split at hr
     ·split at hr
      ·rename_i xe hxe
       obtain rfl:=zk hxe
       exact OI h1 hr tp hw (hd _ rfl)
      ·cases hr
     ·cases hr
   ·cases hr
  ·rename_i s xs l
   split at hr
   ·rename_i b as hb has
    split at hr
    ·rename_i f t y hclo
     have hclo:=JN hclo
     cases hr with
     |bnd hy hr=>
      dsimp only at hr
      split at hr
      ·rename_i c cs hc hcs
       split at hr
       ·rename_i hx
        obtain⟨vs,h1⟩:=nI h has
        obtain⟨v,h2,h3⟩:=aP h hb
        have h3:=h3.1
        rw[hclo,hy]at h3
        refine HK (c:=c) ⟨v,h2,by rw[mF hc];exact h3⟩ hcs hx h1 (fun ca hca p hp=>?_) hr tp h.gl hw (hd _ rfl)
        exact Bh wf hcs has hca p hp
       ·cases hr
      ·cases hr
    split at hr
    ·rename_i f a2 hclb
     obtain⟨id,hb1,rfl⟩:=J7 hclb
     split at hr
     ·rename_i c hc
      split at hr
      ·rename_i hx
       obtain⟨vs,h1⟩:=nI h has
       obtain⟨v,h2,h3,h4⟩:=aP h hb
       rw[hb1]at h3 h4
       obtain⟨g,h5,rfl⟩:=h3
       refine HA (c:=c) (g0:=g) (by rw[mF hc];exact h2) h5 h4 hx h1 (fun ca hca p hp=>?_) hr tp h.gl hw (hd _ rfl)
       refine tw hca (fun a ha=>?_) p hp
       rcases List.mem_append.1 ha with ha |ha
       ·exact Gv wf has a ha
       ·obtain rfl:=List.mem_singleton.1 ha
        intro i hi
        exact nA wf hb i (by rw[hb1];exact hi)
      ·cases hr
     ·cases hr
    ·cases hr
   ·cases hr
  ·cases hr
 ·cases hr
end
structure kU(pts:List Nat)(w0:World)(bg:bN)(e:iy)(ps:PS)(F:List (Nat×Value))(lab:bN)(w:World):Prop where
 sim:sB e ps F lab w
 wf:WF ps
 cx:Cx pts w0 bg w lab
 a0:A0 pts e
def Rt{β:Type}(l:List (Nat×Nat×β))(s:Nat):Bool:=match aY l s with |some _=>true |none=>false
def iY(ps:PS)(o:dJ):Bool:=Hs ps.nxt o&&o.ks.all (fun k=>Nat.ble 2 k)&&o.re.all (fun p=>Rt ps.sl p.1)
section
variable {P : Program} {N : Nat} {F : List (Nat × Value)} {w w' w0 : World} {e e' : iy} {lab lab' bg : bN} {ps ps' : PS} {v : Value} {pts : List Nat} {d : Option Nat} {out : dJ} {K : fN}
theorem Ts{ks:List Nat}(h:ks.all (fun k=>Nat.ble 2 k)=true):ks.contains 1=false:=by
 cases hc:ks.contains 1 with
 |false=>rfl
 |true=>
  have:1∈ks:=by simpa using hc
  have:=List.all_eq_true.1 h 1 this
  cases this
theorem kU.step(h:kU pts w0 bg e ps F lab w)(hp:sr N F e ps.nxt lab w d out e' lab' w' v)(hc:iY ps out=true):kU pts w0 bg e' (apply ps d out) (Qt F d v) lab' w':=by
 simp only[iY,Bool.and_eq_true]at hc
 refine⟨h.sim.apply (N:=N) h.wf hp fun p hp'=>?_,h.wf.apply d hc.1.1,h.cx.stp hp.2.1 (Ts hc.1.2),fun g hg=>by rw[hp.1 0 (.inl h.wf.n0)];exact h.a0 g hg⟩
 have:=List.all_eq_true.1 hc.2 p hp'
 unfold Rt at this
 split at this
 ·rename_i x hx
  obtain⟨st,sv⟩:=x
  obtain⟨u,hu,_⟩:=h.sim.sl _ _ _ (ap hx)
  exact⟨u,hu⟩
 ·cases this
def wM(all:List Oper)(j:Nat):Option Nat:=match Gd all j with |some o=>o.dst |none=>none
theorem tB{all:List Oper}{j dj:Nat}(h:wM all j=some dj):(all.toArray[j]?).bind (·.dst)=some dj:=by
 unfold wM at h
 split at h
 ·rename_i o ho
  rw[mT]at ho
  simp[ho,h]
 ·cases h
def A5:SV→Option Bool
 | .dat .bool c=>some c
 |_=>none
theorem zr{sv:SV}{c:Bool}(h:A5 sv=some c):sv = .dat .bool c:=by
 unfold A5 at h
 split at h
 ·cases h;rfl
 ·cases h
def Or:SV→Bool
 | .und=>true
 |_=>false
theorem IG{sv:SV}(h:Or sv=true):sv = .und:=by cases sv<;>first |rfl |cases h
def GW(all:List Oper)(ps:PS)(g:Option (Nat×Bool)):Prop:=
 match g with
 |none=>True
 |some (j,b)=>∃dj st,wM all j=some dj∧aY ps.sl dj=some (st,.dat .bool b)
def GN(all:List Oper)(ps:PS)(o:Oper):Prop:=
 ∃j b dj st,o.guard=some (j,b)∧wM all j=some dj∧(aY ps.sl dj=some (st,.dat .bool (!b))∨aY ps.sl dj=some (st,.und)∧o.dst≠none)
def Rf(N:Nat)(d:Option Nat):Bool:=match d with |some d=>Nat.blt d N |none=>true
theorem ED{d:Option Nat}(h:Rf N d=true): ∀i,d=some i→Nat.blt i N=true:=fun i e=>by subst e;exact h
def qi(T:kC P)(N:Nat)(own rng:List Nat)(all:List Oper)(o:Oper)(ps:PS)(out:dJ):Prop:=
 Rf N o.dst=true∧iY ps out=true∧((GW all ps o.guard∧fL (ip T own rng ps o.dst o.op) out)∨(GN all ps o∧out=o1 .und))
theorem GW.wn{all:List Oper}{g:Option (Nat×Bool)}(h:sB e ps F lab w)(hg:GW all ps g):Wn all.toArray F g:=by
 unfold Wn
 unfold GW at hg
 split
 ·trivial
 ·rename_i j b
  obtain⟨dj,st,h1,h2⟩:=hg
  obtain⟨v,hv,hr⟩:=h.sl _ _ _ (ap h2)
  have hr:br .bool b lab w v:=hr
  rw[hr.bool]at hv
  exact⟨dj,tB h1,hv⟩
theorem NG{all:List Oper}{o:Oper}(h:sB e ps F lab w)(hg:GN all ps o)(hd:Rf N o.dst=true)(tp:c_ lab w):LW P N all.toArray [o] F w (Fin N F e ps.nxt lab w o.dst (o1 .und)):=by
 obtain⟨dst,op,ty,pos,af,g⟩:=o
 obtain⟨j,b,dj,st,h1,h2,h3⟩:=hg
 have h1:g=some (j,b):=h1
 subst h1
 have hfin : ∀{F':List (Nat×Value)} {d:Option Nat},F'=Qt F d undef→LW P N all.toArray [] F' w (Fin N F e ps.nxt lab w d (o1 .und)):=fun hF=>by
  subst hF
  exact LW.nil fun a ha=>⟨rfl,e,lab,undef,ha,fun _ _=>rfl,iV.refl tp,rfl,fun p hp=>by simp[o1]at hp,fun p hp=>by simp[o1]at hp⟩
 rcases h3 with h3 | ⟨h3,h4⟩
 ·obtain⟨v,hv,hr⟩:=h.sl _ _ _ (ap h3)
  have hr:br .bool (!b) lab w v:=hr
  rw[hr.bool]at hv
  cases dst with
  |some d=>exact LW.skip dj (tB h2) hv (by cases b<;>rfl) (ED hd _ rfl) (hfin rfl)
  |none=>exact LW.skip0 dj (tB h2) hv (by cases b<;>rfl) (hfin rfl)
 ·obtain⟨v,hv,hr⟩:=h.sl _ _ _ (ap h3)
  have hr:v=undef:=hr
  rw[hr]at hv
  cases dst with
  |some d=>exact LW.skipU dj (tB h2) hv (ED hd _ rfl) (hfin rfl)
  |none=>exact absurd rfl h4
theorem Nj:iY ps (o1 .und)=true:=rfl
theorem qi.fin{T:kC P}{own rng:List Nat}{all:List Oper}{o:Oper}(s:qi T N own rng all o ps out)(h:sB e ps F lab w)(wf:WF ps)(tp:c_ lab w):
  LW P N all.toArray [o] F w (Fin N F e ps.nxt lab w o.dst out):=by
 obtain⟨hd,hc,⟨hg,hr⟩ | ⟨hg,rfl⟩⟩:=s
 ·obtain⟨dst,op,ty,pos,af,g⟩:=o
  exact Mm h wf tp hr (hg.wn h) (ED hd)
 ·exact NG h hg hd tp
theorem DU{T:kC P}{own rng:List Nat}{all:List Oper}{o:Oper}{rest:List Oper}(s:qi T N own rng all o ps out)(h:kU pts w0 bg e ps F lab w)
  (hk : ∀e' F' lab' w',kU pts w0 bg e' (apply ps o.dst out) F' lab' w'→LW P N all.toArray rest F' w' K):LW P N all.toArray (o::rest) F w K:=by
 refine LW.cons1 (s.fin h.sim h.wf h.cx.top) ?_
 rintro ex a' w' ⟨h0,e',lab',v,hs,hp⟩
 exact⟨h0,hk _ _ _ _ (h.step hp s.2.1) _ hs⟩
def j5:List (Nat×Nat×SV)→Nat→List Nat
 | [],_=>[]
 | (s,_,.own i)::r,id=>match Nat.beq i id with
  |true=>s::j5 r id
  |false=>j5 r id
 |_::r,id=>j5 r id
theorem jq : ∀{l:List (Nat×Nat×SV)} {id s:Nat},s∈j5 l id→∃st,(s,st,.own id)∈l
 | [],_,_,h=>by simp[j5]at h
 | (s',st,sv)::r,id,s,h=>by
  cases sv with
  |own i=>
   unfold j5 at h
   split at h
   ·rename_i hb
    obtain rfl:=Nat.eq_of_beq_eq_true hb
    rcases List.mem_cons.1 h with rfl |h
    ·exact⟨st,by simp⟩
    ·obtain⟨st',h⟩:=jq h;exact⟨st',by simp[h]⟩
   ·obtain⟨st',h⟩:=jq h;exact⟨st',by simp[h]⟩
  |_=>obtain⟨st',h⟩:=jq (l:=r) h;exact⟨st',by simp[h]⟩
def On(k:Nat)(T:TypeId)(t:PT)(x:den t):List (Nat×Nat)→d6
 | []=>.box k T t x
 |h::r=>.boxh k T t x (h::r)
theorem KW{k:Nat}{T:TypeId}{t:PT}{x:den t}{hs:List (Nat×Nat)}{e:iy}{lab:bN}{w:World}{id:Nat}(h:bU e lab w id (.boxh k T t x hs)):bU e lab w id (On k T t x hs):=by
 cases hs with
 |nil=>
  obtain⟨g,cs,h1,h2,h3,_⟩:=h
  exact⟨g,cs,h1,h2,h3⟩
 |cons a r=>exact h
def SQ(ps:PS)(id:Nat):Option dJ:=
 match aY ps.mem id with
 |some (_,.row k _ t xs)=>some ⟨.und,[k],[],(j5 ps.sl id).map fun s=>(s,.dat (.sl t) xs)⟩
 |some (_,.rq k _ _ t xs)=>some ⟨.und,[k],[],(j5 ps.sl id).map fun s=>(s,.dat (.sl (.sl t)) xs)⟩
 |some (_,.boxh k T t x ((off,rid)::hs))=>match aY ps.mem rid with
  |some (_,.row q _ u xs)=>match Nat.beq k q,d5 t off (.sl u) x xs with
   |false,some x'=>some ⟨.und,[q],[(id,On k T t x' hs)],(j5 ps.sl rid).map fun s=>(s,.dat (.sl u) xs)⟩
   |_,_=>none
  |_=>none
 |_=>none
theorem Qe{id:Nat}(h:sB e ps F lab w)(tp:c_ lab w)(hf:SQ ps id=some out): ∃lab',sr N F e ps.nxt lab w none out e lab' w undef:=by
 unfold SQ at hf
 split at hf
 ·rename_i st k E t xs hm
  cases hf
  obtain⟨b1,b2,b3⟩:=h.mem _ _ _ (ap hm)
  refine⟨Gk.mask lab k,fun _ _=>rfl,iV.mask tp (by simp),rfl,fun p hp=>by simp at hp,fun p hp u hu=>?_⟩
  obtain⟨s,hs,rfl⟩:=List.mem_map.1 hp
  obtain⟨st',hs⟩:=jq hs
  obtain⟨v,hv,hr⟩:=h.sl _ _ _ hs
  have hv':dG F s=some u:=hu
  rw[hv]at hv'
  have hvu:=Option.some.inj hv'
  have hr:v = .slice (e id).oa (e id).n (e id).c:=hr
  rw[←hvu,hr,b1]
  exact br.ofSl b3.view
 ·rename_i st k E E2 t xs hm
  cases hf
  obtain⟨b1,b2,b3⟩:=h.mem _ _ _ (ap hm)
  refine⟨Gk.mask lab k,fun _ _=>rfl,iV.mask tp (by simp),rfl,fun p hp=>by simp at hp,fun p hp u hu=>?_⟩
  obtain⟨s,hs,rfl⟩:=List.mem_map.1 hp
  obtain⟨st',hs⟩:=jq hs
  obtain⟨v,hv,hr⟩:=h.sl _ _ _ hs
  have hv':dG F s=some u:=hu
  rw[hv]at hv'
  have hvu:=Option.some.inj hv'
  have hr:v = .slice (e id).oa (e id).n (e id).c:=hr
  rw[←hvu,hr,b1]
  exact br.ofSl (t:=.sl t) b3.view
 ·rename_i st k T t x off rid hs0 hm
  split at hf
  ·rename_i st2 q E u xs hm2
   split at hf
   ·rename_i x' hkq hs
    cases hf
    obtain⟨b1,b2,b3⟩:=h.mem _ _ _ (ap hm2)
    have b1:(e rid).n=xs.length:=b1
    obtain⟨G,cs,c1,c2,c3,c4,c5⟩:=h.mem _ _ _ (ap hm)
    have hne:k≠q:=fun e=>by subst e;simp at hkq
    refine⟨Gk.mask lab q,fun _ _=>rfl,iV.mask tp (by simp),rfl,fun p hp=>?_,fun p hp u' hu=>?_⟩
    ·simp at hp;subst hp
     refine KW ?_
     rw[List.map_cons]at c5
     obtain⟨hnin,hnd⟩:=List.nodup_cons.1 c5
     have hoff:(qU cs hs0)[off]?=some (.slice (e rid).oa (e rid).n (e rid).c):=by
      rw[Du fun h hm he=>hnin (List.mem_map.2 ⟨h,hm,he⟩)]
      exact c4 (off,rid) (by simp)
     have hsl:(rep (.sl u)).rd (Gk.mask lab q) w [.slice (e rid).oa (e rid).n (e rid).c] xs:=⟨(e rid).oa,(e rid).c,by rw[b1],b3.view⟩
     obtain⟨hle,hrd⟩:=ka (u:=.sl u) ((rep t).keep bQ.mask c3) hsl hs
     refine⟨G,cs,c1,⟨c2.1,?_⟩,?_,fun h hm=>c4 h (by simp[hm]),hnd⟩
     ·unfold Gk.mask;rw[c2.2,if_neg hne]
     ·have hlo:off<(qU cs hs0).length:=(List.getElem?_eq_some_iff.1 hoff).1
      have e1:((qU cs hs0).set off (.slice none 0 0)).take off ++ [.slice (e rid).oa (e rid).n (e rid).c]++((qU cs hs0).set off (.slice none 0 0)).drop (off+cX (.sl u))=qU cs hs0:=by
       show _++_++((qU cs hs0).set off _).drop (off+1)=qU cs hs0
       rw[List.take_set_of_le (Nat.le_refl _),List.drop_set_of_lt (by omega)]
       have e2:(qU cs hs0)[off] = .slice (e rid).oa (e rid).n (e rid).c:=by
        have:=List.getElem?_eq_getElem hlo
        rw[hoff]at this;exact(Option.some.inj this).symm
       rw[←e2,List.append_assoc,List.singleton_append,←List.drop_eq_getElem_cons hlo,List.take_append_drop]
      exact e1▸hrd
    ·obtain⟨s,hs',rfl⟩:=List.mem_map.1 hp
     obtain⟨st',hs'⟩:=jq hs'
     obtain⟨v,hv,hr⟩:=h.sl _ _ _ hs'
     have hv':dG F s=some u':=hu
     rw[hv]at hv'
     have hvu:=Option.some.inj hv'
     have hr:v = .slice (e rid).oa (e rid).n (e rid).c:=hr
     rw[←hvu,hr,b1]
     exact br.ofSl b3.view
   ·cases hf
  ·cases hf
 ·cases hf
def sq:List Nat→PS→Option PS
 | [],ps=>some ps
 |id::r,ps=>match SQ ps id with
  |some out=>match iY ps out with
   |true=>sq r (apply ps none out)
   |false=>none
  |none=>none
theorem oe : ∀{ids:List Nat} {ps ps':PS} {lab:bN},sq ids ps=some ps'→kU pts w0 bg e ps F lab w→(∃lab',kU pts w0 bg e ps' F lab' w)∧c9 ps ps'
 | [],ps,ps',lab,hf,h=>by cases hf;exact⟨⟨lab,h⟩,c9.refl _⟩
 |id::r,ps,ps',lab,hf,h=>by
  unfold sq at hf
  split at hf
  ·rename_i out ho
   split at hf
   ·rename_i hc
    obtain⟨lab',hp⟩:=Qe (N:=0) h.sim h.cx.top ho
    have h2:=h.step hp hc
    obtain⟨h3,h4⟩:=oe hf h2
    exact⟨h3,(c9.apply _ _ _).trans h4⟩
   ·cases hf
  ·cases hf
def Ta:Nat:=let _f:=@ip;0
noncomputable def ed {R:Type} (n:Nat) (k:Nat→R):R:=(fun _=>Nat.rec (motive:=fun _=>R) (k 0) (fun m _=>k (m+1)) n) Ta
theorem iD{R:Type}(n:Nat)(k:Nat→R):ed n k=k n:=by cases n<;>rfl
noncomputable def ET {R:Type} (b:SV) (k:SV→R):R:=
 match b with
 | .dat t x=>k (.dat t x) | .agn t x l=>k (.agn t x l) | .agh t x off id=>ed id fun id=>k (.agh t x off id) | .clb f id=>ed id fun id=>k (.clb f id) | .nil=>k .nil | .und=>k .und | .pnil=>k .pnil
 | .ptr id off=>ed id fun id=>k (.ptr id off) | .own id=>ed id fun id=>k (.own id) | .eptr id i off=>ed id fun id=>k (.eptr id i off) | .dptr t x off=>k (.dptr t x off)
 | .rix id=>ed id fun id=>k (.rix id) | .rlen id=>ed id fun id=>k (.rlen id) | .rsl id=>ed id fun id=>k (.rsl id) | .rnx id=>ed id fun id=>k (.rnx id) | .rcn id=>ed id fun id=>k (.rcn id) | .mp id=>ed id fun id=>k (.mp id) | .mpq id l=>ed id fun id=>k (.mpq id l) | .garr t xs=>k (.garr t xs) | .tup l=>k (.tup l)
theorem Ho{R:Type}(b:SV)(k:SV→R):ET b k=k b:=by
 cases b<;>unfold ET<;>first |rfl |exact iD _ _
noncomputable def EB {R:Type} (l:List (Nat×Nat)):(List (Nat×Nat)→R)→R:=
 List.rec (motive:=fun _=>(List (Nat×Nat)→R)→R) (fun k=>k []) (fun x _ ih k=>Prod.casesOn (motive:=fun _=>R) x fun o r=>ed o fun o=>ed r fun r=>ih fun l=>k ((o,r)::l)) l
theorem z8{R:Type}: ∀(l:List (Nat×Nat)) (k:List (Nat×Nat)→R),EB l k=k l
 | [],k=>rfl
 | (o,r)::l,k=>by
  show ed o (fun o=>ed r fun r=>EB l fun l=>k ((o,r)::l))=_
  rw[iD,iD,z8 l]
noncomputable def EF {R:Type} (b:d6) (k:d6→R):R:=
 match b with
 | .box q T t x=>k (.box q T t x) | .boxh q T t x hs=>EB hs fun hs=>k (.boxh q T t x hs) | .row q E t xs=>k (.row q E t xs) | .src q t xs=>k (.src q t xs)
 | .rgh t xs=>k (.rgh t xs) | .rgi h t xs i ox=>ed h fun h=>k (.rgi h t xs i ox) | .rgc n=>k (.rgc n) | .rgj h n i more=>ed h fun h=>k (.rgj h n i more) | .mp q T t f=>k (.mp q T t f) | .rq q E E2 t xs=>k (.rq q E E2 t xs) | .rp q E E2 t xs=>k (.rp q E E2 t xs)
theorem Hu{R:Type}(b:d6)(k:d6→R):EF b k=k b:=by
 cases b<;>unfold EF<;>first |rfl |exact z8 _ (fun r=>k (.boxh _ _ _ _ r)) |exact iD _ (fun h=>k (.rgi h _ _ _ _)) |exact iD _ (fun h=>k (.rgj h _ _ _))
noncomputable def AC {R β:Type} (f:(b:β)→(β→R)→R) (l:List (Nat×Nat×β)):(List (Nat×Nat×β)→R)→R:=
 List.rec (motive:=fun _=>(List (Nat×Nat×β)→R)→R) (fun k=>k []) (fun x _ ih k=>Prod.casesOn (motive:=fun _=>R) x fun s y=>Prod.casesOn (motive:=fun _=>R) y fun st b=>ed s fun s=>ed st fun st=>f b fun b=>ih fun r=>k ((s,st,b)::r)) l
theorem uK{R β:Type}{f:(b:β)→(β→R)→R}(hf : ∀b k,f b k=k b): ∀(l:List (Nat×Nat×β)) (k:List (Nat×Nat×β)→R),AC f l k=k l
 | [],k=>rfl
 | (s,st,b)::r,k=>by
  show ed s (fun s=>ed st fun st=>f b fun b=>AC f r fun r=>k ((s,st,b)::r))=_
  rw[iD,iD,hf,uK hf r]
noncomputable def AO {R:Type} (ps:PS) (k:PS→R):R:=ed ps.nxt fun n=>AC ET ps.sl fun sl=>AC EF ps.mem fun mem=>k ⟨n,sl,mem⟩
theorem zz{R:Type}(ps:PS)(k:PS→R):AO ps k=k ps:=by
 unfold AO
 rw[iD,uK Ho,uK Hu]
def L3:List (Nat×Nat×SV)→Nat→SV→List (Nat×Nat×SV)
 | [],_,_=>[]
 | (k,st,b)::r,s,sv=>match Nat.beq k s with
  |true=>(k,st,sv)::r
  |false=>(k,st,b)::L3 r s sv
theorem Fs : ∀{l:List (Nat×Nat×SV)} {s st:Nat} {sv:SV},aY l s=some (st,sv)→L3 l s sv=l
 | [],_,_,_,h=>by cases h
 | (k,st',b)::r,s,st,sv,h=>by
  unfold aY at h
  unfold L3
  split at h
  ·rename_i hb
   cases h
   simp only[hb]
  ·rename_i hb
   simp only[hb]
   rw[Fs h]
def qJ(ps:PS)(s:Nat)(c:Bool):PS:=⟨ps.nxt,L3 ps.sl s (.dat .bool c),ps.mem⟩
theorem ry{s st:Nat}{c:Bool}(h:aY ps.sl s=some (st,.dat .bool c)):qJ ps s c=ps:=by
 unfold qJ;rw[Fs h]
def SP:List PK→List Operand→List Operand
 | .r _ _::ps,_::xs=>SP ps xs
 |_::ps,x::xs=>x::SP ps xs
 | [],xs=>xs
 |_,[]=>[]
def Jr(hold:List Nat)(x:Operand):Bool:=match wZ x with
 |some s=>fm hold (1000000+s)
 |none=>false
def QC(hold:List Nat)(x:Operand):Bool:=match wZ x with
 |some s=>fm hold (5000000+s)
 |none=>false
def Ok(hold:List Nat)(x:Operand):Bool:=match wZ x with
 |some s=>fm hold (2000000+s)
 |none=>false
def TG{P:Program}(T:kC P):Op→List Operand
 | .store _ x v=>match w6 T.hold x with
  |some _=>[]
  |none=>match Jr T.hold x with
   |true=>[]
   |false=>match QC T.hold x with
    |true=>[v]
    |false=>[v,x]
 | .box _ v=>[v]
 | .load t x=>match d_ T.te t with
  |some e=>match lC e.pt with
   |true=>match Ok T.hold x with
    |true=>[]
    |false=>[x]
   |false=>[]
  |none=>[]
 | .build _ parts=>(parts.toList.filter fun p=>!Jr T.hold p.2).map (·.2)
 | .buildSlice _ _ parts=>match parts.toList with
  | [(0,x)]=>match Jr T.hold x with
   |true=>[]
   |false=>[x]
  |l=>l.map (·.2)
 | .call c=>match c.callee with
  | .value (.func f)=>match oP T.cs f with
   |some q=>match tq (q.rs++ia q.ps)with
    |true=>[]
    |false=>SP q.ps c.args.toList
   |none=>[]
  | .value (.tmp _)=>c.args.toList
  |_=>[]
 | .makeFunc _ _ caps=>match Fe T.hold caps.toList with
  |true=>[]
  |false=>caps.toList
 | .field _ x _=>[x]
 | .mapUpdate _ _ _ z=>[z]
 |_=>[]
def Q2(id:Nat):List (Nat×Nat)→List Nat→List Nat
 | [],l=>l
 |_::r,l=>id::Q2 id r l
def pC(ps:PS):List Operand→List Nat
 | []=>[]
 |x::r=>match cn ps x with
  |some (.own id,some (.row _ _ _ _))=>match fm (pC ps r) id with
   |true=>pC ps r
   |false=>id::pC ps r
  |some (.own id,some (.rq _ _ _ _ _))=>match fm (pC ps r) id with
   |true=>pC ps r
   |false=>id::pC ps r
  |some (.ptr id _,some (.boxh _ _ _ _ hs))=>match fm (pC ps r) id with
   |true=>pC ps r
   |false=>Q2 id hs (pC ps r)
  |_=>pC ps r
def Oe(id:Nat):List (Nat×Nat)→List Nat
 |_::h::r=>id::Oe id (h::r)
 |_=>[]
def TW{P:Program}(T:kC P)(ps:PS):Op→List Nat
 | .load _ x=>match Ok T.hold x,cn ps x with
  |true,some (.ptr id 0,some (.boxh _ _ _ _ hs))=>Oe id hs
  |_,_=>[]
 |_=>[]
def TD{P:Program}(T:kC P)(ps:PS)(op:Op):List Nat:=(TW T ps op).foldr (fun x l=>x::l) (pC ps (TG T op))
noncomputable def R1 (T:kC P) (N:Nat) (own rng:List Nat) {R:Type} (o:Oper) (ps:PS) (K:PS→dJ→Option R):Option R:=
 match Rf N o.dst with
 |true=>(ip T own rng ps o.dst o.op).go fun out=>match iY ps out with
  |true=>K ps out
  |false=>none
 |false=>none
def QT(N:Nat){R:Type}(o:Oper)(ps:PS)(K:PS→dJ→Option R):Option R:=
 match Rf N o.dst with
 |true=>K ps (o1 .und)
 |false=>none
noncomputable def GH (T:kC P) (N:Nat) (own rng:List Nat) (all:List Oper) {R:Type} (o:Oper) (ps:PS) (K:PS→dJ→Option R):Option R:=
 match o.guard with
 |none=>R1 T N own rng o ps K
 |some (j,b)=>match wM all j with
  |none=>none
  |some dj=>match aY ps.sl dj with
   |none=>none
   |some (_,sv)=>match A5 sv with
    |some c=>cond c
      (match b with |true=>R1 T N own rng o (qJ ps dj true) K |false=>QT N o (qJ ps dj true) K)
      (match b with |true=>QT N o (qJ ps dj false) K |false=>R1 T N own rng o (qJ ps dj false) K)
    |none=>match Or sv,o.dst with
     |true,some _=>QT N o ps K
     |_,_=>none
theorem xb{T:kC P}{own rng:List Nat}{all:List Oper}{R:Type}{q:R}{o:Oper}{K:PS→dJ→Option R}(hg:GW all ps o.guard)(h:R1 T N own rng o ps K=some q): ∃out,qi T N own rng all o ps out∧K ps out=some q:=by
 unfold R1 at h
 split at h
 ·rename_i hd
  obtain⟨out,h1,h2⟩:=Nu h
  split at h2
  ·rename_i hc
   exact⟨_,⟨hd,hc,.inl ⟨hg,h1⟩⟩,h2⟩
  ·cases h2
 ·cases h
theorem ww{T:kC P}{own rng:List Nat}{all:List Oper}{R:Type}{q:R}{o:Oper}{K:PS→dJ→Option R}(hg:GN all ps o)(h:QT N o ps K=some q): ∃out,qi T N own rng all o ps out∧K ps out=some q:=by
 unfold QT at h
 split at h
 ·rename_i hd
  exact⟨_,⟨hd,Nj,.inr ⟨hg,rfl⟩⟩,h⟩
 ·cases h
theorem rx{T:kC P}{own rng:List Nat}{all:List Oper}{R:Type}{q:R}{o:Oper}{K:PS→dJ→Option R}(h:GH T N own rng all o ps K=some q): ∃out,qi T N own rng all o ps out∧K ps out=some q:=by
 unfold GH at h
 split at h
 ·rename_i hg
  exact xb (by rw[hg];trivial) h
 ·rename_i j b hg
  split at h
  ·cases h
  ·rename_i dj hdj
   split at h
   ·cases h
   ·rename_i st sv hf
    split at h
    ·rename_i c hc
     obtain rfl:=zr hc
     cases c with
     |true=>
      have e1:=ry hf
      simp only[cond_true]at h
      cases b with
      |true=>
       simp only[e1]at h
       exact xb (by rw[hg];exact⟨dj,st,hdj,hf⟩) h
      |false=>
       simp only[e1]at h
       exact ww ⟨j,false,dj,st,hg,hdj,.inl hf⟩ h
     |false=>
      have e1:=ry hf
      simp only[cond_false]at h
      cases b with
      |true=>
       simp only[e1]at h
       exact ww ⟨j,true,dj,st,hg,hdj,.inl hf⟩ h
      |false=>
       simp only[e1]at h
       exact xb (by rw[hg];exact⟨dj,st,hdj,hf⟩) h
    ·split at h
     ·rename_i hu hd
      obtain rfl:=IG hu
      exact ww ⟨j,b,dj,st,hg,hdj,.inr ⟨hf,by rw[hd];simp⟩⟩ h
     ·cases h
noncomputable def Dv (T:kC P) (N:Nat) (own rng:List Nat) (all:List Oper) {R:Type}:List Oper→PS→(PS→Option R)→Option R
 | [],ps,K=>K ps
 |o::r,ps,K=>match sq (TD T ps o.op) ps with
  |some ps=>GH T N own rng all o ps fun ps out=>Dv T N own rng all r (apply ps o.dst out) K
  |none=>none
theorem tm{T:kC P}{own rng:List Nat}{all:List Oper}{R:Type}{q:R}: ∀{l:List Oper} {ps:PS} {e:iy} {F:List (Nat×Value)} {lab:bN} {w:World} {K:PS→Option R} {kont:fN},Dv T N own rng all l ps K=some q→kU pts w0 bg e ps F lab w→
  (∀ps' e' F' lab' w',c9 ps ps'→kU pts w0 bg e' ps' F' lab' w'→K ps'=some q→EW N .normal F' w' kont)→LW P N all.toArray l F w kont
 | [],ps,e,F,lab,w,K,kont,h,hi,hk=>LW.nil (hk _ _ _ _ _ (c9.refl _) hi h)
 |o::r,ps,e,F,lab,w,K,kont,h,hi,hk=>by
  unfold Dv at h
  split at h
  ·rename_i ps1 hf
   obtain⟨⟨lab1,hi1⟩,hp1⟩:=oe hf hi
   obtain⟨out,hs,h2⟩:=rx h
   refine DU hs hi1 fun e' F' lab' w' hi2=>?_
   exact tm h2 hi2 fun ps' e'' F'' lab'' w'' hp hi3 hK=>hk _ _ _ _ _ ((hp1.trans (c9.apply _ _ _)).trans hp) hi3 hK
  ·cases h
end
section
variable {P : Program} {N : Nat} {K : fN}
def R8(l:List Oper)(n:Nat):Bool:=(List.range n).all fun i=>match l[i]? with
 |some o=>o.after.all (fun e=>!Region.binds .any e||decide (e.on<i))
 |none=>false
def Ty(l:List Oper)(n:Nat):Bool:=(List.range n).all fun i=>match l[i]? with
 |some o=>match o.dst with
  |some d=>(List.range i).all fun j=>match l[j]? with
   |some o'=>match o'.dst with |some d'=>!Nat.beq d' d |none=>true
   |none=>true
  |none=>true
 |none=>true
theorem KD{l:List Oper}{n:Nat}{I:(Nat→Bool)→List (Nat×Value)→World→Prop}(hn:n≤l.length)(hback:R8 l n=true)(htl:N8 l n=true)(hseq:Region.seqB .any l.toArray (l.length-n) n (wJ l n)=true)
  (hop : ∀i,i<n→∀o L F w,l[i]?=some o→L i=false→(∀j,Region.waitsFor .any l.toArray i j=true→L j=true)→(∀j j',Region.waitsFor .any l.toArray j j'=true→L j=true→L j'=true)→(∀j,n≤j→L j=false)→I L F w→
   LW P N l.toArray [o] F w (fun e a' w'=>e = .normal∧∃F',qS F' N a'∧I (Aq L i) F' w'))
  (htail : ∀F w,I (fun j=>decide (j<n)) F w→LW P N l.toArray (l.drop n) F w K) :
  ∀(m:Nat) (listed:Array Bool) (a:Act) (F:List (Nat×Value)) (w:World),HI l n listed→cnt n (Lf listed)=m→qS F N a→I (Lf listed) F w→wpAny P .any l.toArray K (m+(l.length-n)) listed a w:=by
 intro m
 induction m with
 |zero=>
  intro listed a F w inv hc ha hq
  have hall:=IE hc
  have hL:Lf listed=fun j=>decide (j<n):=by
   funext j
   rcases Nat.lt_or_ge j n with h |h
   ·rw[hall j h];simp[h]
   ·rw[inv.tail j h];simp;omega
  have hlisted:listed=wJ l n:=by
   apply Array.ext
   ·simp[wJ,inv.size]
   ·intro j h1 h2
    have:=congrFun hL j
    simp only[Lf]at this
    rw[Array.getD_eq_getD_getElem?,Array.getElem?_eq_getElem h1]at this
    simp at this
    simp[wJ,this]
  rw[hL]at hq
  have:=htail F w hq a ha
  have h2:=wpAny_of_seq (md:=.any) (Q':=K) (l.drop n) n listed a w (fun j=>by simp[List.getElem?_drop]) (by rw[List.length_drop,hlisted];exact hseq) this
  simpa using h2
 |succ m ih=>
  intro listed a F w inv hc ha hq
  rw[show m+1+(l.length-n)=(m+(l.length-n))+1 by omega]
  have hex : ∃i,i<n∧Lf listed i=false:=by
   apply Classical.byContradiction
   intro hno
   have:cnt n (Lf listed)=0:=by
    unfold cnt
    rw[List.length_eq_zero_iff,List.filter_eq_nil_iff]
    intro i hi
    have:=List.mem_range.1 hi
    by_cases h:Lf listed i=true
    ·simp[h]
    ·exact absurd ⟨i,this,by simpa using h⟩ hno
   omega
  obtain⟨i0,hi0⟩:=hex
  obtain⟨k,⟨hkn,hk0⟩,hmin⟩:=Gu (p:=fun i=>i<n∧Lf listed i=false) i0 hi0
  have hklt:k<l.length:=by omega
  have hback':=fun i (hi:i<n)=>List.all_eq_true.1 hback i (List.mem_range.2 hi)
  have hready:k∈Region.ready .any l.toArray listed:=by
   refine mem_ready.2 ⟨getD_in (by rw[inv.size];exact hklt) hk0,l[k],by simp[hklt],fun e he hbnd=>?_⟩
   have:=hback' k hkn
   rw[List.getElem?_eq_getElem hklt]at this
   have h2:=Array.all_eq_true_iff_forall_mem.1 this e he
   simp[hbnd]at h2
   apply Classical.byContradiction
   intro hne
   have:Lf listed e.on=false:=by unfold Lf;simpa using hne
   have:=hmin e.on ⟨by omega,this⟩
   omega
  refine⟨fun h0=>(by rw[h0]at hready;cases hready),fun i hi=>?_⟩
  obtain⟨hil,o,hio,hie⟩:=mem_ready.1 hi
  have hio':l[i]?=some o:=by simpa using hio
  have hilt:i<l.length:=(List.getElem?_eq_some_iff.1 hio').1
  have hiL:Lf listed i=false:=getD_both hil
  have hwait : ∀j,Region.waitsFor .any l.toArray i j=true→Lf listed j=true:=fun j hj=>by
   obtain⟨o',ho',e,he,hbnd,hon⟩:=Region.waitsFor_spec hj
   have:o'=o:=Option.some.inj (ho'.symm.trans hio)
   subst this;subst hon
   exact hie e he hbnd
  have hin:i<n:=by
   rcases Nat.lt_or_ge i n with h |h
   ·exact h
   ·have:=List.all_eq_true.1 htl i (List.mem_range.2 hilt)
    simp only[Bool.or_eq_true,decide_eq_true_eq]at this
    rcases this with h' |h'
    ·omega
    ·have:=List.all_eq_true.1 h' k (List.mem_range.2 (by omega))
     rw[hwait k this]at hk0;cases hk0
  refine Ea hio' ha (hop i hin o (Lf listed) F w hio' hiL hwait inv.closed inv.tail hq) fun e a' w' hkk=>?_
  obtain⟨h0,F',hs,hq'⟩:=hkk
  refine⟨h0,?_⟩
  have hset:Lf (listed.setIfInBounds i true)=Aq (Lf listed) i:=by
   funext j;unfold Lf Aq;exact Hr listed i j false (by rw[inv.size];exact hilt)
  refine ih _ _ F' w' ⟨by simp[inv.size],fun j j' hj hl=>?_,fun j hj=>?_⟩ ?_ hs (by rw[hset];exact hq')
  ·rw[hset]at hl⊢
   unfold Aq at hl⊢
   by_cases hji:j=i
   ·subst hji
    by_cases hj'i:j'=j
    ·simp[hj'i]
    ·simp[hj'i,hwait j' hj]
   ·rw[if_neg hji]at hl
    by_cases hj'i:j'=i
    ·simp[hj'i]
    ·simp[hj'i,inv.closed j j' hj hl]
  ·rw[hset];unfold Aq;rw[if_neg (by omega)];exact inv.tail j hj
  ·have:=LC hin hiL;rw[hset];omega
end
theorem fp : ∀{l:List Nat} {n:Nat},fm l n=true↔n∈l
 | [],n=>by simp[fm]
 |x::r,n=>by
  unfold fm
  rw[Bool.or_eq_true,fp,List.mem_cons]
  constructor
  ·rintro(h |h)
   ·exact .inl (Nat.eq_of_beq_eq_true h).symm
   ·exact .inr h
  ·rintro(rfl |h)
   ·exact .inl (Nat.beq_refl _)
   ·exact .inr h
def tn:List Nat→List Nat→Bool
 | [],_=>false
 |x::r,l=>fm l x||tn r l
theorem td : ∀{a b:List Nat},(∃x,x∈a∧x∈b)→tn a b=true
 | [],_,⟨x,h,_⟩=>by simp at h
 |y::r,b,⟨x,h,h2⟩=>by
  unfold tn
  rcases List.mem_cons.1 h with rfl |h
  ·rw[fp.2 h2];rfl
  ·rw[td ⟨x,h,h2⟩,Bool.or_true]
def pi(l:List (List Nat))(n:Nat):List Nat:=match Gd l n with |some x=>x |none=>[]
def Dz(t:List (List Nat)):List Nat→List Nat
 | []=>[]
 |d::r=>match fm (Dz t r) d with
  |true=>Dz t r
  |false=>d::(pi t d++Dz t r)
theorem xL{t:List (List Nat)}{j:Nat}: ∀{ds:List Nat},j∈Dz t ds→j∈ds∨∃k,k∈ds∧j∈pi t k
 | [],h=>by simp[Dz]at h
 |d::r,h=>by
  unfold Dz at h
  have up:(j∈r∨∃k,k∈r∧j∈pi t k)→j∈d::r∨∃k,k∈d::r∧j∈pi t k:=by
   rintro(h | ⟨k,h1,h2⟩)
   ·exact .inl (List.mem_cons_of_mem _ h)
   ·exact .inr ⟨k,List.mem_cons_of_mem _ h1,h2⟩
  split at h
  ·exact up (xL h)
  ·rcases List.mem_cons.1 h with rfl |h
   ·exact .inl (by simp)
   ·rcases List.mem_append.1 h with h |h
    ·exact .inr ⟨d,by simp,h⟩
    ·exact up (xL h)
def lR(l:List Oper):Nat→List (List Nat)
 |0=>[]
 |n+1=>
  let t:=lR l n
  let ds:=(List.range n).filter fun j=>Region.waitsFor .any l.toArray n j
  t ++ [Dz t ds]
theorem zO(l:List Oper): ∀n,(lR l n).length=n
 |0=>rfl
 |n+1=>by simp[lR,zO l n]
theorem uo{l:List Oper}{L:Nat→Bool}(hc : ∀j j',Region.waitsFor .any l.toArray j j'=true→L j=true→L j'=true): ∀n i j,j∈pi (lR l n) i→(L i=true∨∀k,Region.waitsFor .any l.toArray i k=true→L k=true)→L j=true
 |0,i,j,h,_=>by simp[lR,pi,Gd]at h
 |n+1,i,j,h,hi=>by
  have hl:=zO l n
  unfold pi at h
  rw[mT]at h
  simp only[lR]at h
  by_cases hin:i<n
  ·rw[List.getElem?_append_left (by omega)]at h
   have:=uo hc n i j (by unfold pi;rw[mT];exact h) hi
   exact this
  ·by_cases hen:i=n
   ·subst hen
    rw[List.getElem?_append_right (by omega),hl,Nat.sub_self]at h
    simp only[List.getElem?_cons_zero]at h
    have hi' : ∀k,Region.waitsFor .any l.toArray i k=true→L k=true:=fun k hk=>by
     rcases hi with hi |hi
     ·exact hc _ _ hk hi
     ·exact hi k hk
    rcases xL h with h | ⟨k,hk,hj⟩
    ·exact hi' j (List.mem_filter.1 h).2
    ·exact uo hc i k j hj (.inl (hi' k (List.mem_filter.1 hk).2))
   ·rw[List.getElem?_eq_none (by simp[hl];omega)]at h
    simp at h
def nk:Op→List Operand
 | .move x=>[x] | .assign x=>[x] | .pick c x y=>[c,x,y] | .box _ x=>[x] | .fieldAddr _ x _=>[x] | .nilCheck x=>[x] | .load _ x=>[x] | .store _ x y=>[x,y]
 | .binOp _ _ x y _=>[x,y] | .unOp _ _ x=>[x] | .convert _ _ x=>[x] | .build _ ps=>ps.toList.map (·.2) | .buildSlice _ _ ps=>ps.toList.map (·.2) | .makeSlice _ x y=>[x,y]
 | .slice _ x lo hi mx=>x::(lo.toList++(hi.toList++mx.toList)) | .indexAddr _ x y=>[x,y] | .index _ x y=>[x,y] | .lookup _ x y _=>[x,y] | .mapUpdate _ x y z=>[x,y,z] | .extract x _=>[x] | .field _ x _=>[x] | .makeFunc _ _ caps=>caps.toList
 | .call c=>c.args.toList++(match c.callee with | .value f=>[f] |_=>[])
 |_=>[]
def tmps:List Operand→List Nat
 | []=>[]
 | .tmp t::r=>t::tmps r
 |_::r=>tmps r
theorem qQ : ∀{l:List Operand} {t:Nat},Operand.tmp t∈l→t∈tmps l
 | [],t,h=>by simp at h
 |x::r,t,h=>by
  rcases List.mem_cons.1 h with rfl |h
  ·simp[tmps]
  ·have:=qQ h
   cases x<;>simp[tmps,this]
section
variable {P : Program} {ps ps' : PS}
theorem sN : ∀{xs:List Operand},(∀x∈xs,cn ps x=cn ps' x)→ph ps xs=ph ps' xs
 | [],_=>rfl
 |x::xs,h=>by unfold ph;rw[h x (by simp),sN fun y hy=>h y (by simp[hy])]
theorem sT : ∀{xs:List (Nat×Operand)},(∀x∈xs.map (·.2),cn ps x=cn ps' x)→Bt ps xs=Bt ps' xs
 | [],_=>rfl
 | (i,x)::xs,h=>by unfold Bt;rw[h x (by simp),sT fun y hy=>h y (by simp at hy⊢;exact .inr hy)]
theorem zN{x:Option Operand}(h : ∀y∈x.toList,cn ps y=cn ps' y):OM ps x=OM ps' x:=by
 cases x with
 |none=>rfl
 |some x=>simp only[OM,h x (by simp)]
theorem Ez{T:kC P}{own rng:List Nat}{dst:Option Nat}{op:Op}(hn:ps.nxt=ps'.nxt)(h : ∀x∈nk op,cn ps x=cn ps' x):ip T own rng ps dst op=ip T own rng ps' dst op:=by
 cases op<;>cases dst<;>first |rfl |skip
 case move.some x d=>simp only[ip];rw[h x (by simp[nk])]
 case assign.some x d=>simp only[ip];rw[h x (by simp[nk])]
 case pick.some c x y d=>simp only[ip];rw[h c (by simp[nk]),h x (by simp[nk]),h y (by simp[nk])]
 case alloc.some t d=>simp only[ip,hn]
 case box.some t x d=>simp only[ip,hn];rw[h x (by simp[nk])]
 case fieldAddr.some t x f d=>simp only[ip];rw[h x (by simp[nk])]
 case nilCheck.some x d=>simp only[ip];rw[h x (by simp[nk])]
 case load.some t x d=>simp only[ip,hn];rw[h x (by simp[nk])]
 case store.none t x y=>simp only[ip,hn];rw[h x (by simp[nk]),h y (by simp[nk])]
 case binOp.some o t x y t' d=>simp only[ip];rw[h x (by simp[nk]),h y (by simp[nk])]
 case unOp.some o t x d=>cases o<;>first |rfl | (simp only[ip];rw[h x (by simp[nk])])
 case convert.some s t x d=>simp only[ip];rw[h x (by simp[nk])]
 case build.some t ps0 d=>simp only[ip];rw[sT (by simpa [nk]using h)]
 case field.some t x f d=>simp only[ip];rw[h x (by simp[nk])]
 case makeFunc.none fn fs caps=>cases fn<;>rfl
 case makeFunc.some fn fs caps d=>cases fn<;>first |rfl | (simp only[ip];rw[sN (by simpa [nk]using h)])
 case buildSlice.some t n ps0 d=>simp only[ip,hn];rw[sT (by simpa [nk]using h)]
 case makeSlice.some t x y d=>simp only[ip,hn];rw[h x (by simp[nk]),h y (by simp[nk])]
 case slice.some t x lo hi mx d=>
  cases mx with
  |none=>simp only[ip,hn];rw[h x (by simp[nk]),zN (x:=lo) (fun y hy=>h y (by simp[nk]at hy⊢;exact .inr (.inl hy))),zN (x:=hi) (fun y hy=>h y (by simp[nk]at hy⊢;exact .inr (.inr hy)))]
  |some m=>
   cases lo with
   |some _=>cases hi<;>rfl
   |none=>
    cases hi with
    |none=>rfl
    |some q=>simp only[ip];rw[h x (by simp[nk]),h q (by simp[nk]),h m (by simp[nk])]
 case unOp.none o t x=>cases o<;>rfl
 case slice.none t x lo hi mx=>cases mx<;>cases lo<;>cases hi<;>rfl
 case index.some t x y d=>simp only[ip];rw[h x (by simp[nk]),h y (by simp[nk])]
 case indexAddr.some t x y d=>simp only[ip];rw[h x (by simp[nk]),h y (by simp[nk])]
 case makeMap.some t r d=>cases r<;>simp only[ip,hn]
 case makeMap.none t r=>cases r<;>rfl
 case lookup.some t x y ok d=>simp only[ip];rw[h x (by simp[nk]),h y (by simp[nk])]
 case mapUpdate.none t x y z=>simp only[ip];rw[h x (by simp[nk]),h y (by simp[nk]),h z (by simp[nk])]
 case extract.some x i d=>simp only[ip];rw[h x (by simp[nk])]
 case call.some c d=>
  have hL : ∀l,c.args.toList=l→ph ps l=ph ps' l:=fun l hl=>sN fun x hx=>h x (by simp only[nk];rw[hl];exact List.mem_append_left _ hx)
  have h1 : ∀x,x∈c.args.toList→cn ps x=cn ps' x:=fun x hx=>h x (by simp only[nk];exact List.mem_append_left _ hx)
  have h2 : ∀f,c.callee = .value f→cn ps f=cn ps' f:=fun f hf=>h f (by simp only[nk];rw[hf];exact List.mem_append_right _ (List.mem_singleton.2 rfl))
  simp only[ip,hn]
  generalize hc:c.callee=cal at h2
  generalize ha:c.args.toList=al at hL h1
  generalize c.argTypes.toList=tl
  split<;>first |rfl |skip
  ·rename_i x t;rw[h1 x (by simp)]
  ·rename_i x y t t';rw[h1 x (by simp),h1 y (by simp)]
  ·rename_i x y t t';rw[h1 x (by simp),h1 y (by simp)]
  ·rename_i l x y;rw[h1 x (by simp),h1 y (by simp)]
  ·rename_i l x y;rw[h1 x (by simp),h1 y (by simp)]
  ·rename_i f xs l;rw[hL _ rfl]
  ·rename_i s xs l;rw[hL _ rfl,h2 _ rfl]
end
section
variable {P : Program} {N : Nat}
structure SI where
 d:Option Nat
 us:List Nat
 ids:List Nat
 tl:List Nat
 ks:List Nat
 rf:List Nat
 bn:List Nat
 lo:Nat
def JJ(all:List Oper)(g:Option (Nat×Bool)):List Nat:=
 match g with
 |some (j,_)=>match wM all j with |some dj=>[dj] |none=>[]
 |none=>[]
def kE(ps:PS):List Nat→List Nat
 | []=>[]
 |t::r=>match aY ps.sl t with
  |some (_,sv)=>match Ca sv with
   |some id=>id::kE ps r
   |none=>kE ps r
  |none=>kE ps r
def zF(ps:PS):List Nat→List Nat
 | []=>[]
 |id::r=>match aY ps.mem id with
  |some (_,m)=>m.lbl::zF ps r
  |none=>zF ps r
def nP(all:List Oper)(o:Oper):List Nat:=tmps (nk o.op)++JJ all o.guard
def uE(hd:List Nat)(all:List Oper)(o:Oper)(ps:PS):List Nat:=
 match o.op with
 | .move _=>[] | .assign _=>[] | .fieldAddr _ _ _=>[] | .nilCheck _=>[]
 | .store _ x _=>match w6 hd x with
  |some _=>kE ps (tmps [x])
  |none=>kE ps (nP all o)
 |_=>kE ps (nP all o)
def uU(hd:List Nat)(all:List Oper)(o:Oper)(ps:PS)(out:dJ):SI:=
 ⟨o.dst,nP all o,uE hd all o ps,zF ps (uE hd all o ps)++out.ks++out.puts.map (·.2.lbl),out.ks,jx out.sv++out.puts.flatMap (fun p=>p.1::gT p.2),out.puts.map (·.1),ps.nxt⟩
def Qs(lo:Nat)(i:Nat):Bool:=Nat.ble lo i&&Nat.blt i (lo+4)
def uG(dep:Bool)(a b:SI):Bool:=
 dep||!((match a.d with |some d=>fm b.us d |none=>false)||b.rf.any (Qs a.lo)||tn a.bn b.ids||tn a.ks b.tl||tn a.tl b.ks)
def H5(tab:List (List Nat)):Nat→List (Nat×SI)→List SI→Bool
 |_,_,[]=>true
 |j,prev,s::r=>prev.all (fun p=>uG (fm (pi tab j) p.1) p.2 s)&&H5 tab (j+1) ((j,s)::prev) r
theorem Df{tab:List (List Nat)}: ∀{l:List SI} {j:Nat} {prev:List (Nat×SI)},H5 tab j prev l=true→∀{b:Nat} {sb:SI},l[b]?=some sb→(∀p∈prev,uG (fm (pi tab (j+b)) p.1) p.2 sb=true)∧∀{a:Nat} {sa:SI},a<b→l[a]?=some sa→uG (fm (pi tab (j+b)) (j+a)) sa sb=true
 | [],_,_,_,_,_,h=>by simp at h
 |s::r,j,prev,h,0,sb,hb=>by
  unfold H5 at h
  rw[Bool.and_eq_true]at h
  simp at hb;subst hb
  exact⟨fun p hp=>List.all_eq_true.1 h.1 p hp,fun ha=>absurd ha (Nat.not_lt_zero _)⟩
 |s::r,j,prev,h,b+1,sb,hb=>by
  unfold H5 at h
  rw[Bool.and_eq_true]at h
  obtain⟨h1,h2⟩:=Df h.2 (b:=b) (sb:=sb) (by simpa using hb)
  rw[show j+1+b=j+(b+1) by omega]at h1 h2
  refine⟨fun p hp=>h1 p (by simp[hp]),fun{a sa} ha hsa=>?_⟩
  cases a with
  |zero=>
   simp at hsa;subst hsa
   exact h1 (j,s) (by simp)
  |succ a=>
   have:=h2 (a:=a) (sa:=sa) (by omega) (by simpa using hsa)
   rw[show j+1+a=j+(a+1) by omega]at this
   exact this
theorem jw{β:Type}{us:List Nat}: ∀{l:List (Nat×Nat×β)} {s:Nat},fm us s=true→aY (l.filter fun x=>fm us x.1) s=aY l s
 | [],_,_=>rfl
 | (k,st,b)::r,s,h=>by
  by_cases hk:fm us k=true
  ·rw[List.filter_cons_of_pos (by simpa using hk)]
   unfold aY
   split
   ·rfl
   ·exact jw h
  ·rw[List.filter_cons_of_neg (by simpa using hk)]
   have hne:Nat.beq k s=false:=kR fun e=>by subst e;exact hk h
   have e1:aY ((k,st,b)::r) s=aY r s:=by simp only[aY,hne]
   rw[e1]
   exact jw h
theorem zm{ps:PS}{st:Nat}{sv:SV}{id:Nat}: ∀{us:List Nat} {t:Nat},t∈us→aY ps.sl t=some (st,sv)→Ca sv=some id→id∈kE ps us
 | [],_,h,_,_=>by simp at h
 |x::r,t,h,hf,hr=>by
  unfold kE
  rcases List.mem_cons.1 h with rfl |h
  ·rw[hf];simp[hr]
  ·have:=zm h hf hr
   split
   ·split<;>simp[this]
   ·exact this
theorem zq{ps:PS}{st:Nat}{m:d6}: ∀{ids:List Nat} {id:Nat},id∈ids→aY ps.mem id=some (st,m)→m.lbl∈zF ps ids
 | [],_,h,_=>by simp at h
 |x::r,t,h,hf=>by
  unfold zF
  rcases List.mem_cons.1 h with rfl |h
  ·rw[hf];simp
  ·have:=zq h hf
   split<;>simp[this]
theorem BN{β:Type}{l:List (Nat×Nat×β)}(hn:KN l){s st:Nat}{b:β}(h:(s,st,b)∈l):aY l s=some (st,b):=by
 induction l with
 |nil=>simp at h
 |cons x r ih=>
  obtain⟨k,st',b'⟩:=x
  obtain⟨hx,hr⟩:=List.pairwise_cons.1 hn
  unfold aY
  rcases List.mem_cons.1 h with e |h
  ·injection e with e1 e2;injection e2 with e2 e3;subst e1 e2 e3
   simp
  ·have hne:Nat.beq k s=false:=kR fun e=>hx _ h e
   rw[hne];exact ih hr h
def nl(us ids:List Nat)(ps:PS):PS:=⟨ps.nxt,ps.sl.filter fun x=>fm us x.1,ps.mem.filter fun x=>fm ids x.1⟩
theorem JQ{us ids:List Nat}{ps:PS}(h:WF ps):WF (nl us ids ps):=
 ⟨fun s st sv hm=>h.sl s st sv (List.mem_filter.1 hm).1,fun i st m hm=>h.mem i st m (List.mem_filter.1 hm).1,fun i st m hm=>h.lbl i st m (List.mem_filter.1 hm).1,h.ns.filter _,h.nm.filter _,h.n0⟩
theorem vy{us us2:List Nat}{ps:PS}{x:Operand}(h : ∀t,x = .tmp t→t∈us∧t∈us2):cn (nl us (kE ps us2) ps) x=cn ps x:=by
 cases x with
 |tmp t=>
  obtain⟨ht0,ht⟩:=h t rfl
  have h1:aY (nl us (kE ps us2) ps).sl t=aY ps.sl t:=jw (fp.2 ht0)
  unfold cn
  simp only[h1]
  cases hf:aY ps.sl t with
  |none=>rfl
  |some p=>
   obtain⟨st,sv⟩:=p
   have:pB (nl us (kE ps us2) ps) sv=pB ps sv:=by
    unfold pB
    cases hr:Ca sv with
    |none=>rfl
    |some id=>
     have h2:aY (nl us (kE ps us2) ps).mem id=aY ps.mem id:=jw (fp.2 (zm ht hf hr))
     simp only[h2]
   simp only[this]
 |const v=>rfl
 |global g=>rfl
 |func f=>rfl
theorem DC{us:List Nat}{ps:PS}{x:Operand}(h : ∀t,x = .tmp t→t∈us):cn (nl us (kE ps us) ps) x=cn ps x:=vy fun t e=>⟨h t e,h t e⟩
theorem yw{us ids:List Nat}{ps:PS}{x:Operand}(h : ∀t,x = .tmp t→t∈us):(cn (nl us ids ps) x).map (·.1)=(cn ps x).map (·.1):=by
 cases x with
 |tmp t=>
  have h1:aY (nl us ids ps).sl t=aY ps.sl t:=jw (fp.2 (h t rfl))
  unfold cn
  simp only[h1]
  cases aY ps.sl t<;>rfl
 |const v=>rfl
 |global g=>rfl
 |func f=>rfl
def mf(f:SV→bc)(r:Option RA):bc:=match r with |some a=>f a.1 |none=>.stuck
theorem qT{r r':Option RA}(f:SV→bc)(h:r.map (·.1)=r'.map (·.1)):mf f r=mf f r':=by
 cases r with
 |none=>cases r' with
  |none=>rfl
  |some _=>cases h
 |some a=>cases r' with
  |none=>cases h
  |some b=>
   have e:a.1=b.1:=Option.some.inj h
   show f a.1=f b.1
   rw[e]
theorem H3{T:kC P}{own rng:List Nat}{dst:Option Nat}{op:Op}{ps ps':PS}(hop:(match op with | .move _=>true | .assign _=>true | .fieldAddr _ _ _=>true | .nilCheck _=>true |_=>false)=true)(h : ∀x,x∈nk op→(cn ps x).map (·.1)=(cn ps' x).map (·.1)):ip T own rng ps dst op=ip T own rng ps' dst op:=by
 cases op<;>first | (cases hop;done) |skip
 ·rename_i x
  cases dst with
  |none=>rfl
  |some d=>exact qT (fun sv=>.ret (o1 sv)) (h x (List.mem_singleton.2 rfl))
 ·rename_i x
  cases dst with
  |none=>rfl
  |some d=>exact qT (fun sv=>.ret (o1 sv)) (h x (List.mem_singleton.2 rfl))
 ·rename_i x
  cases dst with
  |none=>rfl
  |some d=>exact qT (fun sv=>match Co 0 sv with |some _=>.ret (o1 sv) |none=>vW sv) (h x (List.mem_singleton.2 rfl))
 ·rename_i t x f
  cases dst with
  |none=>rfl
  |some d=>
   show(match qG T.fe t f,cn ps x with |some e,some a=>(match Co e.off a.1 with |some sv=>bc.ret (o1 sv) |none=>ra e.off a.1) |_,_=>.stuck)=(match qG T.fe t f,cn ps' x with |some e,some a=>(match Co e.off a.1 with |some sv=>bc.ret (o1 sv) |none=>ra e.off a.1) |_,_=>.stuck)
   have h1:=h x (List.mem_singleton.2 rfl)
   cases qG T.fe t f with
   |none=>rfl
   |some e=>
    have:=qT (fun sv=>match Co e.off sv with |some sv=>bc.ret (o1 sv) |none=>ra e.off sv) h1
    revert this
    cases cn ps x<;>cases cn ps' x<;>exact fun h=>h
theorem GA{T:kC P}{own rng:List Nat}{dst:Option Nat}{t:TypeId}{x y:Operand}{s:Nat}{ps ps':PS}(hh:w6 T.hold x=some s)(hn:ps.nxt=ps'.nxt)(hx:cn ps x=cn ps' x)(hy:(cn ps y).map (·.1)=(cn ps' y).map (·.1)):ip T own rng ps dst (.store t x y)=ip T own rng ps' dst (.store t x y):=by
 cases dst with
 |some d=>rfl
 |none=>
  simp only[ip,hh,hx,hn]
  cases d_ T.te t with
  |none=>rfl
  |some e=>
   cases cn ps' x with
   |none=>rfl
   |some a=>
    revert hy
    cases cn ps y with
    |none=>cases cn ps' y with
     |none=>intro _;rfl
     |some _=>intro h;cases h
    |some b=>cases cn ps' y with
     |none=>intro h;cases h
     |some b'=>
      intro h
      have e1:b.1=b'.1:=Option.some.inj h
      simp only[e1]
theorem DL{T:kC P}{own rng:List Nat}{all:List Oper}{o:Oper}{ps:PS}{out:dJ}(h:qi T N own rng all o ps out)(hre:out.re = []):qi T N own rng all o (nl (nP all o) (uE T.hold all o ps) ps) out:=by
 obtain⟨hd,hc,hs⟩:=h
 have hslot : ∀{j:Nat} {b:Bool} {dj:Nat},o.guard=some (j,b)→wM all j=some dj→aY (nl (nP all o) (uE T.hold all o ps) ps).sl dj=aY ps.sl dj:=fun h1 h2=>
  jw (fp.2 (by unfold nP JJ;rw[h1];simp only[h2];simp))
 refine⟨hd,?_,?_⟩
 ·unfold iY at hc⊢
  rw[hre]at hc⊢
  exact hc
 ·rcases hs with⟨hg,hr⟩ | ⟨hg,ho⟩
  ·refine .inl ⟨?_,?_⟩
   ·unfold GW at hg⊢
    split
    ·trivial
    ·rename_i j b heq
     rw[heq]at hg
     obtain⟨dj,st,h1,h2⟩:=hg
     exact⟨dj,st,h1,by rw[hslot heq h1];exact h2⟩
   ·by_cases hop:(match o.op with | .move _=>true | .assign _=>true | .fieldAddr _ _ _=>true | .nilCheck _=>true |_=>false)=true
    ·have:=H3 (T:=T) (own:=own) (rng:=rng) (dst:=o.dst) (ps:=nl (nP all o) (uE T.hold all o ps) ps) (ps':=ps) hop (fun x hx=>yw fun t e=>by subst e;exact List.mem_append_left _ (qQ hx))
     rw[this];exact hr
    by_cases hst : ∃t x y s,o.op = .store t x y∧w6 T.hold x=some s
    ·obtain⟨t,x,y,s,h1,h2⟩:=hst
     have hX:uE T.hold all o ps=kE ps (tmps [x]):=by unfold uE;rw[h1];simp only[h2]
     rw[h1]at hr⊢
     have hu : ∀z,z∈[x,y]→∀t',z=Operand.tmp t'→t'∈nP all o:=fun z hz t' e=>by
      subst e;unfold nP;rw[h1];exact List.mem_append_left _ (qQ (by simpa [nk]using hz))
     rw[GA (ps:=nl (nP all o) (uE T.hold all o ps) ps) (ps':=ps) (y:=y) h2 rfl (by rw[hX];exact vy fun t' e=>⟨hu x (by simp) t' e,qQ (by subst e;simp)⟩) (yw (hu y (by simp)))]
     exact hr
    have hX:uE T.hold all o ps=kE ps (nP all o):=by
     unfold uE
     split<;>first |rfl | (rename_i heq;rw[heq]at hop;exact absurd rfl hop) |skip
     rename_i t x y heq
     split
     ·rename_i s hs;exact absurd ⟨t,x,y,s,heq,hs⟩ hst
     ·rfl
    rw[hX]
    have:=Ez (T:=T) (own:=own) (rng:=rng) (dst:=o.dst) (op:=o.op) (ps:=nl (nP all o) (kE ps (nP all o)) ps) (ps':=ps) rfl (fun x hx=>DC fun t e=>by subst e;exact List.mem_append_left _ (qQ hx))
    rw[this];exact hr
  ·refine .inr ⟨?_,ho⟩
   obtain⟨j,b,dj,st,h1,h2,h3⟩:=hg
   exact⟨j,b,dj,st,h1,h2,by rw[hslot h1 h2];exact h3⟩
def Rs(l:List Oper)(n s:Nat):Bool:=(List.range n).any fun i=>match l[i]? with |some o=>fm (nP l o) s |none=>false
def TH(l:List Oper)(n s:Nat):Bool:=(List.range n).all fun i=>match l[i]? with
 |some o=>match o.dst with
  |some d=>!Nat.beq d s||(List.range n).all fun j=>Nat.beq j i||(match l[j]? with |some oj=>!fm (nP l oj) s |none=>true)||fm (pi (lR l n) i) j
  |none=>true
 |none=>true
theorem Pa{l:List Oper}{n s i j:Nat}{o oj:Oper}(h:TH l n s=true)(hi:i<n)(hj:j<n)(hij:j≠i)(ho:l[i]?=some o)(hoj:l[j]?=some oj)(hd:o.dst=some s)(hu:s∈nP l oj):j∈pi (lR l n) i:=by
 have h1:=List.all_eq_true.1 h i (List.mem_range.2 hi)
 rw[ho]at h1
 simp only[hd]at h1
 have h2:((List.range n).all fun j=>Nat.beq j i||(match l[j]? with |some oj=>!fm (nP l oj) s |none=>true)||fm (pi (lR l n) i) j)=true:=by
  simpa using h1
 have h3:=List.all_eq_true.1 h2 j (List.mem_range.2 hj)
 rw[hoj]at h3
 simp only[Bool.or_eq_true]at h3
 rcases h3 with(h3 |h3) |h3
 ·exact absurd (Nat.eq_of_beq_eq_true h3) hij
 ·rw[fp.2 hu]at h3;cases h3
 ·exact fp.1 h3
structure Ly(T:kC P)(N:Nat)(own rng:List Nat)(l:List Oper)(n:Nat)(st:Nat→PS)(ou:Nat→dJ):Prop where
 step : ∀ i, i < n → ∃ o, l[i]? = some o ∧ qi T N own rng l o (st i) (ou i) ∧ st (i + 1) = apply (st i) o.dst (ou i) ∧ (ou i).re = []
 wf:WF (st 0)
 fresh : ∀i j,i<n→j<n→j≠i→∀o oj s,l[i]?=some o→l[j]?=some oj→o.dst=some s→∀t v,(s,t,v)∈(st 0).sl→s∈nP l oj→j∈pi (lR l n) i
 dist : ∀i j oi oj di dj,i<n→j<n→i≠j→l[i]?=some oi→l[j]?=some oj→oi.dst=some di→oj.dst=some dj→di≠dj
section
variable {T : kC P} {own rng : List Nat} {l : List Oper} {n : Nat} {st : Nat → PS} {ou : Nat → dJ}
theorem Ly.wfi (r : Ly T N own rng l n st ou) : ∀ i, i ≤ n → WF (st i)
 |0,_=>r.wf
 |i+1,h=>by
  obtain ⟨o, h1, h2, h3, h4⟩ := r.step i (by omega)
  rw[h3]
  have hc:=h2.2.1
  simp only[iY,Bool.and_eq_true]at hc
  exact(r.wfi i (by omega)).apply _ hc.1.1
theorem Ly.nx (r : Ly T N own rng l n st ou) : ∀ i j, i ≤ j → j ≤ n → (st i).nxt + 4 * (j - i) = (st j).nxt
 |i,0,h,_=>by
  have:i=0:=by omega
  subst this;simp
 |i,j+1,h,hn=>by
  rcases Nat.lt_or_ge i (j+1)with hlt |hge
  ·have:=r.nx i j (by omega) (by omega)
   obtain⟨o,h1,h2,h3,h4⟩:=r.step j (by omega)
   rw[h3]
   show _=(st j).nxt+4
   omega
  ·have:i=j+1:=by omega
   subst this;simp
theorem Ly.osl (r : Ly T N own rng l n st ou) : ∀ i, i ≤ n → ∀ s t sv, (s, t, sv) ∈ (st i).sl → ((s, t, sv) ∈ (st 0).sl ∧ ∀ j o, j < i → l[j]? = some o → o.dst ≠ some s) ∨ ∃ j o, j < i ∧ l[j]? = some o ∧ o.dst = some s ∧ sv = (ou j).sv
 |0,_,s,t,sv,h=>.inl ⟨h,fun j o hj=>absurd hj (Nat.not_lt_zero _)⟩
 |i+1,hi,s,t,sv,h=>by
  obtain ⟨o, h1, h2, h3, h4⟩ := r.step i (by omega)
  rw[h3]at h
  have h:(s,t,sv)∈Oz (st i).nxt o.dst (ou i).sv (reS (st i).nxt (ou i).re (st i).sl):=h
  have key:(s,t,sv)∈(st i).sl→o.dst≠some s→((s,t,sv)∈(st 0).sl∧∀j o,j<i+1→l[j]?=some o→o.dst≠some s)∨∃j o,j<i+1∧l[j]?=some o∧o.dst=some s∧sv=(ou j).sv:=fun h hne=>by
   rcases r.osl i (by omega) s t sv h with⟨h,hb⟩ | ⟨j,oj,a,b,c,d'⟩
   ·refine .inl ⟨h,fun j oj hj hoj=>?_⟩
    rcases Nat.lt_or_ge j i with hlt |hge
    ·exact hb j oj hlt hoj
    ·have:j=i:=by omega
     subst this
     have:oj=o:=Option.some.inj (hoj.symm.trans h1)
     subst this;exact hne
   ·exact .inr ⟨j,oj,by omega,b,c,d'⟩
  rw[h4]at h
  cases hd:o.dst with
  |none=>rw[hd]at h;exact key h (by rw[hd];simp)
  |some d=>
   rw[hd]at h
   rcases List.mem_cons.1 h with e |h
   ·injection e with e1 e2;injection e2 with e2 e3
    exact .inr ⟨i,o,by omega,h1,by rw[hd,e1],e3⟩
   ·exact key (cB.1 h).1 (by rw[hd];exact fun e=>(cB.1 h).2 (Option.some.inj e).symm)
theorem Ly.omem (r : Ly T N own rng l n st ou) : ∀ i, i ≤ n → ∀ id t m, (id, t, m) ∈ (st i).mem →
  ((id,t,m)∈(st 0).mem∧∀j,j<i→m.lbl=0∨(ou j).ks.contains m.lbl=false)∨∃j,j<i∧(id,m)∈(ou j).puts∧∀j',j<j'→j'<i→m.lbl=0∨(ou j').ks.contains m.lbl=false
 |0,_,id,t,m,h=>.inl ⟨h,fun j hj=>absurd hj (Nat.not_lt_zero _)⟩
 |i+1,hi,id,t,m,h=>by
  obtain ⟨o, h1, h2, h3, h4⟩ := r.step i (by omega)
  rw[h3]at h
  rcases gP h with h | ⟨_,h⟩
  ·obtain⟨h,hk⟩:=kW.1 h
   rcases r.omem i (by omega) id t m h with⟨a,b⟩ | ⟨j,a,b,c⟩
   ·refine .inl ⟨a,fun j hj=>?_⟩
    rcases Nat.lt_or_ge j i with hlt |hge
    ·exact b j hlt
    ·have:j=i:=by omega
     subst this;exact hk
   ·refine .inr ⟨j,by omega,b,fun j' h5 h6=>?_⟩
    rcases Nat.lt_or_ge j' i with hlt |hge
    ·exact c j' h5 hlt
    ·have:j'=i:=by omega
     subst this;exact hk
  ·exact .inr ⟨i,by omega,h,fun j' h5 h6=>absurd h5 (by omega)⟩
def NZ(pts:List Nat)(w0:World)(bg:bN)(l:List Oper)(n:Nat)(st:Nat→PS)(ou:Nat→dJ)(L:Nat→Bool)(F:List (Nat×Value))(w:World):Prop:=
 ∃e lab,(∀s t sv,(s,t,sv)∈(st 0).sl→(∀j o,j<n→L j=true→l[j]?=some o→o.dst≠some s)→∃v,dG F s=some v∧RV e sv lab w v)∧
  (∀i,i<n→L i=true→∀o d,l[i]?=some o→o.dst=some d→∃v,dG F d=some v∧RV e (ou i).sv lab w v)∧
  (∀id t m,(id,t,m)∈(st 0).mem→(∀j,j<n→L j=true→m.lbl=0∨(ou j).ks.contains m.lbl=false)→bU e lab w id m)∧
  (∀i,i<n→L i=true→∀p∈(ou i).puts,(∀j,i<j→j<n→L j=true→p.2.lbl=0∨(ou j).ks.contains p.2.lbl=false)→bU e lab w p.1 p.2)∧Cx pts w0 bg w lab∧A0 pts e∧GL lab w
theorem GB{pts:List Nat}{w0:World}{bg:bN}(r:Ly T N own rng l n st ou){sis:List SI}(hp:H5 (lR l n) 0 [] sis=true)(hsi : ∀a,a<n→∃oa,l[a]?=some oa∧sis[a]?=some (uU T.hold l oa (st a) (ou a))):
  ∀i,i<n→∀o L F w,l[i]?=some o→L i=false→(∀j,Region.waitsFor .any l.toArray i j=true→L j=true)→(∀j j',Region.waitsFor .any l.toArray j j'=true→L j=true→L j'=true)→(∀j,n≤j→L j=false)→NZ pts w0 bg l n st ou L F w→
   LW P N l.toArray [o] F w (fun e a' w'=>e = .normal∧∃F',qS F' N a'∧NZ pts w0 bg l n st ou (Aq L i) F' w'):=by
 intro i hi o L F w ho hLi hw hcl htl ⟨e,lab,hS0,hS1,hM0,hM1,hcx,ha0,hgl⟩
 have hpair : ∀a b oa ob,a<b→b<n→l[a]?=some oa→l[b]?=some ob→a∈pi (lR l n) b∨uG false (uU T.hold l oa (st a) (ou a)) (uU T.hold l ob (st b) (ou b))=true:=by
  intro a b oa ob hab hb hoa hob
  obtain⟨oa',h1,h2⟩:=hsi a (by omega)
  obtain⟨ob',h3,h4⟩:=hsi b hb
  have e1:oa'=oa:=Option.some.inj (h1.symm.trans hoa)
  have e2:ob'=ob:=Option.some.inj (h3.symm.trans hob)
  subst e1 e2
  have:=(Df hp h4).2 hab h2
  simp only[Nat.zero_add]at this
  cases hd:fm (pi (lR l n) b) a with
  |true=>exact .inl (fp.1 hd)
  |false=>rw[hd]at this;exact .inr this
 -- i is done by nobody who is done
 have hno : ∀j,L j=true→i∉pi (lR l n) j:=fun j hj h=>by
  have:=uo hcl n j i h (.inl hj)
  rw[hLi]at this;cases this
 have hdone : ∀j,j∈pi (lR l n) i→L j=true:=fun j h=>uo hcl n i j h (.inr hw)
 -- pairs with i, taken apart
 have later : ∀j oj,i<j→j<n→L j=true→l[j]?=some oj→(∀x,x∈(uU T.hold l oj (st j) (ou j)).rf→Qs (st i).nxt x=false)∧tn (ou i).ks (uU T.hold l oj (st j) (ou j)).tl=false∧tn (uU T.hold l o (st i) (ou i)).tl (ou j).ks=false:=by
  intro j oj hij hjn hLj hoj
  rcases hpair i j o oj hij hjn ho hoj with h |h
  ·exact absurd h (hno j hLj)
  ·simp only[uG,Bool.false_or,Bool.not_eq_true',Bool.or_eq_false_iff]at h
   obtain⟨⟨⟨⟨_,h2⟩,_⟩,h4⟩,h5⟩:=h
   refine⟨fun x hx=>?_,h4,h5⟩
   cases hc:Qs (st i).nxt x with
   |false=>rfl
   |true=>
    have:(uU T.hold l oj (st j) (ou j)).rf.any (Qs (uU T.hold l o (st i) (ou i)).lo)=true:=List.any_eq_true.2 ⟨x,hx,hc⟩
    rw[this]at h2;cases h2
 have earlier : ∀j oj,j<i→l[j]?=some oj→L j=true∨((∀d,oj.dst=some d→d∉nP l o)∧tn ((ou j).puts.map (·.1)) (uE T.hold l o (st i))=false):=by
  intro j oj hji hoj
  rcases hpair j i oj o hji hi hoj ho with h |h
  ·exact .inl (hdone j h)
  ·simp only[uG,Bool.false_or,Bool.not_eq_true',Bool.or_eq_false_iff]at h
   obtain⟨⟨⟨⟨h1,_⟩,h3⟩,_⟩,_⟩:=h
   refine .inr ⟨fun d hd hm=>?_,h3⟩
   have h1:(match oj.dst with |some d=>fm (nP l o) d |none=>false)=false:=h1
   rw[hd]at h1
   simp only at h1
   rw[fp.2 hm]at h1;cases h1
 obtain ⟨o', ho', hstep, hst, hre⟩ := r.step i hi
 have:o'=o:=Option.some.inj (ho'.symm.trans ho)
 subst this
 have hwfi:=r.wfi i (by omega)
 -- what the step looks at stands
 have hsim:sB e (nl (nP l o') (uE T.hold l o' (st i)) (st i)) F lab w:=by
  refine⟨fun s t sv hm=>?_,fun id t m hm=>?_,hgl⟩
  ·obtain⟨hm,hu⟩:=List.mem_filter.1 hm
   rcases r.osl i (by omega) s t sv hm with⟨h,_⟩ | ⟨j,oj,h1,h2,h3,h4⟩
   ·refine hS0 s t sv h fun j oj hj hLj hoj hdj=>?_
    have hji:i≠j:=fun e=>by subst e;rw[hLi]at hLj;cases hLj
    exact hno j hLj (r.fresh j i hj hi hji oj o' s hoj ho hdj t sv h (fp.1 (by simpa using hu)))
   ·have hLj:L j=true:=by
     rcases earlier j oj h1 h2 with h | ⟨h,_⟩
     ·exact h
     ·exact absurd (fp.1 (by simpa using hu)) (h s h3)
    rw[h4]
    exact hS1 j (by omega) hLj oj s h2 h3
  ·obtain⟨hm,hu⟩:=List.mem_filter.1 hm
   have hid:id∈uE T.hold l o' (st i):=fp.1 (by simpa using hu)
   have hlb:m.lbl∈(uU T.hold l o' (st i) (ou i)).tl:=by
    show _∈zF _ _++_++_
    rw[List.append_assoc]
    exact List.mem_append_left _ (zq hid (BN hwfi.nm hm))
   have hafter : ∀j,i<j→j<n→L j=true→m.lbl=0∨(ou j).ks.contains m.lbl=false:=fun j h1 h2 h3=>by
    obtain⟨oj,hoj,_⟩:=r.step j h2
    have:=(later j oj h1 h2 h3 hoj).2.2
    refine .inr ?_
    cases hc:(ou j).ks.contains m.lbl with
    |false=>rfl
    |true=>
     have hcm:m.lbl∈(ou j).ks:=by simpa using hc
     rw[td ⟨_,hlb,hcm⟩]at this;cases this
   rcases r.omem i (by omega) id t m hm with⟨h1,h2⟩ | ⟨j,h1,h2,h3⟩
   ·refine hM0 id t m h1 fun j hj hLj=>?_
    rcases Nat.lt_trichotomy j i with h |h |h
    ·exact h2 j h
    ·subst h;rw[hLi]at hLj;cases hLj
    ·exact hafter j h hj hLj
   ·obtain⟨oj,hoj,_⟩:=r.step j (by omega)
    have hLj:L j=true:=by
     rcases earlier j oj h1 hoj with h | ⟨_,h⟩
     ·exact h
     ·have:id∈(ou j).puts.map (·.1):=List.mem_map.2 ⟨_,h2,rfl⟩
      rw[td ⟨_,this,hid⟩]at h;cases h
    refine hM1 j (by omega) hLj (id,m) h2 fun j' hj hj' hLj'=>?_
    rcases Nat.lt_trichotomy j' i with h |h |h
    ·exact h3 j' hj h
    ·subst h;rw[hLi]at hLj';cases hLj'
    ·exact hafter j' h hj' hLj'
 have hl:=(DL hstep hre).fin hsim (JQ hwfi) hcx.top
 have hc:=hstep.2.1
 simp only[iY,Bool.and_eq_true]at hc
 have hup : ∀{s:Nat} {v:Value},(∀d,o'.dst=some d→s≠d)→dG (Qt F o'.dst v) s=dG F s:=fun{s v} h=>by
  cases hd:o'.dst with
  |none=>rfl
  |some d=>exact nr (h d hd)
 refine LW.cons1 hl ?_
 rintro ex a' w' ⟨h0,e',lab',v,hs,hp1,hp2,hp3,hp4,hp5⟩
 have hp1 : ∀x,(x<(st i).nxt∨(st i).nxt+4≤x)→e' x=e x:=hp1
 refine⟨h0,rfl,Qt F o'.dst v,hs,e',lab',?_,?_,?_,?_,hcx.stp hp2 (Ts hc.1.2),fun g hg=>by rw[hp1 0 (.inl hwfi.n0)];exact ha0 g hg,hgl.keep hp2.keeps⟩
 ·intro s t sv hm hnd
  obtain⟨u,hu,hr⟩:=hS0 s t sv hm fun j oj hj hLj hoj=>hnd j oj hj (by unfold Aq;split<;>simp[hLj]) hoj
  refine⟨u,by rw[hup fun d hd e=>hnd i o' hi (by unfold Aq;simp) ho (by rw[hd,e])];exact hu,(hr.keep hp2.keeps).env fun x hx=>hp1 x (.inl ?_)⟩
  have h1:=(r.wf.sl s t sv hm).2 x hx
  have h2:=r.nx 0 i (by omega) (by omega)
  omega
 ·intro j hj hLj oj dj hoj hdj
  by_cases hji:j=i
  ·subst hji
   have:oj=o':=Option.some.inj (hoj.symm.trans ho)
   subst this
   exact⟨v,by rw[hdj];exact oK,hp3⟩
  ·have hLj':L j=true:=by unfold Aq at hLj;rw[if_neg hji]at hLj;exact hLj
   obtain⟨u,hu,hr⟩:=hS1 j hj hLj' oj dj hoj hdj
   refine⟨u,by rw[hup fun d hd=>r.dist j i oj o' dj d hj hi hji hoj ho hdj hd];exact hu,(hr.keep hp2.keeps).env fun x hx=>hp1 x ?_⟩
   rcases Nat.lt_or_ge j i with hlt |hge
   · -- an earlier one's numbers lie below
    obtain⟨oj',h1,h2,h3,h4⟩:=r.step j hj
    have hwf:=r.wfi (j+1) (by omega)
    rw[h3]at hwf
    have hcj:=h2.2.1
    simp only[iY,Hs,Bool.and_eq_true]at hcj
    have h5:=kM (List.all_eq_true.1 hcj.1.1.1.1 x hx)
    have h6:=r.nx j i (by omega) (by omega)
    exact .inl (by omega)
   ·have h1:=(later j oj (by omega) hj hLj' hoj).1 x (List.mem_append_left _ hx)
    unfold Qs at h1
    by_cases hle:(st i).nxt≤x
    ·have:Nat.ble (st i).nxt x=true:=Nat.ble_eq_true_of_le hle
     rw[this,Bool.true_and]at h1
     exact .inr (rc h1)
    ·exact .inl (by omega)
 ·intro id t m hm hal
  have hali:=hal i hi (by unfold Aq;simp)
  have h1:=hM0 id t m hm fun j hj hLj=>hal j hj (by unfold Aq;split<;>simp[hLj])
  obtain⟨_,h2,h3⟩:=r.wf.mem id t m hm
  have h4:=r.nx 0 i (by omega) (by omega)
  exact(h1.stp hp2 hali (r.wf.lbl id t m hm)).env (hp1 id (.inl (by omega))) fun x hx=>hp1 x (.inl (by have:=h3 x hx;omega))
 ·intro j hj hLj p hpj hal
  by_cases hji:j=i
  ·subst hji
   exact hp4 p hpj
  ·have hLj':L j=true:=by unfold Aq at hLj;rw[if_neg hji]at hLj;exact hLj
   have h1:=hM1 j hj hLj' p hpj fun j' h5 h6 h7=>hal j' h5 h6 (by unfold Aq;split<;>simp[h7])
   obtain⟨oj,hoj,hsj,_,_⟩:=r.step j hj
   have hcj:=hsj.2.1
   simp only[iY,Hs,Bool.and_eq_true]at hcj
   have hpo:=List.all_eq_true.1 hcj.1.1.1.2 p hpj
   simp only[Bool.and_eq_true,Bool.or_eq_true]at hpo
   obtain⟨⟨q1,q2⟩,q3⟩:=hpo
   have hlb:p.2.lbl=0→Cy p.2=true:=fun h0=>by
    rcases q3 with q3 |q3
    ·exact q3
    ·rw[h0]at q3;cases q3
   rcases Nat.lt_or_ge j i with hlt |hge
   ·have hali:=hal i hlt hi (by unfold Aq;simp)
    have h6:=r.nx j i (by omega) (by omega)
    refine(h1.stp hp2 hali hlb).env (hp1 p.1 (.inl ?_)) fun x hx=>hp1 x (.inl ?_)
    ·have:=kM q1;omega
    ·have:=kM (List.all_eq_true.1 q2 x hx);omega
   ·have hl3:=later j oj (by omega) hj hLj' hoj
    have hali:p.2.lbl=0∨(ou i).ks.contains p.2.lbl=false:=by
     refine .inr ?_
     cases hcc:(ou i).ks.contains p.2.lbl with
     |false=>rfl
     |true=>
      have h5:p.2.lbl∈(ou i).ks:=by simpa using hcc
      have h6:p.2.lbl∈(uU T.hold l oj (st j) (ou j)).tl:=List.mem_append_right _ (List.mem_map.2 ⟨p,hpj,rfl⟩)
      have:=hl3.2.1
      rw[td ⟨_,h5,h6⟩]at this;cases this
    have hrf : ∀x,x∈p.1::gT p.2→(x<(st i).nxt∨(st i).nxt+4≤x):=fun x hx=>by
     have h2:=hl3.1 x (List.mem_append_right _ (List.mem_flatMap.2 ⟨p,hpj,hx⟩))
     unfold Qs at h2
     by_cases hle:(st i).nxt≤x
     ·have:Nat.ble (st i).nxt x=true:=Nat.ble_eq_true_of_le hle
      rw[this,Bool.true_and]at h2
      exact .inr (rc h2)
     ·exact .inl (by omega)
    exact(h1.stp hp2 hali hlb).env (hp1 p.1 (hrf _ (by simp))) fun x hx=>hp1 x (hrf x (by simp[hx]))
end
inductive Ib(T:kC P)(N:Nat)(own rng:List Nat)(all:List Oper):List Oper→PS→List (PS×dJ)→PS→Prop where
 |nil {p:PS}:Ib T N own rng all [] p [] p
 |cons {o:Oper} {r:List Oper} {p:PS} {q:dJ} {tr:List (PS×dJ)} {p':PS}:qi T N own rng all o p q→q.re = []→Ib T N own rng all r (apply p o.dst q) tr p'→Ib T N own rng all (o::r) p ((p,q)::tr) p'
noncomputable def nH {R:Type} (l:List Nat):(List Nat→R)→R:=
 List.rec (motive:=fun _=>(List Nat→R)→R) (fun k=>k []) (fun x _ ih k=>ed x fun x=>ih fun r=>k (x::r)) l
theorem yo{R:Type}: ∀(l:List Nat) (k:List Nat→R),nH l k=k l
 | [],k=>rfl
 |x::r,k=>by
  show ed x (fun x=>nH r fun r=>k (x::r))=_
  rw[iD,yo r]
noncomputable def BA {R:Type} (s:SI) (k:SI→R):R:=
 nH s.us fun us=>nH s.ids fun ids=>nH s.tl fun tl=>nH s.ks fun ks=>nH s.rf fun rf=>nH s.bn fun bn=>ed s.lo fun lo=>k ⟨s.d,us,ids,tl,ks,rf,bn,lo⟩
theorem Eo{R:Type}(s:SI)(k:SI→R):BA s k=k s:=by
 unfold BA
 simp only[yo,iD]
noncomputable def J2 (T:kC P) (N:Nat) (own rng:List Nat) (all:List Oper) {R:Type}:List Oper→PS→List SI→(List SI→PS→Option R)→Option R
 | [],ps,acc,K=>K acc ps
 |o::r,ps,acc,K=>GH T N own rng all o ps fun ps out=>match out.re with
  | []=>BA (uU T.hold all o ps out) fun si=>AO (apply ps o.dst out) fun ps=>J2 T N own rng all r ps (acc ++ [si]) K
  |_=>none
def B7(hd:List Nat)(all:List Oper):List Oper→List (PS×dJ)→List SI
 |o::r,(p,q)::tr=>uU hd all o p q::B7 hd all r tr
 |_,_=>[]
theorem Ai{T:kC P}{own rng:List Nat}{all:List Oper}{R:Type}{q:R}: ∀{l:List Oper} {ps:PS} {acc:List SI} {K:List SI→PS→Option R},J2 T N own rng all l ps acc K=some q→∃tr pn,Ib T N own rng all l ps tr pn∧K (acc++B7 T.hold all l tr) pn=some q
 | [],ps,acc,K,h=>⟨[],ps,.nil,by simpa [B7,J2]using h⟩
 |o::r,ps,acc,K,h=>by
  unfold J2 at h
  obtain⟨out,hs,h2⟩:=rx h
  split at h2
  ·rename_i hre
   rw[Eo,zz]at h2
   obtain⟨tr,pn,h3,h4⟩:=Ai h2
   exact⟨_,_,.cons hs hre h3,by simpa [B7]using h4⟩
  ·cases h2
def uB(tr:List (PS×dJ))(pn:PS)(i:Nat):PS:=match tr[i]? with |some p=>p.1 |none=>pn
def D2(tr:List (PS×dJ))(i:Nat):dJ:=match tr[i]? with |some p=>p.2 |none=>o1 .und
theorem Ib.len{T:kC P}{own rng:List Nat}{all l:List Oper}{p pn:PS}{tr:List (PS×dJ)}(h:Ib T N own rng all l p tr pn):tr.length=l.length:=by
 induction h with
 |nil=>rfl
 |cons _ _ _ ih=>simp[ih]
theorem Ib.at0{T:kC P}{own rng:List Nat}{all l:List Oper}{p pn:PS}{tr:List (PS×dJ)}(h:Ib T N own rng all l p tr pn):uB tr pn 0=p:=by
 cases h<;>rfl
theorem Ib.atn{T:kC P}{own rng:List Nat}{all l:List Oper}{p pn:PS}{tr:List (PS×dJ)}(h:Ib T N own rng all l p tr pn):uB tr pn l.length=pn:=by
 unfold uB;rw[List.getElem?_eq_none (by rw[h.len];exact Nat.le_refl _)]
theorem Ib.get{T:kC P}{own rng:List Nat}{all l:List Oper}{p pn:PS}{tr:List (PS×dJ)}(h:Ib T N own rng all l p tr pn): ∀{i:Nat} {o:Oper},l[i]?=some o→
  qi T N own rng all o (uB tr pn i) (D2 tr i)∧uB tr pn (i+1)=apply (uB tr pn i) o.dst (D2 tr i)∧(D2 tr i).re = []∧(B7 T.hold all l tr)[i]?=some (uU T.hold all o (uB tr pn i) (D2 tr i)):=by
 induction h with
 |nil=>intro i o ho;simp at ho
 |cons hs hre ht ih=>
  intro i o ho
  cases i with
  |zero=>
   simp at ho;subst ho
   refine⟨hs,?_,hre,rfl⟩
   show uB _ _ 0=_
   exact ht.at0
  |succ i=>
   exact ih (by simpa using ho)
def nD(l:List Oper):Nat→Nat
 |0=>0
 |k+1=>match(List.range k).all fun j=>Region.waitsFor .any l.toArray k j with
  |true=>nD l k
  |false=>k+1
def qn:List Oper→List Nat
 | []=>[]
 |o::r=>match o.dst with
  |some d=>d::qn r
  |none=>qn r
theorem wC{o:Oper}{d:Nat}: ∀{l:List Oper} {i:Nat},l[i]?=some o→o.dst=some d→d∈qn l
 | [],i,h,_=>by simp at h
 |x::r,0,h,hd=>by simp at h;subst h;simp[qn,hd]
 |x::r,i+1,h,hd=>by
  have:=wC (l:=r) (i:=i) (by simpa using h) hd
  unfold qn;split<;>simp[this]
def Kf(l:List Oper)(n s:Nat):Bool:=!fm (qn (l.take n)) s||(Rs l n s&&TH l n s)
def Ow(l:List Oper)(n:Nat):Bool:=Nat.ble n l.length&&R8 l n&&Ty l n&&N8 l n&&Region.seqB .any l.toArray (l.length-n) n (wJ l n)
noncomputable def Jq (T:kC P) (N:Nat) (own rng:List Nat) (l:List Oper) {R:Type} (ps:PS) (K:PS→Option R):Option R:=
 match Ow l (nD l l.length)with
 |false=>none
 |true=>J2 T N own rng l (l.take (nD l l.length)) ⟨ps.nxt,ps.sl.filter (fun x=>Kf l (nD l l.length) x.1),ps.mem⟩ [] fun sis ps=>
   match H5 (lR l (nD l l.length)) 0 [] sis with
   |true=>Dv T N own rng l (l.drop (nD l l.length)) ps K
   |false=>none
theorem J8{T:kC P}{own rng:List Nat}{l:List Oper}{R:Type}{q:R}{ps:PS}{e:iy}{F:List (Nat×Value)}{lab bg:bN}{w w0:World}{pts:List Nat}{K:PS→Option R}{kont:fN}{id:Nat}(hm:P.follows .mixedOrders=true)(h:Jq T N own rng l ps K=some q)(hi:kU pts w0 bg e ps F lab w)
  (hk : ∀ps' e' F' lab' w',c9 ps ps'→kU pts w0 bg e' ps' F' lab' w'→K ps'=some q→EW N .normal F' w' kont):CW P N (.region id l.toArray true) F w kont:=by
 intro a ha
 unfold Jq at h
 generalize nD l l.length=n at h
 split at h
 ·cases h
 rename_i hS
 simp only[Ow,Bool.and_eq_true]at hS
 obtain⟨⟨⟨⟨hn,hback⟩,hdst⟩,htl⟩,hseq⟩:=hS
 have hn:n≤l.length:=Nat.le_of_ble_eq_true hn
 obtain⟨tr,pn,ht,hK⟩:=Ai h
 simp only[List.nil_append]at hK
 split at hK
 ·rename_i hchk
  have htk:(l.take n).length=n:=by simp;omega
  have hget : ∀i,i<n→∃o,l[i]?=some o∧(l.take n)[i]?=some o:=fun i hi=>⟨l[i],List.getElem?_eq_getElem (by omega),by rw[List.getElem?_take_of_lt hi];exact List.getElem?_eq_getElem (by omega)⟩
  have hb : ∀i j oi oj di dj,i<n→j<i→l[i]?=some oi→l[j]?=some oj→oi.dst=some di→oj.dst=some dj→dj≠di:=fun i j oi oj di dj hi hj hoi hoj hdi hdj e=>by
   have:=List.all_eq_true.1 hdst i (List.mem_range.2 hi)
   rw[hoi]at this
   simp only[hdi]at this
   have h2:=List.all_eq_true.1 this j (List.mem_range.2 hj)
   rw[hoj]at h2
   simp only[hdj]at h2
   subst e
   simp at h2
  have h0:=ht.at0
  have hrun : Ly T N own rng l n (uB tr pn) (D2 tr) := by
   refine⟨fun i hi=>?_,?_,fun i j hi hj hji o oj s ho hoj hd t v hm hus=>?_,fun i j oi oj di dj hi hj hij hoi hoj hdi hdj=>?_⟩
   ·obtain ⟨o, h1, h2⟩ := hget i hi
    obtain⟨a1,a2,a3,_⟩:=ht.get h2
    exact⟨o,h1,a1,a2,a3⟩
   ·rw[h0]
    exact⟨fun s st sv hm=>hi.wf.sl s st sv (List.mem_filter.1 hm).1,hi.wf.mem,hi.wf.lbl,hi.wf.ns.filter _,hi.wf.nm,hi.wf.n0⟩
   ·rw[h0]at hm
    obtain⟨_,hm⟩:=List.mem_filter.1 hm
    have:s∈qn (l.take n):=wC (i:=i) (by rw[List.getElem?_take_of_lt hi];exact ho) hd
    have:=fp.2 this
    have hm:Kf l n s=true:=hm
    unfold Kf at hm
    rw[this,Bool.not_true,Bool.false_or,Bool.and_eq_true]at hm
    exact Pa hm.2 hi hj hji ho hoj hd hus
   ·rcases Nat.lt_trichotomy i j with h |h |h
    ·exact hb j i oj oi dj di hj h hoj hoi hdj hdi
    ·exact absurd h hij
    ·exact fun e=>hb i j oi oj di dj hi h hoi hoj hdi hdj e.symm
  have hn':uB tr pn n=pn:=by have:=ht.atn;rwa [htk]at this
  refine wp_region_any hm ?_
  have hL:Lf (Array.replicate l.toArray.size false)=fun _=>false:=by
   funext j;unfold Lf;exact getD_replicate_false _ _
  have sd:=(j4.draw hi.cx.top (w.drawn+1)).stp (ks:=[]) (.inr rfl)
  have hinit:NZ pts w0 bg l n (uB tr pn) (D2 tr) (fun _=>false) F { w with drawn:=w.drawn+1 }:=by
   refine⟨e,lab,fun s t sv hm _=>?_,fun i _ h=>(by cases h),fun id t m hm _=>?_,fun i _ h=>(by cases h),hi.cx.stp sd rfl,hi.a0,hi.sim.gl.keep sd.keeps⟩
   ·rw[h0]at hm
    obtain⟨v,hv,hr⟩:=hi.sim.sl s t sv (List.mem_filter.1 hm).1
    exact⟨v,hv,hr.keep sd.keeps⟩
   ·rw[h0]at hm
    exact(hi.sim.mem id t m hm).stp sd (.inr rfl) (hi.wf.lbl id t m hm)
  have:=KD (P:=P) (N:=N) (K:=kont) (I:=NZ pts w0 bg l n (uB tr pn) (D2 tr)) hn hback htl hseq (GB hrun hchk fun i hi=>by
   obtain⟨o,h1,h2⟩:=hget i hi
   exact⟨o,h1,(ht.get h2).2.2.2⟩) (fun F' w' hI=>?_) n (Array.replicate l.toArray.size false) a F { w with drawn:=w.drawn+1 } ⟨by simp,fun j j' _ h=>(by rw[hL]at h;cases h),fun j _=>by rw[hL]⟩
   (by rw[hL];unfold cnt;rw[List.filter_eq_self.2 (by simp)];simp) ha (by rw[hL];exact hinit)
  ·rw[show n+(l.length-n)=l.toArray.size by simp;omega]at this
   exact this
  ·obtain⟨e',lab',hS0,hS1,hM0,hM1,hcx,ha0,hgl⟩:=hI
   have hinv:kU pts w0 bg e' pn F' lab' w':=by
    rw[←hn']
    refine⟨⟨fun s t sv hm=>?_,fun id t m hm=>?_,hgl⟩,hrun.wfi n (Nat.le_refl _),hcx,ha0⟩
    ·rcases hrun.osl n (Nat.le_refl _) s t sv hm with ⟨h, hnd⟩ | ⟨j, o, h1, h2, h3, h4⟩
     ·exact hS0 s t sv h fun j o hj _ hoj=>hnd j o hj hoj
     ·rw[h4];exact hS1 j h1 (by simpa using h1) o s h2 h3
    ·rcases hrun.omem n (Nat.le_refl _) id t m hm with ⟨h1, h2⟩ | ⟨j, h1, h2, h3⟩
     ·exact hM0 id t m h1 fun j hj _=>h2 j hj
     ·exact hM1 j h1 (by simpa using h1) (id,m) h2 fun j' h4 h5 _=>h3 j' h4 h5
   have hpres:c9 ps pn:=by
    have key : ∀i,i≤n→c9 ps (uB tr pn i):=by
     intro i
     induction i with
     |zero=>intro _;rw[h0];exact⟨Nat.le_refl _,fun s st sv hm _=>(List.mem_filter.1 hm).1,fun i st m hm _=>hm⟩
     |succ i ih=>
      intro hi
      obtain⟨o,h1,h2⟩:=hget i (by omega)
      rw[(ht.get h2).2.1]
      exact(ih (by omega)).trans (c9.apply _ _ _)
    have:=key n (Nat.le_refl _)
    rwa [hn']at this
   exact tm hK hinv fun ps' e'' F'' lab'' w'' hp hi3 hKK=>hk _ _ _ _ _ (hpres.trans hp) hi3 hKK
 ·cases hK
def T8(T:kC P)(l:List Oper)(ps:PS):List Nat:=
 pC ⟨ps.nxt,ps.sl.filter (fun x=>!fm (qn l) x.1),ps.mem⟩ (l.flatMap fun o=>TG T o.op)
noncomputable def O6 (T:kC P) (N:Nat) (own rng:List Nat) (l:List Oper) {R:Type} (ps:PS) (K:PS→Option R):Option R:=
 match sq (T8 T (l.take (nD l l.length)) ps) ps with
 |some ps=>Jq T N own rng l ps K
 |none=>none
theorem Nh{T:kC P}{own rng:List Nat}{l:List Oper}{R:Type}{q:R}{ps:PS}{e:iy}{F:List (Nat×Value)}{lab bg:bN}{w w0:World}{pts:List Nat}{K:PS→Option R}{kont:fN}{id:Nat}(hm:P.follows .mixedOrders=true)(h:O6 T N own rng l ps K=some q)(hi:kU pts w0 bg e ps F lab w)
  (hk : ∀ps' e' F' lab' w',c9 ps ps'→kU pts w0 bg e' ps' F' lab' w'→K ps'=some q→EW N .normal F' w' kont):CW P N (.region id l.toArray true) F w kont:=by
 unfold O6 at h
 split at h
 ·rename_i ps1 hf
  obtain⟨⟨lab1,hi1⟩,hp1⟩:=oe hf hi
  exact J8 hm h hi1 fun ps' e' F' lab' w' hp=>hk ps' e' F' lab' w' (hp1.trans hp)
 ·cases h
end
end Go.Gk
