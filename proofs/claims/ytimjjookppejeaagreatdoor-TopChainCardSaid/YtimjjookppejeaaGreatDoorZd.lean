/- A part of the proof of TopChain. No condition. -/
import Derived.Test.YtimjjookppejeaaGreatDoorZc
import Derived.ArgAppend
import Derived.ChangeKeysEq
namespace Go.Gk
open Go.RowKit
def b_(n:Nat)(i:Int):Option Nat:=if 0≤i∧i<(n:Int)then some i.toNat else none
theorem Ij{n:Nat}{i:Int}{j:Nat}(h:b_ n i=some j):i=(j:Int)∧j<n:=by
 unfold b_ at h
 split at h
 ·cases h;omega
 ·cases h
def T_:PT→Option (Nat×IntKind)
 | .ar n k=>some (n,k)
 |_=>none
theorem Mu{t:PT}{n:Nat}{k:IntKind}(h:T_ t=some (n,k)):t = .ar n k:=by cases t<;>cases h;rfl
def Ff{P:Program}(l:List (TE P))(T:TypeId):Option (TE P×Nat×IntKind):=match dC l T with
 |some te=>match T_ te.pt with
  |some (n,k)=>some (te,n,k)
  |none=>none
 |none=>none
theorem zS{P:Program}{l:List (TE P)}{T:TypeId}{te:TE P}{n:Nat}{k:IntKind}(h:Ff l T=some (te,n,k)): ∃E,P.underlying T=some (.array n E)∧iS P E:=by
 unfold Ff at h
 split at h
 ·rename_i te' hte
  split at h
  ·rename_i n' k' hn
   cases h
   have h1:=te.ok
   rw[Mu hn,aS hte]at h1
   exact h1.und
  ·cases h
 ·cases h
theorem yB{t:PT}(h:PT.eqb t t=true)(x:den t):bh t t x=some x:=by unfold bh;rw[dif_pos h]
theorem DU(k:IntKind):PT.eqb (.int k) (.int k)=true:=by cases k<;>rfl
section
variable {P : Program} {N : Nat} {ops : Array Oper} {F : List (Nat × Value)} {w w' : World} {e : f7} {lab lab' : bf} {nid : Nat} {d : Nat} {v u : Value}
variable {ty : TypeId} {pos : String} {af : Array Edge} {g : Option (Nat × Bool)} {x y z : Operand} {T : TypeId} {a b : RA}
def ve(n:Nat)(a b:RA):aO:=match a,zR b with
 | (.ptr id o,_),some ⟨k,i⟩=>.bnd Nat (b_ n (bH k i)) fun j=>.ret (o1 (.ptr id (o+j)))
 | (.dat (.cp (.ar m k)) y,_),some ⟨ik,i⟩=>match Nat.beq m n with
  |true=>.bnd (List (aQ k)) y fun X=>.bnd (aQ k) (az X (bH ik i)) fun q=>.ret (o1 (.dptr (.int k) q 0))
  |false=>.stuck
 |_,_=>.stuck
theorem Cb{n:Nat}{out:cL}{E:TypeId}(hU:P.underlying T=some (.array n E))(hO:iS P E)(hx:ev F x=some v)(hy:ev F y=some u)(hv:eu e lab w a v)(hu:eu e lab w b u)(hr:ed (ve n a b) out)(tp:cm lab w)(hw:Wn ops F g)(hd:Nat.blt d N=true):
  LW P N ops [⟨some d,.indexAddr T x y,ty,pos,af,g⟩] F w (Fin N F e nid lab w (some d) out):=by
 have run : ∀{i:Nat} {k:IntKind} {p:Addr},i<n→v = .pointer (some p)→u = .int k (i:Int)→∀aa,pM F N aa→(execOp aa.eval ⟨some d,.indexAddr T x y,ty,pos,af,g⟩).run P w = .ok (.value (.pointer (some (p.add i)))) w:=by
  intro i k p hi hv hu aa ha
  have h1:(i:Int)<(n:Int):=by omega
  rw[hv]at hx;rw[hu]at hy
  simp[execOp,ha.eval hx,ha.eval hy,Instr.indexAt,asIntOf,run_underlying hU,Instr.sureAddr,h1,hi,Nat.not_le_of_lt hi,hO.size w]
 unfold ve at hr
 split at hr
 ·rename_i id o m k i hi
  have hu:=gq hu hi
  obtain⟨G,h1,rfl⟩:=hv.1
  cases hr with
  |bnd hj hr=>
   rename_i j
   obtain rfl:=hr.ret_eq
   obtain⟨h2,h3⟩:=Ij hj
   rw[h2]at hu
   refine LW.val rfl hw rfl hd (fun aa ha=>run h3 rfl hu aa ha) (ap tp ⟨G,h1,by rw[bR]⟩)
 ·rename_i m k y' _ ik i hi
  have hu:=gq hu hi
  split at hr
  ·rename_i hmn
   obtain rfl:=Nat.eq_of_beq_eq_true hmn
   cases hr with
   |bnd hX hr=>
    rename_i X
    cases hr with
    |bnd hq hr=>
     rename_i q
     obtain rfl:=hr.ret_eq
     have hX:y'=some X:=hX
     subst hX
     obtain⟨cs,⟨p,ds,h1,h2,h3⟩,h4⟩:=hv.1
     have h4:cs = [v]:=h4
     rw[h1]at h4
     simp at h4
     obtain⟨h5,h6⟩:List.length (α:=aQ k) X=m∧ds=List.map (fun y=>Value.int k (bH k y)) X:=h3
     unfold az at hq
     split at hq
     ·rename_i h0
      have hlt:(bH ik i).toNat<List.length (α:=aQ k) X:=(List.getElem?_eq_some_iff.1 hq).1
      have hi2:bH ik i=((bH ik i).toNat:Int):=by omega
      rw[hi2]at hu
      refine LW.val rfl hw rfl hd (fun aa ha=>run (by omega) h4.symm hu aa ha) (ap tp ⟨p.add (bH ik i).toNat,[.int k (bH k q)],by rw[bi],?_,rfl⟩)
      intro j u' hj
      cases j with
      |succ j=>simp at hj
      |zero=>
       simp at hj
       subst hj
       have h7:ds[(bH ik i).toNat]?=some (Value.int k (bH k q)):=by rw[h6,List.getElem?_map,hq];rfl
       have h8:=h2 _ _ h7
       rw[ej,bi]
       exact h8
     ·cases hq
  ·cases hr
 ·cases hr
theorem Rt{k:IntKind}{x:List (aQ k)}{i:Nat}{q:aQ k}(h:x[i]?=some q):(x.map fun y=>Value.int k (bH k y))[i]?=some (.int k (bH k q)):=by rw[List.getElem?_map,h];rfl
def vw{P:Program}(te:TE P)(a b:RA):aO:=match te.pt,a,zR b with
 | .ar n k,(.dat (.ar m k') X,_),some ⟨ik,i⟩=>match Nat.beq m n&&IntKind.eqb k k' with
  |true=>.bnd (aQ k') (az X (bH ik i)) fun q=>.ret (o1 (.dat (.int k') q))
  |false=>.stuck
 |_,_,_=>.stuck
theorem CC{te:TE P}{out:cL}(hT:te.id=T)(hx:ev F x=some v)(hy:ev F y=some u)(hv:eu e lab w a v)(hu:eu e lab w b u)(hr:ed (vw te a b) out)(tp:cm lab w)(hw:Wn ops F g)(hd:Nat.blt d N=true):
  LW P N ops [⟨some d,.index T x y,ty,pos,af,g⟩] F w (Fin N F e nid lab w (some d) out):=by
 subst hT
 unfold vw at hr
 split at hr
 ·rename_i n k m k' X _ ik i hpt hi
  obtain rfl:=gq hu hi
  split at hr
  ·rename_i hb
   simp only[Bool.and_eq_true]at hb
   obtain rfl:=Nat.eq_of_beq_eq_true hb.1
   have hok:=te.ok
   rw[hpt]at hok
   obtain⟨E,hU,hO⟩ : ∃E,P.underlying te.id=some (.array m E)∧iS P E:=hok.und
   cases hr with
   |bnd hq hr=>
    rename_i q
    obtain rfl:=hr.ret_eq
    obtain⟨cs,h1,h2⟩:=hv.1
    obtain⟨h5,h6⟩:List.length (α:=aQ k') X=m∧cs=List.map (fun y=>Value.int k' (bH k' y)) X:=h1
    have h2:v = .agg cs.toArray:=h2
    subst h2
    unfold az at hq
    split at hq
    ·rename_i h0
     have hlt:(bH ik i).toNat<List.length (α:=aQ k') X:=(List.getElem?_eq_some_iff.1 hq).1
     have hlt':bH ik i<(m:Int):=by omega
     have hz:cs[(bH ik i).toNat]?=some (Value.int k' (bH k' q)):=by rw[h6];exact Rt (x:=X) hq
     refine LW.val (v:=.int k' (bH k' q)) rfl hw rfl hd (fun aa ha=>?_) (ap tp (aV.ofInt (k:=k') _))
     simp[execOp,ha.eval hx,ha.eval hy,Instr.index,asIntOf,run_underlying hU,h0,hlt',part,hO.agg,hO.size,hz]
    ·cases hq
  ·cases hr
 ·cases hr
def CU(t:PT)(a:RA):Option ((k:IntKind)×List (aQ k)×Nat):=match a,t with
 | (.ptr _ o,some (.box _ _ (.ar _ k) X)),.int k'=>match IntKind.eqb k k' with
  |true=>some ⟨k,X,o⟩
  |false=>none
 |_,_=>none
def Ah(k:IntKind)(xs:List (aQ k))(o:Nat):aO:=.bnd (aQ k) (az xs (o:Int)) fun y=>.ret (o1 (.dat (.int k) y))
theorem Gc{te:TE P}{out:cL}{k:IntKind}{xs:List (aQ k)}{o:Nat}(hT:te.id=T)(hx:ev F x=some v)(hv:eu e lab w a v)(ht:CU te.pt a=some ⟨k,xs,o⟩)(hr:ed (Ah k xs o) out)(tp:cm lab w)(hw:Wn ops F g)(hd:Nat.blt d N=true):
  LW P N ops [⟨some d,.load T x,ty,pos,af,g⟩] F w (Fin N F e nid lab w (some d) out):=by
 unfold CU at ht
 split at ht
 ·rename_i id o' kk T' n k1 X k' hpt
  split at ht
  ·rename_i hk
   cases ht
   have hk:=IntKind.eqb_eq hk
   subst hk
   unfold Ah at hr
   cases hr with
   |bnd hq hr=>
    rename_i q
    obtain rfl:=hr.ret_eq
    obtain⟨G,cs,b1,b2,b3⟩:=hv.2 _ rfl
    obtain⟨G',b4,rfl⟩:=hv.1
    have b1:(e id).oa=some ⟨G,0,none⟩:=b1
    rw[b1]at b4;cases b4
    subst hT
    have hok:zk P te.id (.int k):=by have:=te.ok;rw[hpt]at this;exact this
    obtain⟨h5,h6⟩:List.length (α:=aQ k) xs=n∧cs=List.map (fun y=>Value.int k (bH k y)) xs:=b3
    have hq':=uR hq
    have h7:cs[o]?=some (Value.int k (bH k q)):=by rw[h6,List.getElem?_map,hq'];rfl
    refine lC (t:=.int k) (u:=.int k) (q:=⟨G,o,none⟩) (o:=0) (X:=q) (cs:=[Value.int k (bH k q)]) hok (by rw[hx,bi]) rfl (fun j c hj=>?_) ?_ tp hw hd
    ·cases j with
     |succ j=>simp at hj
     |zero=>
      simp at hj
      subst hj
      rw[bi,b2.cell];exact h7
    ·exact yB (t:=.int k) (DU k) q
  ·cases ht
 ·cases ht
def Jj(t:PT)(a:RA):Option ((k:IntKind)×List (aQ k)×Nat×Nat×Nat×TypeId×Nat):=match a,t with
 | (.ptr id o,some (.box kb T (.ar n k) X)),.int k'=>match IntKind.eqb k k',Nat.beq kb 0 with
  |true,false=>some ⟨k,X,o,id,kb,T,n⟩
  |_,_=>none
 |_,_=>none
def u4(k:IntKind)(xs:List (aQ k))(o id kb:Nat)(T:TypeId)(n:Nat)(b:RA):aO:=match uN (.int k) b with
 |some Y=>.bnd (aQ k) (az xs (o:Int)) fun _=>.letm (List (aQ k)) (xs.set o Y) fun zs=>.ret ⟨.und,[kb],[(id,.box kb T (.ar n k) zs)],[]⟩
 |none=>.stuck
theorem BU{te:TE P}{out:cL}{k:IntKind}{xs:List (aQ k)}{o id kb n:Nat}{T2:TypeId}(hT:te.id=T)(hx:ev F x=some v)(hy:ev F y=some u)(hv:eu e lab w a v)(hu:eu e lab w b u)(ht:Jj te.pt a=some ⟨k,xs,o,id,kb,T2,n⟩)(hr:ed (u4 k xs o id kb T2 n b) out)(tp:cm lab w)(hw:Wn ops F g):
  LW P N ops [⟨none,.store T x y,ty,pos,af,g⟩] F w (Fin N F e nid lab w none out):=by
 subst hT
 unfold Jj at ht
 split at ht
 ·rename_i id' o' kk T' n' k1 X k' hpt
  split at ht
  ·rename_i hk hkb
   cases ht
   have hk:=IntKind.eqb_eq hk
   subst hk
   unfold u4 at hr
   split at hr
   ·rename_i Y hY
    have hd:=dt hu hY
    obtain⟨h1,h2⟩:=hv
    cases hr with
    |bnd hq hr=>
     cases hr with
     |letm hr=>
      obtain rfl:=hr.ret_eq
      obtain⟨G,cs,b1,b2,b3⟩:=h2 _ rfl
      obtain⟨G',b4,rfl⟩:=h1
      have b1:(e id).oa=some ⟨G,0,none⟩:=b1
      rw[b1]at b4;cases b4
      have hok:zk P te.id (.int k):=by have:=te.ok;rw[hpt]at this;exact this
      have h5:List.length (α:=aQ k) xs=n:=b3.1
      have hlt:o<n:=by rw[←h5];exact(List.getElem?_eq_some_iff.1 (uR hq)).1
      have hs:cW (.ar n k) o (.int k) xs Y=some (List.set (α:=aQ k) xs o Y):=by
       have hb:Nat.blt o n=true:=Nat.blt_eq.mpr hlt
       show(match bh (.int k) (.ar n k) Y with |some z=>(match Nat.beq o 0 with |true=>some z |false=>none) |none=>(match Nat.blt o n,bh (.int k) (.int k) Y with |true,some z=>some (List.set (α:=aQ k) xs o z) |_,_=>none))=_
       rw[yB (DU k),hb]
       rfl
      obtain⟨w',cs',r1,r2,r3,r4⟩:=xZ (P:=P) hkb hok b2 b3 hd hs tp
      refine LW.gen rfl hw fun q hq=>?_
      unfold Oper.wp
      simp only[execOp,hq.eval hx,hq.eval hy,Sem.run_bind,r1,Result.andThen_ok,Sem.run_pure,Oper.upon_skip]
      refine wpList_nil ⟨rfl,e,lab,undef,hq.none_ undef,fun _ _=>rfl,r2.stp (.inl (by simp)),rfl,fun p hp=>?_,fun p hp=>by simp at hp⟩
      simp at hp;subst hp
      exact⟨G,cs',b1,r3,r4⟩
   ·cases hr
  ·cases ht
 ·cases ht
def Lg{β:Type}(xs ys:List β):List β:=ys.take (min ys.length xs.length)++xs.drop (min ys.length xs.length)
theorem Ey{sz:Nat}: ∀(css:List (List Value)),(∀cs∈css,cs.length=sz)→∀n,css.flatten.take (n*sz)=(css.take n).flatten
 | [],_,n=>by simp
 |cs::css,h,0=>by simp
 |cs::css,h,n+1=>by
  have h1:cs.length=sz:=h cs (by simp)
  rw[List.flatten_cons,List.take_succ_cons,List.flatten_cons,List.take_append,List.take_of_length_le (by rw[h1,Nat.add_mul];omega),h1,show(n+1)*sz-sz=n*sz by rw[Nat.add_mul];omega,Ey css (fun c hc=>h c (by simp[hc])) n]
theorem Ej{sz:Nat}: ∀(css:List (List Value)),(∀cs∈css,cs.length=sz)→∀n,css.flatten.drop (n*sz)=(css.drop n).flatten
 | [],_,n=>by simp
 |cs::css,h,0=>by simp
 |cs::css,h,n+1=>by
  have h1:cs.length=sz:=h cs (by simp)
  rw[List.flatten_cons,List.drop_succ_cons,List.drop_append,List.drop_of_length_le (by rw[h1,Nat.add_mul];omega),h1,show(n+1)*sz-sz=n*sz by rw[Nat.add_mul];omega,Ej css (fun c hc=>h c (by simp[hc])) n,List.nil_append]
theorem I_{β:Type}{ρ:bF β}{k E S nb c c':Nat}{zv:Value}{oa oa':Option Addr}{xs ys:List β}(tp:cm lab w)(hk:Nat.beq k 0=false)(o:cY ρ lab w k E oa c xs)(f:zz ρ lab w oa' ys){E':TypeId}(hT:gv P T E' ρ.sz nb zv):
  ∃w',(Builtin.copy_ #[T,S] ty #[.slice oa xs.length c,.slice oa' ys.length c']).run P w = .ok (goInt ((min ys.length xs.length:Nat):Int)) w'∧i7 lab k w lab w'∧cY ρ lab w' k E oa c (Lg xs ys):=by
 obtain⟨i,hi,_,hsz,_⟩:=hT.info
 have run : ∀(vs:List Value) w',(Builtin.firstCells ρ.sz (min ys.length xs.length) (.slice oa' ys.length c')).run P w = .ok vs.toArray w→(∀a,oa=some a→(storeCells a vs).run P w = .ok () w')→(oa=none→w'=w)→(Builtin.copy_ #[T,S] ty #[.slice oa xs.length c,.slice oa' ys.length c']).run P w = .ok (goInt ((min ys.length xs.length:Nat):Int)) w':=by
  intro vs w' h1 h2 h3
  have hm:Nat.min ys.length xs.length=min ys.length xs.length:=rfl
  generalize min ys.length xs.length=m at hm h1⊢
  have hm3:min ys.length xs.length=m:=hm
  cases oa with
  |none=>
   obtain rfl:=h3 rfl
   simp[Builtin.copy_,run_underlying hT.und,Builtin.lenOf,sizeOf,typeInfo,hi,hsz,hm,h1]
  |some a=>simp[Builtin.copy_,run_underlying hT.und,Builtin.lenOf,sizeOf,typeInfo,hi,hsz,hm,h1,h2 a rfl]
 have zero:min ys.length xs.length=0→Lg xs ys=xs:=fun h=>by unfold Lg;rw[h];simp
 have first0:min ys.length xs.length=0→(Builtin.firstCells ρ.sz (min ys.length xs.length) (.slice oa' ys.length c')).run P w = .ok ([]:List Value).toArray w:=fun h=>by
  rw[h]
  cases oa' with
  |none=>rfl
  |some a=>
   show(loadCells a (0*ρ.sz)).run P w=_
   rw[Nat.zero_mul]
   exact run_loadCells_list w a [] (fun j v hj=>by simp at hj)
 by_cases h0:min ys.length xs.length=0
 ·refine⟨w,run [] w (first0 h0) (fun a _=>by simp[storeCells]) (fun _=>rfl),⟨rfl,rfl,rfl,Nat.le_refl _,fun _ _ _=>rfl,fun _ _=>rfl,tp⟩,?_⟩
  rw[zero h0];exact o
 ·obtain⟨f1,css',f2,f3⟩:=f
  obtain⟨css,a1,a2⟩:=o
  have hys:ys≠[]:=fun e=>by subst e;simp at h0
  obtain⟨a',ha'⟩ : ∃a',oa'=some a':=by
   cases h:oa' with
   |none=>exact absurd (f1 h) hys
   |some a=>exact⟨a,rfl⟩
  rcases a2 with⟨h,_,hx0⟩ | ⟨g',du,ha,hg,h3,h4,h5,h6,h7⟩
  ·subst hx0;simp at h0
  ·generalize hn:min ys.length xs.length=n at *
   have hn1:n≤ys.length:=by omega
   have hn2:n≤xs.length:=by omega
   have hlen':=fun cs h=>(f2.each cs h).1
   have hlen:=fun cs h=>(a1.each cs h).1
   have hvl:(css'.take n).flatten.length=n*ρ.sz:=by
    rw[eY _ (fun cs h=>hlen' cs (List.mem_of_mem_take h)),List.length_take,f2.len,Nat.min_eq_left hn1]
   have b:iI lab w k g' E du.toList:=⟨hg,h7⟩
   have hcap:xs.length*ρ.sz≤c*ρ.sz:=Nat.mul_le_mul_right _ h3
   have hnx:n*ρ.sz≤xs.length*ρ.sz:=Nat.mul_le_mul_right _ hn2
   obtain⟨w',hr,b',hs⟩:=er (P:=P) (css'.take n).flatten 0 du.toList w b (by rw[hvl];simp;omega) (fun u hu=>by
    obtain⟨cs,hcs,hu⟩:=List.mem_flatten.1 hu
    exact(f2.each cs (List.mem_of_mem_take hcs)).2 u hu) 0 0 rfl
   have hst:=hs tp hk
   subst ha' ha
   refine⟨w',run (css'.take n).flatten w' ?_ (fun a e=>by cases e;exact hr) (fun e=>by cases e),hst,css'.take n++css.drop n,?_,.inr ⟨g',_,rfl,b'.1,?_,h4,?_,?_,b'.2⟩⟩
   ·show(loadCells a' (n*ρ.sz)).run P w=_
    rw[←hvl]
    refine run_loadCells_list w a' _ fun j v hj=>f3 a' rfl j v ?_
    rw[←Ey css' hlen']at hj
    rw[List.getElem?_take]at hj
    split at hj
    ·exact hj
    ·cases hj
   ·unfold Lg
    rw[hn]
    exact cT.append ((cT.take (css:=([]:List (List Value))) n f2).keep hst.keeps) ((cT.drop n a1).keep hst.keeps)
   ·unfold Lg;rw[hn];simp;omega
   ·simp only[List.take_zero,List.nil_append,Nat.zero_add,hvl,List.size_toArray,List.length_append,List.length_drop,Array.length_toList];omega
   ·have hl:(Lg xs ys).length=xs.length:=by unfold Lg;rw[hn];simp;omega
    rw[hl,List.flatten_append,←Ej css hlen,←h6]
    simp only[List.take_zero,List.nil_append,Nat.zero_add,hvl]
    rw[List.take_append,List.take_of_length_le (by rw[hvl];exact hnx),hvl,List.drop_take]
def C0{P:Program}(se:SE P)(a b:RA):aO:=match Ie se.pt b,a with
 |some ys,(.own id,some (.row k E t xs))=>match Nat.beq k 0,bh (.sl t) (.sl se.pt) xs with
  |false,some xs=>.letm (List (den se.pt)) (Lg xs ys) fun zs=>.ret ⟨.dat (.int .i64) ((min ys.length xs.length:Nat):Int),[k],[(id,.row k E se.pt zs)],[]⟩
  |_,_=>.stuck
 |_,_=>.stuck
theorem Ib{se:SE P}{out:cL}(hT:se.id=T)(hx:ev F x=some v)(hy:ev F y=some u)(hv:eu e lab w a v)(hu:eu e lab w b u)(hr:ed (C0 se a b) out)(tp:cm lab w)(hw:Wn ops F g)(hd:Nat.blt d N=true):
  LW P N ops [⟨some d,.call { callee:=.builtin .copy,args:=#[x,y],argTypes:=#[T,T] },ty,pos,af,g⟩] F w (Fin N F e nid lab w (some d) out):=by
 subst hT
 unfold C0 at hr
 split at hr
 ·rename_i ys id k E t xs hys
  obtain⟨oa',c',rfl,hfl⟩:=As hu hys
  split at hr
  ·rename_i _ _ xs' hk hc
   obtain⟨h0,h1⟩:=ay hc
   have h0':t=se.pt:=by injection h0
   subst h0'
   have h1:xs=xs':=h1
   subst h1
   obtain⟨b1,b2,b3⟩:=hv.2 _ rfl
   have b1:(e id).n=xs.length:=b1
   have h2:v = .slice (e id).oa (e id).n (e id).c:=hv.1
   rw[b1]at h2
   subst h2
   cases hr with
   |letm hr=>
    obtain rfl:=hr.ret_eq
    obtain⟨w',r1,r2,r3⟩:=I_ (P:=P) (ty:=ty) (S:=se.id) (c':=c') tp hk b3 hfl se.ok.rep
    refine LW.val (w':=w') (v:=goInt ((min ys.length xs.length:Nat):Int)) rfl hw rfl hd (fun q hq=>?_) (LW.nil fun q hq=>⟨rfl,e,lab,_,hq,fun _ _=>rfl,r2.stp (.inl (by simp)),aV.ofInt (k:=.i64) _,fun p hp=>?_,fun p hp=>by simp at hp⟩)
    ·have e1:(#[x,y].map q.eval) = #[.slice (e id).oa xs.length (e id).c,.slice oa' ys.length c']:=by simp[hq.eval hx,hq.eval hy]
     simp only[execOp,resolve,e1,invoke,builtin,Sem.run_bind,Result.andThen_ok,Sem.run_pure]
     exact congrArg (fun r=>Result.andThen r fun a w'=>Result.ok (Next.value a) w') r1
    simp at hp;subst hp
    refine⟨?_,b2,r3⟩
    rw[b1];unfold Lg;simp;omega
  ·cases hr
 ·cases hr
def uO(sv:SV):aO:=match sv with
 | .dat (.cp t) y=>.bnd (den t) y fun _=>.ret (o1 (.dat (.cp t) y))
 |_=>.stuck
theorem Fy{out:cL}(hx:ev F x=some v)(hv:eu e lab w a v)(hr:ed (uO a.1) out)(tp:cm lab w)(hw:Wn ops F g)(hd:Nat.blt d N=true):
  LW P N ops [⟨some d,.nilCheck x,ty,pos,af,g⟩] F w (Fin N F e nid lab w (some d) out):=by
 obtain⟨sv,m⟩:=a
 unfold uO at hr
 dsimp only at hr
 split at hr
 ·rename_i t y'
  cases hr with
  |bnd hX hr=>
   rename_i X
   obtain rfl:=hr.ret_eq
   have hX:y'=some X:=hX
   subst hX
   have hv':=hv.1
   obtain⟨cs,⟨p,ds,h1,h2,h3⟩,h4⟩:=hv.1
   have h4:cs = [v]:=h4
   rw[h1]at h4
   simp at h4
   subst h4
   exact LW.nilCheck hw hd hx (ap tp hv')
 ·cases hr
def pC(off:Nat)(sv:SV):aO:=match sv with
 | .dat (.cp t) y=>.bnd (den t) y fun X=>.ret (o1 (.dptr t X off))
 |_=>.stuck
theorem FY{f off:Nat}{out:cL}(hf:vI P T f off)(hx:ev F x=some v)(hv:eu e lab w a v)(hr:ed (pC off a.1) out)(tp:cm lab w)(hw:Wn ops F g)(hd:Nat.blt d N=true):
  LW P N ops [⟨some d,.fieldAddr T x f,ty,pos,af,g⟩] F w (Fin N F e nid lab w (some d) out):=by
 obtain⟨sv,m⟩:=a
 unfold pC at hr
 dsimp only at hr
 split at hr
 ·rename_i t y'
  cases hr with
  |bnd hX hr=>
   rename_i X
   obtain rfl:=hr.ret_eq
   have hX:y'=some X:=hX
   subst hX
   obtain⟨cs,⟨p,ds,h1,h2,h3⟩,h4⟩:=hv.1
   have h4:cs = [v]:=h4
   rw[h1]at h4
   simp at h4
   subst h4
   refine LW.fldA hf hw hd hx (ap tp ?_)
   exact⟨p,ds,rfl,h2,h3⟩
 ·cases hr
end
structure MQ(P:Program) where
 id:TypeId
 kt:TypeId
 el:TypeId
 und:P.underlying id=some (.map kt el)
 ku:P.underlying kt=some (.int .i64)
 zok:mD P el (.pointer none)
 pu:P.underlying el=some (.pointer (P.pointee el))
def vc{P:Program}:List (MQ P)→TypeId→Option (MQ P)
 | [],_=>none
 |e::r,T=>match Nat.beq e.id T with
  |true=>some e
  |false=>vc r T
theorem sT{P:Program}: ∀{l:List (MQ P)} {T:TypeId} {e:MQ P},vc l T=some e→e.id=T
 | [],_,_,h=>by cases h
 |q::r,T,e,h=>by
  unfold vc at h
  split at h
  ·rename_i hb;cases h;exact Nat.eq_of_beq_eq_true hb
  ·exact sT h
def uG{P:Program}:List (MQ P)→TypeId→Option (MQ P)
 | [],_=>none
 |e::r,T=>match Nat.beq e.el T with
  |true=>some e
  |false=>uG r T
theorem uX{P:Program}: ∀{l:List (MQ P)} {T:TypeId} {e:MQ P},uG l T=some e→e.el=T
 | [],_,_,h=>by cases h
 |q::r,T,e,h=>by
  unfold uG at h
  split at h
  ·rename_i hb;cases h;exact Nat.eq_of_beq_eq_true hb
  ·exact uX h
def Md(G:Nat):List (Int×Nat)→Int→Value
 | [],_=>.pointer none
 |q::l,z=>bif z==q.1 then .pointer (some ⟨G,q.2,none⟩)else Md G l z
def Su(id:Nat)(z:Int):List (Int×Nat)→aO
 | []=>.ret (o1 .pnil)
 |q::l=>.cnd (BEq.beq (α:=Int) z q.1) (.ret (o1 (.ptr id q.2))) (Su id z l)
def E5(z:Int):List (Int×Nat)→Bool
 | []=>false
 |q::l=>BEq.beq (α:=Int) z q.1||E5 z l
theorem tm.push{G:Nat}{x:MapEntry}{q:Int×Nat}(hx:x.key = .int .i64 q.1∧x.val = .pointer (some ⟨G,q.2,none⟩)): ∀{es:List MapEntry} {l:List (Int×Nat)},tm G es l→tm G (es ++ [x]) (l ++ [q])
 | [],[],_=>⟨hx.1,hx.2,trivial⟩
 | [],_::_,h=>h.elim
 |_::_,[],h=>h.elim
 |_::_,_::_,h=>⟨h.1,h.2.1,tm.push hx h.2.2⟩
theorem Dc{G:Nat}(z:Int): ∀{es:List MapEntry} {l:List (Int×Nat)},tm G es l→∀i,(E5 z l=false∧Md G l z = .pointer none∧Instr.findNow (.int .i64) (.int .i64 z) es i=some none)∨∃j v,Instr.findNow (.int .i64) (.int .i64 z) es i=some (some (j,v))∧v=Md G l z∧E5 z l=true
 | [],[],_,i=>.inl ⟨rfl,rfl,rfl⟩
 | [],_::_,h,_=>h.elim
 |_::_,[],h,_=>h.elim
 |e::es,q::l,h,i=>by
  have hs:Instr.sameNow (.int .i64) (.int .i64 z) e.key=some (z==q.1):=by
   rw[h.1]
   show(if IntKind.i64=IntKind.i64 then some (z==q.1)else none)=_
   rw[if_pos rfl]
  have e1:Instr.findNow (.int .i64) (.int .i64 z) (e::es) i=match Instr.sameNow (.int .i64) (.int .i64 z) e.key with |some true=>some (some (i,e.val)) |some false=>Instr.findNow (.int .i64) (.int .i64 z) es (i+1) |none=>none:=rfl
  rw[e1,hs]
  unfold Md E5
  cases hz:z==q.1 with
  |true=>exact .inr ⟨i,e.val,rfl,h.2.1,rfl⟩
  |false=>exact Dc z h.2.2 (i+1)
section
variable {P : Program} {N : Nat} {ops : Array Oper} {F : List (Nat × Value)} {w w' : World} {e : f7} {lab lab' : bf} {nid : Nat} {d : Nat} {v u : Value}
variable {ty : TypeId} {pos : String} {af : Array Edge} {g : Option (Nat × Bool)} {x y z : Operand} {T : TypeId} {a b : RA}
theorem wA{kt:TypeId}(ku:P.underlying kt=some (.int .i64))(b:Bool)(n:Nat)(k:Int):(Instr.checkKey b (n+1) kt (.int .i64 k)).run P w = .ok () w:=by
 unfold Instr.checkKey
 simp[run_underlying ku]
theorem AE{me:MQ P}{G g:Nat}{es:Array MapEntry}{c:Nat}{l:List (Int×Nat)}(k:Int)(hh:w.heap[g]?=some (.map es c))(hm:tm G es.toList l):(Instr.lookup me.id (.map (some g)) (.int .i64 k) false).run P w = .ok (Md G l k) w:=by
 have hck : ∀b,(Instr.checkKey b 10000 me.kt (.int .i64 k)).run P w = .ok () w:=fun b=>wA me.ku b 9999 k
 rcases Dc k hm 0 with⟨_,h1,h2⟩ | ⟨j,v,h2,h1,_⟩
 ·rw[h1]
  simp[Instr.lookup,run_underlying me.und,getObj,Sem.run,hh,hck,Instr.findKey,run_underlying me.ku,h2,me.zok w,Result.andThen]
 ·rw[←h1]
  simp[Instr.lookup,run_underlying me.und,getObj,Sem.run,hh,hck,Instr.findKey,run_underlying me.ku,h2,Result.andThen]
theorem H4{me:MQ P}{G g:Nat}{es:Array MapEntry}{c:Nat}{l:List (Int×Nat)}(k:Int)(off:Nat)(hh:w.heap[g]?=some (.map es c))(hm:tm G es.toList l)(hz:E5 k l=false):
  (Instr.mapUpdate me.id (.map (some g)) (.int .i64 k) (.pointer (some ⟨G,off,none⟩))).run P w = .ok () { w with heap:=w.heap.setIfInBounds g (.map (es.push { key:=.int .i64 k,val:=.pointer (some ⟨G,off,none⟩),born:=c }) (c+1)) }:=by
 have hck : ∀b,(Instr.checkKey b 10000 me.kt (.int .i64 k)).run P w = .ok () w:=fun b=>wA me.ku b 9999 k
 rcases Dc k hm 0 with⟨_,_,h2⟩ | ⟨j,v,_,_,h2⟩
 ·simp[Instr.mapUpdate,run_underlying me.und,getObj,setObj,Sem.run,hh,hck,Instr.findKey,run_underlying me.ku,h2,Result.andThen]
 ·rw[hz]at h2;cases h2
theorem GJ{id:Nat}{z:Int}{out:cL}: ∀{l:List (Int×Nat)},ed (Su id z l) out→∃sv,out=o1 sv∧∀G,(e id).oa=some ⟨G,0,none⟩→RV e sv lab w (Md G l z)
 | [],h=>⟨.pnil,h.ret_eq,fun _ _=>rfl⟩
 |q::l,h=>by
  unfold Su at h
  unfold Md
  cases hz:z==q.1 with
  |true=>
   rw[hz]at h
   cases h with
   |t h=>exact⟨.ptr id q.2,h.ret_eq,fun G hG=>⟨G,hG,rfl⟩⟩
  |false=>
   rw[hz]at h
   cases h with
   |f h=>exact GJ h
def tD(a b:RA)(ok:Bool):aO:=match a.1,zR b,ok with
 | .mpq id l,some ⟨.i64,z⟩,false=>Su id z l
 |_,_,_=>.stuck
theorem AY{me:MQ P}{out:cL}{ok:Bool}(hT:me.id=T)(hx:ev F x=some v)(hy:ev F y=some u)(hv:eu e lab w a v)(hu:eu e lab w b u)(hr:ed (tD a b ok) out)(tp:cm lab w)(hw:Wn ops F g)(hd:Nat.blt d N=true):
  LW P N ops [⟨some d,.lookup T x y ok,ty,pos,af,g⟩] F w (Fin N F e nid lab w (some d) out):=by
 subst hT
 unfold tD at hr
 split at hr
 ·rename_i id l z ha hi
  obtain rfl:=gq hu hi
  have h1:=hv.1
  rw[ha]at h1
  obtain⟨G,gm,es,c,q1,rfl,q2,q3,q4,q5⟩:=h1
  obtain⟨sv,rfl,h2⟩:=GJ (e:=e) (lab:=lab) (w:=w) hr
  have hrun:=AE (P:=P) (me:=me) z q4 q5
  have hy:ev F y=some (.int .i64 z):=hy
  exact LW.val (v:=Md G l z) rfl hw rfl hd (fun q hq=>by simp[execOp,hq.eval hx,hq.eval hy,hrun]) (ap tp (h2 G q1))
 ·cases hr
def BZ:SV→Option Bool
 | .ptr _ _=>some false
 | .pnil=>some true
 |_=>none
def CH(o:BinOp)(s:SV):aO:=match o,BZ s with
 | .neq,some c=>.letm Bool (!c) qV
 | .eql,some c=>.letm Bool c qV
 |_,_=>.stuck
def G6:SV→Bool
 | .pnil=>true
 |_=>false
theorem FJ{s:SV}(h:G6 s=true):s = .pnil:=by cases s<;>first |rfl |cases h
theorem Iz{o:BinOp}{t':TypeId}{out:cL}{me:MQ P}(hT:me.el=T)(hx:ev F x=some v)(hy:ev F y=some u)(hv:eu e lab w a v)(hu:eu e lab w b u)(hb:b.1 = .pnil)(hr:ed (CH o a.1) out)(tp:cm lab w)(hw:Wn ops F g)(hd:Nat.blt d N=true):
  LW P N ops [⟨some d,.binOp o T x y t',ty,pos,af,g⟩] F w (Fin N F e nid lab w (some d) out):=by
 subst hT
 have h2:=hu.1
 rw[hb]at h2
 have h2:u = .pointer none:=h2
 subst h2
 have key : ∀c,BZ a.1=some c→((c=true∧v = .pointer none)∨(c=false∧∃p,v = .pointer (some p))):=by
  intro c hc
  have h1:=hv.1
  unfold BZ at hc
  split at hc
  ·rename_i id off ha
   rw[ha]at h1
   obtain⟨g,_,rfl⟩:=h1
   cases hc;exact .inr ⟨rfl,_,rfl⟩
  ·rename_i ha
   rw[ha]at h1
   cases hc;exact .inl ⟨rfl,h1⟩
  ·cases hc
 unfold CH at hr
 split at hr
 ·rename_i c hc
  cases hr with
  |letm hr=>
   obtain rfl:=hr.ret_eq
   have hp:=fun p=>run_neq_pointer_nil (P:=P) (w:=w) me.el p me.pu
   rcases key c hc with⟨rfl,rfl⟩ | ⟨rfl,p,rfl⟩
   ·exact LW.val rfl hw rfl hd (fun _ ha=>dg _ _ _ (ha.eval hx) (ha.eval hy) rfl (hp none)) (ap tp (aV.ofBool _))
   ·exact LW.val rfl hw rfl hd (fun _ ha=>dg _ _ _ (ha.eval hx) (ha.eval hy) rfl (hp (some p))) (ap tp (aV.ofBool _))
 ·rename_i c hc
  cases hr with
  |letm hr=>
   obtain rfl:=hr.ret_eq
   have hp:=fun p=>run_eql_pointer_nil (P:=P) (w:=w) me.el p me.pu
   rcases key c hc with⟨rfl,rfl⟩ | ⟨rfl,p,rfl⟩
   ·exact LW.val rfl hw rfl hd (fun _ ha=>dg _ _ _ (ha.eval hx) (ha.eval hy) rfl (hp none)) (ap tp (aV.ofBool _))
   ·exact LW.val rfl hw rfl hd (fun _ ha=>dg _ _ _ (ha.eval hx) (ha.eval hy) rfl (hp (some p))) (ap tp (aV.ofBool _))
 ·cases hr
end
section
variable {P : Program} {N : Nat} {ops : Array Oper} {F : List (Nat × Value)} {w w' : World} {e : f7} {lab lab' : bf} {nid : Nat} {d : Nat} {v u : Value}
variable {ty : TypeId} {pos : String} {af : Array Edge} {g : Option (Nat × Bool)} {x y z : Operand} {T : TypeId} {a b : RA}
theorem Sb{k:IntKind}{p:Addr}{X:List (aQ k)}(h:At lab w p (X.map fun y=>Value.int k (bH k y)))(hl:List.length (α:=aQ k) X≤maxLen):SL (bF.kd k) lab w (some p) (List.length (α:=aQ k) X) X:=
 ⟨Nat.le_refl _,hl,fun i q hq=>⟨p,[.int k (bH k q)],rfl,rfl,fun j u hj=>by
  have h1:(X.map fun y=>Value.int k (bH k y))[i]?=some (.int k (bH k q)):=by rw[List.getElem?_map,hq];rfl
  cases j with
  |succ j=>simp at hj
  |zero=>
   simp at hj
   subst hj
   have h2:=h i _ h1
   rw[ej,bi,show(bF.kd k).sz=1 from rfl,Nat.mul_one]
   exact h2⟩⟩
theorem Qb{k:IntKind}{p:Addr}{c:Nat}{X:List (aQ k)}(s:SL (bF.kd k) lab w (some p) c X):At lab w p (X.map fun y=>Value.int k (bH k y)):=by
 intro i u hi
 rw[List.getElem?_map]at hi
 obtain⟨q,hq,rfl⟩:=Option.map_eq_some_iff.1 hi
 obtain⟨ad,cs,h1,h2,h3⟩:=s.2.2 i q hq
 cases h1
 have h2:cs = [.int k (bH k q)]:=h2
 subst h2
 have h4:=h3 0 (.int k (bH k q)) rfl
 rw[ej,bi,show(bF.kd k).sz=1 from rfl,Nat.mul_one]at h4
 exact h4
theorem EO{k:IntKind}{n c:Nat}{oa:Option Addr}{X:List (aQ k)}(s:SL (bF.kd k) lab w oa c X)(hn:0<n)(hle:n≤X.length): ∃p,oa=some p∧At lab w p ((X.take n).map fun y=>Value.int k (bH k y))∧(X.take n).length=n:=by
 obtain⟨p,_,rfl,_⟩:=s.2.2 0 X[0] (List.getElem?_eq_getElem (by omega))
 refine⟨p,rfl,fun j u hj=>Qb s j u ?_,by rw[List.length_take];omega⟩
 rw[List.map_take,List.getElem?_take]at hj
 split at hj
 ·exact hj
 ·cases hj
def tw(n:Nat)(a:RA):aO:=match a with
 | (.dptr (.ar m k) X o,_)=>match Nat.beq m n&&(Nat.beq o 0&&Nat.ble n 4096)with
  |true=>.ret (o1 (.fsl k X))
  |false=>.stuck
 |_=>.stuck
theorem Bi{n:Nat}{out:cL}{E:TypeId}(hU:P.underlying T=some (.array n E))(hO:iS P E)(hx:ev F x=some v)(hv:eu e lab w a v)(hr:ed (tw n a) out)(tp:cm lab w)(hw:Wn ops F g)(hd:Nat.blt d N=true):
  LW P N ops [⟨some d,.slice T x none none none,ty,pos,af,g⟩] F w (Fin N F e nid lab w (some d) out):=by
 unfold tw at hr
 split at hr
 ·rename_i m k X o _
  split at hr
  ·rename_i hb
   simp only[Bool.and_eq_true]at hb
   obtain rfl:=Nat.eq_of_beq_eq_true hb.1
   obtain rfl:=Nat.eq_of_beq_eq_true hb.2.1
   have h4:m≤4096:=Nat.le_of_ble_eq_true hb.2.2
   obtain rfl:=hr.ret_eq
   obtain⟨p,cs,rfl,h2,h3⟩:=hv.1
   obtain⟨h5,h6⟩:List.length (α:=aQ k) X=m∧cs=List.map (fun y=>Value.int k (bH k y)) X:=h3
   rw[bi]at hx
   subst h6
   have hs:=Sb h2 (by rw[h5];unfold maxLen;omega)
   refine LW.val (v:=.slice (some p) m m) rfl hw rfl hd (fun aa ha=>?_) (ap tp ⟨p,by rw[h5],hs⟩)
   simp[execOp,ha.eval hx,Instr.sliceAt,run_underlying hU,Instr.sureAddr,Instr.sliceBounds,hO.size w,bi]
  ·cases hr
 ·cases hr
def mP{α:Type}(n:Nat)(xs:List α):Option (List α):=match Nat.ble n xs.length with
 |true=>some (xs.take n)
 |false=>none
def yT(n:Nat)(k:IntKind)(a:RA):aO:=match jw a with
 |some ⟨.sl (.int k'),X⟩=>match IntKind.eqb k' k&&Nat.blt 0 n with
  |true=>.bnd (List (aQ k')) (mP n X) fun Y=>.ret (o1 (.dptr (.ar n k') Y 0))
  |false=>.stuck
 |_=>.stuck
theorem EM{n:Nat}{k:IntKind}{out:cL}{E:TypeId}(hU:P.underlying T=some (.array n E))(hx:ev F x=some v)(hv:eu e lab w a v)(hr:ed (yT n k a) out)(tp:cm lab w)(hw:Wn ops F g)(hd:Nat.blt d N=true):
  LW P N ops [⟨some d,.sliceToArrayPointer T x,ty,pos,af,g⟩] F w (Fin N F e nid lab w (some d) out):=by
 unfold yT at hr
 split at hr
 ·rename_i k' X hX
  split at hr
  ·rename_i hb
   simp only[Bool.and_eq_true]at hb
   have hn:0<n:=Nat.blt_eq.mp hb.2
   cases hr with
   |bnd hY hr=>
    rename_i Y
    obtain rfl:=hr.ret_eq
    unfold mP at hY
    split at hY
    ·rename_i hle
     have hle:n≤List.length (α:=aQ k') X:=Nat.le_of_ble_eq_true hle
     cases hY
     obtain⟨oa,c,rfl,s⟩:=aV.sl (bu hv hX)
     obtain⟨p,rfl,ha,hl⟩:=EO (k:=k') (X:=X) s hn hle
     refine LW.val (v:=.pointer (some p)) rfl hw rfl hd (fun aa hs=>?_) (ap tp ⟨p,_,by rw[bi],ha,hl,rfl⟩)
     have hlt' : ¬(List.length (α:=den (.int k')) X<n):=Nat.not_lt_of_le hle
     simp[execOp,hs.eval hx,Instr.arrayAt,run_underlying hU,hlt']
    ·cases hY
  ·cases hr
 ·cases hr
def ut(k:IntKind):List (aQ k)→List (aQ k)→Bool
 |x::xs,y::ys=>(bH k x==bH k y)&&ut k xs ys
 | [],[]=>true
 |_,_=>false
theorem wa{el:TypeId}{k:IntKind}(hel:P.underlying el=some (.int k))(hO:iS P el)(dd:Nat): ∀(X Y:List (aQ k)) (pre pre':List Value),pre.length=pre'.length→X.length=Y.length→
  (Op.eqItems (dd+1) el 1 (pre++X.map fun y=>Value.int k (bH k y)).toArray (pre'++Y.map fun y=>Value.int k (bH k y)).toArray (List.range' pre.length X.length)).run P w = .ok (ut k X Y) w
 | [],[],_,_,_,_=>by simp[Op.eqItems,ut]
 | [],_::_,_,_,_,h=>by cases h
 |_::_,[],_,_,_,h=>by cases h
 |x::X,y::Y,pre,pre',hp,h=>by
  have ih:=wa hel hO dd X Y (pre ++ [.int k (bH k x)]) (pre' ++ [.int k (bH k y)]) (by simp[hp]) (by simpa using h)
  rw[List.append_assoc,List.append_assoc,List.length_append]at ih
  rw[List.length_cons,List.range'_succ]
  have g1:(pre++(x::X).map fun y=>Value.int k (bH k y)).toArray[pre.length*1]?=some (Value.int k (bH k x)):=by simp
  have g2:(pre'++(y::Y).map fun y=>Value.int k (bH k y)).toArray[pre.length*1]?=some (Value.int k (bH k y)):=by rw[hp];simp
  have r:=run_equalIn_int (P:=P) w dd el k k (bH k x) (bH k y) hel
  simp only[Op.eqItems,part,Sem.run_bind,hO.agg w,Result.andThen_ok,g1,g2,Sem.run_pure,r,Bool.false_eq_true,if_false,ut]
  cases hc:bH k x==bH k y with
  |false=>simp
  |true=>simpa using ih
structure QA(P:Program) where
 id:TypeId
 n:Nat
 k:IntKind
 el:TypeId
 und:P.underlying id=some (.array n el)
 iel:P.underlying el=some (.int k)
 one:iS P el
 inf:(P.info? el).isSome=true
 c1:P.cellsOf el=1
 gd:P.eqGuardType P.depth id=false
def zX{P:Program}:List (QA P)→TypeId→Option (QA P)
 | [],_=>none
 |e::r,T=>match Nat.beq e.id T with
  |true=>some e
  |false=>zX r T
theorem xP{P:Program}: ∀{l:List (QA P)} {T:TypeId} {e:QA P},zX l T=some e→e.id=T
 | [],_,_,h=>by cases h
 |q::r,T,e,h=>by
  unfold zX at h
  split at h
  ·rename_i hb;cases h;exact Nat.eq_of_beq_eq_true hb
  ·exact xP h
theorem A7(qa:QA P){X Y:List (aQ qa.k)}(hx:List.length (α:=aQ qa.k) X=qa.n)(hy:List.length (α:=aQ qa.k) Y=qa.n):
  (Op.equalIn 10000 qa.id (.agg (X.map fun y=>Value.int qa.k (bH qa.k y)).toArray) (.agg (Y.map fun y=>Value.int qa.k (bH qa.k y)).toArray)).run P w = .ok (ut qa.k X Y) w:=by
 obtain⟨i,hi⟩:=Option.isSome_iff_exists.1 qa.inf
 have hc:=qa.c1
 rw[show(10000:Nat)=9999+1 from rfl,run_equalIn_array w 9999 _ _ qa.und hi,hc,List.range_eq_range',←hx]
 exact wa qa.iel qa.one 9998 X Y [] [] rfl (hx.trans hy.symm)
def IP{P:Program}(qa:QA P)(o:BinOp)(a b:RA):aO:=
 match uN (.ar qa.n qa.k) a,uN (.ar qa.n qa.k) b,o with
 |some X,some Y,.eql=>.letm Bool (ut qa.k X Y) fun c=>.ret (o1 (.dat .bool c))
 |some X,some Y,.neq=>.letm Bool (!ut qa.k X Y) fun c=>.ret (o1 (.dat .bool c))
 |_,_,_=>.stuck
theorem yZ{n:Nat}{k:IntKind}{X:List (aQ k)}(h:aV (.ar n k) X lab w v):List.length (α:=aQ k) X=n∧v = .agg (X.map fun y=>Value.int k (bH k y)).toArray:=by
 obtain⟨cs,⟨h1,h2⟩,h3⟩:=h
 have h3:v = .agg cs.toArray:=h3
 exact⟨h1,by rw[h3,h2]⟩
theorem LU{qa:QA P}{o:BinOp}{t':TypeId}{out:cL}(hT:qa.id=T)(hx:ev F x=some v)(hy:ev F y=some u)(hv:eu e lab w a v)(hu:eu e lab w b u)(hr:ed (IP qa o a b) out)(tp:cm lab w)(hw:Wn ops F g)(hd:Nat.blt d N=true):
  LW P N ops [⟨some d,.binOp o T x y t',ty,pos,af,g⟩] F w (Fin N F e nid lab w (some d) out):=by
 subst hT
 unfold IP at hr
 split at hr
 ·rename_i X Y hX hY
  obtain⟨h1,rfl⟩:=yZ (dt hv hX)
  obtain⟨h2,rfl⟩:=yZ (dt hu hY)
  cases hr with
  |letm hr=>
   obtain rfl:=hr.ret_eq
   exact LW.val rfl hw rfl hd (fun _ ha=>rZ _ _ _ (ha.eval hx) (ha.eval hy) (run_eqGuard_agg w .eql qa.id x y _ _ qa.gd) (by rw[run_eql_struct,A7 qa h1 h2];rfl)) (ap tp (aV.ofBool _))
 ·rename_i X Y hX hY
  obtain⟨h1,rfl⟩:=yZ (dt hv hX)
  obtain⟨h2,rfl⟩:=yZ (dt hu hY)
  cases hr with
  |letm hr=>
   obtain rfl:=hr.ret_eq
   exact LW.val rfl hw rfl hd (fun _ ha=>rZ _ _ _ (ha.eval hx) (ha.eval hy) (run_eqGuard_agg w .neq qa.id x y _ _ qa.gd) (by rw[run_neq_struct,A7 qa h1 h2];rfl)) (ap tp (aV.ofBool _))
 ·cases hr
theorem uv{β:Type}{ρ:bF β}{p:Addr}{oa':Option Addr}{E c' k nb:Nat}{xs ys:List β}{zv:Value}(t:cm lab w)(hk0:Nat.beq k 0=false)(s1:SL ρ lab w (some p) xs.length xs)(s:zz ρ lab w oa' ys)(hy:ys≠[])(hT:gv P T E ρ.sz nb zv)(hb:Nat.ble nb 32768=true)(hl:xs.length+ys.length≤wZ)(ty:TypeId):
  ∃oa2 c2 lab2 w2,(Builtin.append_ #[T,T] ty #[.slice (some p) xs.length xs.length,.slice oa' ys.length c']).run P w = .ok (.slice oa2 (xs++ys).length c2) w2∧i7 lab k w lab2 w2∧cY ρ lab2 w2 k E oa2 c2 (xs++ys):=by
 obtain⟨i,hi,hz,hsz,hby⟩:=hT.info
 obtain⟨_,cx,cx1,cx2⟩:=s1.flat'
 obtain⟨hnil,ds,d1,d2⟩:=s
 obtain⟨ad,rfl⟩ : ∃ad,oa'=some ad:=by
  cases oa' with
  |none=>exact absurd (hnil rfl) hy
  |some ad=>exact⟨ad,rfl⟩
 have hb':nb≤32768:=by simpa using hb
 have hlen:ds.flatten.length=ys.length*ρ.sz:=by rw[eY ds (fun cs h=>(d1.each cs h).1),d1.len]
 have hlenx:cx.flatten.length=xs.length*ρ.sz:=by rw[eY cx (fun cs h=>(cx1.each cs h).1),cx1.len]
 have hone : ∀u∈ds.flatten,u.oneCell'=true:=fun u hu=>by
  obtain⟨cs,hcs,hu⟩:=List.mem_flatten.1 hu
  exact(d1.each cs hcs).2 u hu
 have hyl:0<ys.length:=by cases ys with |nil=>exact absurd rfl hy |cons _ _=>simp
 unfold wZ at hl
 obtain⟨v',w',hrun,hown',hg⟩:=run_append_arg_grows (P:=P) w T ty E i zv ρ.sz nb hT.und hi hz hsz hby hT.zn hT.pos p xs.length xs.length cx.flatten hlenx (cx2 p rfl) ad ys.length c' ds.flatten hlen (d2 ad rfl)
  (by omega) (by unfold maxLen;omega) (Nat.le_trans (Nat.mul_le_mul hl hb') (by decide))
 rcases hown'.2 with⟨_,h0⟩ | ⟨g,cap,du,rfl,hbase,hcur,hle,hmx,hsize,htake⟩
 ·omega
 ·have hgl:g<w'.heap.size:=(Array.getElem?_eq_some_iff.1 hcur).1
  have hbase:w.heap.size≤g:=hbase
  let lab2:bf:=fun b=>if b=g then k else lab b
  have ste:i7 lab k w lab2 w':=by
   refine⟨hg.os,hg.tape,hg.output,hg.size,fun b hb h=>hg.block b hb (fun e=>by cases e),fun b hb=>?_,fun b hb=>?_⟩
   ·simp only[lab2];rw[if_neg (by omega)]
   ·simp only[lab2];rw[if_neg (by omega)];exact t b (Nat.le_trans hg.size hb)
  exact⟨some ⟨g,0,none⟩,cap,lab2,w',by rw[List.length_append];exact hrun,ste,cx++ds,(cx1.append d1).keep ste.keeps,.inr ⟨g,du,rfl,hcur,by rw[List.length_append];exact hle,hmx,hsize,by rw[List.length_append,htake,List.flatten_append],by simp[lab2]⟩⟩
def JR{α:Type}(xs ys:List α):Option (List α):=match ys with
 | []=>none
 |y::r=>app xs (y::r)
def DN:RA→Option ((k:IntKind)×List (aQ k))
 | (.fsl k X,_)=>some ⟨k,X⟩
 |_=>none
theorem I5{a:RA}{k:IntKind}{X:List (aQ k)}(h:DN a=some ⟨k,X⟩):a.1 = .fsl k X:=by
 unfold DN at h
 split at h
 ·cases h;rfl
 ·cases h
def sX{P:Program}(se:SE P)(nid k0:Nat)(owned:Bool)(k:IntKind)(X:List (aQ k))(b:RA):aO:=
 match Ie se.pt b,bh (.sl (.int k)) (.sl se.pt) X,Nat.beq k0 0 with
 |some ys,some xs,false=>.bnd (List (den se.pt)) (JR xs ys) fun zs=>.ret (jT nid k0 se.el se.pt owned [k0] zs)
 |_,_,_=>.stuck
theorem Ax{se:SE P}{out:cL}{k0:Nat}{owned:Bool}{k:IntKind}{X:List (aQ k)}(hT:se.id=T)(hx:ev F x=some v)(hy:ev F y=some u)(hv:eu e lab w a v)(hf:DN a=some ⟨k,X⟩)(hu:eu e lab w b u)(hr:ed (sX se nid k0 owned k X b) out)(tp:cm lab w)(hw:Wn ops F g)(hd:Nat.blt d N=true):
  LW P N ops [⟨some d,.call { callee:=.builtin .append,args:=#[x,y],argTypes:=#[T,T] },ty,pos,af,g⟩] F w (Fin N F e nid lab w (some d) out):=by
 subst hT
 unfold sX at hr
 split at hr
 ·rename_i ys xs hys hxs hk
  obtain⟨oa',c',rfl,hfl⟩:=As hu hys
  obtain⟨h0,h1⟩:=ay hxs
  have h2:=hv.1
  rw[I5 hf]at h2
  obtain⟨p,rfl,s⟩:=h2
  have h0':PT.int k=se.pt:=by injection h0
  cases hr with
  |bnd hz hr=>
   rename_i zs
   obtain rfl:=hr.ret_eq
   unfold JR at hz
   split at hz
   ·cases hz
   ·rename_i ys' y0 r
    have hne:y0::r≠[]:=by simp
    generalize y0::r=q at *
    obtain⟨hl,rfl⟩:=lL hz
    have s':SL (rep (.int k)) lab w (some p) (List.length (α:=den (.int k)) X) X:=s
    have key : ∀(q:PT) (e:PT.int k=q) (Z:List (den q)),(e▸X:List (den q))=Z→SL (rep q) lab w (some p) Z.length Z∧Z.length=List.length (α:=aQ k) X:=by
     intro q e Z hZ
     subst e
     subst hZ
     exact⟨s',rfl⟩
    have h1':(h0'▸X:List (den se.pt))=xs:=by
     rw[←h1]
     have gen : ∀(q:PT) (e:PT.int k=q) (e2:PT.sl (.int k) = .sl q),(e▸X:List (den q))=(e2▸X:den (.sl q)):=by
      intro q e e2
      subst e
      rfl
     exact gen _ h0' h0
    obtain⟨s2,s3⟩:=key _ h0' xs h1'
    obtain⟨oa2,c2,lab2,w2,hrun,hs,ho⟩:=uv (P:=P) (c':=c') tp hk s2 hfl hne se.ok.rep se.hb hl ty
    rw[s3]at hrun
    exact LW.val rfl hw rfl hd (fun a ha=>by simp[execOp,resolve,invoke,builtin,ha.eval hx,ha.eval hy,hrun]) (mh hs ho)
 ·cases hr
end
def Cl:(k:IntKind)→Int→Option (aQ k)
 | .i64,n=>some n | .i32,n=>some n | .i16,n=>some n | .i8,n=>some n | .u16,n=>some n
 | .u8,n=>match decide (bH .u8 (aj n)=n)with |true=>some (aj n) |false=>none
 | .u64,n=>match decide (bH .u64 (ab n)=n)with |true=>some (ab n) |false=>none
 | .u32,n=>match decide (bH .u32 (lk n)=n)with |true=>some (lk n) |false=>none
theorem Gd{k:IntKind}{n:Int}{x:aQ k}(h:Cl k n=some x):bH k x=n:=by
 cases k<;>first | (cases h;rfl) | (unfold Cl at h;simp only at h;split at h;(rename_i hd;cases h;exact of_decide_eq_true hd);cases h)
def Jd:List Value→Bool
 | [.int .i64 (.ofNat a),.int .u64 (.ofNat b),.slice none c d,.slice none e f]=>Nat.beq a 0&&(Nat.beq b 0&&(Nat.beq c 0&&(Nat.beq d 0&&(Nat.beq e 0&&Nat.beq f 0))))
 |_=>false
theorem Gx{l:List Value}(h:Jd l=true):l=zc .tree:=by
 unfold Jd at h
 split at h
 ·simp only[Bool.and_eq_true]at h
  obtain⟨h1,h2,h3,h4,h5,h6⟩:=h
  rw[Nat.eq_of_beq_eq_true h1,Nat.eq_of_beq_eq_true h2,Nat.eq_of_beq_eq_true h3,Nat.eq_of_beq_eq_true h4,Nat.eq_of_beq_eq_true h5,Nat.eq_of_beq_eq_true h6]
  rfl
 ·cases h
def zK:Value→Option SV
 | .agg cs=>match Jd cs.toList with |true=>some (.dat .tree (zt .tree)) |false=>none
 | .int k n=>match Cl k n with |some x=>some (.dat (.int k) x) |none=>none
 | .bool b=>some (.dat .bool b)
 | .string s=>some (.dat .str s.data.toList)
 | .slice none 0 0=>some .nil
 | .pointer none=>some .pnil
 | .nilFunc=>some (.dat (.clo 0 .un) none)
 | .nilIface=>some (.dat .err false)
 | .float .f64 n=>match Nat.blt n 18446744073709551616 with |true=>some (.dat .fl (UInt64.ofNat n)) |false=>none
 |_=>none
def Ay:SV→Option Nat
 | .agh _ _ _ id=>some id | .clb _ id=>some id | .mp id=>some id | .ptr id _=>some id | .own id=>some id | .eptr id _ _=>some id | .rix id=>some id | .rlen id=>some id | .rsl id=>some id | .rnx id=>some id | .rcn id=>some id |_=>none
def lU(ps:PS)(sv:SV):Option dq:=
 match Ay sv with
 |none=>none
 |some id=>match aL ps.mem id with
  |some (_,m)=>some m
  |none=>none
def br(ps:PS):Operand→Option RA
 | .tmp t=>match aL ps.sl t with
  |some (_,sv)=>some (sv,lU ps sv)
  |none=>none
 | .const v=>match zK v with
  |some sv=>some (sv,none)
  |none=>none
 | .func f=>some (.dat (.clo f .un) (some ()),none)
 | .global _=>none
section
variable {P : Program} {N : Nat} {ops : Array Oper} {F : List (Nat × Value)} {w w' : World} {e : f7} {lab lab' : bf} {ps : PS} {v : Value} {a : RA}
theorem FK{sv:SV}(h:zK v=some sv):RV e sv lab w v:=by
 unfold zK at h
 split at h
 ·rename_i cs
  split at h
  ·rename_i hz
   cases h
   exact⟨zc .tree,fA _ _ .tree,by show Value.agg cs = .agg (zc .tree).toArray;rw[←Gx hz]⟩
  ·cases h
 ·split at h
  ·rename_i x hx
   cases h
   rw[←Gd hx];exact aV.ofInt x
  ·cases h
 ·cases h;exact aV.ofBool _
 ·rename_i s
  cases h
  have:(Value.string s)=dG s.data.toList:=by simp[dG]
  rw[this];exact aV.ofStr _
 ·cases h;rfl
 ·cases h;rfl
 ·cases h;exact⟨[.nilFunc],rfl,rfl⟩
 ·cases h;exact⟨[.nilIface],rfl,rfl⟩
 ·rename_i n
  split at h
  ·rename_i hn
   cases h
   have hn:n<18446744073709551616:=Nat.blt_eq.mp hn
   exact⟨[.float .f64 n],by show [Value.float .f64 n] = [.float .f64 (UInt64.ofNat n).toNat];rw[UInt64.toNat_ofNat_of_lt' hn],rfl⟩
  ·cases h
 ·cases h
theorem IH{sv:SV}{id:Nat}(h:Ay sv=some id):N4 sv=id:=by cases sv<;>first | (cases h;rfl) |cases h
theorem rE(h:rb e ps F lab w){sv:SV}{m:dq}(hm:lU ps sv=some m):bg e lab w (N4 sv) m:=by
 unfold lU at hm
 split at hm
 ·cases hm
 ·rename_i id hid
  split at hm
  ·rename_i st m' hf
   cases hm
   rw[IH hid]
   exact h.mem _ _ _ (am hf)
  ·cases hm
theorem aF(h:rb e ps F lab w){x:Operand}(hx:br ps x=some a): ∃v,ev F x=some v∧eu e lab w a v:=by
 unfold br at hx
 split at hx
 ·rename_i t
  split at hx
  ·rename_i st sv hf
   cases hx
   obtain⟨v,hv,hr⟩:=h.sl _ _ _ (am hf)
   exact⟨v,hv,hr,fun m hm=>rE h hm⟩
  ·cases hx
 ·rename_i v
  split at hx
  ·rename_i sv hs
   cases hx
   exact⟨v,rfl,FK hs,fun m hm=>by cases hm⟩
  ·cases hx
 ·rename_i f
  cases hx
  exact⟨_,rfl,⟨[.func (.func f) #[] #[]],⟨[],rfl,rfl⟩,rfl⟩,fun m hm=>by cases hm⟩
 ·cases hx
theorem lV(wf:WF ps){x:Operand}(hx:br ps x=some a): ∀i∈gZ a.1,i<ps.nxt:=by
 unfold br at hx
 split at hx
 ·split at hx
  ·rename_i st sv hf
   cases hx
   exact(wf.sl _ _ _ (am hf)).2
  ·cases hx
 ·split at hx
  ·rename_i v sv hs
   cases hx
   intro i hi
   unfold zK at hs
   split at hs
   ·split at hs
    ·cases hs;simp[gZ,jN]at hi
    ·cases hs
   all_goals first | (cases hs;done) | (cases hs;simp[gZ,jN]at hi) | (split at hs<;>first | (cases hs;done) | (cases hs;simp[gZ,jN]at hi))
  ·cases hx
 ·cases hx
  intro i hi
  simp[gZ,jN]at hi
 ·cases hx
theorem Hi(wf:WF ps){x:Operand}(hx:br ps x=some a): ∀m,a.2=some m→∀j∈fi m,j<ps.nxt:=by
 unfold br at hx
 split at hx
 ·split at hx
  ·rename_i st sv hf
   cases hx
   intro m hm
   have hm:lU ps sv=some m:=hm
   unfold lU at hm
   split at hm
   ·cases hm
   ·split at hm
    ·rename_i st' m' hf'
     cases hm
     exact(wf.mem _ _ _ (am hf')).2.2
    ·cases hm
  ·cases hx
 ·split at hx
  ·cases hx;intro m hm;cases hm
  ·cases hx
 ·cases hx;intro m hm;cases hm
 ·cases hx
def nQ(ps:PS):List Operand→Option (List RA)
 | []=>some []
 |x::xs=>match br ps x,nQ ps xs with
  |some a,some as=>some (a::as)
  |_,_=>none
theorem ml(h:rb e ps F lab w): ∀{xs:List Operand} {as:List RA},nQ ps xs=some as→∃vs,gB F e lab w xs as vs
 | [],as,hx=>by cases hx;exact⟨[],.nil⟩
 |x::xs,as,hx=>by
  unfold nQ at hx
  split at hx
  ·rename_i a as' ha has
   cases hx
   obtain⟨v,h1,h2⟩:=aF h ha
   obtain⟨vs,h3⟩:=ml h has
   exact⟨v::vs,.cons h1 h2 h3⟩
  ·cases hx
def Al(ps:PS):List (Nat×Operand)→Option (List (Nat×RA))
 | []=>some []
 | (i,x)::xs=>match br ps x,Al ps xs with
  |some a,some as=>some ((i,a)::as)
  |_,_=>none
theorem uU(h:rb e ps F lab w): ∀{xs:List (Nat×Operand)} {as:List (Nat×RA)},Al ps xs=some as→∃vs,fw F e lab w xs as vs
 | [],as,hx=>by cases hx;exact⟨[],.nil⟩
 | (i,x)::xs,as,hx=>by
  unfold Al at hx
  split at hx
  ·rename_i a as' ha has
   cases hx
   obtain⟨v,h1,h2⟩:=aF h ha
   obtain⟨vs,h3⟩:=uU h has
   exact⟨(i,v)::vs,.cons h1 h2 h3⟩
  ·cases hx
theorem t7(wf:WF ps){xs:List Operand}: ∀{qs:List PK} {as:List RA} {c:CA qs},nQ ps xs=some as→aN qs as=some c→∀p,c.po=some p→p.1<ps.nxt:=by
 induction xs with
 |nil=>
  intro qs as c h hc p hp
  cases h
  cases qs with
  |nil=>cases hc;cases hp
  |cons q qs=>cases q<;>cases hc
 |cons x xs ih=>
  intro qs as c h hc p hp
  unfold nQ at h
  split at h
  ·rename_i a as' ha has
   cases h
   cases qs with
   |nil=>cases hc
   |cons q qs=>
   cases q with
   |d t=>
    unfold aN at hc
    split at hc
    ·cases hc
    ·rename_i c' hc'
     split at hc
     ·cases hc;exact ih has hc' p hp
     ·split at hc
      ·cases hc;exact ih has hc' p hp
      ·cases hc
   |p T t=>
    unfold aN at hc
    split at hc
    ·cases hc
    ·split at hc
     ·split at hc
      ·cases hc
       cases hp
       exact lV wf ha _ (by simp[gZ,jN])
      ·cases hc
     ·cases hc
   |r E t=>
    unfold aN at hc
    split at hc
    ·cases hc
    ·split at hc
     ·split at hc
      ·cases hc;cases hp
      ·cases hc
     ·cases hc;cases hp
     ·cases hc
  ·cases h
end
section
variable {ps : PS}
theorem rX : ∀{t:PT} {x:den t} {cs:List RA} {qs:List PK} {c:CA qs},tS t x=some cs→aN qs cs=some c→c.po=none
 | .un,x,cs,qs,c,h,hc=>by
  cases h
  cases qs with
  |nil=>cases hc;rfl
  |cons q qs=>cases q<;>cases hc
 | .pr (.cp a) b,x,cs,qs,c,h,hc=>by
  unfold tS at h
  split at h
  ·rename_i r hb
   cases h
   cases qs with
   |nil=>cases hc
   |cons q qs=>
    cases q with
    |d t=>
     unfold aN at hc
     split at hc
     ·cases hc
     ·rename_i c' hc'
      have ih:=rX hb hc'
      split at hc
      ·cases hc;exact ih
      ·split at hc
       ·cases hc;exact ih
       ·cases hc
    |p T t=>
     unfold aN at hc
     split at hc
     ·cases hc
     ·cases hc
    |r E t=>
     unfold aN at hc
     split at hc
     ·cases hc
     ·split at hc<;>first | (cases hc;done) |contradiction |skip
      all_goals (rename_i h2;cases h2)
  ·cases h
 | .int _,_,_,_,_,h,_=>by cases h
 | .bool,_,_,_,_,h,_=>by cases h
 | .str,_,_,_,_,h,_=>by cases h
 | .sl _,_,_,_,_,h,_=>by cases h
 | .st _,_,_,_,_,h,_=>by cases h
 | .cp _,_,_,_,_,h,_=>by cases h
 | .clo _ _,_,_,_,_,h,_=>by cases h
 | .tree,_,_,_,_,h,_=>by cases h
 | .err,_,_,_,_,h,_=>by cases h
 | .fl,_,_,_,_,h,_=>by cases h
 | .f4,_,_,_,_,h,_=>by cases h
 | .ar _ _,_,_,_,_,h,_=>by cases h
 | .pr (.int _) _,_,_,_,_,h,_=>by cases h
 | .pr .bool _,_,_,_,_,h,_=>by cases h
 | .pr .str _,_,_,_,_,h,_=>by cases h
 | .pr (.sl _) _,_,_,_,_,h,_=>by cases h
 | .pr (.pr _ _) _,_,_,_,_,h,_=>by cases h
 | .pr (.st _) _,_,_,_,_,h,_=>by cases h
 | .pr .un _,_,_,_,_,h,_=>by cases h
 | .pr (.clo _ _) _,_,_,_,_,h,_=>by cases h
 | .pr .tree _,_,_,_,_,h,_=>by cases h
 | .pr .err _,_,_,_,_,h,_=>by cases h
 | .pr .fl _,_,_,_,_,h,_=>by cases h
 | .pr .f4 _,_,_,_,_,h,_=>by cases h
 | .pr (.ar _ _) _,_,_,_,_,h,_=>by cases h
theorem rS{n:Nat}: ∀{qs:List PK} {as:List RA} {c:CA qs},aN qs as=some c→(∀a∈as,∀i∈gZ a.1,i<n)→∀p,c.po=some p→p.1<n
 | [],[],c,h,_,p,hp=>by cases h;cases hp
 | [],_::_,c,h,_,_,_=>by cases h
 | .d t::ps,[],c,h,_,_,_=>by cases h
 | .p T t::ps,[],c,h,_,_,_=>by cases h
 | .r T t::ps,[],c,h,_,_,_=>by cases h
 | .d t::ps,a::as,c,h,hi,p,hp=>by
  unfold aN at h
  split at h
  ·cases h
  ·rename_i c' hc
   have ih:=rS hc fun a ha=>hi a (by simp[ha])
   split at h
   ·cases h;exact ih p hp
   ·split at h
    ·cases h;exact ih p hp
    ·cases h
 | .p T t::ps,a::as,c,h,hi,p,hp=>by
  unfold aN at h
  split at h
  ·cases h
  ·split at h
   ·split at h
    ·cases h;cases hp
     exact hi _ List.mem_cons_self _ (List.mem_singleton.2 rfl)
    ·cases h
   ·cases h
 | .r E t::ps,a::as,c,h,hi,p,hp=>by
  unfold aN at h
  split at h
  ·cases h
  ·split at h
   ·split at h
    ·cases h;cases hp
    ·cases h
   ·cases h;cases hp
   ·cases h
theorem Ea(wf:WF ps): ∀{xs:List Operand} {as:List RA},nQ ps xs=some as→∀a∈as,∀i∈gZ a.1,i<ps.nxt
 | [],as,h,a,ha=>by cases h;cases ha
 |x::xs,as,h,a,ha=>by
  unfold nQ at h
  split at h
  ·rename_i b bs hb hbs
   cases h
   rcases List.mem_cons.1 ha with rfl |ha
   ·exact fun i hi=>lV wf hb i hi
   ·exact Ea wf hbs a ha
  ·cases h
theorem zJ(wf:WF ps){t:PT}{x:den t}{cs:List RA}(hcs:tS t x=some cs){xs:List Operand}: ∀{qs:List PK} {as:List RA} {c:CA qs},nQ ps xs=some as→aN qs (as++cs)=some c→∀p,c.po=some p→p.1<ps.nxt:=by
 induction xs with
 |nil=>
  intro qs as c h hc p hp
  cases h
  rw[List.nil_append]at hc
  rw[rX hcs hc]at hp;cases hp
 |cons x xs ih=>
  intro qs as c h hc p hp
  unfold nQ at h
  split at h
  ·rename_i a as' ha has
   cases h
   cases qs with
   |nil=>cases hc
   |cons q qs=>
   cases q with
   |d t=>
    rw[List.cons_append]at hc
    unfold aN at hc
    split at hc
    ·cases hc
    ·rename_i c' hc'
     split at hc
     ·cases hc;exact ih has hc' p hp
     ·split at hc
      ·cases hc;exact ih has hc' p hp
      ·cases hc
   |p T t=>
    rw[List.cons_append]at hc
    unfold aN at hc
    split at hc
    ·cases hc
    ·split at hc
     ·split at hc
      ·cases hc
       cases hp
       exact lV wf ha _ (by simp[gZ,jN])
      ·cases hc
     ·cases hc
   |r E t=>
    rw[List.cons_append]at hc
    unfold aN at hc
    split at hc
    ·cases hc
    ·split at hc
     ·split at hc
      ·cases hc;cases hp
      ·cases hc
     ·cases hc;cases hp
     ·cases hc
  ·cases h
end
structure Sp(P:Program) where
 fid:FuncId
 clo:Nat
 ift:TypeId
 el:TypeId
 pt:PT
 rel:List (den pt)→List (den pt)→Prop
 und:P.underlying ift=some (.slice el)
 fn:OJ P fid
 ok : ∀{lab:bf} {w:World} {k c G:Nat} {oa:Option Addr} {xs:List (den pt)},xs.length≤wZ→cm lab w→GL lab w→k≠0→cY (rep pt) lab w k el oa c xs→w.cell? ⟨G,0,none⟩=some (.slice oa xs.length c)→lab G≠k→lab G≠0→
  Calls P fid #[.iface ift (.slice oa xs.length c),.func (.func clo) #[] #[.pointer (some ⟨G,0,none⟩)]] w fun e' w'=>e' = .returned (.tuple #[])∧∃lab' ys,rel xs ys∧ys.length=xs.length∧gu [k] lab w lab' w'∧cY (rep pt) lab' w' k el oa c ys
structure XE(P:Program) where
 id:FuncId
 src:PT
 dst:PT
 f:den src→den dst
 ok : ∀(x:den src) (v:Value) (lab:bf) (w:World),aV src x lab w v→∃v',(callFunc id #[v]).run P w = .ok (.value v') w∧aV dst (f x) lab w v'
def zg{P:Program}:List (XE P)→FuncId→Option (XE P)
 | [],_=>none
 |c::r,f=>match Nat.beq c.id f with
  |true=>some c
  |false=>zg r f
theorem yx{P:Program}: ∀{l:List (XE P)} {f:FuncId} {c:XE P},zg l f=some c→c.id=f
 | [],_,_,h=>by cases h
 |q::r,f,c,h=>by
  unfold zg at h
  split at h
  ·rename_i hb;cases h;exact Nat.eq_of_beq_eq_true hb
  ·exact yx h
def Pv{P:Program}(xe:XE P)(a:RA):aO:=match uN xe.src a with
 |some x=>.letm (den xe.dst) (xe.f x) fun y=>.ret (o1 (.dat xe.dst y))
 |none=>.stuck
theorem OQ{P:Program}{N:Nat}{ops:Array Oper}{F:List (Nat×Value)}{w:World}{lab:bf}{e:f7}{nid d:Nat}{a:RA}{vs:List Value}{xs:List Operand}{ts:Array TypeId}{ty:TypeId}{pos:String}{af:Array Edge}{g:Option (Nat×Bool)}{xe:XE P}{out:cL}(ha:gB F e lab w xs [a] vs)(hr:ed (Pv xe a) out)(tp:cm lab w)(hw:Wn ops F g)(hd:Nat.blt d N=true):
  LW P N ops [⟨some d,.call { callee:=.value (.func xe.id),args:=xs.toArray,argTypes:=ts },ty,pos,af,g⟩] F w (Fin N F e nid lab w (some d) out):=by
 cases ha with
 |cons hx hv h4=>
 cases h4
 rename_i x v
 unfold Pv at hr
 split at hr
 ·rename_i z hz
  obtain⟨v',h1,h2⟩:=xe.ok z v lab w (dt hv hz)
  cases hr with
  |letm hr=>
   obtain rfl:=hr.ret_eq
   exact LW.val rfl hw rfl hd (fun q hq=>by
    have e:([x].toArray.map q.eval) = #[v]:=by simp[hq.eval hx]
    simp only[execOp,resolve,e,Act.eval,Deferred.ofValue,invoke,Sem.run_bind,Sem.run_pure,Result.andThen_ok]
    have e2:(#[] ++ #[v] ++ #[]:Array Value) = #[v]:=by simp
    rw[e2,h1]) (ap (sv:=.dat xe.dst (xe.f z)) tp h2)
 ·cases hr
structure XM(P:Program) where
 id:FuncId
 ps:List PT
 rs:List PT
 m:du (ps.map PK.d) (Option (na (rs.map RK.d)))
 ok : ∀(a:hl (ps.map PK.d)) r (vs:List Value) (lab:bf) (w:World),qm (ps.map PK.d) m a=some r→ew 0 0 lab w (ps.map PK.d) a vs→∃us,(callFunc id vs.toArray).run P w = .ok (.value (uD us)) w∧f5 0 0 0 lab w (rs.map RK.d) (ef _ r) us
def ze{P:Program}:List (XM P)→FuncId→Option (XM P)
 | [],_=>none
 |c::r,f=>match Nat.beq c.id f with
  |true=>some c
  |false=>ze r f
theorem xN{P:Program}: ∀{l:List (XM P)} {f:FuncId} {c:XM P},ze l f=some c→c.id=f
 | [],_,_,h=>by cases h
 |q::r,f,c,h=>by
  unfold ze at h
  split at h
  ·rename_i hb;cases h;exact Nat.eq_of_beq_eq_true hb
  ·exact xN h
def Bk:(ps:List PT)→List RA→Option (hl (ps.map PK.d))
 | [],[]=>some ()
 |t::ps,a::as=>match uN t a,Bk ps as with
  |some x,some xs=>some (x,xs)
  |_,_=>none
 |_,_=>none
theorem vF{F:List (Nat×Value)}{w:World}{lab:bf}{e:f7}: ∀{ps:List PT} {as:List RA} {xs:List Operand} {vs:List Value} {x:hl (ps.map PK.d)},gB F e lab w xs as vs→Bk ps as=some x→ew 0 0 lab w (ps.map PK.d) x vs
 | [],[],_,_,_,.nil,_=>trivial
 | [],_::_,_,_,_,_,h=>by cases h
 |_::_,[],_,_,_,_,h=>by cases h
 |t::ps,a::as,_,_,x,.cons h1 h2 h3,h=>by
  unfold Bk at h
  split at h
  ·rename_i y ys hy hys
   cases h
   exact⟨dt h2 hy,vF h3 hys⟩
  ·cases h
theorem wq : ∀(rs:List PT),dI (rs.map RK.d)=0
 | []=>rfl
 |_::rs=>wq rs
def ML{P:Program}(xm:XM P)(as:List RA):aO:=match Bk xm.ps as with
 |some x=>.bnd (na (xm.rs.map RK.d)) (qm (xm.ps.map PK.d) xm.m x) fun r=>.ret (o1 (DA (oU 0 (xm.rs.map RK.d) (ef _ r))))
 |none=>.stuck
theorem Pf{P:Program}{N:Nat}{ops:Array Oper}{F:List (Nat×Value)}{w:World}{lab:bf}{e:f7}{nid d:Nat}{as:List RA}{vs:List Value}{xs:List Operand}{ts:Array TypeId}{ty:TypeId}{pos:String}{af:Array Edge}{g:Option (Nat×Bool)}{xm:XM P}{out:cL}(ha:gB F e lab w xs as vs)(hr:ed (ML xm as) out)(tp:cm lab w)(hw:Wn ops F g)(hd:Nat.blt d N=true):
  LW P N ops [⟨some d,.call { callee:=.value (.func xm.id),args:=xs.toArray,argTypes:=ts },ty,pos,af,g⟩] F w (Fin N F e nid lab w (some d) out):=by
 unfold ML at hr
 split at hr
 ·rename_i x hx
  cases hr with
  |bnd hb hr=>
   obtain rfl:=hr.ret_eq
   obtain⟨us,h1,h2⟩:=xm.ok _ _ vs lab w hb (vF ha hx)
   exact LW.val rfl hw rfl hd (fun q hq=>by
    have e:(xs.toArray.map q.eval)=vs.toArray:=by rw[List.map_toArray,hq.evals ha.evs]
    simp only[execOp,resolve,e,Act.eval,Deferred.ofValue,invoke,Sem.run_bind,Sem.run_pure,Result.andThen_ok]
    have e2:(#[]++vs.toArray ++ #[]:Array Value)=vs.toArray:=by simp
    rw[e2,h1]) (ap tp (CO (oT 0 h2 (.inl (wq _)))))
 ·cases hr
def bl(x y c:UInt64):Option (UInt64×UInt64):=match Nat.ble c.toNat 1 with
 |true=>some (UInt64.ofNat ((x.toNat+y.toNat+c.toNat)%18446744073709551616),UInt64.ofNat ((x.toNat+y.toNat+c.toNat)/18446744073709551616))
 |false=>none
def jK(x y c:UInt64):Option (UInt64×UInt64):=match Nat.ble c.toNat 1 with
 |true=>some (UInt64.ofNat ((x.toNat+18446744073709551616-y.toNat-c.toNat)%18446744073709551616),bif Nat.blt x.toNat (y.toNat+c.toNat)then 1 else 0)
 |false=>none
theorem nu{lab:bf}{w:World}{n:Nat}(h:n<18446744073709551616):aV (.int .u64) (UInt64.ofNat n) lab w (.int .u64 (Int.ofNat n)):=by
 have:bH .u64 (UInt64.ofNat n)=Int.ofNat n:=by show((UInt64.ofNat n).toNat:Int)=_;rw[UInt64.toNat_ofNat_of_lt' h];rfl
 rw[←this];exact aV.ofInt (k:=.u64) _
section
variable {P : Program} {f : FuncId}
theorem wr{lab:bf}{w:World}{a:hl (List.map PK.d [.int .u64,.int .u64,.int .u64])}{vs:List Value}(ha:ew 0 0 lab w (List.map PK.d [.int .u64,.int .u64,.int .u64]) a vs):
  vs = [.int .u64 (UInt64.toNat a.1:Int),.int .u64 (UInt64.toNat a.2.1:Int),.int .u64 (UInt64.toNat a.2.2.1:Int)]:=by
 obtain⟨x,y,c,u⟩:=a
 match vs,ha with
 | [_,_,_],⟨h1,h2,h3,_⟩=>rw[aV.int (k:=.u64) h1,aV.int (k:=.u64) h2,aV.int (k:=.u64) h3];rfl
theorem AT{c:UInt64}(h:Nat.ble c.toNat 1=true):c.toNat=0∨c.toNat=1:=by have:=Nat.le_of_ble_eq_true h;omega
theorem GY(h0 : ∀(x y:Int) (w:World),(callFunc f #[.int .u64 x,.int .u64 y,.int .u64 0]).run P w = .ok (.value (Extern.MathBitsCarry.pair ((x.toNat+y.toNat+0)%Extern.MathBitsCarry.m64) ((x.toNat+y.toNat+0)/Extern.MathBitsCarry.m64))) w)
  (h1 : ∀(x y:Int) (w:World),(callFunc f #[.int .u64 x,.int .u64 y,.int .u64 1]).run P w = .ok (.value (Extern.MathBitsCarry.pair ((x.toNat+y.toNat+1)%Extern.MathBitsCarry.m64) ((x.toNat+y.toNat+1)/Extern.MathBitsCarry.m64))) w)
  (a:hl (List.map PK.d [.int .u64,.int .u64,.int .u64])) (r:UInt64×UInt64) (vs:List Value) (lab:bf) (w:World) (h:qm (R:=Option (UInt64×UInt64)) (List.map PK.d [.int .u64,.int .u64,.int .u64]) bl a=some r) (ha:ew 0 0 lab w (List.map PK.d [.int .u64,.int .u64,.int .u64]) a vs) :
  ∃us,(callFunc f vs.toArray).run P w = .ok (.value (uD us)) w∧f5 0 0 0 lab w (List.map RK.d [.int .u64,.int .u64]) (ef (List.map RK.d [.int .u64,.int .u64]) r) us:=by
 have hv:=wr ha
 obtain⟨x,y,c,u⟩:=a
 have h:bl x y c=some r:=h
 unfold bl at h
 split at h
 ·rename_i hc
  cases h
  have hx:=x.toNat_lt
  have hy:=y.toNat_lt
  have hc':=AT hc
  refine⟨[.int .u64 (Int.ofNat ((x.toNat+y.toNat+c.toNat)%18446744073709551616)),.int .u64 (Int.ofNat ((x.toNat+y.toNat+c.toNat)/18446744073709551616))],?_,nu (Nat.mod_lt _ (by omega)),nu (by omega),trivial⟩
  rw[hv]
  rcases hc' with hc' |hc'
  ·rw[show(Value.int .u64 (UInt64.toNat c:Int)) = .int .u64 0 by rw[hc'];rfl,hc'];exact h0 _ _ w
  ·rw[show(Value.int .u64 (UInt64.toNat c:Int)) = .int .u64 1 by rw[hc'];rfl,hc'];exact h1 _ _ w
 ·cases h
theorem IG(h0 : ∀(x y:Int) (w:World),(callFunc f #[.int .u64 x,.int .u64 y,.int .u64 0]).run P w = .ok (.value (Extern.MathBitsCarry.pair ((x.toNat+Extern.MathBitsCarry.m64-y.toNat-0)%Extern.MathBitsCarry.m64) (if x.toNat<y.toNat+0 then 1 else 0))) w)
  (h1 : ∀(x y:Int) (w:World),(callFunc f #[.int .u64 x,.int .u64 y,.int .u64 1]).run P w = .ok (.value (Extern.MathBitsCarry.pair ((x.toNat+Extern.MathBitsCarry.m64-y.toNat-1)%Extern.MathBitsCarry.m64) (if x.toNat<y.toNat+1 then 1 else 0))) w)
  (a:hl (List.map PK.d [.int .u64,.int .u64,.int .u64])) (r:UInt64×UInt64) (vs:List Value) (lab:bf) (w:World) (h:qm (R:=Option (UInt64×UInt64)) (List.map PK.d [.int .u64,.int .u64,.int .u64]) jK a=some r) (ha:ew 0 0 lab w (List.map PK.d [.int .u64,.int .u64,.int .u64]) a vs) :
  ∃us,(callFunc f vs.toArray).run P w = .ok (.value (uD us)) w∧f5 0 0 0 lab w (List.map RK.d [.int .u64,.int .u64]) (ef (List.map RK.d [.int .u64,.int .u64]) r) us:=by
 have hv:=wr ha
 obtain⟨x,y,c,u⟩:=a
 have h:jK x y c=some r:=h
 unfold jK at h
 split at h
 ·rename_i hc
  cases h
  have hc':=AT hc
  have hb : ∀(p q:Nat),aV (.int .u64) (cond (Nat.blt p q) (1:UInt64) (0:UInt64)) lab w (.int .u64 (Int.ofNat (if p<q then 1 else 0))):=by
   intro p q
   by_cases hlt:p<q
   ·rw[if_pos hlt,Nat.blt_eq.mpr hlt];exact nu (n:=1) (by omega)
   ·rw[if_neg hlt,show Nat.blt p q=false by cases hb:Nat.blt p q with |false=>rfl |true=>exact absurd (Nat.blt_eq.mp hb) hlt];exact nu (n:=0) (by omega)
  refine⟨[.int .u64 (Int.ofNat ((x.toNat+18446744073709551616-y.toNat-c.toNat)%18446744073709551616)),.int .u64 (Int.ofNat (if x.toNat<y.toNat+c.toNat then 1 else 0))],?_,nu (Nat.mod_lt _ (by omega)),hb _ _,trivial⟩
  rw[hv]
  rcases hc' with hc' |hc'
  ·rw[show(Value.int .u64 (UInt64.toNat c:Int)) = .int .u64 0 by rw[hc'];rfl,hc'];exact h0 _ _ w
  ·rw[show(Value.int .u64 (UInt64.toNat c:Int)) = .int .u64 1 by rw[hc'];rfl,hc'];exact h1 _ _ w
 ·cases h
def AB(x:UInt64):Option UInt64:=(FloatKind.f64.format.sqrt x.toNat).map UInt64.ofNat
def Mc:Ieee.Datum→Bool
 | .nan _ _=>true
 |_=>false
def qT(way:Ieee.Toward)(x:UInt64):Option UInt64:=match Mc (FloatKind.f64.decode x.toNat)with
 |true=>none
 |false=>some (UInt64.ofNat (FloatKind.f64.encode ((FloatKind.f64.decode x.toNat).integral way)))
theorem Hp{lab:bf}{w:World}{a:hl (List.map PK.d [.fl])}{vs:List Value}(ha:ew 0 0 lab w (List.map PK.d [.fl]) a vs):vs = [.float .f64 (UInt64.toNat a.1)]:=by
 obtain⟨x,u⟩:=a
 match vs,ha with
 | [_],⟨h1,_⟩=>rw[aV.fl h1]
theorem IC{x n:Nat}{w:World}(h1:FloatKind.f64.format.sqrt x=some n):(Extern.MathSqrt.sqrt #[.float .f64 x] >>= fun v=>pure (Next.value v)).run P w = .ok (.value (.float .f64 n)) w:=by
 conv in Extern.MathSqrt.sqrt _=>whnf
 rw[h1];rfl
theorem Gb{nm:String}{way:Ieee.Toward}{x:Nat}{w:World}(h1:Mc (FloatKind.f64.decode x)=false):(Extern.MathFloor.toIntegral nm way #[.float .f64 x] >>= fun v=>pure (Next.value v)).run P w = .ok (.value (.float .f64 (FloatKind.f64.encode ((FloatKind.f64.decode x).integral way)))) w:=by
 conv in Extern.MathFloor.toIntegral _ _ _=>whnf
 cases hd:FloatKind.f64.decode x with
 |nan s t=>rw[hd]at h1;cases h1
 |infinity s=>rfl
 |number s m e=>rfl
theorem I1(h0 : ∀(n:Nat) (w:World),(callFunc f #[.float .f64 n]).run P w=(Extern.MathSqrt.sqrt #[.float .f64 n] >>= fun v=>pure (Next.value v)).run P w)
  (a:hl (List.map PK.d [.fl])) (r:UInt64) (vs:List Value) (lab:bf) (w:World) (h:qm (R:=Option UInt64) (List.map PK.d [.fl]) AB a=some r) (ha:ew 0 0 lab w (List.map PK.d [.fl]) a vs) :
  ∃us,(callFunc f vs.toArray).run P w = .ok (.value (uD us)) w∧f5 0 0 0 lab w (List.map RK.d [.fl]) (ef (List.map RK.d [.fl]) r) us:=by
 have hv:=Hp ha
 obtain⟨x,u⟩:=a
 have h:AB x=some r:=h
 unfold AB at h
 rw[Option.map_eq_some_iff]at h
 obtain⟨n,h1,rfl⟩:=h
 have hn:(UInt64.ofNat n).toNat=n:=UInt64.toNat_ofNat_of_lt' (Ieee.Format.sqrt_lt _ h1)
 refine⟨[.float .f64 (UInt64.ofNat n).toNat],?_,aV.ofFl _,trivial⟩
 rw[hv,hn]
 show(callFunc f #[.float .f64 (UInt64.toNat x)]).run P w=_
 rw[h0,IC h1];rfl
theorem yI{nm:String}{way:Ieee.Toward}(h0 : ∀(n:Nat) (w:World),(callFunc f #[.float .f64 n]).run P w=(Extern.MathFloor.toIntegral nm way #[.float .f64 n] >>= fun v=>pure (Next.value v)).run P w)
  (a:hl (List.map PK.d [.fl])) (r:UInt64) (vs:List Value) (lab:bf) (w:World) (h:qm (R:=Option UInt64) (List.map PK.d [.fl]) (qT way) a=some r) (ha:ew 0 0 lab w (List.map PK.d [.fl]) a vs) :
  ∃us,(callFunc f vs.toArray).run P w = .ok (.value (uD us)) w∧f5 0 0 0 lab w (List.map RK.d [.fl]) (ef (List.map RK.d [.fl]) r) us:=by
 have hv:=Hp ha
 obtain⟨x,u⟩:=a
 have h:qT way x=some r:=h
 unfold qT at h
 split at h
 ·cases h
 ·rename_i hn
  cases h
  have he:=Eb (encode_wf .f64 ((FloatKind.f64.decode x.toNat).integral way))
  refine⟨[.float .f64 (UInt64.ofNat (FloatKind.f64.encode ((FloatKind.f64.decode x.toNat).integral way))).toNat],?_,aV.ofFl _,trivial⟩
  rw[hv,he]
  show(callFunc f #[.float .f64 (UInt64.toNat x)]).run P w=_
  rw[h0,Gb hn];rfl
end
def T9(P:Program)(fid:FuncId)(ps rs:List PT)(T:TypeId)(t0:PT)(off:Nat)(E:TypeId)(t:PT)(a:hl (ps.map PK.d))(X:den t0)(xs:List (den t))(X':den t0)(ys:List (den t))(r:sK (rs.map RK.d)):Prop:=
 ∀(kb kr g:Nat) (lab:bf) (w:World) (vs cs:List Value) (oa:Option Addr) (c:Nat),cm lab w→GL lab w→kb≠0→kr≠0→kb≠kr→ew 0 0 lab w (ps.map PK.d) a vs→iI lab w kb g T cs→(rep t0).rd lab w (cs.set off (.slice none 0 0)) X→cs[off]?=some (.slice oa xs.length c)→cY (rep t) lab w kr E oa c xs→
  Calls P fid (vs ++ [Value.pointer (some ⟨g,0,none⟩)]).toArray w fun e w'=>∃us lab' oa' c' cs',e = .returned (uD us)∧gu [kb,kr] lab w lab' w'∧iI lab' w' kb g T cs'∧(rep t0).rd lab' w' (cs'.set off (.slice none 0 0)) X'∧cs'[off]?=some (.slice oa' ys.length c')∧cY (rep t) lab' w' kr E oa' c' ys∧f5 0 0 0 lab' w' (rs.map RK.d) r us
structure xk(P:Program) where
 fid:FuncId
 ps:List PT
 rs:List PT
 T:TypeId
 t0:PT
 off:Nat
 E:TypeId
 t:PT
 fn:OJ P fid
 m:du (ps.map PK.d) (den t0→List (den t)→Option (den t0×(List (den t)×na (rs.map RK.d))))
 ok : ∀(a:hl (ps.map PK.d)) X xs X' ys r,qm (ps.map PK.d) m a X xs=some (X',(ys,r))→T9 P fid ps rs T t0 off E t a X xs X' ys (ef _ r)
def Ab{P:Program}:List (xk P)→FuncId→Option (xk P)
 | [],_=>none
 |c::r,f=>match Nat.beq c.fid f with
  |true=>some c
  |false=>Ab r f
theorem yl{P:Program}: ∀{l:List (xk P)} {f:FuncId} {c:xk P},Ab l f=some c→c.fid=f
 | [],_,_,h=>by cases h
 |q::r,f,c,h=>by
  unfold Ab at h
  split at h
  ·rename_i hb;cases h;exact Nat.eq_of_beq_eq_true hb
  ·exact yl h
structure jF(P:Program) where
 te:List (TE P)
 se:List (SE P)
 fe:List (FE P)
 be:List (BE P)
 cs:List (aW P)
 hold:List Nat
 fd:List (FD P)
 nil:List (Nat×Nat×TypeId)
 qe:List (QE P)
 ge:List (GE P)
 me:List (ME P)
 so:List (Sp P)
 xe:List (XE P)
 xm:List (XM P)
 ch:List (xk P)
 mq:List (MQ P)
 qa:List (QA P)
def dV:List Nat→Nat→Bool
 | [],_=>false
 |x::r,n=>Nat.beq x n||dV r n
def vy:Operand→Option Nat
 | .tmp t=>some t
 |_=>none
theorem Id{x:Operand}: ∀i,vy x=some i→x = .tmp i:=fun i h=>by cases x<;>cases h;rfl
def HZ:Operand→Operand→Bool
 | .tmp a,.tmp b=>Nat.beq a b
 | .const (.int k n),.const (.int k' n')=>IntKind.eqb k k'&&decide (n=n')
 |_,_=>false
theorem Hk{x y:Operand}(h:HZ x y=true):x=y:=by
 unfold HZ at h
 split at h
 ·rw[Nat.eq_of_beq_eq_true h]
 ·simp only[Bool.and_eq_true]at h
  rw[IntKind.eqb_eq h.1,of_decide_eq_true h.2]
 ·cases h
def SB{P:Program}(c:aW P):Bool:=c.rs.all fun r=>match r with | .x _ _=>false |_=>true
def Ou(ps:PS):Option Operand→Option (Option ((k:IntKind)×aQ k))
 |none=>some none
 |some x=>match br ps x with
  |some a=>match zR a with
   |some i=>some (some i)
   |none=>none
  |none=>none
def vf(l:List Nat)(x:Operand):Option Nat:=
 match vy x with
 |some s=>match dV l s with |true=>some s |false=>none
 |none=>none
def D9:List (Nat×Nat×TypeId)→Nat→List (Nat×TypeId)
 | [],_=>[]
 | (d',off,t)::r,d=>match Nat.beq d' d with |true=>(off,t)::D9 r d |false=>D9 r d
def Rm{P:Program}(zY:List (SE P)):List (Nat×TypeId)→Option (List (Nat×TypeId×PT))
 | []=>some []
 | (off,st)::r=>match fM zY st,Rm zY r with
  |some se,some l=>some ((off,se.el,se.pt)::l)
  |_,_=>none
def IF:SV→Option ((t:PT)×den t×List (Nat×TypeId×PT))
 | .agn t x l=>some ⟨t,x,l⟩
 |_=>none
theorem HM{sv:SV}{t:PT}{x:den t}{l:List (Nat×TypeId×PT)}(h:IF sv=some ⟨t,x,l⟩):sv = .agn t x l:=by
 unfold IF at h
 split at h
 ·cases h;rfl
 ·cases h
def HN:SV→Option ((t:PT)×den t×Nat×Nat)
 | .agh t x off id=>some ⟨t,x,off,id⟩
 |_=>none
theorem Iu{sv:SV}{t:PT}{x:den t}{off id:Nat}(h:HN sv=some ⟨t,x,off,id⟩):sv = .agh t x off id:=by
 unfold HN at h
 split at h
 ·cases h;rfl
 ·cases h
def Aq(hold:List Nat):List Operand→Bool
 | [x]=>match vy x with
  |some s=>dV hold (4000000+s)
  |none=>false
 |_=>false
def Jo:RA→Option (Nat×RA)
 | (.clb f id,m)=>some (f,(.ptr id 0,m))
 |_=>none
theorem Jb{a a2:RA}{f:Nat}(h:Jo a=some (f,a2)): ∃id,a.1 = .clb f id∧a2=(.ptr id 0,a.2):=by
 unfold Jo at h
 split at h
 ·cases h;exact⟨_,rfl,rfl⟩
 ·cases h
def vt{P:Program}(tes:List (TE P))(T:TypeId):Bool:=
 match dC tes T with
 |some ⟨_,.str,_⟩=>true
 |_=>false
theorem sZ{P:Program}{tes:List (TE P)}{T:TypeId}(h:vt tes T=true):P.underlying T=some .string:=by
 unfold vt at h
 split at h
 ·rename_i i ok hf
  have e1:i=T:=aS hf
  subst e1
  exact ok.und
 ·cases h
def IK:SV→Option (Nat×((t:PT)×Option (den t)))
 | .dat (.clo f t) y=>some (f,⟨t,y⟩)
 |_=>none
theorem Hn{sv:SV}{f:Nat}{t:PT}{y:Option (den t)}(h:IK sv=some (f,⟨t,y⟩)):sv = .dat (.clo f t) y:=by
 unfold IK at h
 split at h
 ·cases h;rfl
 ·cases h
section
variable {P : Program}
def fU(T:jF P)(own rng:List Nat)(ps:PS)(dst:Option Nat)(op:Op):aO:=
 match op,dst with
 | .move x,some _=>match br ps x with |some a=>.ret (o1 a.1) |none=>.stuck
 | .assign x,some _=>match br ps x with |some a=>.ret (o1 a.1) |none=>.stuck
 | .pick c x y,some _=>match br ps c,br ps x,br ps y with |some c,some a,some b=>Da c a b |_,_,_=>.stuck
 | .alloc t,some d=>match dC T.te t with |some e=>.ret (qF (10+d) ps.nxt t e.pt (zt e.pt)) |none=>.stuck
 | .box t x,some d=>match dC T.te t,br ps x with |some e,some a=>(match uN e.pt a with |some u=>.ret (qF (10+d) ps.nxt t e.pt u) |none=>.stuck) |_,_=>.stuck
 | .fieldAddr t x f,some _=>match pp T.fe t f,br ps x with |some e,some a=>(match Bt e.off a.1 with |some sv=>.ret (o1 sv) |none=>pC e.off a.1) |_,_=>.stuck
 | .nilCheck x,some _=>match br ps x with |some a=>(match Bt 0 a.1 with |some _=>.ret (o1 a.1) |none=>uO a.1) |none=>.stuck
 | .load t x,some d=>match GB x with
  |some g=>(match wv T.ge t g with |some ge=>yV ge |none=>.stuck)
  |none=>match dC T.te t,br ps x with
   |some e,some a=>match Do a with
    |some (id,i,k,E,E2,⟨t',xs⟩)=>zx e ps.nxt (10+d) id i k E E2 t' xs
    |none=>match CU e.pt a with
     |some ⟨k,xs,o⟩=>Ah k xs o
     |none=>Cg e a
   |_,_=>.stuck
 | .store t x y,none=>match vf T.hold x with
  |some s=>match dC T.te t,br ps x,br ps y with
   |some e,some a,some b=>match IF b.1 with
    |some ⟨t2,X2,l⟩=>match PT.eqb e.pt t2 with
     |true=>vQ ps.nxt (1000010+s) a t2 X2 l
     |false=>.stuck
    |none=>match HN b.1 with
     |some ⟨t2,X2,off,id⟩=>match PT.eqb e.pt t2 with
      |true=>v_ a t2 X2 off id
      |false=>.stuck
     |none=>match fM T.se t with
      |some se=>ry e se.el ps.nxt (1000010+s) a b.1
      |none=>.stuck
   |_,_,_=>.stuck
  |none=>match dC T.te t,br ps x,br ps y with
   |some e,some a,some b=>match JZ a b with
    |some (id,i,k,E,E2,⟨t',xs⟩,q,E2',⟨u,z⟩)=>wh e id i k E E2 t' xs q E2' u z
    |none=>match Jj e.pt a with
     |some ⟨k,xs,o,id,kb,T2,n⟩=>u4 k xs o id kb T2 n b
     |none=>match NR a.2 with
      |true=>tO e a b
      |false=>zQ e a b
   |_,_,_=>.stuck
 | .binOp o t x y _,some _=>match br ps x,br ps y with |some a,some b=>(match CQ y with |true=>I3 T.te o t a |false=>match Ak T.qe t with |some qe=>Ht qe o a b |none=>match zX T.qa t with |some qa=>IP qa o a b |none=>(match Dl y with |true=>(match fM T.se t with |some _=>Cy o a |none=>.stuck) |false=>(match uG T.mq t,G6 b.1 with |some _,true=>CH o a.1 |_,_=>HP T.te o t a b))) |_,_=>.stuck
 | .index t x y,some _=>match vt T.te t,br ps x,br ps y with |true,some a,some b=>wU a b |false,some a,some b=>(match zq T.ge t with |some ge=>vp ge a b |none=>match dC T.te t with |some te=>vw te a b |none=>.stuck) |_,_,_=>.stuck
 | .unOp .not _ x,some _=>match br ps x with |some a=>IQ a |none=>.stuck
 | .unOp .xor _ x,some _=>match br ps x with |some a=>CK a |none=>.stuck
 | .unOp .neg _ x,some _=>match br ps x with |some a=>Gz a |none=>.stuck
 | .convert s t x,some _=>match br ps x with |some a=>C2 T.te T.se s t a |none=>.stuck
 | .build t parts,some d=>match D9 T.nil d with
  | []=>match vX T.be t,Al ps parts.toList with
   |some e,some as=>match D9 T.nil (3000000+d)with
    | [(off,_)]=>match Es as e.fs off with
     |some rid=>wg e as off rid
     |none=>.stuck
    |_=>yW e as
   |_,_=>.stuck
  |q=>match vX T.be t,Rm T.se q,Al ps parts.toList with |some e,some l,some as=>vi e as l |_,_,_=>.stuck
 | .field t x f,some _=>match Ac T.fd t f,br ps x with
  |some fd,some a=>match dC T.te fd.ft with |some te=>zI fd te a |none=>.stuck
  |_,_=>.stuck
 | .makeFunc (.func f) first caps,some _=>match Aq T.hold caps.toList with
  |false=>match first.toList,nQ ps caps.toList with
   | [],some as=>zB f as
   |_,_=>.stuck
  |true=>match first.toList,nQ ps caps.toList with
   | [],some as=>zA f as
   |_,_=>.stuck
 | .buildSlice t n parts,some d=>match fM T.se t,Al ps parts.toList with |some e,some as=>(match MD n as with |some (q,E2,⟨t',z⟩)=>vq e ps.nxt (10+d) q E2 t' z |none=>wX e ps.nxt (10+d) (dV own d) n as) |_,_=>.stuck
 | .makeSlice t x y,some d=>match N8 x with
  |true=>(match fM T.se t,br ps y with |some e,some a=>Ag e ps.nxt (10+d) (dV own d) a |_,_=>.stuck)
  |false=>(match fM T.se t,br ps x,HZ y x with |some e,some a,true=>Cr e ps.nxt (10+d) (dV own d) a |_,_,_=>.stuck)
 | .slice t x lo hi none,some _=>match vt T.te t,br ps x,Ou ps lo,Ou ps hi with
  |true,some a,some i,some j=>uZ a i j
  |false,some a,some i,some j=>(match fM T.se t with |some e=>An e ps.nxt a i j |none=>match Ff T.te t with |some (_,n,_)=>(match lo,hi with |none,none=>tw n a |_,_=>.stuck) |none=>.stuck)
  |_,_,_,_=>.stuck
 | .slice t x none (some hi) (some mx),some _=>match fM T.se t,br ps x,br ps hi,br ps mx with
  |some e,some a,some b,some c=>wF e a b c
  |_,_,_,_=>.stuck
 | .indexAddr t x y,some _=>match GB x with
  |none=>match Ff T.te t with
   |some (_,n,_)=>(match br ps x,br ps y with |some a,some b=>ve n a b |_,_=>.stuck)
   |none=>(match fM T.se t,br ps x,br ps y with |some e,some a,some b=>(match Bn a with |some (n,E)=>(match Nat.beq E e.el&&Nat.beq (bZ e.pt) 1 with |true=>wm (Dy a) n b |false=>.stuck) |none=>Aj e a b) |_,_,_=>.stuck)
  |some g=>(match wv T.ge t g,br ps y with |some e,some b=>wj e b |_,_=>.stuck)
 | .makeMap t none,some d=>match tM T.me t with |some me=>ym me ps.nxt (10+d) |none=>.stuck
 | .lookup t x y ok,some _=>match tM T.me t,br ps x,br ps y with |some me,some a,some b=>uY me a b ok |none,some a,some b=>(match vc T.mq t with |some _=>tD a b ok |none=>.stuck) |_,_,_=>.stuck
 | .mapUpdate t x y z,none=>match tM T.me t,br ps x,br ps y,br ps z with |some me,some a,some b,some c=>vd me a b c |_,_,_,_=>.stuck
 | .sliceToArrayPointer t x,some _=>match Ff T.te t,br ps x with |some (_,n,k),some a=>yT n k a |_,_=>.stuck
 | .extract x i,some _=>match br ps x with |some a=>tx a i |none=>.stuck
 | .call c,some d=>match c.callee,c.args.toList,c.argTypes.toList with
  | .builtin .len,[x],[t]=>match br ps x with
   |none=>.stuck
   |some a=>match fM T.se t with
    |some e=>match Bn a with
     |some (n,_)=>.ret (o1 (.dat (.int .i64) (n:Int)))
     |none=>Iy e ps.nxt (dV rng d) (vy x) a
    |none=>match dC T.te t,jw a with
     |some ⟨_,.str,_⟩,some ⟨.str,l⟩=>.ret (o1 (.dat (.int .i64) (List.length (α:=UInt8) l:Int)))
     |_,_=>.stuck
  | .builtin .append,[x,y],[t,t']=>match Nat.beq t' t,fM T.se t,br ps x,br ps y with
   |true,some e,some a,some b=>match Uj b with
    |true=>tA e ps.nxt (10+d) a b
    |false=>match DN a with
     |some ⟨k,X⟩=>sX e ps.nxt (10+d) (dV own d) k X b
     |none=>wK e ps.nxt (10+d) (dV own d) a b
   |false,some e,some a,some b=>match vt T.te t' with
    |true=>tG e ps.nxt (10+d) (dV own d) a b
    |false=>.stuck
   |_,_,_,_=>.stuck
  | .builtin .copy,[x,y],[t,t']=>match Nat.beq t' t,fM T.se t,br ps x,br ps y with
   |true,some e,some a,some b=>C0 e a b
   |_,_,_,_=>.stuck
  | .builtin .max,[x,y],_=>match br ps x,br ps y with |some a,some b=>Jy true a b |_,_=>.stuck
  | .builtin .min,[x,y],_=>match br ps x,br ps y with |some a,some b=>Jy false a b |_,_=>.stuck
  | .value (.func f),xs,_=>match ny T.cs f,nQ ps xs with
   |some c,some as=>match SB c with
    |true=>match dV T.hold (7000000+d)with
     |false=>o9 c ps.nxt (10+d) as
     |true=>pJ c ps.nxt (10+d) as
    |false=>.stuck
   |none,some as=>match ze T.xm f with
    |some xm=>ML xm as
    |none=>match as with
     | [a]=>match zg T.xe f with
      |some xe=>Pv xe a
      |none=>.stuck
     |_=>.stuck
   |_,_=>.stuck
  | .value (.tmp s),xs,_=>match br ps (.tmp s),nQ ps xs with
   |some b,some as=>match IK b.1 with
    |some (f,⟨t,y⟩)=>.bnd (den t) y fun z=>match ny T.cs f,tS t z with
     |some c,some cs=>match SB c with
      |true=>o9 c ps.nxt (10+d) (as++cs)
      |false=>.stuck
     |_,_=>.stuck
    |none=>match Jo b with
     |some (f,a2)=>match ny T.cs f with
      |some c=>match SB c with
       |true=>pJ c ps.nxt (10+d) (as ++ [a2])
       |false=>.stuck
      |none=>.stuck
     |none=>.stuck
   |_,_=>.stuck
  |_,_,_=>.stuck
 |_,_=>.stuck
variable {N : Nat} {ops : Array Oper} {F : List (Nat × Value)} {w w' : World} {e : f7} {lab lab' : bf} {ps : PS} {v : Value} {a : RA}
theorem eG{α:Type}{xs:Array α}{l:List α}(h:xs.toList=l):xs=l.toArray:=by rw[←h]
theorem Ad(h:rb e ps F lab w){x:Option Operand}{i:Option ((k:IntKind)×aQ k)}(hx:Ou ps x=some i):P0 F x i:=by
 unfold Ou at hx
 split at hx
 ·cases hx;trivial
 ·split at hx
  ·rename_i a ha
   split at hx
   ·rename_i i' hi
    cases hx
    obtain⟨v,h1,h2⟩:=aF h ha
    obtain⟨k,j⟩:=i'
    show ev F _=some (.int k (bH k j))
    rw[h1,gq h2 hi]
   ·cases hx
  ·cases hx
theorem JB{T:jF P}{own rng:List Nat}{dst:Option Nat}{op:Op}{ty:TypeId}{pos:String}{af:Array Edge}{g:Option (Nat×Bool)}{out:cL}(h:rb e ps F lab w)(wf:WF ps)(tp:cm lab w)(hr:ed (fU T own rng ps dst op) out)(hw:Wn ops F g)
  (hd : ∀d,dst=some d→Nat.blt d N=true):LW P N ops [⟨dst,op,ty,pos,af,g⟩] F w (Fin N F e ps.nxt lab w dst out):=by
 unfold fU at hr
 split at hr
 · -- move
  split at hr
  ·rename_i a ha
   obtain rfl:=hr.ret_eq
   obtain⟨v,h1,h2⟩:=aF h ha
   exact Hl h1 h2.1 tp hw (hd _ rfl)
  ·cases hr
 ·split at hr
  ·rename_i a ha
   obtain rfl:=hr.ret_eq
   obtain⟨v,h1,h2⟩:=aF h ha
   exact Ck h1 h2.1 tp hw (hd _ rfl)
  ·cases hr
 ·split at hr
  ·rename_i c a b hc ha hb
   obtain⟨v1,h1,h2⟩:=aF h hc
   obtain⟨v2,h3,h4⟩:=aF h ha
   obtain⟨v3,h5,h6⟩:=aF h hb
   exact Gm h1 h3 h5 h2 h4.1 h6.1 hr tp hw (hd _ rfl)
  ·cases hr
 ·split at hr
  ·rename_i te hte
   obtain rfl:=hr.ret_eq
   obtain rfl:=aS hte
   exact Fu te.ok _ tp hw (hd _ rfl)
  ·cases hr
 ·split at hr
  ·rename_i te a hte ha
   split at hr
   ·rename_i u hu
    obtain rfl:=hr.ret_eq
    obtain⟨v,h1,h2⟩:=aF h ha
    exact Li h1 (dt h2 hu) _ tp hw (hd _ rfl)
   ·cases hr
  ·cases hr
 ·split at hr
  ·rename_i fe a hfe ha
   split at hr
   ·rename_i sv hs
    obtain rfl:=hr.ret_eq
    obtain⟨rfl,rfl⟩:=pI hfe
    obtain⟨v,h1,h2⟩:=aF h ha
    exact Ll fe.ok h1 h2.1 hs tp hw (hd _ rfl)
   ·obtain⟨rfl,rfl⟩:=pI hfe
    obtain⟨v,h1,h2⟩:=aF h ha
    exact FY fe.ok h1 h2 hr tp hw (hd _ rfl)
  ·cases hr
 ·split at hr
  ·rename_i a ha
   split at hr
   ·rename_i sv hs
    obtain rfl:=hr.ret_eq
    obtain⟨v,h1,h2⟩:=aF h ha
    exact yX h1 h2.1 hs tp hw (hd _ rfl)
   ·obtain⟨v,h1,h2⟩:=aF h ha
    exact Fy h1 h2 hr tp hw (hd _ rfl)
  ·cases hr
 ·split at hr
  ·rename_i gi hgi
   obtain rfl:=AJ hgi
   split at hr
   ·rename_i ge hge
    obtain⟨rfl,rfl⟩:=tf hge
    exact FP h.gl hr tp hw (hd _ rfl)
   ·cases hr
  ·split at hr
   ·rename_i te a hte ha
    obtain⟨v,h1,h2⟩:=aF h ha
    split at hr
    ·rename_i hq
     exact F8 (aS hte) h1 h2 hq hr (fun i hi=>lV wf ha i hi) tp hw (hd _ rfl)
    ·split at hr
     ·rename_i ht
      exact Gc (aS hte) h1 h2 ht hr tp hw (hd _ rfl)
     ·exact GH (aS hte) h1 h2 hr tp hw (hd _ rfl)
   ·cases hr
 ·split at hr
  ·split at hr
   ·rename_i te a b hte ha hb
    obtain⟨v,h1,h2⟩:=aF h ha
    obtain⟨u,h3,h4⟩:=aF h hb
    split at hr
    ·rename_i t2 X2 l hag
     have hag:=HM hag
     split at hr
     ·rename_i hpt
      have h5:=h4.1
      rw[hag]at h5
      exact Ch (aS hte) hpt h1 h3 h2 h5 hr (fun i hi=>lV wf ha i hi) tp hw
     ·cases hr
    ·split at hr
     ·rename_i t2 X2 off id hag
      have hag:=Iu hag
      split at hr
      ·rename_i hpt
       have h5:=h4.1
       rw[hag]at h5
       exact CT (aS hte) hpt h1 h3 h2 h5 hr tp hw
      ·cases hr
     split at hr
     ·rename_i se hse
      refine De (aS hte) h1 h3 h2 h4 hr (fun i hi=>?_) (Hi wf ha) tp hw
      rcases List.mem_append.1 hi with hi |hi
      ·exact lV wf ha i hi
      ·exact lV wf hb i hi
     ·cases hr
   ·cases hr
  ·split at hr
   ·rename_i te a b hte ha hb
    obtain⟨v,h1,h2⟩:=aF h ha
    obtain⟨u,h3,h4⟩:=aF h hb
    split at hr
    ·rename_i hq
     exact BS (aS hte) h1 h3 h2 h4 hq hr tp hw
    ·split at hr
     ·rename_i ht
      exact BU (aS hte) h1 h3 h2 h4 ht hr tp hw
     ·split at hr
      ·exact AF (aS hte) h1 h3 h2 h4 hr tp hw
      ·exact F7 (aS hte) h1 h3 h2 h4 hr tp hw
   ·cases hr
 ·split at hr
  ·rename_i a b ha hb
   obtain⟨v,h1,h2⟩:=aF h ha
   obtain⟨u,h3,h4⟩:=aF h hb
   split at hr
   ·rename_i hnc
    obtain rfl:=FI hnc
    exact JQ h1 h2 hr tp hw (hd _ rfl)
   ·split at hr
    ·rename_i qe hq
     exact Lb (yh hq) h1 h3 h2 h4 hr tp hw (hd _ rfl)
    split at hr
    ·rename_i qa hqa
     exact LU (xP hqa) h1 h3 h2 h4 hr tp hw (hd _ rfl)
    ·split at hr
     ·rename_i hns
      obtain rfl:=FG hns
      split at hr
      ·rename_i se hse
       obtain rfl:=ce hse
       exact I6 se.ok.elem.1 h1 h2 hr tp hw (hd _ rfl)
      ·cases hr
     ·split at hr
      ·rename_i me hme hpn
       exact Iz (uX hme) h1 h3 h2 h4 (FJ hpn) hr tp hw (hd _ rfl)
      ·exact J4 h1 h3 h2 h4 hr tp hw (hd _ rfl)
  ·cases hr
 ·split at hr
  ·rename_i a b hs ha hb
   obtain⟨v,h1,h2⟩:=aF h ha
   obtain⟨u,h3,h4⟩:=aF h hb
   exact C8 (sZ hs) h1 h3 h2 h4 hr tp hw (hd _ rfl)
  ·rename_i a b hs ha hb
   obtain⟨v,h1,h2⟩:=aF h ha
   obtain⟨u,h3,h4⟩:=aF h hb
   split at hr
   ·rename_i ge hge
    obtain⟨rfl,hag⟩:=yN hge
    exact CP hag h1 h3 h2 h4 hr tp hw (hd _ rfl)
   ·split at hr
    ·rename_i te hte
     exact CC (aS hte) h1 h3 h2 h4 hr tp hw (hd _ rfl)
    ·cases hr
  ·cases hr
 ·split at hr
  ·rename_i a ha
   obtain⟨v,h1,h2⟩:=aF h ha
   exact Ki h1 h2 hr tp hw (hd _ rfl)
  ·cases hr
 ·split at hr
  ·rename_i a ha
   obtain⟨v,h1,h2⟩:=aF h ha
   exact I' h1 h2 hr tp hw (hd _ rfl)
  ·cases hr
 ·split at hr
  ·rename_i a ha
   obtain⟨v,h1,h2⟩:=aF h ha
   exact K1 h1 h2 hr tp hw (hd _ rfl)
  ·cases hr
 ·split at hr
  ·rename_i a ha
   obtain⟨v,h1,h2⟩:=aF h ha
   exact I0 h1 h2 hr tp hw (hd _ rfl)
  ·cases hr
 ·split at hr
  ·split at hr
   ·rename_i be as hbe ha
    obtain⟨vs,h1⟩:=uU h ha
    split at hr
    ·split at hr
     ·exact Dd (pz hbe) h1 hr tp hw (hd _ rfl)
     ·cases hr
    ·exact EN (pz hbe) h1 hr tp hw (hd _ rfl)
   ·cases hr
  ·split at hr
   ·rename_i be se as hbe hse ha
    obtain⟨vs,h1⟩:=uU h ha
    exact Df (pz hbe) h1 hr tp hw (hd _ rfl)
   ·cases hr
 ·split at hr
  ·rename_i fd a hfd ha
   split at hr
   ·rename_i te hte
    obtain⟨v,h1,h2⟩:=aF h ha
    obtain⟨e1,e2⟩:=xQ hfd
    exact FB e1 e2 (aS hte) h1 h2 hr tp hw (hd _ rfl)
   ·cases hr
  ·cases hr
 ·rename_i f first caps d
  split at hr
  ·split at hr
   ·rename_i as hfi has
    obtain⟨first⟩:=first
    obtain⟨caps⟩:=caps
    have hfi:first = []:=hfi
    subst hfi
    obtain⟨vs,h1⟩:=ml h has
    exact Fw h1 hr tp hw (hd _ rfl)
   ·cases hr
  ·split at hr
   ·rename_i as hfi has
    obtain⟨first⟩:=first
    obtain⟨caps⟩:=caps
    have hfi:first = []:=hfi
    subst hfi
    obtain⟨vs,h1⟩:=ml h has
    exact FH h1 hr tp hw (hd _ rfl)
   ·cases hr
 ·split at hr
  ·rename_i se as hse ha
   obtain⟨vs,h1⟩:=uU h ha
   split at hr
   ·rename_i hq
    exact Cw (ce hse) h1 hq hr tp hw (hd _ rfl)
   ·exact Dg (ce hse) h1 hr tp hw (hd _ rfl)
  ·cases hr
 ·split at hr
  ·rename_i hz
   obtain rfl:=Lw hz
   split at hr
   ·rename_i se a hse ha
    obtain⟨v,h1,h2⟩:=aF h ha
    exact Fd (ce hse) h1 h2 hr tp hw (hd _ rfl)
   ·cases hr
  ·split at hr
   ·rename_i se a hse ha hsm
    obtain rfl:=Hk hsm
    obtain⟨v,h1,h2⟩:=aF h ha
    exact HH (ce hse) h1 h2 hr tp hw (hd _ rfl)
   ·cases hr
 ·split at hr
  ·rename_i a i j hs ha hi hj
   obtain⟨v,h1,h2⟩:=aF h ha
   exact BT (sZ hs) h1 (Ad h hi) (Ad h hj) h2 hr tp hw (hd _ rfl)
  ·rename_i a i j hs ha hi hj
   obtain⟨v,h1,h2⟩:=aF h ha
   split at hr
   ·rename_i se hse
    exact Fz (ce hse) h1 (Ad h hi) (Ad h hj) h2 hr tp hw (hd _ rfl)
   ·split at hr
    ·rename_i te n kk hte
     obtain⟨E,hU,hS⟩:=zS hte
     split at hr
     ·exact Bi hU hS h1 h2 hr tp hw (hd _ rfl)
     ·cases hr
    ·cases hr
  ·cases hr
 ·split at hr
  ·rename_i se a b c hse ha hb hc
   obtain⟨v,h1,h2⟩:=aF h ha
   obtain⟨u1,h3,h4⟩:=aF h hb
   obtain⟨u2,h5,h6⟩:=aF h hc
   exact B4 (ce hse) h1 h3 h5 h2 h4 h6 hr tp hw (hd _ rfl)
  ·cases hr
 ·split at hr
  ·split at hr
   ·rename_i te n kk hte
    obtain⟨E,hU,hS⟩:=zS hte
    split at hr
    ·rename_i a b ha hb
     obtain⟨v,h1,h2⟩:=aF h ha
     obtain⟨u,h3,h4⟩:=aF h hb
     exact Cb hU hS h1 h3 h2 h4 hr tp hw (hd _ rfl)
    ·cases hr
   ·split at hr
    ·rename_i se a b hse ha hb
     obtain⟨v,h1,h2⟩:=aF h ha
     obtain⟨u,h3,h4⟩:=aF h hb
     split at hr
     ·rename_i hq
      split at hr
      ·rename_i hb
       simp only[Bool.and_eq_true]at hb
       exact BX (ce hse) (Nat.eq_of_beq_eq_true hb.1) h1 h3 h2 h4 hq hr tp hw (hd _ rfl) (Nat.eq_of_beq_eq_true hb.2)
      ·cases hr
     ·exact FR (ce hse) h1 h3 h2 h4 hr tp hw (hd _ rfl)
    ·cases hr
  ·rename_i g hg
   split at hr
   ·rename_i ge b hge hb
    obtain⟨u,h3,h4⟩:=aF h hb
    obtain⟨e1,e2⟩:=tf hge
    obtain rfl:=AJ hg
    subst e1 e2
    exact C_ h.gl h3 h4 hr tp hw (hd _ rfl)
   ·cases hr
 ·split at hr
  ·rename_i me hme
   exact A5 hr tp hw (hd _ rfl)
  ·cases hr
 ·split at hr
  ·rename_i me a b hme ha hb
   obtain⟨v,h1,h2⟩:=aF h ha
   obtain⟨u,h3,h4⟩:=aF h hb
   exact CZ (tt hme) h1 h3 h2 h4 hr tp hw (hd _ rfl)
  ·rename_i a b hme ha hb
   obtain⟨v,h1,h2⟩:=aF h ha
   obtain⟨u,h3,h4⟩:=aF h hb
   split at hr
   ·rename_i mq hmq
    exact AY (sT hmq) h1 h3 h2 h4 hr tp hw (hd _ rfl)
   ·cases hr
  ·cases hr
 ·split at hr
  ·rename_i me a b c hme ha hb hc
   obtain⟨v,h1,h2⟩:=aF h ha
   obtain⟨u,h3,h4⟩:=aF h hb
   obtain⟨u2,h5,h6⟩:=aF h hc
   exact B_ (tt hme) h1 h3 h5 h2 h4 h6 hr tp hw
  ·cases hr
 ·split at hr
  ·rename_i te n kk a hte ha
   obtain⟨E,hU,hS⟩:=zS hte
   obtain⟨v,h1,h2⟩:=aF h ha
   exact EM hU h1 h2 hr tp hw (hd _ rfl)
  ·cases hr
 ·split at hr
  ·rename_i a ha
   obtain⟨v,h1,h2⟩:=aF h ha
   exact Bj h1 h2.1 hr tp hw (hd _ rfl)
  ·cases hr
 ·rename_i c d
  obtain⟨callee,args,ats⟩:=c
  simp only at hr
  split at hr
  ·rename_i x t hx ht
   obtain rfl:=eG hx
   obtain rfl:=eG ht
   split at hr
   ·cases hr
   ·rename_i a ha
    obtain⟨v,h1,h2⟩:=aF h ha
    split at hr
    ·rename_i se hse
     split at hr
     ·rename_i hq
      exact IW (ce hse) h1 h2 hq hr tp hw (hd _ rfl)
     ·exact KX (ce hse) Id h1 h2 hr tp hw (hd _ rfl)
    ·split at hr
     ·rename_i i ok l hte hl
      obtain rfl:=hr.ret_eq
      have e2:i=t:=aS hte
      subst e2
      obtain rfl:=aV.str (bu h2 hl)
      exact LW.lenS ok.und hw (hd _ rfl) h1 (ap tp (aV.ofInt (k:=.i64) _))
     ·cases hr
  ·rename_i x y t t' hx ht
   obtain rfl:=eG hx
   obtain rfl:=eG ht
   split at hr
   ·rename_i se a b hb hse ha hb'
    obtain rfl:=Nat.eq_of_beq_eq_true hb
    obtain⟨v,h1,h2⟩:=aF h ha
    obtain⟨u,h3,h4⟩:=aF h hb'
    split at hr
    ·exact BD (ce hse) h1 h3 h2 h4 hr tp hw (hd _ rfl)
    ·split at hr
     ·rename_i hfs
      exact Ax (ce hse) h1 h3 h2 hfs h4 hr tp hw (hd _ rfl)
     ·exact C5 (ce hse) h1 h3 h2 h4 hr tp hw (hd _ rfl)
   ·rename_i se a b hb hse ha hb'
    obtain⟨v,h1,h2⟩:=aF h ha
    obtain⟨u,h3,h4⟩:=aF h hb'
    split at hr
    ·rename_i hst
     exact AG (ce hse) (sZ hst) h1 h3 h2 h4 hr tp hw (hd _ rfl)
    ·cases hr
   ·cases hr
  ·rename_i x y t t' hx ht
   obtain rfl:=eG hx
   obtain rfl:=eG ht
   split at hr
   ·rename_i se a b hb hse ha hb'
    obtain rfl:=Nat.eq_of_beq_eq_true hb
    obtain⟨v,h1,h2⟩:=aF h ha
    obtain⟨u,h3,h4⟩:=aF h hb'
    exact Ib (ce hse) h1 h3 h2 h4 hr tp hw (hd _ rfl)
   ·cases hr
  ·rename_i x y l hx
   obtain rfl:=eG hx
   split at hr
   ·rename_i a b ha hb
    obtain⟨v,h1,h2⟩:=aF h ha
    obtain⟨u,h3,h4⟩:=aF h hb
    exact HC (mx:=true) h1 h3 h2 h4 hr tp hw (hd _ rfl)
   ·cases hr
  ·rename_i x y l hx
   obtain rfl:=eG hx
   split at hr
   ·rename_i a b ha hb
    obtain⟨v,h1,h2⟩:=aF h ha
    obtain⟨u,h3,h4⟩:=aF h hb
    exact HC (mx:=false) h1 h3 h2 h4 hr tp hw (hd _ rfl)
   ·cases hr
  ·rename_i f xs l
   split at hr
   ·rename_i c as hc has
    split at hr
    ·rename_i hx
     obtain⟨vs,h1⟩:=ml h has
     split at hr
     ·exact AW (lH hc) hx h1 (fun ca hca p hp=>t7 wf has hca p hp) hr tp h.gl hw (hd _ rfl)
     ·exact Ga (lH hc) hx h1 (fun ca hca p hp=>t7 wf has hca p hp) hr tp h.gl hw (hd _ rfl)
    ·cases hr
   ·rename_i as _ has
    obtain⟨vs,h1⟩:=ml h has
    split at hr
    ·rename_i xm hxm
     obtain rfl:=xN hxm
     exact Pf h1 hr tp hw (hd _ rfl)
    ·split at hr
     ·split at hr
      ·rename_i xe hxe
       obtain rfl:=yx hxe
       exact OQ h1 hr tp hw (hd _ rfl)
      ·cases hr
     ·cases hr
   ·cases hr
  ·rename_i s xs l
   split at hr
   ·rename_i b as hb has
    split at hr
    ·rename_i f t y hclo
     have hclo:=Hn hclo
     cases hr with
     |bnd hy hr=>
      dsimp only at hr
      split at hr
      ·rename_i c cs hc hcs
       split at hr
       ·rename_i hx
        obtain⟨vs,h1⟩:=ml h has
        obtain⟨v,h2,h3⟩:=aF h hb
        have h3:=h3.1
        rw[hclo,hy]at h3
        refine Fx (c:=c) ⟨v,h2,by rw[lH hc];exact h3⟩ hcs hx h1 (fun ca hca p hp=>?_) hr tp h.gl hw (hd _ rfl)
        exact zJ wf hcs has hca p hp
       ·cases hr
      ·cases hr
    split at hr
    ·rename_i f a2 hclb
     obtain⟨id,hb1,rfl⟩:=Jb hclb
     split at hr
     ·rename_i c hc
      split at hr
      ·rename_i hx
       obtain⟨vs,h1⟩:=ml h has
       obtain⟨v,h2,h3,h4⟩:=aF h hb
       rw[hb1]at h3 h4
       obtain⟨g,h5,rfl⟩:=h3
       refine Fj (c:=c) (g0:=g) (by rw[lH hc];exact h2) h5 h4 hx h1 (fun ca hca p hp=>?_) hr tp h.gl hw (hd _ rfl)
       refine rS hca (fun a ha=>?_) p hp
       rcases List.mem_append.1 ha with ha |ha
       ·exact Ea wf has a ha
       ·obtain rfl:=List.mem_singleton.1 ha
        intro i hi
        exact lV wf hb i (by rw[hb1];exact hi)
      ·cases hr
     ·cases hr
    ·cases hr
   ·cases hr
  ·cases hr
 ·cases hr
end
structure jW(pts:List Nat)(w0:World)(aU:bf)(e:f7)(ps:PS)(F:List (Nat×Value))(lab:bf)(w:World):Prop where
 sim:rb e ps F lab w
 wf:WF ps
 cx:Cx pts w0 aU w lab
 a0:A0 pts e
def QD{β:Type}(l:List (Nat×Nat×β))(s:Nat):Bool:=match aL l s with |some _=>true |none=>false
def gU(ps:PS)(o:cL):Bool:=EZ ps.nxt o&&o.ks.all (fun k=>Nat.ble 2 k)&&o.re.all (fun p=>QD ps.sl p.1)
section
variable {P : Program} {N : Nat} {F : List (Nat × Value)} {w w' w0 : World} {e e' : f7} {lab lab' aU : bf} {ps ps' : PS} {v : Value} {pts : List Nat} {d : Option Nat} {out : cL} {K : eT}
theorem So{ks:List Nat}(h:ks.all (fun k=>Nat.ble 2 k)=true):ks.contains 1=false:=by
 cases hc:ks.contains 1 with
 |false=>rfl
 |true=>
  have:1∈ks:=by simpa using hc
  have:=List.all_eq_true.1 h 1 this
  cases this
theorem jW.step(h:jW pts w0 aU e ps F lab w)(hp:qU N F e ps.nxt lab w d out e' lab' w' v)(hc:gU ps out=true):jW pts w0 aU e' (apply ps d out) (PC F d v) lab' w':=by
 simp only[gU,Bool.and_eq_true]at hc
 refine⟨h.sim.apply (N:=N) h.wf hp fun p hp'=>?_,h.wf.apply d hc.1.1,h.cx.stp hp.2.1 (So hc.1.2),fun g hg=>by rw[hp.1 0 (.inl h.wf.n0)];exact h.a0 g hg⟩
 have:=List.all_eq_true.1 hc.2 p hp'
 unfold QD at this
 split at this
 ·rename_i x hx
  obtain⟨st,sv⟩:=x
  obtain⟨u,hu,_⟩:=h.sim.sl _ _ _ (am hx)
  exact⟨u,hu⟩
 ·cases this
def wt(all:List Oper)(j:Nat):Option Nat:=match DM all j with |some o=>o.dst |none=>none
theorem sE{all:List Oper}{j dj:Nat}(h:wt all j=some dj):(all.toArray[j]?).bind (·.dst)=some dj:=by
 unfold wt at h
 split at h
 ·rename_i o ho
  rw[kE]at ho
  simp[ho,h]
 ·cases h
def yS:SV→Option Bool
 | .dat .bool c=>some c
 |_=>none
theorem xV{sv:SV}{c:Bool}(h:yS sv=some c):sv = .dat .bool c:=by
 unfold yS at h
 split at h
 ·cases h;rfl
 ·cases h
def L9:SV→Bool
 | .und=>true
 |_=>false
theorem Ic{sv:SV}(h:L9 sv=true):sv = .und:=by cases sv<;>first |rfl |cases h
def GW(all:List Oper)(ps:PS)(g:Option (Nat×Bool)):Prop:=
 match g with
 |none=>True
 |some (j,b)=>∃dj st,wt all j=some dj∧aL ps.sl dj=some (st,.dat .bool b)
def GN(all:List Oper)(ps:PS)(o:Oper):Prop:=
 ∃j b dj st,o.guard=some (j,b)∧wt all j=some dj∧(aL ps.sl dj=some (st,.dat .bool (!b))∨aL ps.sl dj=some (st,.und)∧o.dst≠none)
def Qw(N:Nat)(d:Option Nat):Bool:=match d with |some d=>Nat.blt d N |none=>true
theorem Cz{d:Option Nat}(h:Qw N d=true): ∀i,d=some i→Nat.blt i N=true:=fun i e=>by subst e;exact h
def pi(T:jF P)(N:Nat)(own rng:List Nat)(all:List Oper)(o:Oper)(ps:PS)(out:cL):Prop:=
 Qw N o.dst=true∧gU ps out=true∧((GW all ps o.guard∧ed (fU T own rng ps o.dst o.op) out)∨(GN all ps o∧out=o1 .und))
theorem GW.wn{all:List Oper}{g:Option (Nat×Bool)}(h:rb e ps F lab w)(hg:GW all ps g):Wn all.toArray F g:=by
 unfold Wn
 unfold GW at hg
 split
 ·trivial
 ·rename_i j b
  obtain⟨dj,st,h1,h2⟩:=hg
  obtain⟨v,hv,hr⟩:=h.sl _ _ _ (am h2)
  have hr:aV .bool b lab w v:=hr
  rw[hr.bool]at hv
  exact⟨dj,sE h1,hv⟩
theorem K9{all:List Oper}{o:Oper}(h:rb e ps F lab w)(hg:GN all ps o)(hd:Qw N o.dst=true)(tp:cm lab w):LW P N all.toArray [o] F w (Fin N F e ps.nxt lab w o.dst (o1 .und)):=by
 obtain⟨dst,op,ty,pos,af,g⟩:=o
 obtain⟨j,b,dj,st,h1,h2,h3⟩:=hg
 have h1:g=some (j,b):=h1
 subst h1
 have hfin : ∀{F':List (Nat×Value)} {d:Option Nat},F'=PC F d undef→LW P N all.toArray [] F' w (Fin N F e ps.nxt lab w d (o1 .und)):=fun hF=>by
  subst hF
  exact LW.nil fun a ha=>⟨rfl,e,lab,undef,ha,fun _ _=>rfl,gu.refl tp,rfl,fun p hp=>by simp[o1]at hp,fun p hp=>by simp[o1]at hp⟩
 rcases h3 with h3 | ⟨h3,h4⟩
 ·obtain⟨v,hv,hr⟩:=h.sl _ _ _ (am h3)
  have hr:aV .bool (!b) lab w v:=hr
  rw[hr.bool]at hv
  cases dst with
  |some d=>exact LW.skip dj (sE h2) hv (by cases b<;>rfl) (Cz hd _ rfl) (hfin rfl)
  |none=>exact LW.skip0 dj (sE h2) hv (by cases b<;>rfl) (hfin rfl)
 ·obtain⟨v,hv,hr⟩:=h.sl _ _ _ (am h3)
  have hr:v=undef:=hr
  rw[hr]at hv
  cases dst with
  |some d=>exact LW.skipU dj (sE h2) hv (Cz hd _ rfl) (hfin rfl)
  |none=>exact absurd rfl h4
theorem JI:gU ps (o1 .und)=true:=rfl
theorem pi.fin{T:jF P}{own rng:List Nat}{all:List Oper}{o:Oper}(s:pi T N own rng all o ps out)(h:rb e ps F lab w)(wf:WF ps)(tp:cm lab w):
  LW P N all.toArray [o] F w (Fin N F e ps.nxt lab w o.dst out):=by
 obtain⟨hd,hc,⟨hg,hr⟩ | ⟨hg,rfl⟩⟩:=s
 ·obtain⟨dst,op,ty,pos,af,g⟩:=o
  exact JB h wf tp hr (hg.wn h) (Cz hd)
 ·exact K9 h hg hd tp
theorem CF{T:jF P}{own rng:List Nat}{all:List Oper}{o:Oper}{rest:List Oper}(s:pi T N own rng all o ps out)(h:jW pts w0 aU e ps F lab w)
  (hk : ∀e' F' lab' w',jW pts w0 aU e' (apply ps o.dst out) F' lab' w'→LW P N all.toArray rest F' w' K):LW P N all.toArray (o::rest) F w K:=by
 refine LW.cons1 (s.fin h.sim h.wf h.cx.top) ?_
 rintro ex a' w' ⟨h0,e',lab',v,hs,hp⟩
 exact⟨h0,hk _ _ _ _ (h.step hp s.2.1) _ hs⟩
def jx:List (Nat×Nat×SV)→Nat→List Nat
 | [],_=>[]
 | (s,_,.own i)::r,id=>match Nat.beq i id with
  |true=>s::jx r id
  |false=>jx r id
 |_::r,id=>jx r id
theorem hD : ∀{l:List (Nat×Nat×SV)} {id s:Nat},s∈jx l id→∃st,(s,st,.own id)∈l
 | [],_,_,h=>by simp[jx]at h
 | (s',st,sv)::r,id,s,h=>by
  cases sv with
  |own i=>
   unfold jx at h
   split at h
   ·rename_i hb
    obtain rfl:=Nat.eq_of_beq_eq_true hb
    rcases List.mem_cons.1 h with rfl |h
    ·exact⟨st,by simp⟩
    ·obtain⟨st',h⟩:=hD h;exact⟨st',by simp[h]⟩
   ·obtain⟨st',h⟩:=hD h;exact⟨st',by simp[h]⟩
  |_=>obtain⟨st',h⟩:=hD (l:=r) h;exact⟨st',by simp[h]⟩
def L8(k:Nat)(T:TypeId)(t:PT)(x:den t):List (Nat×Nat)→dq
 | []=>.box k T t x
 |h::r=>.boxh k T t x (h::r)
theorem Ir{k:Nat}{T:TypeId}{t:PT}{x:den t}{hs:List (Nat×Nat)}{e:f7}{lab:bf}{w:World}{id:Nat}(h:bg e lab w id (.boxh k T t x hs)):bg e lab w id (L8 k T t x hs):=by
 cases hs with
 |nil=>
  obtain⟨g,cs,h1,h2,h3,_⟩:=h
  exact⟨g,cs,h1,h2,h3⟩
 |cons a r=>exact h
def lJ:List (Nat×Nat×SV)→Nat→List (Nat×Nat)
 | [],_=>[]
 | (s,_,.ptr i o)::r,id=>match Nat.beq i id with
  |true=>(s,o)::lJ r id
  |false=>lJ r id
 |_::r,id=>lJ r id
theorem kT : ∀{l:List (Nat×Nat×SV)} {id s o:Nat},(s,o)∈lJ l id→∃st,(s,st,.ptr id o)∈l
 | [],_,_,_,h=>by simp[lJ]at h
 | (s',st,sv)::r,id,s,o,h=>by
  cases sv with
  |ptr i q=>
   unfold lJ at h
   split at h
   ·rename_i hb
    obtain rfl:=Nat.eq_of_beq_eq_true hb
    rcases List.mem_cons.1 h with e |h
    ·injection e with e1 e2;subst e1 e2;exact⟨st,by simp⟩
    ·obtain⟨st',h⟩:=kT h;exact⟨st',by simp[h]⟩
   ·obtain⟨st',h⟩:=kT h;exact⟨st',by simp[h]⟩
  |_=>obtain⟨st',h⟩:=kT (l:=r) h;exact⟨st',by simp[h]⟩
def Tg(ps:PS)(id:Nat):Option cL:=
 match aL ps.mem id with
 |some (_,.box k _ t x)=>some ⟨.und,[k],[],(lJ ps.sl id).map fun s=>(s.1,.dptr t x s.2)⟩
 |some (_,.row k _ t xs)=>some ⟨.und,[k],[],(jx ps.sl id).map fun s=>(s,.dat (.sl t) xs)⟩
 |some (_,.rq k _ _ t xs)=>some ⟨.und,[k],[],(jx ps.sl id).map fun s=>(s,.dat (.sl (.sl t)) xs)⟩
 |some (_,.boxh k T t x ((off,rid)::hs))=>match aL ps.mem rid with
  |some (_,.row q _ u xs)=>match Nat.beq k q,cW t off (.sl u) x xs with
   |false,some x'=>some ⟨.und,[q],[(id,L8 k T t x' hs)],(jx ps.sl rid).map fun s=>(s,.dat (.sl u) xs)⟩
   |_,_=>none
  |_=>none
 |_=>none
theorem OI{id:Nat}(h:rb e ps F lab w)(tp:cm lab w)(hf:Tg ps id=some out): ∃lab',qU N F e ps.nxt lab w none out e lab' w undef:=by
 unfold Tg at hf
 split at hf
 ·rename_i st k T t X hm
  cases hf
  obtain⟨G,cs,b1,b2,b3⟩:=h.mem _ _ _ (am hm)
  refine⟨Gk.mask lab k,fun _ _=>rfl,gu.mask tp (by simp),rfl,fun p hp=>by simp at hp,fun p hp u hu=>?_⟩
  obtain⟨s,hs,rfl⟩:=List.mem_map.1 hp
  obtain⟨st',hs⟩:=kT (o:=s.2) hs
  obtain⟨v,hv,hr⟩:=h.sl _ _ _ hs
  have hv':cN F s.1=some u:=hu
  rw[hv]at hv'
  have hvu:=Option.some.inj hv'
  obtain⟨G',c1,rfl⟩:=hr
  rw[b1]at c1;cases c1
  refine⟨⟨G,0,none⟩,cs,by rw[←hvu,bR,Nat.zero_add],fun j c hj=>⟨?_,?_⟩,(rep t).keep bd.mask b3⟩
  ·show Gk.mask lab k G=0
   unfold Gk.mask;rw[if_pos b2.2]
  ·rw[bR,Nat.zero_add,b2.cell];exact hj
 ·rename_i st k E t xs hm
  cases hf
  obtain⟨b1,b2,b3⟩:=h.mem _ _ _ (am hm)
  refine⟨Gk.mask lab k,fun _ _=>rfl,gu.mask tp (by simp),rfl,fun p hp=>by simp at hp,fun p hp u hu=>?_⟩
  obtain⟨s,hs,rfl⟩:=List.mem_map.1 hp
  obtain⟨st',hs⟩:=hD hs
  obtain⟨v,hv,hr⟩:=h.sl _ _ _ hs
  have hv':cN F s=some u:=hu
  rw[hv]at hv'
  have hvu:=Option.some.inj hv'
  have hr:v = .slice (e id).oa (e id).n (e id).c:=hr
  rw[←hvu,hr,b1]
  exact aV.ofSl b3.view
 ·rename_i st k E E2 t xs hm
  cases hf
  obtain⟨b1,b2,b3⟩:=h.mem _ _ _ (am hm)
  refine⟨Gk.mask lab k,fun _ _=>rfl,gu.mask tp (by simp),rfl,fun p hp=>by simp at hp,fun p hp u hu=>?_⟩
  obtain⟨s,hs,rfl⟩:=List.mem_map.1 hp
  obtain⟨st',hs⟩:=hD hs
  obtain⟨v,hv,hr⟩:=h.sl _ _ _ hs
  have hv':cN F s=some u:=hu
  rw[hv]at hv'
  have hvu:=Option.some.inj hv'
  have hr:v = .slice (e id).oa (e id).n (e id).c:=hr
  rw[←hvu,hr,b1]
  exact aV.ofSl (t:=.sl t) b3.view
 ·rename_i st k T t x off rid hs0 hm
  split at hf
  ·rename_i st2 q E u xs hm2
   split at hf
   ·rename_i x' hkq hs
    cases hf
    obtain⟨b1,b2,b3⟩:=h.mem _ _ _ (am hm2)
    have b1:(e rid).n=xs.length:=b1
    obtain⟨G,cs,c1,c2,c3,c4,c5⟩:=h.mem _ _ _ (am hm)
    have hne:k≠q:=fun e=>by subst e;simp at hkq
    refine⟨Gk.mask lab q,fun _ _=>rfl,gu.mask tp (by simp),rfl,fun p hp=>?_,fun p hp u' hu=>?_⟩
    ·simp at hp;subst hp
     refine Ir ?_
     rw[List.map_cons]at c5
     obtain⟨hnin,hnd⟩:=List.nodup_cons.1 c5
     have hoff:(oz cs hs0)[off]?=some (.slice (e rid).oa (e rid).n (e rid).c):=by
      rw[BY fun h hm he=>hnin (List.mem_map.2 ⟨h,hm,he⟩)]
      exact c4 (off,rid) (by simp)
     have hsl:(rep (.sl u)).rd (Gk.mask lab q) w [.slice (e rid).oa (e rid).n (e rid).c] xs:=⟨(e rid).oa,(e rid).c,by rw[b1],b3.view⟩
     obtain⟨hle,hrd⟩:=gL (u:=.sl u) ((rep t).keep bd.mask c3) hsl hs
     refine⟨G,cs,c1,⟨c2.1,?_⟩,?_,fun h hm=>c4 h (by simp[hm]),hnd⟩
     ·unfold Gk.mask;rw[c2.2,if_neg hne]
     ·have hlo:off<(oz cs hs0).length:=(List.getElem?_eq_some_iff.1 hoff).1
      have e1:((oz cs hs0).set off (.slice none 0 0)).take off ++ [.slice (e rid).oa (e rid).n (e rid).c]++((oz cs hs0).set off (.slice none 0 0)).drop (off+bZ (.sl u))=oz cs hs0:=by
       show _++_++((oz cs hs0).set off _).drop (off+1)=oz cs hs0
       rw[List.take_set_of_le (Nat.le_refl _),List.drop_set_of_lt (by omega)]
       have e2:(oz cs hs0)[off] = .slice (e rid).oa (e rid).n (e rid).c:=by
        have:=List.getElem?_eq_getElem hlo
        rw[hoff]at this;exact(Option.some.inj this).symm
       rw[←e2,List.append_assoc,List.singleton_append,←List.drop_eq_getElem_cons hlo,List.take_append_drop]
      exact e1▸hrd
    ·obtain⟨s,hs',rfl⟩:=List.mem_map.1 hp
     obtain⟨st',hs'⟩:=hD hs'
     obtain⟨v,hv,hr⟩:=h.sl _ _ _ hs'
     have hv':cN F s=some u':=hu
     rw[hv]at hv'
     have hvu:=Option.some.inj hv'
     have hr:v = .slice (e rid).oa (e rid).n (e rid).c:=hr
     rw[←hvu,hr,b1]
     exact aV.ofSl b3.view
   ·cases hf
  ·cases hf
 ·cases hf
def qR:List Nat→PS→Option PS
 | [],ps=>some ps
 |id::r,ps=>match Tg ps id with
  |some out=>match gU ps out with
   |true=>qR r (apply ps none out)
   |false=>none
  |none=>none
theorem mW : ∀{ids:List Nat} {ps ps':PS} {lab:bf},qR ids ps=some ps'→jW pts w0 aU e ps F lab w→(∃lab',jW pts w0 aU e ps' F lab' w)∧co ps ps'
 | [],ps,ps',lab,hf,h=>by cases hf;exact⟨⟨lab,h⟩,co.refl _⟩
 |id::r,ps,ps',lab,hf,h=>by
  unfold qR at hf
  split at hf
  ·rename_i out ho
   split at hf
   ·rename_i hc
    obtain⟨lab',hp⟩:=OI (N:=0) h.sim h.cx.top ho
    have h2:=h.step hp hc
    obtain⟨h3,h4⟩:=mW hf h2
    exact⟨h3,(co.apply _ _ _).trans h4⟩
   ·cases hf
  ·cases hf
def T4:Nat:=let _f:=@fU;0
noncomputable def dB {R:Type} (n:Nat) (k:Nat→R):R:=(fun _=>Nat.rec (motive:=fun _=>R) (k 0) (fun m _=>k (m+1)) n) T4
theorem f9{R:Type}(n:Nat)(k:Nat→R):dB n k=k n:=by cases n<;>rfl
noncomputable def CR {R:Type} (b:SV) (k:SV→R):R:=
 match b with
 | .dat t x=>k (.dat t x) | .agn t x l=>k (.agn t x l) | .agh t x off id=>dB id fun id=>k (.agh t x off id) | .clb f id=>dB id fun id=>k (.clb f id) | .nil=>k .nil | .und=>k .und | .pnil=>k .pnil
 | .ptr id off=>dB id fun id=>k (.ptr id off) | .own id=>dB id fun id=>k (.own id) | .eptr id i off=>dB id fun id=>k (.eptr id i off) | .dptr t x off=>k (.dptr t x off)
 | .rix id=>dB id fun id=>k (.rix id) | .rlen id=>dB id fun id=>k (.rlen id) | .rsl id=>dB id fun id=>k (.rsl id) | .rnx id=>dB id fun id=>k (.rnx id) | .rcn id=>dB id fun id=>k (.rcn id) | .mp id=>dB id fun id=>k (.mp id) | .mpq id l=>dB id fun id=>k (.mpq id l) | .garr t xs=>k (.garr t xs) | .fsl q x=>k (.fsl q x) | .tup l=>k (.tup l)
theorem Fp{R:Type}(b:SV)(k:SV→R):CR b k=k b:=by
 cases b<;>unfold CR<;>first |rfl |exact f9 _ _
noncomputable def BW {R:Type} (l:List (Nat×Nat)):(List (Nat×Nat)→R)→R:=
 List.rec (motive:=fun _=>(List (Nat×Nat)→R)→R) (fun k=>k []) (fun x _ ih k=>Prod.casesOn (motive:=fun _=>R) x fun o r=>dB o fun o=>dB r fun r=>ih fun l=>k ((o,r)::l)) l
theorem yA{R:Type}: ∀(l:List (Nat×Nat)) (k:List (Nat×Nat)→R),BW l k=k l
 | [],k=>rfl
 | (o,r)::l,k=>by
  show dB o (fun o=>dB r fun r=>BW l fun l=>k ((o,r)::l))=_
  rw[f9,f9,yA l]
noncomputable def Ct {R:Type} (b:dq) (k:dq→R):R:=
 match b with
 | .box q T t x=>k (.box q T t x) | .boxh q T t x hs=>BW hs fun hs=>k (.boxh q T t x hs) | .row q E t xs=>k (.row q E t xs) | .src q t xs=>k (.src q t xs)
 | .rgh t xs=>k (.rgh t xs) | .rgi h t xs i ox=>dB h fun h=>k (.rgi h t xs i ox) | .rgc n=>k (.rgc n) | .rgj h n i more=>dB h fun h=>k (.rgj h n i more) | .mp q T t f=>k (.mp q T t f) | .rq q E E2 t xs=>k (.rq q E E2 t xs) | .rp q E E2 t xs=>k (.rp q E E2 t xs)
theorem Gf{R:Type}(b:dq)(k:dq→R):Ct b k=k b:=by
 cases b<;>unfold Ct<;>first |rfl |exact yA _ (fun r=>k (.boxh _ _ _ _ r)) |exact f9 _ (fun h=>k (.rgi h _ _ _ _)) |exact f9 _ (fun h=>k (.rgj h _ _ _))
noncomputable def zp {R β:Type} (f:(b:β)→(β→R)→R) (l:List (Nat×Nat×β)):(List (Nat×Nat×β)→R)→R:=
 List.rec (motive:=fun _=>(List (Nat×Nat×β)→R)→R) (fun k=>k []) (fun x _ ih k=>Prod.casesOn (motive:=fun _=>R) x fun s y=>Prod.casesOn (motive:=fun _=>R) y fun st b=>dB s fun s=>dB st fun st=>f b fun b=>ih fun r=>k ((s,st,b)::r)) l
theorem tL{R β:Type}{f:(b:β)→(β→R)→R}(hf : ∀b k,f b k=k b): ∀(l:List (Nat×Nat×β)) (k:List (Nat×Nat×β)→R),zp f l k=k l
 | [],k=>rfl
 | (s,st,b)::r,k=>by
  show dB s (fun s=>dB st fun st=>f b fun b=>zp f r fun r=>k ((s,st,b)::r))=_
  rw[f9,f9,hf,tL hf r]
noncomputable def zH {R:Type} (ps:PS) (k:PS→R):R:=dB ps.nxt fun n=>zp CR ps.sl fun sl=>zp Ct ps.mem fun mem=>k ⟨n,sl,mem⟩
theorem yP{R:Type}(ps:PS)(k:PS→R):zH ps k=k ps:=by
 unfold zH
 rw[f9,tL Fp,tL Gf]
def JJ:List (Nat×Nat×SV)→Nat→SV→List (Nat×Nat×SV)
 | [],_,_=>[]
 | (k,st,b)::r,s,sv=>match Nat.beq k s with
  |true=>(k,st,sv)::r
  |false=>(k,st,b)::JJ r s sv
theorem Dv : ∀{l:List (Nat×Nat×SV)} {s st:Nat} {sv:SV},aL l s=some (st,sv)→JJ l s sv=l
 | [],_,_,_,h=>by cases h
 | (k,st',b)::r,s,st,sv,h=>by
  unfold aL at h
  unfold JJ
  split at h
  ·rename_i hb
   cases h
   simp only[hb]
  ·rename_i hb
   simp only[hb]
   rw[Dv h]
def oZ(ps:PS)(s:Nat)(c:Bool):PS:=⟨ps.nxt,JJ ps.sl s (.dat .bool c),ps.mem⟩
theorem pK{s st:Nat}{c:Bool}(h:aL ps.sl s=some (st,.dat .bool c)):oZ ps s c=ps:=by
 unfold oZ;rw[Dv h]
def S0:List PK→List Operand→List Operand
 | .r _ _::ps,_::xs=>S0 ps xs
 |_::ps,x::xs=>x::S0 ps xs
 | [],xs=>xs
 |_,[]=>[]
def Gv(hold:List Nat)(x:Operand):Bool:=match vy x with
 |some s=>dV hold (1000000+s)
 |none=>false
def RY(hold:List Nat)(x:Operand):Bool:=match vy x with
 |some s=>dV hold (5000000+s)
 |none=>false
def L3(hold:List Nat)(x:Operand):Bool:=match vy x with
 |some s=>dV hold (2000000+s)
 |none=>false
def Uf{P:Program}(T:jF P):Op→List Operand
 | .store _ x v=>match vf T.hold x with
  |some _=>[]
  |none=>match Gv T.hold x with
   |true=>[]
   |false=>match RY T.hold x with
    |true=>[v]
    |false=>[v,x]
 | .box _ v=>[v]
 | .load t x=>match dC T.te t with
  |some e=>match ja e.pt with
   |true=>match L3 T.hold x with
    |true=>[]
    |false=>[x]
   |false=>[]
  |none=>[]
 | .build _ parts=>(parts.toList.filter fun p=>!Gv T.hold p.2).map (·.2)
 | .buildSlice _ _ parts=>match parts.toList with
  | [(0,x)]=>match Gv T.hold x with
   |true=>[]
   |false=>[x]
  |l=>l.map (·.2)
 | .call c=>match c.callee with
  | .value (.func f)=>match ny T.cs f with
   |some q=>match rP (q.rs++fT q.ps)with
    |true=>[]
    |false=>S0 q.ps c.args.toList
   |none=>[]
  | .value (.tmp _)=>c.args.toList
  |_=>[]
 | .makeFunc _ _ caps=>match Aq T.hold caps.toList with
  |true=>[]
  |false=>caps.toList
 | .field _ x _=>[x]
 | .mapUpdate _ _ _ z=>[z]
 |_=>[]
def PI(id:Nat):List (Nat×Nat)→List Nat→List Nat
 | [],l=>l
 |_::r,l=>id::PI id r l
def oc(ps:PS):List Operand→List Nat
 | []=>[]
 |x::r=>match br ps x with
  |some (.own id,some (.row _ _ _ _))=>match dV (oc ps r) id with
   |true=>oc ps r
   |false=>id::oc ps r
  |some (.own id,some (.rq _ _ _ _ _))=>match dV (oc ps r) id with
   |true=>oc ps r
   |false=>id::oc ps r
  |some (.ptr id _,some (.boxh _ _ _ _ hs))=>match dV (oc ps r) id with
   |true=>oc ps r
   |false=>PI id hs (oc ps r)
  |_=>oc ps r
def Mf(id:Nat):List (Nat×Nat)→List Nat
 |_::h::r=>id::Mf id (h::r)
 |_=>[]
def Uo{P:Program}(T:jF P)(ps:PS):Op→List Nat
 | .load _ x=>match L3 T.hold x,br ps x with
  |true,some (.ptr id 0,some (.boxh _ _ _ _ hs))=>Mf id hs
  |_,_=>[]
 |_=>[]
def Ua{P:Program}(T:jF P)(ps:PS):Op→List Nat
 | .slice t x none none none=>match Ff T.te t,br ps x with
  |some _,some (.ptr id _,some (.box _ _ (.ar _ _) _))=>[id]
  |_,_=>[]
 | .makeFunc _ _ caps=>match Aq T.hold caps.toList with
  |true=>[]
  |false=>caps.toList.flatMap fun x=>match br ps x with
   |some (.ptr id 0,some (.box _ _ _ _))=>[id]
   |_=>[]
 |_=>[]
def Uh{P:Program}(T:jF P)(ps:PS)(op:Op):List Nat:=(Ua T ps op).foldr (fun x l=>x::l) ((Uo T ps op).foldr (fun x l=>x::l) (oc ps (Uf T op)))
noncomputable def QG (T:jF P) (N:Nat) (own rng:List Nat) {R:Type} (o:Oper) (ps:PS) (K:PS→cL→Option R):Option R:=
 match Qw N o.dst with
 |true=>(fU T own rng ps o.dst o.op).go fun out=>match gU ps out with
  |true=>K ps out
  |false=>none
 |false=>none
def QT(N:Nat){R:Type}(o:Oper)(ps:PS)(K:PS→cL→Option R):Option R:=
 match Qw N o.dst with
 |true=>K ps (o1 .und)
 |false=>none
noncomputable def EK (T:jF P) (N:Nat) (own rng:List Nat) (all:List Oper) {R:Type} (o:Oper) (ps:PS) (K:PS→cL→Option R):Option R:=
 match o.guard with
 |none=>QG T N own rng o ps K
 |some (j,b)=>match wt all j with
  |none=>none
  |some dj=>match aL ps.sl dj with
   |none=>none
   |some (_,sv)=>match yS sv with
    |some c=>cond c
      (match b with |true=>QG T N own rng o (oZ ps dj true) K |false=>QT N o (oZ ps dj true) K)
      (match b with |true=>QT N o (oZ ps dj false) K |false=>QG T N own rng o (oZ ps dj false) K)
    |none=>match L9 sv,o.dst with
     |true,some _=>QT N o ps K
     |_,_=>none
theorem wk{T:jF P}{own rng:List Nat}{all:List Oper}{R:Type}{q:R}{o:Oper}{K:PS→cL→Option R}(hg:GW all ps o.guard)(h:QG T N own rng o ps K=some q): ∃out,pi T N own rng all o ps out∧K ps out=some q:=by
 unfold QG at h
 split at h
 ·rename_i hd
  obtain⟨out,h1,h2⟩:=J8 h
  split at h2
  ·rename_i hc
   exact⟨_,⟨hd,hc,.inl ⟨hg,h1⟩⟩,h2⟩
  ·cases h2
 ·cases h
theorem wW{T:jF P}{own rng:List Nat}{all:List Oper}{R:Type}{q:R}{o:Oper}{K:PS→cL→Option R}(hg:GN all ps o)(h:QT N o ps K=some q): ∃out,pi T N own rng all o ps out∧K ps out=some q:=by
 unfold QT at h
 split at h
 ·rename_i hd
  exact⟨_,⟨hd,JI,.inr ⟨hg,rfl⟩⟩,h⟩
 ·cases h
theorem pH{T:jF P}{own rng:List Nat}{all:List Oper}{R:Type}{q:R}{o:Oper}{K:PS→cL→Option R}(h:EK T N own rng all o ps K=some q): ∃out,pi T N own rng all o ps out∧K ps out=some q:=by
 unfold EK at h
 split at h
 ·rename_i hg
  exact wk (by rw[hg];trivial) h
 ·rename_i j b hg
  split at h
  ·cases h
  ·rename_i dj hdj
   split at h
   ·cases h
   ·rename_i st sv hf
    split at h
    ·rename_i c hc
     obtain rfl:=xV hc
     cases c with
     |true=>
      have e1:=pK hf
      simp only[cond_true]at h
      cases b with
      |true=>
       simp only[e1]at h
       exact wk (by rw[hg];exact⟨dj,st,hdj,hf⟩) h
      |false=>
       simp only[e1]at h
       exact wW ⟨j,false,dj,st,hg,hdj,.inl hf⟩ h
     |false=>
      have e1:=pK hf
      simp only[cond_false]at h
      cases b with
      |true=>
       simp only[e1]at h
       exact wW ⟨j,true,dj,st,hg,hdj,.inl hf⟩ h
      |false=>
       simp only[e1]at h
       exact wk (by rw[hg];exact⟨dj,st,hdj,hf⟩) h
    ·split at h
     ·rename_i hu hd
      obtain rfl:=Ic hu
      exact wW ⟨j,b,dj,st,hg,hdj,.inr ⟨hf,by rw[hd];simp⟩⟩ h
     ·cases h
noncomputable def Di (T:jF P) (N:Nat) (own rng:List Nat) (all:List Oper) {R:Type}:List Oper→PS→(PS→Option R)→Option R
 | [],ps,K=>K ps
 |o::r,ps,K=>match qR (Uh T ps o.op) ps with
  |some ps=>EK T N own rng all o ps fun ps out=>Di T N own rng all r (apply ps o.dst out) K
  |none=>none
theorem sC{T:jF P}{own rng:List Nat}{all:List Oper}{R:Type}{q:R}: ∀{l:List Oper} {ps:PS} {e:f7} {F:List (Nat×Value)} {lab:bf} {w:World} {K:PS→Option R} {kont:eT},Di T N own rng all l ps K=some q→jW pts w0 aU e ps F lab w→
  (∀ps' e' F' lab' w',co ps ps'→jW pts w0 aU e' ps' F' lab' w'→K ps'=some q→EW N .normal F' w' kont)→LW P N all.toArray l F w kont
 | [],ps,e,F,lab,w,K,kont,h,hi,hk=>LW.nil (hk _ _ _ _ _ (co.refl _) hi h)
 |o::r,ps,e,F,lab,w,K,kont,h,hi,hk=>by
  unfold Di at h
  split at h
  ·rename_i ps1 hf
   obtain⟨⟨lab1,hi1⟩,hp1⟩:=mW hf hi
   obtain⟨out,hs,h2⟩:=pH h
   refine CF hs hi1 fun e' F' lab' w' hi2=>?_
   exact sC h2 hi2 fun ps' e'' F'' lab'' w'' hp hi3 hK=>hk _ _ _ _ _ ((hp1.trans (co.apply _ _ _)).trans hp) hi3 hK
  ·cases h
end
section
variable {P : Program} {N : Nat} {K : eT}
def R4(l:List Oper)(n:Nat):Bool:=(List.range n).all fun i=>match l[i]? with
 |some o=>o.after.all (fun e=>!Region.binds .any e||decide (e.on<i))
 |none=>false
def Sx(l:List Oper)(n:Nat):Bool:=(List.range n).all fun i=>match l[i]? with
 |some o=>match o.dst with
  |some d=>(List.range i).all fun j=>match l[j]? with
   |some o'=>match o'.dst with |some d'=>!Nat.beq d' d |none=>true
   |none=>true
  |none=>true
 |none=>true
theorem G7{l:List Oper}{n:Nat}{I:(Nat→Bool)→List (Nat×Value)→World→Prop}(hn:n≤l.length)(hback:R4 l n=true)(htl:L7 l n=true)(hseq:Region.seqB .any l.toArray (l.length-n) n (va l n)=true)
  (hop : ∀i,i<n→∀o L F w,l[i]?=some o→L i=false→(∀j,Region.waitsFor .any l.toArray i j=true→L j=true)→(∀j j',Region.waitsFor .any l.toArray j j'=true→L j=true→L j'=true)→(∀j,n≤j→L j=false)→I L F w→
   LW P N l.toArray [o] F w (fun e a' w'=>e = .normal∧∃F',pM F' N a'∧I (yv L i) F' w'))
  (htail : ∀F w,I (fun j=>decide (j<n)) F w→LW P N l.toArray (l.drop n) F w K) :
  ∀(m:Nat) (listed:Array Bool) (a:Act) (F:List (Nat×Value)) (w:World),HI l n listed→K5 n (Lf listed)=m→pM F N a→I (Lf listed) F w→wpAny P .any l.toArray K (m+(l.length-n)) listed a w:=by
 intro m
 induction m with
 |zero=>
  intro listed a F w inv hc ha hq
  have hall:=Gl hc
  have hL:Lf listed=fun j=>decide (j<n):=by
   funext j
   rcases Nat.lt_or_ge j n with h |h
   ·rw[hall j h];simp[h]
   ·rw[inv.tail j h];simp;omega
  have hlisted:listed=va l n:=by
   apply Array.ext
   ·simp[va,inv.size]
   ·intro j h1 h2
    have:=congrFun hL j
    simp only[Lf]at this
    rw[Array.getD_eq_getD_getElem?,Array.getElem?_eq_getElem h1]at this
    simp at this
    simp[va,this]
  rw[hL]at hq
  have:=htail F w hq a ha
  have h2:=wpAny_of_seq (md:=.any) (Q':=K) (l.drop n) n listed a w (fun j=>by simp[List.getElem?_drop]) (by rw[List.length_drop,hlisted];exact hseq) this
  simpa using h2
 |succ m ih=>
  intro listed a F w inv hc ha hq
  rw[show m+1+(l.length-n)=(m+(l.length-n))+1 by omega]
  have hex : ∃i,i<n∧Lf listed i=false:=by
   apply Classical.byContradiction
   intro hno
   have:K5 n (Lf listed)=0:=by
    unfold K5
    rw[List.length_eq_zero_iff,List.filter_eq_nil_iff]
    intro i hi
    have:=List.mem_range.1 hi
    by_cases h:Lf listed i=true
    ·simp[h]
    ·exact absurd ⟨i,this,by simpa using h⟩ hno
   omega
  obtain⟨i0,hi0⟩:=hex
  obtain⟨k,⟨hkn,hk0⟩,hmin⟩:=EG (p:=fun i=>i<n∧Lf listed i=false) i0 hi0
  have hklt:k<l.length:=by omega
  have hback':=fun i (hi:i<n)=>List.all_eq_true.1 hback i (List.mem_range.2 hi)
  have hready:k∈Region.ready .any l.toArray listed:=by
   refine mem_ready.2 ⟨getD_in (by rw[inv.size];exact hklt) hk0,l[k],by simp[hklt],fun e he hbnd=>?_⟩
   have:=hback' k hkn
   rw[List.getElem?_eq_getElem hklt]at this
   have h2:=Array.all_eq_true_iff_forall_mem.1 this e he
   simp[hbnd]at h2
   apply Classical.byContradiction
   intro hne
   have:Lf listed e.on=false:=by unfold Lf;simpa using hne
   have:=hmin e.on ⟨by omega,this⟩
   omega
  refine⟨fun h0=>(by rw[h0]at hready;cases hready),fun i hi=>?_⟩
  obtain⟨hil,o,hio,hie⟩:=mem_ready.1 hi
  have hio':l[i]?=some o:=by simpa using hio
  have hilt:i<l.length:=(List.getElem?_eq_some_iff.1 hio').1
  have hiL:Lf listed i=false:=getD_both hil
  have hwait : ∀j,Region.waitsFor .any l.toArray i j=true→Lf listed j=true:=fun j hj=>by
   obtain⟨o',ho',e,he,hbnd,hon⟩:=Region.waitsFor_spec hj
   have:o'=o:=Option.some.inj (ho'.symm.trans hio)
   subst this;subst hon
   exact hie e he hbnd
  have hin:i<n:=by
   rcases Nat.lt_or_ge i n with h |h
   ·exact h
   ·have:=List.all_eq_true.1 htl i (List.mem_range.2 hilt)
    simp only[Bool.or_eq_true,decide_eq_true_eq]at this
    rcases this with h' |h'
    ·omega
    ·have:=List.all_eq_true.1 h' k (List.mem_range.2 (by omega))
     rw[hwait k this]at hk0;cases hk0
  refine Ci hio' ha (hop i hin o (Lf listed) F w hio' hiL hwait inv.closed inv.tail hq) fun e a' w' hkk=>?_
  obtain⟨h0,F',hs,hq'⟩:=hkk
  refine⟨h0,?_⟩
  have hset:Lf (listed.setIfInBounds i true)=yv (Lf listed) i:=by
   funext j;unfold Lf yv;exact Ge listed i j false (by rw[inv.size];exact hilt)
  refine ih _ _ F' w' ⟨by simp[inv.size],fun j j' hj hl=>?_,fun j hj=>?_⟩ ?_ hs (by rw[hset];exact hq')
  ·rw[hset]at hl⊢
   unfold yv at hl⊢
   by_cases hji:j=i
   ·subst hji
    by_cases hj'i:j'=j
    ·simp[hj'i]
    ·simp[hj'i,hwait j' hj]
   ·rw[if_neg hji]at hl
    by_cases hj'i:j'=i
    ·simp[hj'i]
    ·simp[hj'i,inv.closed j j' hj hl]
  ·rw[hset];unfold yv;rw[if_neg (by omega)];exact inv.tail j hj
  ·have:=Kw hin hiL;rw[hset];omega
end
theorem eE : ∀{l:List Nat} {n:Nat},dV l n=true↔n∈l
 | [],n=>by simp[dV]
 |x::r,n=>by
  unfold dV
  rw[Bool.or_eq_true,eE,List.mem_cons]
  constructor
  ·rintro(h |h)
   ·exact .inl (Nat.eq_of_beq_eq_true h).symm
   ·exact .inr h
  ·rintro(rfl |h)
   ·exact .inl (Nat.beq_refl _)
   ·exact .inr h
def rL:List Nat→List Nat→Bool
 | [],_=>false
 |x::r,l=>dV l x||rL r l
theorem r_ : ∀{a b:List Nat},(∃x,x∈a∧x∈b)→rL a b=true
 | [],_,⟨x,h,_⟩=>by simp at h
 |y::r,b,⟨x,h,h2⟩=>by
  unfold rL
  rcases List.mem_cons.1 h with rfl |h
  ·rw[eE.2 h2];rfl
  ·rw[r_ ⟨x,h,h2⟩,Bool.or_true]
def nr(l:List (List Nat))(n:Nat):List Nat:=match DM l n with |some x=>x |none=>[]
def CM(t:List (List Nat)):List Nat→List Nat
 | []=>[]
 |d::r=>match dV (CM t r) d with
  |true=>CM t r
  |false=>d::(nr t d++CM t r)
theorem vK{t:List (List Nat)}{j:Nat}: ∀{ds:List Nat},j∈CM t ds→j∈ds∨∃k,k∈ds∧j∈nr t k
 | [],h=>by simp[CM]at h
 |d::r,h=>by
  unfold CM at h
  have up:(j∈r∨∃k,k∈r∧j∈nr t k)→j∈d::r∨∃k,k∈d::r∧j∈nr t k:=by
   rintro(h | ⟨k,h1,h2⟩)
   ·exact .inl (List.mem_cons_of_mem _ h)
   ·exact .inr ⟨k,List.mem_cons_of_mem _ h1,h2⟩
  split at h
  ·exact up (vK h)
  ·rcases List.mem_cons.1 h with rfl |h
   ·exact .inl (by simp)
   ·rcases List.mem_append.1 h with h |h
    ·exact .inr ⟨d,by simp,h⟩
    ·exact up (vK h)
def kQ(l:List Oper):Nat→List (List Nat)
 |0=>[]
 |n+1=>
  let t:=kQ l n
  let ds:=(List.range n).filter fun j=>Region.waitsFor .any l.toArray n j
  t ++ [CM t ds]
theorem yw(l:List Oper): ∀n,(kQ l n).length=n
 |0=>rfl
 |n+1=>by simp[kQ,yw l n]
theorem ru{l:List Oper}{L:Nat→Bool}(hc : ∀j j',Region.waitsFor .any l.toArray j j'=true→L j=true→L j'=true): ∀n i j,j∈nr (kQ l n) i→(L i=true∨∀k,Region.waitsFor .any l.toArray i k=true→L k=true)→L j=true
 |0,i,j,h,_=>by simp[kQ,nr,DM]at h
 |n+1,i,j,h,hi=>by
  have hl:=yw l n
  unfold nr at h
  rw[kE]at h
  simp only[kQ]at h
  by_cases hin:i<n
  ·rw[List.getElem?_append_left (by omega)]at h
   have:=ru hc n i j (by unfold nr;rw[kE];exact h) hi
   exact this
  ·by_cases hen:i=n
   ·subst hen
    rw[List.getElem?_append_right (by omega),hl,Nat.sub_self]at h
    simp only[List.getElem?_cons_zero]at h
    have hi' : ∀k,Region.waitsFor .any l.toArray i k=true→L k=true:=fun k hk=>by
     rcases hi with hi |hi
     ·exact hc _ _ hk hi
     ·exact hi k hk
    rcases vK h with h | ⟨k,hk,hj⟩
    ·exact hi' j (List.mem_filter.1 h).2
    ·exact ru hc i k j hj (.inl (hi' k (List.mem_filter.1 hk).2))
   ·rw[List.getElem?_eq_none (by simp[hl];omega)]at h
    simp at h
def lR:Op→List Operand
 | .move x=>[x] | .assign x=>[x] | .pick c x y=>[c,x,y] | .box _ x=>[x] | .fieldAddr _ x _=>[x] | .nilCheck x=>[x] | .load _ x=>[x] | .store _ x y=>[x,y]
 | .binOp _ _ x y _=>[x,y] | .unOp _ _ x=>[x] | .convert _ _ x=>[x] | .build _ ps=>ps.toList.map (·.2) | .buildSlice _ _ ps=>ps.toList.map (·.2) | .makeSlice _ x y=>[x,y]
 | .slice _ x lo hi mx=>x::(lo.toList++(hi.toList++mx.toList)) | .indexAddr _ x y=>[x,y] | .index _ x y=>[x,y] | .lookup _ x y _=>[x,y] | .mapUpdate _ x y z=>[x,y,z] | .sliceToArrayPointer _ x=>[x] | .extract x _=>[x] | .field _ x _=>[x] | .makeFunc _ _ caps=>caps.toList
 | .call c=>c.args.toList++(match c.callee with | .value f=>[f] |_=>[])
 |_=>[]
def tmps:List Operand→List Nat
 | []=>[]
 | .tmp t::r=>t::tmps r
 |_::r=>tmps r
theorem oM : ∀{l:List Operand} {t:Nat},Operand.tmp t∈l→t∈tmps l
 | [],t,h=>by simp at h
 |x::r,t,h=>by
  rcases List.mem_cons.1 h with rfl |h
  ·simp[tmps]
  ·have:=oM h
   cases x<;>simp[tmps,this]
section
variable {P : Program} {ps ps' : PS}
theorem ra : ∀{xs:List Operand},(∀x∈xs,br ps x=br ps' x)→nQ ps xs=nQ ps' xs
 | [],_=>rfl
 |x::xs,h=>by unfold nQ;rw[h x (by simp),ra fun y hy=>h y (by simp[hy])]
theorem qG : ∀{xs:List (Nat×Operand)},(∀x∈xs.map (·.2),br ps x=br ps' x)→Al ps xs=Al ps' xs
 | [],_=>rfl
 | (i,x)::xs,h=>by unfold Al;rw[h x (by simp),qG fun y hy=>h y (by simp at hy⊢;exact .inr hy)]
theorem yu{x:Option Operand}(h : ∀y∈x.toList,br ps y=br ps' y):Ou ps x=Ou ps' x:=by
 cases x with
 |none=>rfl
 |some x=>simp only[Ou,h x (by simp)]
theorem C1{T:jF P}{own rng:List Nat}{dst:Option Nat}{op:Op}(hn:ps.nxt=ps'.nxt)(h : ∀x∈lR op,br ps x=br ps' x):fU T own rng ps dst op=fU T own rng ps' dst op:=by
 cases op<;>cases dst<;>first |rfl |skip
 case move.some x d=>simp only[fU];rw[h x (by simp[lR])]
 case assign.some x d=>simp only[fU];rw[h x (by simp[lR])]
 case pick.some c x y d=>simp only[fU];rw[h c (by simp[lR]),h x (by simp[lR]),h y (by simp[lR])]
 case alloc.some t d=>simp only[fU,hn]
 case box.some t x d=>simp only[fU,hn];rw[h x (by simp[lR])]
 case fieldAddr.some t x f d=>simp only[fU];rw[h x (by simp[lR])]
 case nilCheck.some x d=>simp only[fU];rw[h x (by simp[lR])]
 case load.some t x d=>simp only[fU,hn];rw[h x (by simp[lR])]
 case store.none t x y=>simp only[fU,hn];rw[h x (by simp[lR]),h y (by simp[lR])]
 case binOp.some o t x y t' d=>simp only[fU];rw[h x (by simp[lR]),h y (by simp[lR])]
 case unOp.some o t x d=>cases o<;>first |rfl | (simp only[fU];rw[h x (by simp[lR])])
 case convert.some s t x d=>simp only[fU];rw[h x (by simp[lR])]
 case build.some t ps0 d=>simp only[fU];rw[qG (by simpa [lR]using h)]
 case sliceToArrayPointer.some t x d=>simp only[fU];rw[h x (by simp[lR])]
 case field.some t x f d=>simp only[fU];rw[h x (by simp[lR])]
 case makeFunc.none fn fs caps=>cases fn<;>rfl
 case makeFunc.some fn fs caps d=>cases fn<;>first |rfl | (simp only[fU];rw[ra (by simpa [lR]using h)])
 case buildSlice.some t n ps0 d=>simp only[fU,hn];rw[qG (by simpa [lR]using h)]
 case makeSlice.some t x y d=>simp only[fU,hn];rw[h x (by simp[lR]),h y (by simp[lR])]
 case slice.some t x lo hi mx d=>
  cases mx with
  |none=>simp only[fU,hn];rw[h x (by simp[lR]),yu (x:=lo) (fun y hy=>h y (by simp[lR]at hy⊢;exact .inr (.inl hy))),yu (x:=hi) (fun y hy=>h y (by simp[lR]at hy⊢;exact .inr (.inr hy)))]
  |some m=>
   cases lo with
   |some _=>cases hi<;>rfl
   |none=>
    cases hi with
    |none=>rfl
    |some q=>simp only[fU];rw[h x (by simp[lR]),h q (by simp[lR]),h m (by simp[lR])]
 case unOp.none o t x=>cases o<;>rfl
 case slice.none t x lo hi mx=>cases mx<;>cases lo<;>cases hi<;>rfl
 case index.some t x y d=>simp only[fU];rw[h x (by simp[lR]),h y (by simp[lR])]
 case indexAddr.some t x y d=>simp only[fU];rw[h x (by simp[lR]),h y (by simp[lR])]
 case makeMap.some t r d=>cases r<;>simp only[fU,hn]
 case makeMap.none t r=>cases r<;>rfl
 case lookup.some t x y ok d=>simp only[fU];rw[h x (by simp[lR]),h y (by simp[lR])]
 case mapUpdate.none t x y z=>simp only[fU];rw[h x (by simp[lR]),h y (by simp[lR]),h z (by simp[lR])]
 case extract.some x i d=>simp only[fU];rw[h x (by simp[lR])]
 case call.some c d=>
  have hL : ∀l,c.args.toList=l→nQ ps l=nQ ps' l:=fun l hl=>ra fun x hx=>h x (by simp only[lR];rw[hl];exact List.mem_append_left _ hx)
  have h1 : ∀x,x∈c.args.toList→br ps x=br ps' x:=fun x hx=>h x (by simp only[lR];exact List.mem_append_left _ hx)
  have h2 : ∀f,c.callee = .value f→br ps f=br ps' f:=fun f hf=>h f (by simp only[lR];rw[hf];exact List.mem_append_right _ (List.mem_singleton.2 rfl))
  simp only[fU,hn]
  generalize hc:c.callee=cal at h2
  generalize ha:c.args.toList=al at hL h1
  generalize c.argTypes.toList=tl
  split<;>first |rfl |skip
  ·rename_i x t;rw[h1 x (by simp)]
  ·rename_i x y t t';rw[h1 x (by simp),h1 y (by simp)]
  ·rename_i x y t t';rw[h1 x (by simp),h1 y (by simp)]
  ·rename_i l x y;rw[h1 x (by simp),h1 y (by simp)]
  ·rename_i l x y;rw[h1 x (by simp),h1 y (by simp)]
  ·rename_i f xs l;rw[hL _ rfl]
  ·rename_i s xs l;rw[hL _ rfl,h2 _ rfl]
end
section
variable {P : Program} {N : Nat}
structure SI where
 d:Option Nat
 us:List Nat
 ids:List Nat
 tl:List Nat
 ks:List Nat
 rf:List Nat
 bn:List Nat
 lo:Nat
def IT(all:List Oper)(g:Option (Nat×Bool)):List Nat:=
 match g with
 |some (j,_)=>match wt all j with |some dj=>[dj] |none=>[]
 |none=>[]
def jL(ps:PS):List Nat→List Nat
 | []=>[]
 |t::r=>match aL ps.sl t with
  |some (_,sv)=>match Ay sv with
   |some id=>id::jL ps r
   |none=>jL ps r
  |none=>jL ps r
def yK(ps:PS):List Nat→List Nat
 | []=>[]
 |id::r=>match aL ps.mem id with
  |some (_,m)=>m.lbl::yK ps r
  |none=>yK ps r
def mJ(all:List Oper)(o:Oper):List Nat:=tmps (lR o.op)++IT all o.guard
def tH(hd:List Nat)(all:List Oper)(o:Oper)(ps:PS):List Nat:=
 match o.op with
 | .move _=>[] | .assign _=>[] | .fieldAddr _ _ _=>[] | .nilCheck _=>[]
 | .store _ x _=>match vf hd x with
  |some _=>jL ps (tmps [x])
  |none=>jL ps (mJ all o)
 |_=>jL ps (mJ all o)
def tP(hd:List Nat)(all:List Oper)(o:Oper)(ps:PS)(out:cL):SI:=
 ⟨o.dst,mJ all o,tH hd all o ps,yK ps (tH hd all o ps)++out.ks++out.puts.map (·.2.lbl),out.ks,gZ out.sv++out.puts.flatMap (fun p=>p.1::fi p.2),out.puts.map (·.1),ps.nxt⟩
def PE(lo:Nat)(i:Nat):Bool:=Nat.ble lo i&&Nat.blt i (lo+4)
def tn(dep:Bool)(a b:SI):Bool:=
 dep||!((match a.d with |some d=>dV b.us d |none=>false)||b.rf.any (PE a.lo)||rL a.bn b.ids||rL a.ks b.tl||rL a.tl b.ks)
def E4(tab:List (List Nat)):Nat→List (Nat×SI)→List SI→Bool
 |_,_,[]=>true
 |j,prev,s::r=>prev.all (fun p=>tn (dV (nr tab j) p.1) p.2 s)&&E4 tab (j+1) ((j,s)::prev) r
theorem AP{tab:List (List Nat)}: ∀{l:List SI} {j:Nat} {prev:List (Nat×SI)},E4 tab j prev l=true→∀{b:Nat} {sb:SI},l[b]?=some sb→(∀p∈prev,tn (dV (nr tab (j+b)) p.1) p.2 sb=true)∧∀{a:Nat} {sa:SI},a<b→l[a]?=some sa→tn (dV (nr tab (j+b)) (j+a)) sa sb=true
 | [],_,_,_,_,_,h=>by simp at h
 |s::r,j,prev,h,0,sb,hb=>by
  unfold E4 at h
  rw[Bool.and_eq_true]at h
  simp at hb;subst hb
  exact⟨fun p hp=>List.all_eq_true.1 h.1 p hp,fun ha=>absurd ha (Nat.not_lt_zero _)⟩
 |s::r,j,prev,h,b+1,sb,hb=>by
  unfold E4 at h
  rw[Bool.and_eq_true]at h
  obtain⟨h1,h2⟩:=AP h.2 (b:=b) (sb:=sb) (by simpa using hb)
  rw[show j+1+b=j+(b+1) by omega]at h1 h2
  refine⟨fun p hp=>h1 p (by simp[hp]),fun{a sa} ha hsa=>?_⟩
  cases a with
  |zero=>
   simp at hsa;subst hsa
   exact h1 (j,s) (by simp)
  |succ a=>
   have:=h2 (a:=a) (sa:=sa) (by omega) (by simpa using hsa)
   rw[show j+1+a=j+(a+1) by omega]at this
   exact this
theorem g9{β:Type}{us:List Nat}: ∀{l:List (Nat×Nat×β)} {s:Nat},dV us s=true→aL (l.filter fun x=>dV us x.1) s=aL l s
 | [],_,_=>rfl
 | (k,st,b)::r,s,h=>by
  by_cases hk:dV us k=true
  ·rw[List.filter_cons_of_pos (by simpa using hk)]
   unfold aL
   split
   ·rfl
   ·exact g9 h
  ·rw[List.filter_cons_of_neg (by simpa using hk)]
   have hne:Nat.beq k s=false:=jY fun e=>by subst e;exact hk h
   have e1:aL ((k,st,b)::r) s=aL r s:=by simp only[aL,hne]
   rw[e1]
   exact g9 h
theorem yO{ps:PS}{st:Nat}{sv:SV}{id:Nat}: ∀{us:List Nat} {t:Nat},t∈us→aL ps.sl t=some (st,sv)→Ay sv=some id→id∈jL ps us
 | [],_,h,_,_=>by simp at h
 |x::r,t,h,hf,hr=>by
  unfold jL
  rcases List.mem_cons.1 h with rfl |h
  ·rw[hf];simp[hr]
  ·have:=yO h hf hr
   split
   ·split<;>simp[this]
   ·exact this
theorem xX{ps:PS}{st:Nat}{m:dq}: ∀{ids:List Nat} {id:Nat},id∈ids→aL ps.mem id=some (st,m)→m.lbl∈yK ps ids
 | [],_,h,_=>by simp at h
 |x::r,t,h,hf=>by
  unfold yK
  rcases List.mem_cons.1 h with rfl |h
  ·rw[hf];simp
  ·have:=xX h hf
   split<;>simp[this]
theorem zZ{β:Type}{l:List (Nat×Nat×β)}(hn:KN l){s st:Nat}{b:β}(h:(s,st,b)∈l):aL l s=some (st,b):=by
 induction l with
 |nil=>simp at h
 |cons x r ih=>
  obtain⟨k,st',b'⟩:=x
  obtain⟨hx,hr⟩:=List.pairwise_cons.1 hn
  unfold aL
  rcases List.mem_cons.1 h with e |h
  ·injection e with e1 e2;injection e2 with e2 e3;subst e1 e2 e3
   simp
  ·have hne:Nat.beq k s=false:=jY fun e=>hx _ h e
   rw[hne];exact ih hr h
def mn(us ids:List Nat)(ps:PS):PS:=⟨ps.nxt,ps.sl.filter fun x=>dV us x.1,ps.mem.filter fun x=>dV ids x.1⟩
theorem H_{us ids:List Nat}{ps:PS}(h:WF ps):WF (mn us ids ps):=
 ⟨fun s st sv hm=>h.sl s st sv (List.mem_filter.1 hm).1,fun i st m hm=>h.mem i st m (List.mem_filter.1 hm).1,fun i st m hm=>h.lbl i st m (List.mem_filter.1 hm).1,h.ns.filter _,h.nm.filter _,h.n0⟩
theorem tZ{us us2:List Nat}{ps:PS}{x:Operand}(h : ∀t,x = .tmp t→t∈us∧t∈us2):br (mn us (jL ps us2) ps) x=br ps x:=by
 cases x with
 |tmp t=>
  obtain⟨ht0,ht⟩:=h t rfl
  have h1:aL (mn us (jL ps us2) ps).sl t=aL ps.sl t:=g9 (eE.2 ht0)
  unfold br
  simp only[h1]
  cases hf:aL ps.sl t with
  |none=>rfl
  |some p=>
   obtain⟨st,sv⟩:=p
   have:lU (mn us (jL ps us2) ps) sv=lU ps sv:=by
    unfold lU
    cases hr:Ay sv with
    |none=>rfl
    |some id=>
     have h2:aL (mn us (jL ps us2) ps).mem id=aL ps.mem id:=g9 (eE.2 (yO ht hf hr))
     simp only[h2]
   simp only[this]
 |const v=>rfl
 |global g=>rfl
 |func f=>rfl
theorem Cu{us:List Nat}{ps:PS}{x:Operand}(h : ∀t,x = .tmp t→t∈us):br (mn us (jL ps us) ps) x=br ps x:=tZ fun t e=>⟨h t e,h t e⟩
theorem vG{us ids:List Nat}{ps:PS}{x:Operand}(h : ∀t,x = .tmp t→t∈us):(br (mn us ids ps) x).map (·.1)=(br ps x).map (·.1):=by
 cases x with
 |tmp t=>
  have h1:aL (mn us ids ps).sl t=aL ps.sl t:=g9 (eE.2 (h t rfl))
  unfold br
  simp only[h1]
  cases aL ps.sl t<;>rfl
 |const v=>rfl
 |global g=>rfl
 |func f=>rfl
def mf(f:SV→aO)(r:Option RA):aO:=match r with |some a=>f a.1 |none=>.stuck
theorem pW{r r':Option RA}(f:SV→aO)(h:r.map (·.1)=r'.map (·.1)):mf f r=mf f r':=by
 cases r with
 |none=>cases r' with
  |none=>rfl
  |some _=>cases h
 |some a=>cases r' with
  |none=>cases h
  |some b=>
   have e:a.1=b.1:=Option.some.inj h
   show f a.1=f b.1
   rw[e]
theorem Fb{T:jF P}{own rng:List Nat}{dst:Option Nat}{op:Op}{ps ps':PS}(hop:(match op with | .move _=>true | .assign _=>true | .fieldAddr _ _ _=>true | .nilCheck _=>true |_=>false)=true)(h : ∀x,x∈lR op→(br ps x).map (·.1)=(br ps' x).map (·.1)):fU T own rng ps dst op=fU T own rng ps' dst op:=by
 cases op<;>first | (cases hop;done) |skip
 ·rename_i x
  cases dst with
  |none=>rfl
  |some d=>exact pW (fun sv=>.ret (o1 sv)) (h x (List.mem_singleton.2 rfl))
 ·rename_i x
  cases dst with
  |none=>rfl
  |some d=>exact pW (fun sv=>.ret (o1 sv)) (h x (List.mem_singleton.2 rfl))
 ·rename_i x
  cases dst with
  |none=>rfl
  |some d=>exact pW (fun sv=>match Bt 0 sv with |some _=>.ret (o1 sv) |none=>uO sv) (h x (List.mem_singleton.2 rfl))
 ·rename_i t x f
  cases dst with
  |none=>rfl
  |some d=>
   show(match pp T.fe t f,br ps x with |some e,some a=>(match Bt e.off a.1 with |some sv=>aO.ret (o1 sv) |none=>pC e.off a.1) |_,_=>.stuck)=(match pp T.fe t f,br ps' x with |some e,some a=>(match Bt e.off a.1 with |some sv=>aO.ret (o1 sv) |none=>pC e.off a.1) |_,_=>.stuck)
   have h1:=h x (List.mem_singleton.2 rfl)
   cases pp T.fe t f with
   |none=>rfl
   |some e=>
    have:=pW (fun sv=>match Bt e.off sv with |some sv=>aO.ret (o1 sv) |none=>pC e.off sv) h1
    revert this
    cases br ps x<;>cases br ps' x<;>exact fun h=>h
theorem EL{T:jF P}{own rng:List Nat}{dst:Option Nat}{t:TypeId}{x y:Operand}{s:Nat}{ps ps':PS}(hh:vf T.hold x=some s)(hn:ps.nxt=ps'.nxt)(hx:br ps x=br ps' x)(hy:(br ps y).map (·.1)=(br ps' y).map (·.1)):fU T own rng ps dst (.store t x y)=fU T own rng ps' dst (.store t x y):=by
 cases dst with
 |some d=>rfl
 |none=>
  simp only[fU,hh,hx,hn]
  cases dC T.te t with
  |none=>rfl
  |some e=>
   cases br ps' x with
   |none=>rfl
   |some a=>
    revert hy
    cases br ps y with
    |none=>cases br ps' y with
     |none=>intro _;rfl
     |some _=>intro h;cases h
    |some b=>cases br ps' y with
     |none=>intro h;cases h
     |some b'=>
      intro h
      have e1:b.1=b'.1:=Option.some.inj h
      simp only[e1]
theorem Cf{T:jF P}{own rng:List Nat}{all:List Oper}{o:Oper}{ps:PS}{out:cL}(h:pi T N own rng all o ps out)(hre:out.re = []):pi T N own rng all o (mn (mJ all o) (tH T.hold all o ps) ps) out:=by
 obtain⟨hd,hc,hs⟩:=h
 have hslot : ∀{j:Nat} {b:Bool} {dj:Nat},o.guard=some (j,b)→wt all j=some dj→aL (mn (mJ all o) (tH T.hold all o ps) ps).sl dj=aL ps.sl dj:=fun h1 h2=>
  g9 (eE.2 (by unfold mJ IT;rw[h1];simp only[h2];simp))
 refine⟨hd,?_,?_⟩
 ·unfold gU at hc⊢
  rw[hre]at hc⊢
  exact hc
 ·rcases hs with⟨hg,hr⟩ | ⟨hg,ho⟩
  ·refine .inl ⟨?_,?_⟩
   ·unfold GW at hg⊢
    split
    ·trivial
    ·rename_i j b heq
     rw[heq]at hg
     obtain⟨dj,st,h1,h2⟩:=hg
     exact⟨dj,st,h1,by rw[hslot heq h1];exact h2⟩
   ·by_cases hop:(match o.op with | .move _=>true | .assign _=>true | .fieldAddr _ _ _=>true | .nilCheck _=>true |_=>false)=true
    ·have:=Fb (T:=T) (own:=own) (rng:=rng) (dst:=o.dst) (ps:=mn (mJ all o) (tH T.hold all o ps) ps) (ps':=ps) hop (fun x hx=>vG fun t e=>by subst e;exact List.mem_append_left _ (oM hx))
     rw[this];exact hr
    by_cases hst : ∃t x y s,o.op = .store t x y∧vf T.hold x=some s
    ·obtain⟨t,x,y,s,h1,h2⟩:=hst
     have hX:tH T.hold all o ps=jL ps (tmps [x]):=by unfold tH;rw[h1];simp only[h2]
     rw[h1]at hr⊢
     have hu : ∀z,z∈[x,y]→∀t',z=Operand.tmp t'→t'∈mJ all o:=fun z hz t' e=>by
      subst e;unfold mJ;rw[h1];exact List.mem_append_left _ (oM (by simpa [lR]using hz))
     rw[EL (ps:=mn (mJ all o) (tH T.hold all o ps) ps) (ps':=ps) (y:=y) h2 rfl (by rw[hX];exact tZ fun t' e=>⟨hu x (by simp) t' e,oM (by subst e;simp)⟩) (vG (hu y (by simp)))]
     exact hr
    have hX:tH T.hold all o ps=jL ps (mJ all o):=by
     unfold tH
     split<;>first |rfl | (rename_i heq;rw[heq]at hop;exact absurd rfl hop) |skip
     rename_i t x y heq
     split
     ·rename_i s hs;exact absurd ⟨t,x,y,s,heq,hs⟩ hst
     ·rfl
    rw[hX]
    have:=C1 (T:=T) (own:=own) (rng:=rng) (dst:=o.dst) (op:=o.op) (ps:=mn (mJ all o) (jL ps (mJ all o)) ps) (ps':=ps) rfl (fun x hx=>Cu fun t e=>by subst e;exact List.mem_append_left _ (oM hx))
    rw[this];exact hr
  ·refine .inr ⟨?_,ho⟩
   obtain⟨j,b,dj,st,h1,h2,h3⟩:=hg
   exact⟨j,b,dj,st,h1,h2,by rw[hslot h1 h2];exact h3⟩
def Qh(l:List Oper)(n s:Nat):Bool:=(List.range n).any fun i=>match l[i]? with |some o=>dV (mJ l o) s |none=>false
def Uc(l:List Oper)(n s:Nat):Bool:=(List.range n).all fun i=>match l[i]? with
 |some o=>match o.dst with
  |some d=>!Nat.beq d s||(List.range n).all fun j=>Nat.beq j i||(match l[j]? with |some oj=>!dV (mJ l oj) s |none=>true)||dV (nr (kQ l n) i) j
  |none=>true
 |none=>true
theorem M9{l:List Oper}{n s i j:Nat}{o oj:Oper}(h:Uc l n s=true)(hi:i<n)(hj:j<n)(hij:j≠i)(ho:l[i]?=some o)(hoj:l[j]?=some oj)(hd:o.dst=some s)(hu:s∈mJ l oj):j∈nr (kQ l n) i:=by
 have h1:=List.all_eq_true.1 h i (List.mem_range.2 hi)
 rw[ho]at h1
 simp only[hd]at h1
 have h2:((List.range n).all fun j=>Nat.beq j i||(match l[j]? with |some oj=>!dV (mJ l oj) s |none=>true)||dV (nr (kQ l n) i) j)=true:=by
  simpa using h1
 have h3:=List.all_eq_true.1 h2 j (List.mem_range.2 hj)
 rw[hoj]at h3
 simp only[Bool.or_eq_true]at h3
 rcases h3 with(h3 |h3) |h3
 ·exact absurd (Nat.eq_of_beq_eq_true h3) hij
 ·rw[eE.2 hu]at h3;cases h3
 ·exact eE.1 h3
structure Jt(T:jF P)(N:Nat)(own rng:List Nat)(l:List Oper)(n:Nat)(st:Nat→PS)(ou:Nat→cL):Prop where
 step : ∀ i, i < n → ∃ o, l[i]? = some o ∧ pi T N own rng l o (st i) (ou i) ∧ st (i + 1) = apply (st i) o.dst (ou i) ∧ (ou i).re = []
 wf:WF (st 0)
 fresh : ∀i j,i<n→j<n→j≠i→∀o oj s,l[i]?=some o→l[j]?=some oj→o.dst=some s→∀t v,(s,t,v)∈(st 0).sl→s∈mJ l oj→j∈nr (kQ l n) i
 dist : ∀i j oi oj di dj,i<n→j<n→i≠j→l[i]?=some oi→l[j]?=some oj→oi.dst=some di→oj.dst=some dj→di≠dj
section
variable {T : jF P} {own rng : List Nat} {l : List Oper} {n : Nat} {st : Nat → PS} {ou : Nat → cL}
theorem Jt.wfi (r : Jt T N own rng l n st ou) : ∀ i, i ≤ n → WF (st i)
 |0,_=>r.wf
 |i+1,h=>by
  obtain ⟨o, h1, h2, h3, h4⟩ := r.step i (by omega)
  rw[h3]
  have hc:=h2.2.1
  simp only[gU,Bool.and_eq_true]at hc
  exact(r.wfi i (by omega)).apply _ hc.1.1
theorem Jt.nx (r : Jt T N own rng l n st ou) : ∀ i j, i ≤ j → j ≤ n → (st i).nxt + 4 * (j - i) = (st j).nxt
 |i,0,h,_=>by
  have:i=0:=by omega
  subst this;simp
 |i,j+1,h,hn=>by
  rcases Nat.lt_or_ge i (j+1)with hlt |hge
  ·have:=r.nx i j (by omega) (by omega)
   obtain⟨o,h1,h2,h3,h4⟩:=r.step j (by omega)
   rw[h3]
   show _=(st j).nxt+4
   omega
  ·have:i=j+1:=by omega
   subst this;simp
theorem Jt.osl (r : Jt T N own rng l n st ou) : ∀ i, i ≤ n → ∀ s t sv, (s, t, sv) ∈ (st i).sl → ((s, t, sv) ∈ (st 0).sl ∧ ∀ j o, j < i → l[j]? = some o → o.dst ≠ some s) ∨ ∃ j o, j < i ∧ l[j]? = some o ∧ o.dst = some s ∧ sv = (ou j).sv
 |0,_,s,t,sv,h=>.inl ⟨h,fun j o hj=>absurd hj (Nat.not_lt_zero _)⟩
 |i+1,hi,s,t,sv,h=>by
  obtain ⟨o, h1, h2, h3, h4⟩ := r.step i (by omega)
  rw[h3]at h
  have h:(s,t,sv)∈Ml (st i).nxt o.dst (ou i).sv (reS (st i).nxt (ou i).re (st i).sl):=h
  have key:(s,t,sv)∈(st i).sl→o.dst≠some s→((s,t,sv)∈(st 0).sl∧∀j o,j<i+1→l[j]?=some o→o.dst≠some s)∨∃j o,j<i+1∧l[j]?=some o∧o.dst=some s∧sv=(ou j).sv:=fun h hne=>by
   rcases r.osl i (by omega) s t sv h with⟨h,hb⟩ | ⟨j,oj,a,b,c,d'⟩
   ·refine .inl ⟨h,fun j oj hj hoj=>?_⟩
    rcases Nat.lt_or_ge j i with hlt |hge
    ·exact hb j oj hlt hoj
    ·have:j=i:=by omega
     subst this
     have:oj=o:=Option.some.inj (hoj.symm.trans h1)
     subst this;exact hne
   ·exact .inr ⟨j,oj,by omega,b,c,d'⟩
  rw[h4]at h
  cases hd:o.dst with
  |none=>rw[hd]at h;exact key h (by rw[hd];simp)
  |some d=>
   rw[hd]at h
   rcases List.mem_cons.1 h with e |h
   ·injection e with e1 e2;injection e2 with e2 e3
    exact .inr ⟨i,o,by omega,h1,by rw[hd,e1],e3⟩
   ·exact key (bC.1 h).1 (by rw[hd];exact fun e=>(bC.1 h).2 (Option.some.inj e).symm)
theorem Jt.omem (r : Jt T N own rng l n st ou) : ∀ i, i ≤ n → ∀ id t m, (id, t, m) ∈ (st i).mem →
  ((id,t,m)∈(st 0).mem∧∀j,j<i→m.lbl=0∨(ou j).ks.contains m.lbl=false)∨∃j,j<i∧(id,m)∈(ou j).puts∧∀j',j<j'→j'<i→m.lbl=0∨(ou j').ks.contains m.lbl=false
 |0,_,id,t,m,h=>.inl ⟨h,fun j hj=>absurd hj (Nat.not_lt_zero _)⟩
 |i+1,hi,id,t,m,h=>by
  obtain ⟨o, h1, h2, h3, h4⟩ := r.step i (by omega)
  rw[h3]at h
  rcases fJ h with h | ⟨_,h⟩
  ·obtain⟨h,hk⟩:=jO.1 h
   rcases r.omem i (by omega) id t m h with⟨a,b⟩ | ⟨j,a,b,c⟩
   ·refine .inl ⟨a,fun j hj=>?_⟩
    rcases Nat.lt_or_ge j i with hlt |hge
    ·exact b j hlt
    ·have:j=i:=by omega
     subst this;exact hk
   ·refine .inr ⟨j,by omega,b,fun j' h5 h6=>?_⟩
    rcases Nat.lt_or_ge j' i with hlt |hge
    ·exact c j' h5 hlt
    ·have:j'=i:=by omega
     subst this;exact hk
  ·exact .inr ⟨i,by omega,h,fun j' h5 h6=>absurd h5 (by omega)⟩
def LL(pts:List Nat)(w0:World)(aU:bf)(l:List Oper)(n:Nat)(st:Nat→PS)(ou:Nat→cL)(L:Nat→Bool)(F:List (Nat×Value))(w:World):Prop:=
 ∃e lab,(∀s t sv,(s,t,sv)∈(st 0).sl→(∀j o,j<n→L j=true→l[j]?=some o→o.dst≠some s)→∃v,cN F s=some v∧RV e sv lab w v)∧
  (∀i,i<n→L i=true→∀o d,l[i]?=some o→o.dst=some d→∃v,cN F d=some v∧RV e (ou i).sv lab w v)∧
  (∀id t m,(id,t,m)∈(st 0).mem→(∀j,j<n→L j=true→m.lbl=0∨(ou j).ks.contains m.lbl=false)→bg e lab w id m)∧
  (∀i,i<n→L i=true→∀p∈(ou i).puts,(∀j,i<j→j<n→L j=true→p.2.lbl=0∨(ou j).ks.contains p.2.lbl=false)→bg e lab w p.1 p.2)∧Cx pts w0 aU w lab∧A0 pts e∧GL lab w
theorem FSx{pts:List Nat}{w0:World}{aU:bf}(r:Jt T N own rng l n st ou){sis:List SI}(hp:E4 (kQ l n) 0 [] sis=true)(hsi : ∀a,a<n→∃oa,l[a]?=some oa∧sis[a]?=some (tP T.hold l oa (st a) (ou a))):
  ∀i,i<n→∀o L F w,l[i]?=some o→L i=false→(∀j,Region.waitsFor .any l.toArray i j=true→L j=true)→(∀j j',Region.waitsFor .any l.toArray j j'=true→L j=true→L j'=true)→(∀j,n≤j→L j=false)→LL pts w0 aU l n st ou L F w→
   LW P N l.toArray [o] F w (fun e a' w'=>e = .normal∧∃F',pM F' N a'∧LL pts w0 aU l n st ou (yv L i) F' w'):=by
 intro i hi o L F w ho hLi hw hcl htl ⟨e,lab,hS0,hS1,hM0,hM1,hcx,ha0,hgl⟩
 have hpair : ∀a b oa ob,a<b→b<n→l[a]?=some oa→l[b]?=some ob→a∈nr (kQ l n) b∨tn false (tP T.hold l oa (st a) (ou a)) (tP T.hold l ob (st b) (ou b))=true:=by
  intro a b oa ob hab hb hoa hob
  obtain⟨oa',h1,h2⟩:=hsi a (by omega)
  obtain⟨ob',h3,h4⟩:=hsi b hb
  have e1:oa'=oa:=Option.some.inj (h1.symm.trans hoa)
  have e2:ob'=ob:=Option.some.inj (h3.symm.trans hob)
  subst e1 e2
  have:=(AP hp h4).2 hab h2
  simp only[Nat.zero_add]at this
  cases hd:dV (nr (kQ l n) b) a with
  |true=>exact .inl (eE.1 hd)
  |false=>rw[hd]at this;exact .inr this
 -- i is done by nobody who is done
 have hno : ∀j,L j=true→i∉nr (kQ l n) j:=fun j hj h=>by
  have:=ru hcl n j i h (.inl hj)
  rw[hLi]at this;cases this
 have hdone : ∀j,j∈nr (kQ l n) i→L j=true:=fun j h=>ru hcl n i j h (.inr hw)
 -- pairs with i, taken apart
 have later : ∀j oj,i<j→j<n→L j=true→l[j]?=some oj→(∀x,x∈(tP T.hold l oj (st j) (ou j)).rf→PE (st i).nxt x=false)∧rL (ou i).ks (tP T.hold l oj (st j) (ou j)).tl=false∧rL (tP T.hold l o (st i) (ou i)).tl (ou j).ks=false:=by
  intro j oj hij hjn hLj hoj
  rcases hpair i j o oj hij hjn ho hoj with h |h
  ·exact absurd h (hno j hLj)
  ·simp only[tn,Bool.false_or,Bool.not_eq_true',Bool.or_eq_false_iff]at h
   obtain⟨⟨⟨⟨_,h2⟩,_⟩,h4⟩,h5⟩:=h
   refine⟨fun x hx=>?_,h4,h5⟩
   cases hc:PE (st i).nxt x with
   |false=>rfl
   |true=>
    have:(tP T.hold l oj (st j) (ou j)).rf.any (PE (tP T.hold l o (st i) (ou i)).lo)=true:=List.any_eq_true.2 ⟨x,hx,hc⟩
    rw[this]at h2;cases h2
 have earlier : ∀j oj,j<i→l[j]?=some oj→L j=true∨((∀d,oj.dst=some d→d∉mJ l o)∧rL ((ou j).puts.map (·.1)) (tH T.hold l o (st i))=false):=by
  intro j oj hji hoj
  rcases hpair j i oj o hji hi hoj ho with h |h
  ·exact .inl (hdone j h)
  ·simp only[tn,Bool.false_or,Bool.not_eq_true',Bool.or_eq_false_iff]at h
   obtain⟨⟨⟨⟨h1,_⟩,h3⟩,_⟩,_⟩:=h
   refine .inr ⟨fun d hd hm=>?_,h3⟩
   have h1:(match oj.dst with |some d=>dV (mJ l o) d |none=>false)=false:=h1
   rw[hd]at h1
   simp only at h1
   rw[eE.2 hm]at h1;cases h1
 obtain ⟨o', ho', hstep, hst, hre⟩ := r.step i hi
 have:o'=o:=Option.some.inj (ho'.symm.trans ho)
 subst this
 have hwfi:=r.wfi i (by omega)
 -- what the step looks at stands
 have hsim:rb e (mn (mJ l o') (tH T.hold l o' (st i)) (st i)) F lab w:=by
  refine⟨fun s t sv hm=>?_,fun id t m hm=>?_,hgl⟩
  ·obtain⟨hm,hu⟩:=List.mem_filter.1 hm
   rcases r.osl i (by omega) s t sv hm with⟨h,_⟩ | ⟨j,oj,h1,h2,h3,h4⟩
   ·refine hS0 s t sv h fun j oj hj hLj hoj hdj=>?_
    have hji:i≠j:=fun e=>by subst e;rw[hLi]at hLj;cases hLj
    exact hno j hLj (r.fresh j i hj hi hji oj o' s hoj ho hdj t sv h (eE.1 (by simpa using hu)))
   ·have hLj:L j=true:=by
     rcases earlier j oj h1 h2 with h | ⟨h,_⟩
     ·exact h
     ·exact absurd (eE.1 (by simpa using hu)) (h s h3)
    rw[h4]
    exact hS1 j (by omega) hLj oj s h2 h3
  ·obtain⟨hm,hu⟩:=List.mem_filter.1 hm
   have hid:id∈tH T.hold l o' (st i):=eE.1 (by simpa using hu)
   have hlb:m.lbl∈(tP T.hold l o' (st i) (ou i)).tl:=by
    show _∈yK _ _++_++_
    rw[List.append_assoc]
    exact List.mem_append_left _ (xX hid (zZ hwfi.nm hm))
   have hafter : ∀j,i<j→j<n→L j=true→m.lbl=0∨(ou j).ks.contains m.lbl=false:=fun j h1 h2 h3=>by
    obtain⟨oj,hoj,_⟩:=r.step j h2
    have:=(later j oj h1 h2 h3 hoj).2.2
    refine .inr ?_
    cases hc:(ou j).ks.contains m.lbl with
    |false=>rfl
    |true=>
     have hcm:m.lbl∈(ou j).ks:=by simpa using hc
     rw[r_ ⟨_,hlb,hcm⟩]at this;cases this
   rcases r.omem i (by omega) id t m hm with⟨h1,h2⟩ | ⟨j,h1,h2,h3⟩
   ·refine hM0 id t m h1 fun j hj hLj=>?_
    rcases Nat.lt_trichotomy j i with h |h |h
    ·exact h2 j h
    ·subst h;rw[hLi]at hLj;cases hLj
    ·exact hafter j h hj hLj
   ·obtain⟨oj,hoj,_⟩:=r.step j (by omega)
    have hLj:L j=true:=by
     rcases earlier j oj h1 hoj with h | ⟨_,h⟩
     ·exact h
     ·have:id∈(ou j).puts.map (·.1):=List.mem_map.2 ⟨_,h2,rfl⟩
      rw[r_ ⟨_,this,hid⟩]at h;cases h
    refine hM1 j (by omega) hLj (id,m) h2 fun j' hj hj' hLj'=>?_
    rcases Nat.lt_trichotomy j' i with h |h |h
    ·exact h3 j' hj h
    ·subst h;rw[hLi]at hLj';cases hLj'
    ·exact hafter j' h hj' hLj'
 have hl:=(Cf hstep hre).fin hsim (H_ hwfi) hcx.top
 have hc:=hstep.2.1
 simp only[gU,Bool.and_eq_true]at hc
 have hup : ∀{s:Nat} {v:Value},(∀d,o'.dst=some d→s≠d)→cN (PC F o'.dst v) s=cN F s:=fun{s v} h=>by
  cases hd:o'.dst with
  |none=>rfl
  |some d=>exact mg (h d hd)
 refine LW.cons1 hl ?_
 rintro ex a' w' ⟨h0,e',lab',v,hs,hp1,hp2,hp3,hp4,hp5⟩
 have hp1 : ∀x,(x<(st i).nxt∨(st i).nxt+4≤x)→e' x=e x:=hp1
 refine⟨h0,rfl,PC F o'.dst v,hs,e',lab',?_,?_,?_,?_,hcx.stp hp2 (So hc.1.2),fun g hg=>by rw[hp1 0 (.inl hwfi.n0)];exact ha0 g hg,hgl.keep hp2.keeps⟩
 ·intro s t sv hm hnd
  obtain⟨u,hu,hr⟩:=hS0 s t sv hm fun j oj hj hLj hoj=>hnd j oj hj (by unfold yv;split<;>simp[hLj]) hoj
  refine⟨u,by rw[hup fun d hd e=>hnd i o' hi (by unfold yv;simp) ho (by rw[hd,e])];exact hu,(hr.keep hp2.keeps).env fun x hx=>hp1 x (.inl ?_)⟩
  have h1:=(r.wf.sl s t sv hm).2 x hx
  have h2:=r.nx 0 i (by omega) (by omega)
  omega
 ·intro j hj hLj oj dj hoj hdj
  by_cases hji:j=i
  ·subst hji
   have:oj=o':=Option.some.inj (hoj.symm.trans ho)
   subst this
   exact⟨v,by rw[hdj];exact nU,hp3⟩
  ·have hLj':L j=true:=by unfold yv at hLj;rw[if_neg hji]at hLj;exact hLj
   obtain⟨u,hu,hr⟩:=hS1 j hj hLj' oj dj hoj hdj
   refine⟨u,by rw[hup fun d hd=>r.dist j i oj o' dj d hj hi hji hoj ho hdj hd];exact hu,(hr.keep hp2.keeps).env fun x hx=>hp1 x ?_⟩
   rcases Nat.lt_or_ge j i with hlt |hge
   · -- an earlier one's numbers lie below
    obtain⟨oj',h1,h2,h3,h4⟩:=r.step j hj
    have hwf:=r.wfi (j+1) (by omega)
    rw[h3]at hwf
    have hcj:=h2.2.1
    simp only[gU,EZ,Bool.and_eq_true]at hcj
    have h5:=jX (List.all_eq_true.1 hcj.1.1.1.1 x hx)
    have h6:=r.nx j i (by omega) (by omega)
    exact .inl (by omega)
   ·have h1:=(later j oj (by omega) hj hLj' hoj).1 x (List.mem_append_left _ hx)
    unfold PE at h1
    by_cases hle:(st i).nxt≤x
    ·have:Nat.ble (st i).nxt x=true:=Nat.ble_eq_true_of_le hle
     rw[this,Bool.true_and]at h1
     exact .inr (pB h1)
    ·exact .inl (by omega)
 ·intro id t m hm hal
  have hali:=hal i hi (by unfold yv;simp)
  have h1:=hM0 id t m hm fun j hj hLj=>hal j hj (by unfold yv;split<;>simp[hLj])
  obtain⟨_,h2,h3⟩:=r.wf.mem id t m hm
  have h4:=r.nx 0 i (by omega) (by omega)
  exact(h1.stp hp2 hali (r.wf.lbl id t m hm)).env (hp1 id (.inl (by omega))) fun x hx=>hp1 x (.inl (by have:=h3 x hx;omega))
 ·intro j hj hLj p hpj hal
  by_cases hji:j=i
  ·subst hji
   exact hp4 p hpj
  ·have hLj':L j=true:=by unfold yv at hLj;rw[if_neg hji]at hLj;exact hLj
   have h1:=hM1 j hj hLj' p hpj fun j' h5 h6 h7=>hal j' h5 h6 (by unfold yv;split<;>simp[h7])
   obtain⟨oj,hoj,hsj,_,_⟩:=r.step j hj
   have hcj:=hsj.2.1
   simp only[gU,EZ,Bool.and_eq_true]at hcj
   have hpo:=List.all_eq_true.1 hcj.1.1.1.2 p hpj
   simp only[Bool.and_eq_true,Bool.or_eq_true]at hpo
   obtain⟨⟨q1,q2⟩,q3⟩:=hpo
   have hlb:p.2.lbl=0→By p.2=true:=fun h0=>by
    rcases q3 with q3 |q3
    ·exact q3
    ·rw[h0]at q3;cases q3
   rcases Nat.lt_or_ge j i with hlt |hge
   ·have hali:=hal i hlt hi (by unfold yv;simp)
    have h6:=r.nx j i (by omega) (by omega)
    refine(h1.stp hp2 hali hlb).env (hp1 p.1 (.inl ?_)) fun x hx=>hp1 x (.inl ?_)
    ·have:=jX q1;omega
    ·have:=jX (List.all_eq_true.1 q2 x hx);omega
   ·have hl3:=later j oj (by omega) hj hLj' hoj
    have hali:p.2.lbl=0∨(ou i).ks.contains p.2.lbl=false:=by
     refine .inr ?_
     cases hcc:(ou i).ks.contains p.2.lbl with
     |false=>rfl
     |true=>
      have h5:p.2.lbl∈(ou i).ks:=by simpa using hcc
      have h6:p.2.lbl∈(tP T.hold l oj (st j) (ou j)).tl:=List.mem_append_right _ (List.mem_map.2 ⟨p,hpj,rfl⟩)
      have:=hl3.2.1
      rw[r_ ⟨_,h5,h6⟩]at this;cases this
    have hrf : ∀x,x∈p.1::fi p.2→(x<(st i).nxt∨(st i).nxt+4≤x):=fun x hx=>by
     have h2:=hl3.1 x (List.mem_append_right _ (List.mem_flatMap.2 ⟨p,hpj,hx⟩))
     unfold PE at h2
     by_cases hle:(st i).nxt≤x
     ·have:Nat.ble (st i).nxt x=true:=Nat.ble_eq_true_of_le hle
      rw[this,Bool.true_and]at h2
      exact .inr (pB h2)
     ·exact .inl (by omega)
    exact(h1.stp hp2 hali hlb).env (hp1 p.1 (hrf _ (by simp))) fun x hx=>hp1 x (hrf x (by simp[hx]))
end
inductive Gg(T:jF P)(N:Nat)(own rng:List Nat)(all:List Oper):List Oper→PS→List (PS×cL)→PS→Prop where
 |nil {p:PS}:Gg T N own rng all [] p [] p
 |cons {o:Oper} {r:List Oper} {p:PS} {q:cL} {tr:List (PS×cL)} {p':PS}:pi T N own rng all o p q→q.re = []→Gg T N own rng all r (apply p o.dst q) tr p'→Gg T N own rng all (o::r) p ((p,q)::tr) p'
noncomputable def mj {R:Type} (l:List Nat):(List Nat→R)→R:=
 List.rec (motive:=fun _=>(List Nat→R)→R) (fun k=>k []) (fun x _ ih k=>dB x fun x=>ih fun r=>k (x::r)) l
theorem vm{R:Type}: ∀(l:List Nat) (k:List Nat→R),mj l k=k l
 | [],k=>rfl
 |x::r,k=>by
  show dB x (fun x=>mj r fun r=>k (x::r))=_
  rw[f9,vm r]
noncomputable def zh {R:Type} (s:SI) (k:SI→R):R:=
 mj s.us fun us=>mj s.ids fun ids=>mj s.tl fun tl=>mj s.ks fun ks=>mj s.rf fun rf=>mj s.bn fun bn=>dB s.lo fun lo=>k ⟨s.d,us,ids,tl,ks,rf,bn,lo⟩
theorem Cd{R:Type}(s:SI)(k:SI→R):zh s k=k s:=by
 unfold zh
 simp only[vm,f9]
noncomputable def Jn (T:jF P) (N:Nat) (own rng:List Nat) (all:List Oper) {R:Type}:List Oper→PS→List SI→(List SI→PS→Option R)→Option R
 | [],ps,acc,K=>K acc ps
 |o::r,ps,acc,K=>EK T N own rng all o ps fun ps out=>match out.re with
  | []=>zh (tP T.hold all o ps out) fun si=>zH (apply ps o.dst out) fun ps=>Jn T N own rng all r ps (acc ++ [si]) K
  |_=>none
def BP(hd:List Nat)(all:List Oper):List Oper→List (PS×cL)→List SI
 |o::r,(p,q)::tr=>tP hd all o p q::BP hd all r tr
 |_,_=>[]
theorem yE{T:jF P}{own rng:List Nat}{all:List Oper}{R:Type}{q:R}: ∀{l:List Oper} {ps:PS} {acc:List SI} {K:List SI→PS→Option R},Jn T N own rng all l ps acc K=some q→∃tr pn,Gg T N own rng all l ps tr pn∧K (acc++BP T.hold all l tr) pn=some q
 | [],ps,acc,K,h=>⟨[],ps,.nil,by simpa [BP,Jn]using h⟩
 |o::r,ps,acc,K,h=>by
  unfold Jn at h
  obtain⟨out,hs,h2⟩:=pH h
  split at h2
  ·rename_i hre
   rw[Cd,yP]at h2
   obtain⟨tr,pn,h3,h4⟩:=yE h2
   exact⟨_,_,.cons hs hre h3,by simpa [BP]using h4⟩
  ·cases h2
def tq(tr:List (PS×cL))(pn:PS)(i:Nat):PS:=match tr[i]? with |some p=>p.1 |none=>pn
def B5(tr:List (PS×cL))(i:Nat):cL:=match tr[i]? with |some p=>p.2 |none=>o1 .und
theorem Gg.len{T:jF P}{own rng:List Nat}{all l:List Oper}{p pn:PS}{tr:List (PS×cL)}(h:Gg T N own rng all l p tr pn):tr.length=l.length:=by
 induction h with
 |nil=>rfl
 |cons _ _ _ ih=>simp[ih]
theorem Gg.at0{T:jF P}{own rng:List Nat}{all l:List Oper}{p pn:PS}{tr:List (PS×cL)}(h:Gg T N own rng all l p tr pn):tq tr pn 0=p:=by
 cases h<;>rfl
theorem Gg.atn{T:jF P}{own rng:List Nat}{all l:List Oper}{p pn:PS}{tr:List (PS×cL)}(h:Gg T N own rng all l p tr pn):tq tr pn l.length=pn:=by
 unfold tq;rw[List.getElem?_eq_none (by rw[h.len];exact Nat.le_refl _)]
theorem Gg.get{T:jF P}{own rng:List Nat}{all l:List Oper}{p pn:PS}{tr:List (PS×cL)}(h:Gg T N own rng all l p tr pn): ∀{i:Nat} {o:Oper},l[i]?=some o→
  pi T N own rng all o (tq tr pn i) (B5 tr i)∧tq tr pn (i+1)=apply (tq tr pn i) o.dst (B5 tr i)∧(B5 tr i).re = []∧(BP T.hold all l tr)[i]?=some (tP T.hold all o (tq tr pn i) (B5 tr i)):=by
 induction h with
 |nil=>intro i o ho;simp at ho
 |cons hs hre ht ih=>
  intro i o ho
  cases i with
  |zero=>
   simp at ho;subst ho
   refine⟨hs,?_,hre,rfl⟩
   show tq _ _ 0=_
   exact ht.at0
  |succ i=>
   exact ih (by simpa using ho)
def l'(l:List Oper):Nat→Nat
 |0=>0
 |k+1=>match(List.range k).all fun j=>Region.waitsFor .any l.toArray k j with
  |true=>l' l k
  |false=>k+1
def nJ:List Oper→List Nat
 | []=>[]
 |o::r=>match o.dst with
  |some d=>d::nJ r
  |none=>nJ r
theorem vv{o:Oper}{d:Nat}: ∀{l:List Oper} {i:Nat},l[i]?=some o→o.dst=some d→d∈nJ l
 | [],i,h,_=>by simp at h
 |x::r,0,h,hd=>by simp at h;subst h;simp[nJ,hd]
 |x::r,i+1,h,hd=>by
  have:=vv (l:=r) (i:=i) (by simpa using h) hd
  unfold nJ;split<;>simp[this]
def GT(l:List Oper)(n s:Nat):Bool:=!dV (nJ (l.take n)) s||(Qh l n s&&Uc l n s)
def Ma(l:List Oper)(n:Nat):Bool:=Nat.ble n l.length&&R4 l n&&Sx l n&&L7 l n&&Region.seqB .any l.toArray (l.length-n) n (va l n)
noncomputable def GP (T:jF P) (N:Nat) (own rng:List Nat) (l:List Oper) {R:Type} (ps:PS) (K:PS→Option R):Option R:=
 match Ma l (l' l l.length)with
 |false=>none
 |true=>Jn T N own rng l (l.take (l' l l.length)) ⟨ps.nxt,ps.sl.filter (fun x=>GT l (l' l l.length) x.1),ps.mem⟩ [] fun sis ps=>
   match E4 (kQ l (l' l l.length)) 0 [] sis with
   |true=>Di T N own rng l (l.drop (l' l l.length)) ps K
   |false=>none
theorem Gs{T:jF P}{own rng:List Nat}{l:List Oper}{R:Type}{q:R}{ps:PS}{e:f7}{F:List (Nat×Value)}{lab aU:bf}{w w0:World}{pts:List Nat}{K:PS→Option R}{kont:eT}{id:Nat}(hm:P.follows .mixedOrders=true)(h:GP T N own rng l ps K=some q)(hi:jW pts w0 aU e ps F lab w)
  (hk : ∀ps' e' F' lab' w',co ps ps'→jW pts w0 aU e' ps' F' lab' w'→K ps'=some q→EW N .normal F' w' kont):CW P N (.region id l.toArray true) F w kont:=by
 intro a ha
 unfold GP at h
 generalize l' l l.length=n at h
 split at h
 ·cases h
 rename_i hS
 simp only[Ma,Bool.and_eq_true]at hS
 obtain⟨⟨⟨⟨hn,hback⟩,hdst⟩,htl⟩,hseq⟩:=hS
 have hn:n≤l.length:=Nat.le_of_ble_eq_true hn
 obtain⟨tr,pn,ht,hK⟩:=yE h
 simp only[List.nil_append]at hK
 split at hK
 ·rename_i hchk
  have htk:(l.take n).length=n:=by simp;omega
  have hget : ∀i,i<n→∃o,l[i]?=some o∧(l.take n)[i]?=some o:=fun i hi=>⟨l[i],List.getElem?_eq_getElem (by omega),by rw[List.getElem?_take_of_lt hi];exact List.getElem?_eq_getElem (by omega)⟩
  have hb : ∀i j oi oj di dj,i<n→j<i→l[i]?=some oi→l[j]?=some oj→oi.dst=some di→oj.dst=some dj→dj≠di:=fun i j oi oj di dj hi hj hoi hoj hdi hdj e=>by
   have:=List.all_eq_true.1 hdst i (List.mem_range.2 hi)
   rw[hoi]at this
   simp only[hdi]at this
   have h2:=List.all_eq_true.1 this j (List.mem_range.2 hj)
   rw[hoj]at h2
   simp only[hdj]at h2
   subst e
   simp at h2
  have h0:=ht.at0
  have hrun : Jt T N own rng l n (tq tr pn) (B5 tr) := by
   refine⟨fun i hi=>?_,?_,fun i j hi hj hji o oj s ho hoj hd t v hm hus=>?_,fun i j oi oj di dj hi hj hij hoi hoj hdi hdj=>?_⟩
   ·obtain ⟨o, h1, h2⟩ := hget i hi
    obtain⟨a1,a2,a3,_⟩:=ht.get h2
    exact⟨o,h1,a1,a2,a3⟩
   ·rw[h0]
    exact⟨fun s st sv hm=>hi.wf.sl s st sv (List.mem_filter.1 hm).1,hi.wf.mem,hi.wf.lbl,hi.wf.ns.filter _,hi.wf.nm,hi.wf.n0⟩
   ·rw[h0]at hm
    obtain⟨_,hm⟩:=List.mem_filter.1 hm
    have:s∈nJ (l.take n):=vv (i:=i) (by rw[List.getElem?_take_of_lt hi];exact ho) hd
    have:=eE.2 this
    have hm:GT l n s=true:=hm
    unfold GT at hm
    rw[this,Bool.not_true,Bool.false_or,Bool.and_eq_true]at hm
    exact M9 hm.2 hi hj hji ho hoj hd hus
   ·rcases Nat.lt_trichotomy i j with h |h |h
    ·exact hb j i oj oi dj di hj h hoj hoi hdj hdi
    ·exact absurd h hij
    ·exact fun e=>hb i j oi oj di dj hi h hoi hoj hdi hdj e.symm
  have hn':tq tr pn n=pn:=by have:=ht.atn;rwa [htk]at this
  refine wp_region_any hm ?_
  have hL:Lf (Array.replicate l.toArray.size false)=fun _=>false:=by
   funext j;unfold Lf;exact getD_replicate_false _ _
  have sd:=(i7.draw hi.cx.top (w.drawn+1)).stp (ks:=[]) (.inr rfl)
  have hinit:LL pts w0 aU l n (tq tr pn) (B5 tr) (fun _=>false) F { w with drawn:=w.drawn+1 }:=by
   refine⟨e,lab,fun s t sv hm _=>?_,fun i _ h=>(by cases h),fun id t m hm _=>?_,fun i _ h=>(by cases h),hi.cx.stp sd rfl,hi.a0,hi.sim.gl.keep sd.keeps⟩
   ·rw[h0]at hm
    obtain⟨v,hv,hr⟩:=hi.sim.sl s t sv (List.mem_filter.1 hm).1
    exact⟨v,hv,hr.keep sd.keeps⟩
   ·rw[h0]at hm
    exact(hi.sim.mem id t m hm).stp sd (.inr rfl) (hi.wf.lbl id t m hm)
  have:=G7 (P:=P) (N:=N) (K:=kont) (I:=LL pts w0 aU l n (tq tr pn) (B5 tr)) hn hback htl hseq (FSx hrun hchk fun i hi=>by
   obtain⟨o,h1,h2⟩:=hget i hi
   exact⟨o,h1,(ht.get h2).2.2.2⟩) (fun F' w' hI=>?_) n (Array.replicate l.toArray.size false) a F { w with drawn:=w.drawn+1 } ⟨by simp,fun j j' _ h=>(by rw[hL]at h;cases h),fun j _=>by rw[hL]⟩
   (by rw[hL];unfold K5;rw[List.filter_eq_self.2 (by simp)];simp) ha (by rw[hL];exact hinit)
  ·rw[show n+(l.length-n)=l.toArray.size by simp;omega]at this
   exact this
  ·obtain⟨e',lab',hS0,hS1,hM0,hM1,hcx,ha0,hgl⟩:=hI
   have hinv:jW pts w0 aU e' pn F' lab' w':=by
    rw[←hn']
    refine⟨⟨fun s t sv hm=>?_,fun id t m hm=>?_,hgl⟩,hrun.wfi n (Nat.le_refl _),hcx,ha0⟩
    ·rcases hrun.osl n (Nat.le_refl _) s t sv hm with ⟨h, hnd⟩ | ⟨j, o, h1, h2, h3, h4⟩
     ·exact hS0 s t sv h fun j o hj _ hoj=>hnd j o hj hoj
     ·rw[h4];exact hS1 j h1 (by simpa using h1) o s h2 h3
    ·rcases hrun.omem n (Nat.le_refl _) id t m hm with ⟨h1, h2⟩ | ⟨j, h1, h2, h3⟩
     ·exact hM0 id t m h1 fun j hj _=>h2 j hj
     ·exact hM1 j h1 (by simpa using h1) (id,m) h2 fun j' h4 h5 _=>h3 j' h4 h5
   have hpres:co ps pn:=by
    have key : ∀i,i≤n→co ps (tq tr pn i):=by
     intro i
     induction i with
     |zero=>intro _;rw[h0];exact⟨Nat.le_refl _,fun s st sv hm _=>(List.mem_filter.1 hm).1,fun i st m hm _=>hm⟩
     |succ i ih=>
      intro hi
      obtain⟨o,h1,h2⟩:=hget i (by omega)
      rw[(ht.get h2).2.1]
      exact(ih (by omega)).trans (co.apply _ _ _)
    have:=key n (Nat.le_refl _)
    rwa [hn']at this
   exact sC hK hinv fun ps' e'' F'' lab'' w'' hp hi3 hKK=>hk _ _ _ _ _ (hpres.trans hp) hi3 hKK
 ·cases hK
def Uu(T:jF P)(l:List Oper)(ps:PS):List Nat:=
 oc ⟨ps.nxt,ps.sl.filter (fun x=>!dV (nJ l) x.1),ps.mem⟩ (l.flatMap fun o=>Uf T o.op)++l.flatMap fun o=>Ua T ⟨ps.nxt,ps.sl.filter (fun x=>!dV (nJ l) x.1),ps.mem⟩ o.op
noncomputable def MA (T:jF P) (N:Nat) (own rng:List Nat) (l:List Oper) {R:Type} (ps:PS) (K:PS→Option R):Option R:=
 match qR (Uu T (l.take (l' l l.length)) ps) ps with
 |some ps=>GP T N own rng l ps K
 |none=>none
theorem Kq{T:jF P}{own rng:List Nat}{l:List Oper}{R:Type}{q:R}{ps:PS}{e:f7}{F:List (Nat×Value)}{lab aU:bf}{w w0:World}{pts:List Nat}{K:PS→Option R}{kont:eT}{id:Nat}(hm:P.follows .mixedOrders=true)(h:MA T N own rng l ps K=some q)(hi:jW pts w0 aU e ps F lab w)
  (hk : ∀ps' e' F' lab' w',co ps ps'→jW pts w0 aU e' ps' F' lab' w'→K ps'=some q→EW N .normal F' w' kont):CW P N (.region id l.toArray true) F w kont:=by
 unfold MA at h
 split at h
 ·rename_i ps1 hf
  obtain⟨⟨lab1,hi1⟩,hp1⟩:=mW hf hi
  exact Gs hm h hi1 fun ps' e' F' lab' w' hp=>hk ps' e' F' lab' w' (hp1.trans hp)
 ·cases h
end
end Go.Gk
