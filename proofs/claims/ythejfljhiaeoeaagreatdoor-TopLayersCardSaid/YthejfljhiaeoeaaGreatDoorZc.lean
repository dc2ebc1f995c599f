import Derived.Test.YthejfljhiaeoeaaGreatDoorZb
import Derived.Laws.Concat
import Derived.Laws.Strings3
import Derived.Laws.DeepStrings4
import Derived.Laws.IdiomStrings
import Derived.Laws.Cover1
import Derived.Lib.AppendStr
import Derived.Laws.FloatArith
namespace Go.Gk
open Go.RowKit
theorem iZ.rep{P:Program}{T E nb:Nat}{z:Value}{t:PT}(h:iZ P T E (dq t) nb z):iZ P T E (rep t).sz nb z:=by rw[bO];exact h
section
variable {P : Program} {N : Nat} {ops : Array Oper} {F : List (Nat × Value)} {w w' : World} {e : ja} {lab lab' : bg} {nid : Nat} {d : Nat} {v u : Value}
variable {ty : TypeId} {pos : String} {af : Array Edge} {g : Option (Nat × Bool)} {x y z : Operand} {T : TypeId} {a b : RA}
def G3(b:RA):Option ((k:IntKind)×db k):=
 match kK b with
 |some ⟨.int k,i⟩=>some ⟨k,i⟩
 |_=>none
theorem mX{k:IntKind}{i:db k}(h:k_ e lab w b u)(hi:G3 b=some ⟨k,i⟩):u = .int k (eF k i):=by
 unfold G3 at hi
 split at hi
 ·rename_i heq
  cases hi
  exact bh.int (ce h heq)
 ·cases hi
def xv(t:PT)(a b:RA):bQ:=
 match BU (.sl t) a,G3 b with
 |some xs,some ⟨k,i⟩=>.bnd (den t) (aV (α:=den t) xs (eF k i)) fun X=>.ret (o1 (.dptr t X 0))
 |_,_=>.stuck
def Av{P:Program}(se:SE P)(a b:RA):bQ:=
 match a,b with
 | (.rsl h,_),(.rix _,some (.rgi h' t _ _ (some X)))=>match Nat.beq h h'&&PT.eqb t se.pt with
  |true=>.ret (o1 (.dptr t X 0))
  |false=>.stuck
 | (.own id,some (.row _ E t xs)),b=>match PT.eqb t se.pt&&Nat.beq E se.el,G3 b with
  |true,some ⟨k,i⟩=>.bnd (den t) (aV xs (eF k i)) fun _=>.ret (o1 (.eptr id (eF k i).toNat 0))
  |_,_=>.stuck
 |a,b=>xv se.pt a b
theorem DA{se:SE P}{out:fw}(hT:se.id=T)(hx:ev F x=some v)(hy:ev F y=some u)(hv:k_ e lab w a v)(hu:k_ e lab w b u)(hr:jH (xv se.pt a b) out)(tp:dv lab w)(hw:Wn ops F g)(hd:Nat.blt d N=true):
  LW P N ops [⟨some d,.indexAddr T x y,ty,pos,af,g⟩] F w (Fin N F e nid lab w (some d) out):=by
 subst hT
 unfold xv at hr
 split at hr
 ·rename_i xs k i hxs hi
  obtain⟨oa,c,rfl,s⟩:=bh.sl (jp hv hxs)
  obtain rfl:=mX hu hi
  cases hr with
  |bnd hX hr=>
   obtain rfl:=hr.ret_eq
   refine LW.index (k:=some) (by rw[hX];rfl) s se.ok.rep hw hd hx hy fun q p cs hq hrd hat=>aJ tp ?_
   cases hq
   exact⟨p,cs,by rw[iR],hat,hrd⟩
 ·cases hr
theorem Gb{se:SE P}{out:fw}(hT:se.id=T)(hx:ev F x=some v)(hy:ev F y=some u)(hv:k_ e lab w a v)(hu:k_ e lab w b u)(hr:jH (Av se a b) out)(tp:dv lab w)(hw:Wn ops F g)(hd:Nat.blt d N=true):
  LW P N ops [⟨some d,.indexAddr T x y,ty,pos,af,g⟩] F w (Fin N F e nid lab w (some d) out):=by
 unfold Av at hr
 split at hr
 ·rename_i h m id h' t xs k X
  split at hr
  ·rename_i hb
   simp only[Bool.and_eq_true]at hb
   obtain rfl:=Nat.eq_of_beq_eq_true hb.1
   have hpt:=PT.eqb_eq hb.2
   subst hT
   obtain rfl:=hr.ret_eq
   obtain⟨oa,c,h1,h2⟩:=hv.1
   obtain⟨q1,q2,q3,q4,q5⟩:=hu.2 _ rfl
   have hu1:u = .int .i64 ((e id).n:Int):=hu.1
   have q1:(e id).n=k:=q1
   rw[q1]at hu1
   have hl:=vq q2
   have h2':=IM q2 h2
   rw[hl]at h1
   subst h1 hu1
   have hi:aV xs ((k:Nat):Int)=some X:=(by unfold aV;rw[if_pos (by omega)];simpa using q3)
   have hsz:iZ P se.id se.el (rep t).sz se.nb (zv se.pt):=by rw[hpt];exact se.ok.rep
   refine LW.index (k:=some) (by rw[hi];rfl) h2' hsz hw hd hx hy fun q p cs hq hrd hat=>aJ tp ?_
   cases hq
   exact⟨p,cs,by rw[iR],hat,hrd⟩
  ·cases hr
 ·rename_i id m E t xs
  split at hr
  ·rename_i k i hb hi
   simp only[Bool.and_eq_true]at hb
   have hpt:=PT.eqb_eq hb.1
   obtain rfl:=Nat.eq_of_beq_eq_true hb.2
   subst hT
   obtain rfl:=mX hu hi
   cases hr with
   |bnd hX hr=>
    obtain rfl:=hr.ret_eq
    obtain⟨b1,b2,b3⟩:=hv.2 _ rfl
    have b1:(e id).n=xs.length:=b1
    have b2:(e id).sz=dq t:=b2
    have h1:v = .slice (e id).oa (e id).n (e id).c:=hv.1
    rw[b1]at h1
    subst h1
    have hsz:iZ P se.id se.el (rep t).sz se.nb (zv se.pt):=by rw[hpt];exact se.ok.rep
    refine LW.indexO (k:=some) (by rw[hX];rfl) b3 hsz hw hd hx hy fun q p cs hq hrd hat hxs hp=>aJ tp ?_
    refine⟨p,?_,by rw[iR]⟩
    rw[b2,←bO];exact hp
  ·cases hr
 ·exact DA hT hx hy hv hu hr tp hw hd
def Qu(t:PT)(xs:List (den t))(lo hi:Option ((k:IntKind)×db k)):bQ:=
 match lo,hi with
 |some ⟨k,i⟩,some ⟨k',j⟩=>.bnd (List (den t)) (cut xs (eF k i) (eF k' j)) fun zs=>.ret (o1 (.dat (.sl t) zs))
 |some ⟨k,i⟩,none=>.bnd (List (den t)) (cut xs (eF k i) (xs.length:Int)) fun zs=>.ret (o1 (.dat (.sl t) zs))
 |none,some ⟨k',j⟩=>.bnd (List (den t)) (cut xs 0 (eF k' j)) fun zs=>.ret (o1 (.dat (.sl t) zs))
 |none,none=>.stuck
def AL{P:Program}(se:SE P)(nid:Nat)(a:RA)(lo hi:Option ((k:IntKind)×db k)):bQ:=
 match a with
 | (.own _,some (.row q E t xs))=>match PT.eqb t se.pt&&Nat.beq E se.el,lo,hi with
  |true,none,some ⟨k',j⟩=>.bnd (List (den t)) (cut xs 0 (eF k' j)) fun zs=>.ret ⟨.own nid,[],[(nid,.row q E t zs)],[]⟩
  |true,some ⟨k,i⟩,none=>.bnd (List (den t)) (cut xs (eF k i) (xs.length:Int)) fun zs=>.ret ⟨.own nid,[],[(nid,.src q t zs)],[]⟩
  |_,_,_=>.stuck
 |a=>match BU (.sl se.pt) a with
  |some xs=>Qu se.pt xs lo hi
  |none=>.stuck
def QX(F:List (Nat×Value))(y:Option Operand)(i:Option ((k:IntKind)×db k)):Prop:=
 match y,i with
 |none,none=>True
 |some y,some ⟨k,j⟩=>ev F y=some (.int k (eF k j))
 |_,_=>False
theorem F6{se:SE P}{out:fw}{lo hi:Option Operand}{i j:Option ((k:IntKind)×db k)}(hT:se.id=T)(hx:ev F x=some v)(hlo:QX F lo i)(hhi:QX F hi j)(hv:k_ e lab w a v)(hr:jH (AL se nid a i j) out)(tp:dv lab w)(hw:Wn ops F g)(hd:Nat.blt d N=true):
  LW P N ops [⟨some d,.slice T x lo hi none,ty,pos,af,g⟩] F w (Fin N F e nid lab w (some d) out):=by
 subst hT
 unfold AL at hr
 split at hr
 ·rename_i id q E t xs
  obtain⟨b1,b2,b3⟩:=hv.2 _ rfl
  have b1:(e id).n=xs.length:=b1
  have b2:(e id).sz=dq t:=b2
  have h1:v = .slice (e id).oa (e id).n (e id).c:=hv.1
  rw[b1]at h1
  subst h1
  split at hr
  ·rename_i k' jj hb
   simp only[Bool.and_eq_true]at hb
   have hpt:=PT.eqb_eq hb.1
   obtain rfl:=Nat.eq_of_beq_eq_true hb.2
   have hsz:iZ P se.id se.el (rep t).sz se.nb (zv se.pt):=by rw[hpt];exact se.ok.rep
   cases lo with
   |some _=>exact hlo.elim
   |none=>
   cases hi with
   |none=>exact hhi.elim
   |some hi=>
   cases hr with
   |bnd hz hr=>
    obtain rfl:=hr.ret_eq
    refine LW.slice_hO (kk:=some) (by rw[hz];rfl) b3 hsz hw hd hx hhi fun zs hzs ho=>LW.nil fun q hq=>?_
    obtain rfl:=Option.some.inj hzs
    refine⟨rfl,qt e nid ⟨(e id).oa,zs.length,(e id).c,dq t,0,.un,[]⟩,lab,_,hq,fun _ hi=>jk hi,jM.refl tp,?_,fun p hp=>?_,fun p hp=>by simp at hp⟩
    ·show _=Value.slice _ _ _
     rw[cY];rfl
    ·simp at hp;subst hp
     show bR _ _ _ _ (.row _ _ _ _)
     simp only[bR,cY]
     exact⟨trivial,trivial,ho⟩
  ·rename_i k ii hb
   simp only[Bool.and_eq_true]at hb
   have hpt:=PT.eqb_eq hb.1
   obtain rfl:=Nat.eq_of_beq_eq_true hb.2
   have hsz:iZ P se.id se.el (rep t).sz se.nb (zv se.pt):=by rw[hpt];exact se.ok.rep
   cases lo with
   |none=>exact hlo.elim
   |some lo=>
   cases hi with
   |some _=>exact hhi.elim
   |none=>
   cases hr with
   |bnd hz hr=>
    obtain rfl:=hr.ret_eq
    refine LW.slice_lO (kk:=some) (by rw[hz];rfl) b3 hsz hw hd hx hlo fun zs oa' c' hzs ho=>LW.nil fun q hq=>?_
    obtain rfl:=Option.some.inj hzs
    refine⟨rfl,qt e nid ⟨oa',zs.length,c',0,0,.un,[]⟩,lab,_,hq,fun _ hi=>jk hi,jM.refl tp,?_,fun p hp=>?_,fun p hp=>by simp at hp⟩
    ·show _=Value.slice _ _ _
     rw[cY]
    ·simp at hp;subst hp
     show bR _ _ _ _ (.src _ _ _)
     simp only[bR,cY]
     exact⟨trivial,ho⟩
  ·cases hr
 ·split at hr
  ·rename_i xs hxs
   obtain⟨oa,c,rfl,s⟩:=bh.sl (jp hv hxs)
   unfold Qu at hr
   split at hr
   ·rename_i k ii k' jj
    cases lo with
    |none=>exact hlo.elim
    |some lo=>
    cases hi with
    |none=>exact hhi.elim
    |some hi=>
    cases hr with
    |bnd hz hr=>
     obtain rfl:=hr.ret_eq
     refine LW.slice_lh (k:=some) (by rw[hz];rfl) s se.ok.rep hw hd hx hlo hhi ?_
     intro zs oa' c' hzs s'
     cases hzs
     exact aJ tp (bh.ofSl s')
   ·rename_i k ii
    cases lo with
    |none=>exact hlo.elim
    |some lo=>
    cases hi with
    |some _=>exact hhi.elim
    |none=>
    cases hr with
    |bnd hz hr=>
     obtain rfl:=hr.ret_eq
     refine LW.slice_l (k:=some) (by rw[hz];rfl) s se.ok.rep hw hd hx hlo ?_
     intro zs oa' c' hzs s'
     cases hzs
     exact aJ tp (bh.ofSl s')
   ·rename_i k' jj
    cases lo with
    |some _=>exact hlo.elim
    |none=>
    cases hi with
    |none=>exact hhi.elim
    |some hi=>
    cases hr with
    |bnd hz hr=>
     obtain rfl:=hr.ret_eq
     refine LW.slice_h (k:=some) (by rw[hz];rfl) s se.ok.rep hw hd hx hhi ?_
     intro zs oa' c' hzs s'
     cases hzs
     exact aJ tp (bh.ofSl s')
   ·cases hr
  ·cases hr
def Iq{P:Program}(se:SE P)(nid:Nat)(rngd:Bool)(s:Option Nat)(a:RA):bQ:=
 match a with
 | (.own _,some (.row _ _ _ xs))=>.ret (o1 (.dat (.int .i64) (xs.length:Int)))
 | (.own _,some (.src _ _ xs))=>.ret (o1 (.dat (.int .i64) (xs.length:Int)))
 |a=>match BU (.sl se.pt) a with
  |none=>.stuck
  |some xs=>match rngd,s with
   |true,some s=>.ret ⟨.rlen nid,[],[(nid,.rgh se.pt xs)],[(s,.rsl nid)]⟩
   |true,none=>.stuck
   |false,_=>.ret (o1 (.dat (.int .i64) (List.length (α:=den se.pt) xs:Int)))
theorem K6{se:SE P}{out:fw}{rngd:Bool}{s:Option Nat}(hT:se.id=T)(hs : ∀i,s=some i→x = .tmp i)(hx:ev F x=some v)(hv:k_ e lab w a v)(hr:jH (Iq se nid rngd s a) out)(tp:dv lab w)(hw:Wn ops F g)(hd:Nat.blt d N=true):
  LW P N ops [⟨some d,.call { callee:=.builtin .len,args:=#[x],argTypes:=#[T] },ty,pos,af,g⟩] F w (Fin N F e nid lab w (some d) out):=by
 subst hT
 unfold Iq at hr
 split at hr
 ·rename_i id q E t xs
  obtain rfl:=hr.ret_eq
  obtain⟨b1,_⟩:=hv.2 _ rfl
  have b1:(e id).n=xs.length:=b1
  have h1:v = .slice (e id).oa (e id).n (e id).c:=hv.1
  rw[b1]at h1;subst h1
  exact LW.len se.ok.und hw hd hx (aJ tp (bh.ofInt (k:=.i64) _))
 ·rename_i id q t xs
  obtain rfl:=hr.ret_eq
  obtain⟨b1,_⟩:=hv.2 _ rfl
  have b1:(e id).n=xs.length:=b1
  have h1:v = .slice (e id).oa (e id).n (e id).c:=hv.1
  rw[b1]at h1;subst h1
  exact LW.len se.ok.und hw hd hx (aJ tp (bh.ofInt (k:=.i64) _))
 ·split at hr
  ·cases hr
  ·rename_i xs hxs
   obtain⟨oa,c,rfl,sl⟩:=bh.sl (jp hv hxs)
   split at hr
   ·rename_i i
    obtain rfl:=hr.ret_eq
    obtain rfl:=hs i rfl
    refine LW.len se.ok.und hw hd hx (LW.nil fun q hq=>?_)
    refine⟨rfl,qt e nid ⟨none,0,0,0,0,se.pt,xs⟩,lab,_,hq,fun _ hi=>jk hi,jM.refl tp,?_,fun p hp=>?_,fun p hp=>?_⟩
    ·show _=Value.int _ _
     rw[cY]
    ·simp at hp;subst hp
     show _∧_
     rw[cY]
     exact⟨rfl,sl.le⟩
    ·simp at hp;subst hp
     intro q hq
     have hx':bN F i=some (.slice oa (List.length (α:=den se.pt) xs) c):=hx
     rw[hx']at hq
     cases hq
     show ∃oa c,_∧_
     rw[cY]
     exact⟨oa,c,rfl,sl⟩
   ·cases hr
   ·obtain rfl:=hr.ret_eq
    exact LW.len se.ok.und hw hd hx (aJ tp (bh.ofInt (k:=.i64) _))
def NR(b:RA):Option ((t:PT)×List (den t)):=
 match b with
 | (.own _,some (.row _ _ t xs))=>some ⟨t,xs⟩
 | (.own _,some (.src _ t xs))=>some ⟨t,xs⟩
 |_=>none
def Ob(t:PT)(b:RA):Option (List (den t)):=
 match NR b with
 |some ⟨t',xs⟩=>cD (.sl t') (.sl t) xs
 |none=>BU (.sl t) b
theorem LP{t:PT}{ys:List (den t)}(h:k_ e lab w b u)(hb:NR b=some ⟨t,ys⟩): ∃oa c,u = .slice oa ys.length c∧DT (rep t) lab w oa ys:=by
 unfold NR at hb
 split at hb
 ·rename_i id q E t' xs
  cases hb
  obtain⟨b1,b2,b3⟩:=h.2 _ rfl
  have b1:(e id).n=ys.length:=b1
  have h2:u = .slice (e id).oa (e id).n (e id).c:=h.1
  rw[b1]at h2
  exact⟨_,_,h2,b3.flat⟩
 ·rename_i id q t' xs
  cases hb
  obtain⟨b1,b3⟩:=h.2 _ rfl
  have b1:(e id).n=ys.length:=b1
  have h2:u = .slice (e id).oa (e id).n (e id).c:=h.1
  rw[b1]at h2
  exact⟨_,_,h2,b3.flat⟩
 ·cases hb
theorem M1{t:PT}{ys:List (den t)}(h:k_ e lab w b u)(hb:Ob t b=some ys): ∃oa c,u = .slice oa ys.length c∧DT (rep t) lab w oa ys:=by
 unfold Ob at hb
 split at hb
 ·rename_i t' xs heq
  obtain⟨h0,h1⟩:=bc hb
  injection h0 with h0
  subst h0
  have h1:xs=ys:=h1
  subst h1
  exact LP h heq
 ·obtain⟨oa,c,h1,s⟩:=bh.sl (jp h hb)
  exact⟨oa,c,h1,s.flat'⟩
def mY(nid k E:Nat)(t:PT)(owned:Bool)(ks:List Nat)(zs:List (den t)):fw:=
 match owned with
 |true=>⟨.own nid,ks,[(nid,.row k E t zs)],[]⟩
 |false=>⟨.dat (.sl t) zs,ks,[],[]⟩
def wM{P:Program}(se:SE P)(nid k0:Nat)(owned:Bool)(a b:RA):bQ:=
 match Ob se.pt b with
 |none=>.stuck
 |some ys=>match a with
  | (.nil,_)=>match Nat.beq k0 0 with
   |false=>.bnd (List (den se.pt)) (cO [] ys) fun zs=>.ret (mY nid k0 se.el se.pt owned [k0] zs)
   |true=>.stuck
  | (.own _,some (.row k E t xs))=>match Nat.beq k 0,Nat.beq E se.el,cD (.sl t) (.sl se.pt) xs with
   |false,true,some xs=>.bnd (List (den se.pt)) (cO xs ys) fun zs=>.ret (mY nid k se.el se.pt owned [k] zs)
   |_,_,_=>.stuck
  |_=>.stuck
theorem tD{t:PT}{k E c:Nat}{oa:Option Addr}{owned:Bool}{zs:List (den t)}{lab2:bg}{w2:World}(hs:iI lab k w lab2 w2)(ho:ee (rep t) lab2 w2 k E oa c zs):
  LW P N ops [] ((d,.slice oa zs.length c)::F) w2 (Fin N F e nid lab w (some d) (mY nid k E t owned [k] zs)):=LW.nil fun q hq=>by
 have hks:([k]:List Nat).contains k=true:=by simp
 cases owned with
 |true=>
  refine⟨rfl,qt e nid ⟨oa,zs.length,c,dq t,0,.un,[]⟩,lab2,_,hq,fun _ hi=>jk hi,hs.stp (.inl hks),?_,fun p hp=>?_,fun p hp=>by simp[mY]at hp⟩
  ·show _=Value.slice _ _ _
   rw[cY]
  ·simp[mY]at hp;subst hp
   show bR _ _ _ _ (.row _ _ _ _)
   simp only[bR,cY]
   exact⟨trivial,trivial,ho⟩
 |false=>
  refine⟨rfl,e,Gk.mask lab2 k,_,hq,fun _ _=>rfl,(hs.stp (.inl hks)).trans (jM.mask hs.top hks),bh.ofSl ho.view,fun p hp=>by simp[mY]at hp,fun p hp=>by simp[mY]at hp⟩
theorem DN{se:SE P}{out:fw}{k0:Nat}{owned:Bool}(hT:se.id=T)(hx:ev F x=some v)(hy:ev F y=some u)(hv:k_ e lab w a v)(hu:k_ e lab w b u)(hr:jH (wM se nid k0 owned a b) out)(tp:dv lab w)(hw:Wn ops F g)(hd:Nat.blt d N=true):
  LW P N ops [⟨some d,.call { callee:=.builtin .append,args:=#[x,y],argTypes:=#[T,T] },ty,pos,af,g⟩] F w (Fin N F e nid lab w (some d) out):=by
 subst hT
 unfold wM at hr
 split at hr
 ·cases hr
 rename_i ys hys
 obtain⟨oa',c',rfl,hfl⟩:=M1 hu hys
 split at hr
 ·split at hr
  ·rename_i hk
   have h1:v = .slice none 0 0:=hv.1
   subst h1
   cases hr with
   |bnd hz hr=>
    obtain rfl:=hr.ret_eq
    refine LW.append (kk:=some) (by rw[hz];rfl) ee.nil hfl tp hk se.ok.rep se.hb hw hd hx hy ?_
    intro zs oa2 c2 lab2 w2 hzs hs ho
    cases hzs
    exact tD hs ho
  ·cases hr
 ·rename_i id k E t xs
  split at hr
  ·rename_i _ _ _ xs' hk hE hc
   obtain⟨h0,h1⟩:=bc hc
   have h0':t=se.pt:=by injection h0
   subst h0'
   have h1:xs=xs':=h1
   subst h1
   obtain rfl:=Nat.eq_of_beq_eq_true hE
   obtain⟨b1,b2,b3⟩:=hv.2 _ rfl
   have b1:(e id).n=xs.length:=b1
   have h2:v = .slice (e id).oa (e id).n (e id).c:=hv.1
   rw[b1]at h2
   subst h2
   cases hr with
   |bnd hz hr=>
    obtain rfl:=hr.ret_eq
    refine LW.append (kk:=some) (by rw[hz];rfl) b3 hfl tp hk se.ok.rep se.hb hw hd hx hy ?_
    intro zs oa2 c2 lab2 w2 hzs hs ho
    cases hzs
    exact tD hs ho
  ·cases hr
 ·cases hr
theorem LW.slice_hm{β:Type}{α:Type}{r:α}{ρ:bV β}{oa:Option Addr}{c E nb:Nat}{zv:Value}{xs ys:List β}{lab:bg}{hi mx:Int}{kh km:IntKind}{rest:List Oper}{K:gC}{k:List β→Option α}(hm:cut xs 0 mx=some ys)(hm2:bnd (cut ys 0 hi) k=some r)(s:SL ρ lab w oa c xs)(hT:iZ P T E ρ.sz nb zv)(hw:Wn ops F g)(hdN:Nat.blt d N=true)(hx:ev F x=some (.slice oa xs.length c))(hz:ev F z=some (.int kh hi))(hy:ev F y=some (.int km mx))
  (h : ∀zs oa' c',k zs=some r→SL ρ lab w oa' c' zs→LW P N ops rest ((d,.slice oa' zs.length c')::F) w K):LW P N ops (⟨some d,.slice T x none (some z) (some y),ty,pos,af,g⟩::rest) F w K:=by
 obtain⟨zs,hz',hk⟩:=cX hm2
 obtain⟨⟨h1,h2,h3⟩,rfl⟩:=je hm
 obtain⟨⟨h4,h5,h6⟩,rfl⟩:=je hz'
 have hc:=s.1
 have hl:((xs.take mx.toNat).drop (0:Int).toNat).length=mx.toNat:=by simp;omega
 rw[hl]at h6
 have e0:((((xs.take mx.toNat).drop (0:Int).toNat).take hi.toNat).drop (0:Int).toNat)=xs.take hi.toNat:=by
  simp only[Int.toNat_zero,List.drop_zero,List.take_take]
  rw[Nat.min_eq_left (by omega)]
 rw[e0]at hk
 have hlen:(xs.take hi.toNat).length=hi.toNat:=by rw[List.length_take];omega
 have s':SL ρ lab w oa mx.toNat (xs.take hi.toNat):=by
  refine⟨by rw[hlen];omega,by have:=s.2.1;omega,fun i e he=>?_⟩
  have hi':i<hi.toNat:=by
   have:=(List.getElem?_eq_some_iff.1 he).1
   omega
  rw[List.getElem?_take_of_lt hi']at he
  exact s.2.2 i e he
 have hE:=hT.elem
 refine LW.val rfl hw rfl hdN (fun a ha=>?_) (h _ _ _ hk s')
 have:=run_slice_hm (P:=P) w T oa xs.length c hE.1 kh km hi mx (by omega) (by omega) (by omega)
 simp only[execOp,ha.eval hx,Option.map_some,Option.map_none,ha.eval hz,ha.eval hy,run_sliceAt_slice w T _ _ _ _ hE.1,this,hE.2,hT.sizeOf,Sem.run_bind,Result.andThen_ok,Sem.run_pure,sliced,hlen]
 have:(oa.map fun x=>x.add (0*ρ.sz))=oa:=by
  cases oa with
  |none=>rfl
  |some q=>rw[Option.map_some,Nat.zero_mul,iR]
 rw[this]
 split<;>rfl
def xL{P:Program}(se:SE P)(a b c:RA):bQ:=
 match BU (.sl se.pt) a,G3 b,G3 c with
 |some xs,some ⟨k,i⟩,some ⟨k',j⟩=>.bnd (List (den se.pt)) (cut xs 0 (eF k' j)) fun ys=>.bnd (List (den se.pt)) (cut ys 0 (eF k i)) fun zs=>.ret (o1 (.dat (.sl se.pt) zs))
 |_,_,_=>.stuck
theorem Dz{se:SE P}{out:fw}{b c:RA}{u1 u2:Value}(hT:se.id=T)(hx:ev F x=some v)(hz:ev F z=some u1)(hy:ev F y=some u2)(hv:k_ e lab w a v)(hu1:k_ e lab w b u1)(hu2:k_ e lab w c u2)(hr:jH (xL se a b c) out)(tp:dv lab w)(hw:Wn ops F g)(hd:Nat.blt d N=true):
  LW P N ops [⟨some d,.slice T x none (some z) (some y),ty,pos,af,g⟩] F w (Fin N F e nid lab w (some d) out):=by
 subst hT
 unfold xL at hr
 split at hr
 ·rename_i xs k i k' j hxs hi hj
  obtain⟨oa,c',rfl,s⟩:=bh.sl (jp hv hxs)
  obtain rfl:=mX hu1 hi
  obtain rfl:=mX hu2 hj
  cases hr with
  |bnd hys hr=>
   cases hr with
   |bnd hzs hr=>
    obtain rfl:=hr.ret_eq
    refine LW.slice_hm (k:=some) hys (by rw[hzs];rfl) s se.ok.rep hw hd hx hz hy ?_
    intro zs oa' c'' hz s'
    cases hz
    exact aJ tp (bh.ofSl s')
 ·cases hr
structure GE(P:Program) where
 id:TypeId
 gl:Nat
 pt:PT
 xs:List (den pt)
 el:TypeId
 und:P.underlying id=some (.array xs.length el)
 sz : ∀w,(Go.sizeOf el).run P w = .ok (dq pt) w
 hg:gl∈R'
 ag:Bool
 agk:ag=true→mP P id xs.length∧dq pt=1∧lA pt=false∧lX P el
 cells : ∀w0,GF w0→∀i x,xs[i]?=some x→∃cs:List Value,(∀lab w,(rep pt).rd lab w cs x)∧∀j u,cs[j]?=some u→w0.cell? ⟨gl,i*dq pt+j,none⟩=some u
def xq{P:Program}:List (GE P)→TypeId→Nat→Option (GE P)
 | [],_,_=>none
 |e::r,T,g=>match Nat.beq e.id T&&Nat.beq e.gl g with
  |true=>some e
  |false=>xq r T g
theorem uh{P:Program}: ∀{l:List (GE P)} {T:TypeId} {g:Nat} {e:GE P},xq l T g=some e→e.id=T∧e.gl=g
 | [],_,_,_,h=>by cases h
 |q::r,T,g,e,h=>by
  unfold xq at h
  split at h
  ·rename_i hb;cases h
   simp only[Bool.and_eq_true]at hb
   exact⟨Nat.eq_of_beq_eq_true hb.1,Nat.eq_of_beq_eq_true hb.2⟩
  ·exact uh h
def J_:Operand→Option Nat
 | .global g=>some g
 |_=>none
theorem BV{x:Operand}{n:Nat}(h:J_ x=some n):x = .global n:=by cases x<;>cases h;rfl
def wG{P:Program}(ge:GE P)(b:RA):bQ:=
 match G3 b with
 |some ⟨k,i⟩=>.bnd (den ge.pt) (aV (α:=den ge.pt) ge.xs (eF k i)) fun X=>.ret (o1 (.dptr ge.pt X 0))
 |none=>.stuck
theorem Dv{ge:GE P}{out:fw}{b:RA}(gl:GL lab w)(hy:ev F y=some u)(hu:k_ e lab w b u)(hr:jH (wG ge b) out)(tp:dv lab w)(hw:Wn ops F g)(hd:Nat.blt d N=true):
  LW P N ops [⟨some d,.indexAddr ge.id (.global ge.gl) y,ty,pos,af,g⟩] F w (Fin N F e nid lab w (some d) out):=by
 unfold wG at hr
 split at hr
 ·rename_i k i hi
  obtain rfl:=mX hu hi
  cases hr with
  |bnd hX hr=>
   rename_i X
   obtain rfl:=hr.ret_eq
   unfold aV at hX
   split at hX
   ·rename_i h0
    have hlt:(eF k i).toNat<ge.xs.length:=(List.getElem?_eq_some_iff.1 hX).1
    have hlt':eF k i<(ge.xs.length:Int):=by omega
    obtain⟨w0,hF,hG⟩:=gl
    obtain⟨cs,h1,h2⟩:=ge.cells w0 hF _ X hX
    obtain⟨g1,g2,g3⟩:=hG _ ge.hg
    have hx:ev F (.global ge.gl)=some (.pointer (some ⟨ge.gl,0,none⟩)):=rfl
    refine LW.val (v:=.pointer (some ((⟨ge.gl,0,none⟩:Addr).add ((eF k i).toNat*dq ge.pt)))) rfl hw rfl hd (fun a ha=>?_) (aJ tp ⟨(⟨ge.gl,0,none⟩:Addr).add ((eF k i).toNat*dq ge.pt),cs,by rw[iR],fun j v hj=>?_,h1 lab w⟩)
    ·simp[execOp,ha.eval hx,ha.eval hy,Instr.indexAt,Instr.sureAddr,asIntOf,run_underlying ge.und,h0,hlt',ge.sz]
    ·refine⟨by rw[iS];exact g2,?_⟩
     rw[gx,bL,Nat.zero_add,World.cell?_of_block (w:=w0) (a:=⟨ge.gl,_,none⟩) g3]
     exact h2 j v hj
   ·cases hX
 ·cases hr
def zY{P:Program}(ge:GE P):bQ:=match ge.ag with
 |true=>.ret (o1 (.garr ge.pt ge.xs))
 |false=>.stuck
theorem CU{ge:GE P}(hag:dq ge.pt=1∧lA ge.pt=false){w0:World}(hF:GF w0)(lab:bg)(w:World): ∀(n:Nat),n≤ge.xs.length→∃us:List Value,us.length=n∧jZ (fun x u=>bh ge.pt x lab w u) (ge.xs.take n) us∧∀i u,us[i]?=some u→w0.cell? ⟨ge.gl,i,none⟩=some u:=by
 intro n
 induction n with
 |zero=>intro _;exact⟨[],rfl,by rw[List.take_zero];exact .nil,fun i u h=>by simp at h⟩
 |succ n ih=>
  intro hn
  obtain⟨us,h1,h2,h3⟩:=ih (by omega)
  obtain⟨cs,h4,h5⟩:=ge.cells w0 hF n ge.xs[n] (List.getElem?_eq_getElem (by omega))
  have hl:cs.length=1:=by rw[(rep ge.pt).len (h4 lab w),bO,hag.1]
  obtain⟨u,rfl⟩:=List.length_eq_one_iff.1 hl
  refine⟨us ++ [u],by simp[h1],?_,fun i v hi=>?_⟩
  ·rw[List.take_succ_eq_append_getElem (by omega)]
   refine h2.append (.cons ⟨[u],h4 lab w,?_⟩ .nil)
   unfold x_;rw[hag.2]
  ·rcases Nat.lt_or_ge i us.length with hlt |hge
   ·rw[List.getElem?_append_left hlt]at hi
    exact h3 i v hi
   ·rw[List.getElem?_append_right hge]at hi
    have h0:i-us.length=0:=by
     rcases Nat.eq_zero_or_pos (i-us.length)with h |h
     ·exact h
     ·rw[List.getElem?_eq_none (by simp;omega)]at hi;cases hi
    have hin:i=n:=by omega
    subst hin
    rw[h0]at hi
    have:=h5 0 v hi
    rw[hag.1,Nat.mul_one,Nat.add_zero]at this
    exact this
theorem Gx{ge:GE P}{out:fw}(gl:GL lab w)(hr:jH (zY ge) out)(tp:dv lab w)(hw:Wn ops F g)(hd:Nat.blt d N=true):
  LW P N ops [⟨some d,.load ge.id (.global ge.gl),ty,pos,af,g⟩] F w (Fin N F e nid lab w (some d) out):=by
 unfold zY at hr
 split at hr
 ·rename_i ha
  obtain rfl:=hr.ret_eq
  obtain⟨k1,k2,k3,_⟩:=ge.agk ha
  obtain⟨w0,hF,hG⟩:=gl
  obtain⟨g1,g2,g3⟩:=hG _ ge.hg
  obtain⟨us,h1,h2,h3⟩:=CU (ge:=ge) ⟨k2,k3⟩ hF lab w ge.xs.length (Nat.le_refl _)
  rw[List.take_length]at h2
  have hat:At lab w ⟨ge.gl,0,none⟩ us:=fun j u hj=>⟨g2,by rw[bL,Nat.zero_add,World.cell?_of_block (w:=w0) (a:=⟨ge.gl,_,none⟩) g3];exact h3 j u hj⟩
  exact LW.loadAn hat k1 (by rw[h1];exact Nat.beq_refl _) hw hd rfl (aJ (sv:=.garr ge.pt ge.xs) tp ⟨us,rfl,h2⟩)
 ·cases hr
theorem SQ{P:Program}(ge:GE P)(h:ge.ag=true){w:World}:(Go.sizeOf ge.el).run P w = .ok 1 w:=by
 obtain⟨_,h1,_⟩:=ge.agk h
 rw[ge.sz w,h1]
def AZ{P:Program}:List (GE P)→TypeId→Option (GE P)
 | [],_=>none
 |e::r,T=>match Nat.beq e.id T&&e.ag with
  |true=>some e
  |false=>AZ r T
theorem yD{P:Program}: ∀{l:List (GE P)} {T:TypeId} {e:GE P},AZ l T=some e→e.id=T∧e.ag=true
 | [],_,_,h=>by cases h
 |q::r,T,e,h=>by
  unfold AZ at h
  split at h
  ·rename_i hb;cases h
   simp only[Bool.and_eq_true]at hb
   exact⟨Nat.eq_of_beq_eq_true hb.1,hb.2⟩
  ·exact yD h
def Jl:SV→Option ((t:PT)×List (den t))
 | .garr t xs=>some ⟨t,xs⟩
 |_=>none
theorem FM{sv:SV}{t:PT}{xs:List (den t)}(h:Jl sv=some ⟨t,xs⟩):sv = .garr t xs:=by
 cases sv<;>first | (cases h;rfl) |cases h
def xm{P:Program}(ge:GE P)(a b:RA):bQ:=match Jl a.1,G3 b with
 |some ⟨t,xs⟩,some ⟨k,i⟩=>match Nat.beq (List.length (α:=den t) xs) (List.length (α:=den ge.pt) ge.xs)&&!lA t with
  |true=>.bnd (den t) (aV (α:=den t) xs (eF k i)) fun X=>.ret (o1 (.dat t X))
  |false=>.stuck
 |_,_=>.stuck
theorem Da{ge:GE P}{out:fw}{a b:RA}(hag:ge.ag=true)(hx:ev F x=some v)(hy:ev F y=some u)(hv:k_ e lab w a v)(hu:k_ e lab w b u)(hr:jH (xm ge a b) out)(tp:dv lab w)(hw:Wn ops F g)(hd:Nat.blt d N=true):
  LW P N ops [⟨some d,.index ge.id x y,ty,pos,af,g⟩] F w (Fin N F e nid lab w (some d) out):=by
 unfold xm at hr
 split at hr
 ·rename_i t xs k i hs hi
  obtain rfl:=mX hu hi
  split at hr
  ·rename_i hb
   simp only[Bool.and_eq_true,Bool.not_eq_true']at hb
   have hlen:=Nat.eq_of_beq_eq_true hb.1
   have hsv:=FM hs
   have hv1 : ∃us:List Value,v = .agg us.toArray∧jZ (fun x u=>bh t x lab w u) xs us:=by
    have:=hv.1
    rw[hsv]at this
    exact this
   obtain⟨us,rfl,hus⟩:=hv1
   cases hr with
   |bnd hX hr=>
    rename_i X
    obtain rfl:=hr.ret_eq
    unfold aV at hX
    split at hX
    ·rename_i h0
     have hlt:(eF k i).toNat<xs.length:=(List.getElem?_eq_some_iff.1 hX).1
     have hlt':eF k i<(ge.xs.length:Int):=by omega
     obtain⟨_,_,_,k4⟩:=ge.agk hag
     obtain⟨z,hz,hzd⟩:=hus.get hX
     refine LW.val (v:=z) rfl hw rfl hd (fun q hq=>?_) (aJ tp hzd)
     have hz':us.toArray[(eF k i).toNat]?=some z:=by simpa using hz
     simp[execOp,hq.eval hx,hq.eval hy,Instr.index,asIntOf,run_underlying ge.und,h0,hlt',part,k4.agg,k4.size,SQ ge hag,hz]
    ·cases hX
  ·cases hr
 ·cases hr
end
theorem il(l:List UInt8):(⟨l.toArray⟩:ByteArray).size=l.length:=by simp[ByteArray.size]
theorem Jt(l:List UInt8)(i:Nat)(h:i<(⟨l.toArray⟩:ByteArray).size):(⟨l.toArray⟩:ByteArray)[i]'h=l[i]'(by rw[il]at h;exact h):=by
 simp[ByteArray.getElem_eq_getElem_data]
theorem nI(l:List UInt8)(i j:Nat):(⟨l.toArray⟩:ByteArray).extract i j=⟨((l.take j).drop i).toArray⟩:=by
 apply ByteArray.ext
 simp[ByteArray.data_extract,List.extract_eq_take_drop,List.take_drop]
 by_cases h:i≤j
 ·rw[show i+(j-i)=j by omega]
 ·rw[List.drop_of_length_le (by simp;omega),List.drop_of_length_le (by simp;omega)]
theorem Cd(a b:List UInt8):(⟨a.toArray⟩:ByteArray)++⟨b.toArray⟩=⟨(a++b).toArray⟩:=by
 apply ByteArray.ext
 simp[ByteArray.data_append]
theorem DU{P:Program}{w:World}{T:TypeId}(hT:P.underlying T=some .string)(l:List UInt8){k:IntKind}{i:Int}{c:UInt8}(h0:0≤i)(hc:l[i.toNat]?=some c):
  (Instr.index T (eA l) (.int k i)).run P w = .ok (.int .u8 (c.toNat:Int)) w:=by
 obtain⟨hlt,hc⟩:=List.getElem?_eq_some_iff.1 hc
 have hrun:=run_index_string (P:=P) w T ⟨l.toArray⟩ k i hT
 have hsz:0≤i∧i<((⟨l.toArray⟩:ByteArray).size:Nat):=⟨h0,by rw[il];omega⟩
 rw[dif_pos hsz,Jt,hc]at hrun
 exact hrun
theorem xS{P:Program}{w:World}{T:TypeId}(hT:P.underlying T=some .string)(l:List UInt8){k k':IntKind}{i j:Int}(h1:0≤i)(h2:i≤j)(h3:j≤(l.length:Int)):
  (Instr.sliceAt T (eA l) (some (.int k i)) (some (.int k' j)) none).run P w = .ok (eA ((l.take j.toNat).drop i.toNat)) w:=by
 have hrun:=run_slice_string_if (P:=P) w T ⟨l.toArray⟩ k k' i j hT
 rw[if_pos ⟨by omega,by rw[il];exact h3⟩,if_pos ⟨h1,h2⟩,nI]at hrun
 rw[run_sliceAt_string w T _ _ _ _ hT];exact hrun
theorem Ay{P:Program}{w:World}{T:TypeId}(hT:P.underlying T=some .string)(l:List UInt8){k:IntKind}{i:Int}(h1:0≤i)(h2:i≤(l.length:Int)):
  (Instr.sliceAt T (eA l) (some (.int k i)) none none).run P w = .ok (eA ((l.take (l.length:Int).toNat).drop i.toNat)) w:=by
 have hrun:=run_slice_string_from_if (P:=P) w T ⟨l.toArray⟩ k i hT
 rw[if_pos ⟨h1,by rw[il];exact h2⟩,nI,il]at hrun
 rw[run_sliceAt_string w T _ _ _ _ hT];exact hrun
theorem Al{P:Program}{w:World}{T:TypeId}(hT:P.underlying T=some .string)(l:List UInt8){k:IntKind}{j:Int}(h2:0≤j)(h3:j≤(l.length:Int)):
  (Instr.sliceAt T (eA l) none (some (.int k j)) none).run P w = .ok (eA ((l.take j.toNat).drop (0:Int).toNat)) w:=by
 have hrun:=run_slice_string_to_if (P:=P) w T ⟨l.toArray⟩ k j hT
 rw[if_pos ⟨h2,by rw[il];exact h3⟩,nI]at hrun
 rw[run_sliceAt_string w T _ _ _ _ hT];exact hrun
theorem JS{P:Program}{w:World}{T:TypeId}{p q z:List UInt8}(h:cO p q=some z):(binOp .add T (eA p) (eA q)).run P w = .ok (eA z) w:=by
 obtain⟨hl,rfl⟩:=qg h
 have:=run_string_add_sum (P:=P) w ⟨p.toArray⟩ ⟨q.toArray⟩ (by rw[il,il];unfold xR at hl;omega)
 rw[Cd]at this
 simp only[eA,binOp_string_add,this]
theorem Hv{α:Type}{xs:List α}{i:Int}{X:α}(h:aV xs i=some X):0≤i∧xs[i.toNat]?=some X:=by
 unfold aV at h
 split at h
 ·exact⟨by assumption,h⟩
 ·cases h
def B6(a b:List UInt8):Bool:=Op.bytesLess a b
section
variable {P : Program} {N : Nat} {ops : Array Oper} {F : List (Nat × Value)} {w w' : World} {e : ja} {lab lab' : bg} {nid : Nat} {d : Nat} {v u : Value}
variable {ty : TypeId} {pos : String} {af : Array Edge} {g : Option (Nat × Bool)} {x y z : Operand} {T : TypeId} {a b : RA}
def xM(a b:RA):bQ:=
 match kK a,G3 b with
 |some ⟨.str,l⟩,some ⟨k,i⟩=>.bnd UInt8 (aV (α:=UInt8) l (eF k i)) fun c=>.ret (o1 (.dat (.int .u8) c))
 |_,_=>.stuck
theorem C'{out:fw}(hT:P.underlying T=some .string)(hx:ev F x=some v)(hy:ev F y=some u)(hv:k_ e lab w a v)(hu:k_ e lab w b u)(hr:jH (xM a b) out)(tp:dv lab w)(hw:Wn ops F g)(hd:Nat.blt d N=true):
  LW P N ops [⟨some d,.index T x y,ty,pos,af,g⟩] F w (Fin N F e nid lab w (some d) out):=by
 unfold xM at hr
 split at hr
 ·rename_i l k i hl hi
  obtain rfl:=bh.str (ce hv hl)
  obtain rfl:=mX hu hi
  cases hr with
  |bnd hX hr=>
   rename_i c
   obtain rfl:=hr.ret_eq
   obtain⟨h0,hX⟩:=Hv hX
   exact LW.val (v:=.int .u8 (c.toNat:Int)) rfl hw rfl hd (fun q hq=>by simp only[execOp,hq.eval hx,hq.eval hy,Sem.run_bind,DU hT l h0 hX,Result.andThen_ok,Sem.run_pure]) (aJ tp (bh.ofInt (k:=.u8) c))
 ·cases hr
def wl(a:RA)(lo hi:Option ((k:IntKind)×db k)):bQ:=
 match kK a with
 |some ⟨.str,l⟩=>match lo,hi with
  |some ⟨k,i⟩,some ⟨k',j⟩=>.bnd (List UInt8) (cut (β:=UInt8) l (eF k i) (eF k' j)) fun z=>.ret (o1 (.dat .str z))
  |some ⟨k,i⟩,none=>.bnd (List UInt8) (cut (β:=UInt8) l (eF k i) (List.length (α:=UInt8) l:Int)) fun z=>.ret (o1 (.dat .str z))
  |none,some ⟨k',j⟩=>.bnd (List UInt8) (cut (β:=UInt8) l 0 (eF k' j)) fun z=>.ret (o1 (.dat .str z))
  |none,none=>.stuck
 |_=>.stuck
theorem D8{out:fw}{lo hi:Option Operand}{i j:Option ((k:IntKind)×db k)}(hT:P.underlying T=some .string)(hx:ev F x=some v)(hlo:QX F lo i)(hhi:QX F hi j)(hv:k_ e lab w a v)(hr:jH (wl a i j) out)(tp:dv lab w)(hw:Wn ops F g)(hd:Nat.blt d N=true):
  LW P N ops [⟨some d,.slice T x lo hi none,ty,pos,af,g⟩] F w (Fin N F e nid lab w (some d) out):=by
 unfold wl at hr
 split at hr
 ·rename_i l hl
  obtain rfl:=bh.str (ce hv hl)
  split at hr
  ·rename_i k i k' j
   cases hr with
   |bnd hX hr=>
    rename_i z
    obtain rfl:=hr.ret_eq
    obtain⟨⟨h1,h2,h3⟩,rfl⟩:=je hX
    have h3:eF k' j≤(List.length (α:=UInt8) l:Int):=h3
    cases lo with
    |none=>cases hlo
    |some lo=>cases hi with
     |none=>cases hhi
     |some hi=>
      have hlo:ev F lo=some (.int k (eF k i)):=hlo
      have hhi:ev F hi=some (.int k' (eF k' j)):=hhi
      exact LW.val rfl hw rfl hd (fun q hq=>by simp only[execOp,hq.eval hx,Option.map_some,Option.map_none,hq.eval hlo,hq.eval hhi,Sem.run_bind,xS hT l h1 h2 h3,Result.andThen_ok,Sem.run_pure]) (aJ tp (bh.ofStr _))
  ·rename_i k i
   cases hr with
   |bnd hX hr=>
    rename_i z
    obtain rfl:=hr.ret_eq
    obtain⟨⟨h1,h2,h3⟩,rfl⟩:=je hX
    cases lo with
    |none=>cases hlo
    |some lo=>cases hi with
     |some hi=>cases hhi
     |none=>
      have hlo:ev F lo=some (.int k (eF k i)):=hlo
      exact LW.val rfl hw rfl hd (fun q hq=>by simp only[execOp,hq.eval hx,Option.map_some,Option.map_none,hq.eval hlo,Sem.run_bind,Ay hT l h1 h2,Result.andThen_ok,Sem.run_pure]) (aJ tp (bh.ofStr _))
  ·rename_i k' j
   cases hr with
   |bnd hX hr=>
    rename_i z
    obtain rfl:=hr.ret_eq
    obtain⟨⟨h1,h2,h3⟩,rfl⟩:=je hX
    have h3:eF k' j≤(List.length (α:=UInt8) l:Int):=h3
    cases hi with
    |none=>cases hhi
    |some hi=>cases lo with
     |some lo=>cases hlo
     |none=>
      have hhi:ev F hi=some (.int k' (eF k' j)):=hhi
      exact LW.val rfl hw rfl hd (fun q hq=>by simp only[execOp,hq.eval hx,Option.map_some,Option.map_none,hq.eval hhi,Sem.run_bind,Al hT l h2 h3,Result.andThen_ok,Sem.run_pure]) (aJ tp (bh.ofStr _))
  ·cases hr
 ·cases hr
def KX(o:BinOp)(p q:List UInt8):bQ:=
 match o with
 | .add=>.bnd (List UInt8) (cO p q) fun z=>.ret (o1 (.dat .str z))
 | .eql=>.letm Bool (List.beq (α:=UInt8) p q) fun b=>.ret (o1 (.dat .bool b))
 | .neq=>.letm Bool (bne (α:=List UInt8) p q) fun b=>.ret (o1 (.dat .bool b))
 | .lss=>.letm Bool (B6 p q) fun b=>.ret (o1 (.dat .bool b))
 | .gtr=>.letm Bool (!(B6 p q||List.beq (α:=UInt8) p q)) fun b=>.ret (o1 (.dat .bool b))
 | .leq=>.letm Bool (B6 p q||List.beq (α:=UInt8) p q) fun b=>.ret (o1 (.dat .bool b))
 | .geq=>.letm Bool (!B6 p q) fun b=>.ret (o1 (.dat .bool b))
 |_=>.stuck
theorem MM(p q:List UInt8):List.beq p q=(p==q):=rfl
theorem L_{o:BinOp}{p q:List UInt8}{out:fw}(hr:jH (KX o p q) out): ∃sv v,out=o1 sv∧RV e sv lab w v∧(binOp o T (eA p) (eA q)).run P w = .ok v w:=by
 unfold KX at hr
 split at hr
 ·cases hr with
  |bnd hX hr=>
   rename_i z
   obtain rfl:=hr.ret_eq
   exact⟨_,eA z,rfl,bh.ofStr _,JS hX⟩
 all_goals first
  | (cases hr with
   |letm hr=>
    obtain rfl:=hr.ret_eq
    exact⟨_,.bool _,rfl,bh.ofBool _,by simp[eA,binOp,Op.stringOp,AE,B6,MM,bne]⟩)
  |cases hr
theorem J5{o:BinOp}{p q:List UInt8}{t':TypeId}{out:fw}(hx:ev F x=some (eA p))(hy:ev F y=some (eA q))(hr:jH (KX o p q) out)(tp:dv lab w)(hw:Wn ops F g)(hd:Nat.blt d N=true):
  LW P N ops [⟨some d,.binOp o T x y t',ty,pos,af,g⟩] F w (Fin N F e nid lab w (some d) out):=by
 obtain⟨sv,v,rfl,h1,h2⟩:=L_ (P:=P) (e:=e) (lab:=lab) (w:=w) (T:=T) hr
 exact LW.val rfl hw rfl hd (fun _ ha=>dm _ _ _ (ha.eval hx) (ha.eval hy) (by cases o<;>rfl) h2) (aJ tp h1)
def SX(k:IntKind)(a b:db k):Bool:=eF k a==eF k b
def S0:(t:PT)→den t→den t→Bool
 | .int k,a,b=>SX k a b
 | .bool,a,b=>BEq.beq (α:=Bool) a b
 | .str,a,b=>BEq.beq (α:=List UInt8) a b
 |_,_,_=>false
def Nn:PT→Bool
 | .int _=>true | .bool=>true | .str=>true |_=>false
def Nh:PT→Option TypeDesc→Bool
 | .int k,some (.int k')=>IntKind.eqb k k' | .bool,some .bool=>true | .str,some .string=>true |_,_=>false
def Ss(P:Program):(t:PT)→Nat→List Field→Bool
 | .pr t u, o, f :: fs => Nn t && Nat.beq f.offset o && !(f.name == "_") && Nh t (P.underlying f.type) && Ss P u (o + 1) fs
 | t, o, [f] => Nn t && Nat.beq f.offset o && !(f.name == "_") && Nh t (P.underlying f.type)
 |_,_,_=>false
structure QE(P:Program) where
 id:TypeId
 pt:PT
 gd:P.eqGuardType P.depth id=false
 und:P.underlying id=some (.struct (P.fieldsOf id))
 nst:P.stoodInHeld id=false
 fl:Ss P pt 0 (P.fieldsOf id).toList=true
def IQ{P:Program}(tes:List (TE P))(se:SE P)(l:List UInt8):bQ:=
 match eP tes se.el,se.pt with
 |some ⟨_,.int .u8,_⟩,.int .u8=>.bnd (List UInt8) (cO ([]:List UInt8) l) fun z=>.ret (o1 (.dat (.sl (.int .u8)) z))
 |_,_=>.stuck
theorem yd(w:World)(cap:Nat)(el:TypeId)(fr:Nat×Nat){z:List UInt8}{i:Nat}{hlt:i<z.length}{c:UInt8}(hc:z[i]=c):
  (w.alloc (.cells (bytesRow ⟨z.toArray⟩ cap) el fr)).cell? ⟨w.heap.size,i,none⟩=some (.int .u8 (c.toNat:Int)):=by
 have h4:=bytesRow_at ⟨z.toArray⟩ cap i (by simpa using hlt)
 rw[World.cell?_alloc_mark,h4]
 simp[hc]
theorem K1{el S T:TypeId}{z:List UInt8}(hl:([]:List UInt8).length+z.length≤xR)(hS:P.underlying S=some .string)(hT:P.underlying T=some (.slice el))(hE:P.underlying el=some (.int .u8))(hx:ev F x=some (eA z))(tp:dv lab w)(hw:Wn ops F g)(hd:Nat.blt d N=true):
  LW P N ops [⟨some d,.convert S T x,ty,pos,af,g⟩] F w (Fin N F e nid lab w (some d) (o1 (.dat (.sl (.int .u8)) z))):=by
 have hrun:=run_bytes_of_string (P:=P) w S T el ⟨z.toArray⟩ hS hT hE
 have hz:z.length≤maxLen:=by unfold maxLen;simp[xR]at hl;omega
 have h1:=grownCap_ge w z.length 0 el
 have h2:=grownCap_le_maxLen w z.length 0 el hz
 rw[il]at hrun
 have hs:=iI.alloc (lab:=lab) (w:=w.drew) tp 0 (.cells (bytesRow ⟨z.toArray⟩ (grownCap w z.length 0 el)) el ((bytesRow ⟨z.toArray⟩ (grownCap w z.length 0 el)).size,(bytesRow ⟨z.toArray⟩ (grownCap w z.length 0 el)).size+1))
 refine LW.val rfl hw rfl hd (fun q hq=>by simp only[execOp,hq.eval hx,eA,Sem.run_bind,hrun,Result.andThen_ok,Sem.run_pure];rfl) (Lj ⟨hs.os,hs.tape,hs.output,hs.size,hs.block,hs.same,hs.top⟩ (bh.ofSl (t:=.int .u8) ⟨h1,h2,fun i c hc=>?_⟩))
 obtain⟨hlt,hc⟩:=List.getElem?_eq_some_iff.1 hc
 refine⟨_,[.int .u8 (c.toNat:Int)],rfl,rfl,fun j u hu=>⟨?_,?_⟩⟩
 ·rw[iS]
  show relab lab w.drew.heap.size 0 w.heap.size=0
  exact if_pos rfl
 ·match j,hu with
  |0,hu=>
   cases hu
   rw[iR,bL,Nat.zero_add]
   rw[show i*(rep (.int .u8)).sz=i from Nat.mul_one i]
   exact yd w.drew (grownCap w z.length 0 el) el _ hc
theorem L6{tes:List (TE P)}{se:SE P}{S:TypeId}{l:List UInt8}{out:fw}(hS:P.underlying S=some .string)(hT:se.id=T)(hx:ev F x=some (eA l))(hr:jH (IQ tes se l) out)(tp:dv lab w)(hw:Wn ops F g)(hd:Nat.blt d N=true):
  LW P N ops [⟨some d,.convert S T x,ty,pos,af,g⟩] F w (Fin N F e nid lab w (some d) out):=by
 subst hT
 unfold IQ at hr
 split at hr
 ·rename_i i ok hel hpt
  have e3:i=se.el:=bE hel
  subst e3
  have u3:P.underlying se.el=some (.int .u8):=ok.und
  cases hr with
  |bnd hX hr=>
   rename_i z
   obtain rfl:=hr.ret_eq
   obtain⟨hl,rfl⟩:=qg hX
   exact K1 hl hS se.ok.und u3 hx tp hw hd
 ·cases hr
end
section
variable {P : Program} {w : World}
theorem xK(base:Nat)(t u ty e:TypeId)(i:TypeInfo)(ht:P.underlying t=some (.slice e))(hu:P.underlying u=some .string)(hi:P.info? e=some i)(hz:i.zero=some (.int .u8 0))
  (hsize:i.size=1) (hby:i.bytes=1)
  (v:Value) (n:Nat) (xs:List Value) (hown:w.ownsRow base e 1 v n xs) (s:ByteArray)
  (h63:n+s.size≤maxLen) (hbytes:n+s.size≤140737488355328) (hbase:base≤w.heap.size) :
  ∃v' w',(Builtin.append_ #[t,u] ty #[v,.string s]).run P w = .ok v' w'∧w'.ownsRow base e 1 v' (n+s.size) (xs++Lib.strCells s)∧w.grownBy w' v.ownBlock∧
   (v'.ownBlock=v.ownBlock∨v'.ownBlock=some w.heap.size):=by
 have hsmall:n+s.size≤9223372036854775807:=by simp only[maxLen]at h63;omega
 have hxl:xs.length=n:=by simpa using hown.1
 have hlen:(xs++Lib.strCells s).length=(n+s.size)*1:=by rw[List.length_append,hxl,Lib.strCells_length,Nat.mul_one]
 have grown : ∀(np:Nat),np<n+s.size→∀(row:Option Nat),
   (w.drew.alloc (.cells (xs.toArray++(Lib.strCells s).toArray++Builtin.zeroCells (Value.int .u8 0).cells (grownCap w (n+s.size) np e-(n+s.size))) e)).ownsRow base e 1
    (.slice (some ⟨w.heap.size,0,none⟩) (n+s.size) (grownCap w (n+s.size) np e)) (n+s.size) (xs++Lib.strCells s)∧
   w.grownBy (w.drew.alloc (.cells (xs.toArray++(Lib.strCells s).toArray++Builtin.zeroCells (Value.int .u8 0).cells (grownCap w (n+s.size) np e-(n+s.size))) e)) row:=by
  intro np ho row
  have hge:=grownCap_ge w (n+s.size) np e
  have hcm:grownCap w (n+s.size) np e≤maxLen:=grownCap_le_maxLen w (n+s.size) np e h63
  refine⟨⟨hlen,.inr ⟨w.heap.size,_,_,rfl,hbase,heap_alloc_new w.drew _,hge,hcm,?_,?_⟩⟩,⟨rfl,rfl,rfl,by simp,fun k hk _=>Go.heap_alloc_old w.drew _ hk⟩⟩
  ·have hz1:(Value.int IntKind.u8 0).cells.size=1:=rfl
   simp only[Array.size_append,List.size_toArray,size_zeroCells,hz1,hxl,Lib.strCells_length]
   omega
  ·simp only[Array.toList_append,List.append_assoc]
   rw[←List.append_assoc,←hlen]
   exact List.take_left
 rcases hown.2 with⟨rfl,rfl⟩ | ⟨g,cap,dS,rfl,hbg,hg,hnc,hcm,hcs,htake⟩
 ·have hx:xs = []:=List.eq_nil_of_length_eq_zero hxl
  subst hx
  by_cases hm:s.size=0
  ·have hn:Lib.strCells s = []:=List.eq_nil_of_length_eq_zero (by rw[Lib.strCells_length];exact hm)
   refine⟨.slice none 0 0,w,?_,by rw[hm,hn];exact World.ownsRow_nil w base e 1,⟨rfl,rfl,rfl,Nat.le_refl _,fun _ _ _=>rfl⟩,.inl rfl⟩
   have hf:=Lib.run_firstCells_string (P:=P) w 1 s
   rw[hm]at hf
   simp[Builtin.append_,run_underlying ht,run_underlying hu,sizeOf,typeInfo,hi,hsize,Builtin.lenOf,hm,hf]
  ·have hr:=run_append_nil_string (P:=P) w t u ty e i (.int .u8 0) ht hu hi hz s (by omega) (by omega) (by rw[hby];omega)
   have hgr:=grown 0 (by omega) (Value.ownBlock (.slice none 0 0))
   simp only[Nat.zero_add,List.nil_append,Array.empty_append]at hgr⊢
   have e1:(s.data.map fun b=>Value.int .u8 b.toNat)=(Lib.strCells s).toArray:=by
    apply Array.ext'
    simp[Lib.strCells]
   rw[e1]at hr
   exact⟨_,_,hr,hgr.1,hgr.2,.inr rfl⟩
 ·by_cases hroom:n+s.size≤cap
  ·have hcs':dS.size=cap:=by simpa using hcs
   have hr:=Lib.run_append_room_string (P:=P) w t u ty e i ht hu hi hsize g n cap dS hg s hroom (by omega)
   refine⟨_,_,hr,⟨hlen,.inr ⟨g,cap,_,rfl,hbg,setRow_heap w g dS _ e _ hg,hroom,hcm,?_,?_⟩⟩,⟨rfl,rfl,rfl,by simp,fun k _ hk=>setRow_other w g k _ (fun e=>hk (by simp[Value.ownBlock,e]))⟩,.inl rfl⟩
   ·simp only[List.size_toArray,List.length_append,List.length_take,List.length_drop,Array.length_toList,Lib.strCells_length]
    omega
   ·have ht':dS.toList.take n=xs:=by simpa using htake
    rw[ht',←hlen]
    exact List.take_left
  ·have holds : ∀j u,xs[j]?=some u→w.cell? ((⟨g,0,none⟩:Addr).add j)=some u:=hown.cells (g:=g) rfl
   have hr:=Lib.run_append_grow_string (P:=P) w t u ty e i (.int .u8 0) ht hu hi hz ⟨g,0,none⟩ n cap xs (by rw[hsize];simpa using hxl) holds s (by omega) (by omega) (by rw[hby];exact growslice_fits (by omega) (by omega))
   have hgr:=grown cap (by omega) (Value.ownBlock (.slice (some ⟨g,0,none⟩) n cap))
   exact⟨_,_,hr,hgr.1,hgr.2,.inr rfl⟩
end
section
variable {P : Program} {N : Nat} {ops : Array Oper} {rest : List Oper} {F : List (Nat × Value)} {w : World} {K : gC} {lab : bg} {e : ja} {nid : Nat} {a b : RA}
variable {ty : TypeId} {pos : String} {af : Array Edge} {g : Option (Nat × Bool)} {d : Nat} {x y z : Operand} {v u : Value} {α : Type} {r : α} {T U E : TypeId}
theorem ri : ∀(l:List UInt8),(l.map fun b:UInt8=>[Value.int .u8 (b.toNat:Int)]).flatten=l.map fun b=>Value.int .u8 b.toNat
 | []=>rfl
 |b::l=>by rw[List.map_cons,List.flatten_cons,ri l];rfl
theorem B4(l:List UInt8):Lib.strCells ⟨l.toArray⟩=(l.map fun b:UInt8=>[Value.int .u8 (b.toNat:Int)]).flatten:=by
 rw[ri];rfl
theorem nt(lab:bg)(w:World): ∀(l:List UInt8),dh (rep (.int .u8)) lab w (l.map fun b:UInt8=>[Value.int .u8 (b.toNat:Int)]) l
 | []=>trivial
 |b::l=>⟨rfl,nt lab w l⟩
theorem uB{oa:Option Addr}{c k nb:Nat}{xs ys:List UInt8}{zv:Value}(t:dv lab w)(hk0:Nat.beq k 0=false)(o:ee (rep (.int .u8)) lab w k E oa c xs)(hT:iZ P T E 1 nb zv)(hU:P.underlying U=some .string)(hz0:zv = .int .u8 0)(hb:nb=1)(hl:xs.length+ys.length≤xR)(ty:TypeId):
  ∃oa2 c2 lab2 w2,(Builtin.append_ #[T,U] ty #[.slice oa xs.length c,eA ys]).run P w = .ok (.slice oa2 (xs++ys).length c2) w2∧iI lab k w lab2 w2∧ee (rep (.int .u8)) lab2 w2 k E oa2 c2 (xs++ys):=by
 subst hz0 hb
 obtain⟨css,h1,h2⟩:=o
 have hown:=ee.ownsRow h2 h1
 obtain⟨i,hi,hz,hsz,hby⟩:=hT.info
 unfold xR at hl
 have hss:(⟨ys.toArray⟩:ByteArray).size=ys.length:=il ys
 obtain⟨v',w',hrun,hown',hg,hblk⟩:=xK (P:=P) 0 T U ty E i hT.und hU hi hz hsz hby _ _ _ hown ⟨ys.toArray⟩ (by rw[hss];unfold maxLen;omega) (by rw[hss];omega) (Nat.zero_le _)
 rw[hss,B4]at hown'
 let lab2:bg:=fun b=>if b=w.heap.size∧w.heap.size<w'.heap.size∧v'.ownBlock=some b then k else lab b
 have hrow : ∀b,b<w.heap.size→lab b≠k→some b≠(Value.slice oa xs.length c).ownBlock:=fun b hb hne e=>by
  rcases h2 with⟨rfl,_⟩ | ⟨g,dS,rfl,_,_,_,_,_,h7⟩
  ·simp[Value.ownBlock]at e
  ·simp[Value.ownBlock]at e;subst e;exact hne h7
 have ste:iI lab k w lab2 w':=by
  refine⟨hg.os,hg.tape,hg.output,hg.size,fun b hb h=>?_,fun b hb=>?_,fun b hb=>?_⟩
  ·refine hg.block b hb ?_
   rcases h with h |h
   ·subst h;simp at hk0
   ·exact hrow b hb h
  ·simp only[lab2];rw[if_neg (by omega)]
  ·simp only[lab2];rw[if_neg (by omega)];exact t b (Nat.le_trans hg.size hb)
 have hform : ∃oa2 c2,v' = .slice oa2 (xs++ys).length c2:=by
  rcases hown'.2 with⟨rfl,h0⟩ | ⟨g,cap,dS,rfl,_⟩
  ·exact⟨none,0,by rw[List.length_append,h0]⟩
  ·exact⟨_,cap,by rw[List.length_append]⟩
 obtain⟨oa2,c2,rfl⟩:=hform
 refine⟨oa2,c2,lab2,w',hrun,ste,css++ys.map fun b:UInt8=>[Value.int .u8 (b.toNat:Int)],(h1.append (nt lab w ys)).keep ste.keeps,?_⟩
 rcases hown'.2 with⟨hv,h0⟩ | ⟨g,cap,dS,hv,_,hcur,hle,hmx,hsize,htake⟩
 ·injection hv with e1 e2 e3
  exact .inl ⟨e1,e3,List.eq_nil_of_length_eq_zero (by rw[List.length_append];exact h0)⟩
 ·injection hv with e1 e2 e3
  subst e1;subst e3
  have hlen2:List.length (α:=UInt8) (xs++ys)=List.length (α:=UInt8) xs+List.length (α:=UInt8) ys:=List.length_append
  refine .inr ⟨g,dS,rfl,hcur,hlen2▸hle,hmx,hsize,by
   show List.take (List.length (α:=UInt8) (xs++ys)*1) dS.toList=_
   rw[hlen2,List.flatten_append];exact htake,?_⟩
  simp only[Value.ownBlock]at hblk
  have hgl:g<w'.heap.size:=(Array.getElem?_eq_some_iff.1 hcur).1
  simp only[lab2,Value.ownBlock]
  rcases Nat.lt_or_ge g w.heap.size with hlt |hge
  ·rw[if_neg (by omega)]
   rcases hblk with hblk |hblk
   ·rcases h2 with⟨rfl,_⟩ | ⟨g',cur',rfl,_,_,_,_,_,h7⟩
    ·simp at hblk
    ·simp at hblk;subst hblk;exact h7
   ·simp at hblk;omega
  ·have:g=w.heap.size:=by
    rcases hblk with hblk |hblk
    ·rcases h2 with⟨rfl,_⟩ | ⟨g',cur',rfl,hg',_,_,_,_,h7⟩
     ·simp at hblk
     ·simp at hblk;subst hblk
      have:=(Array.getElem?_eq_some_iff.1 hg').1;omega
    ·simpa using hblk
   rw[if_pos ⟨this,by omega,by simp⟩]
theorem LW.appendS{oa:Option Addr}{c k nb:Nat}{xs ys:List UInt8}{zv:Value}{kk:List UInt8→Option α}(hm:bnd (cO xs ys) kk=some r)(o:ee (rep (.int .u8)) lab w k E oa c xs)
  (t:dv lab w) (hk0:Nat.beq k 0=false) (hT:iZ P T E 1 nb zv) (hU:P.underlying U=some .string) (hz0:zv = .int .u8 0) (hb:nb=1)
  (hw:Wn ops F g) (hdN:Nat.blt d N=true) (hx:ev F x=some (.slice oa xs.length c)) (hy:ev F y=some (eA ys))
  (h : ∀zs oa2 c2 lab2 w2,kk zs=some r→iI lab k w lab2 w2→ee (rep (.int .u8)) lab2 w2 k E oa2 c2 zs→LW P N ops rest ((d,.slice oa2 zs.length c2)::F) w2 K) :
  LW P N ops (⟨some d,.call { callee:=.builtin .append,args:=#[x,y],argTypes:=#[T,U] },ty,pos,af,g⟩::rest) F w K:=by
 obtain⟨zs,hz,hk⟩:=cX hm
 obtain⟨hl,rfl⟩:=qg hz
 obtain⟨oa2,c2,lab2,w2,hrun,hs,ho⟩:=uB (P:=P) t hk0 o hT hU hz0 hb hl ty
 exact LW.val rfl hw rfl hdN (fun a ha=>by simp[execOp,resolve,invoke,builtin,ha.eval hx,ha.eval hy,hrun]) (h _ _ _ _ _ hk hs ho)
end
theorem BF : ∀(vs:List Value) (j off:Nat) (cs:List Value),off+j+vs.length≤cs.length→(vs.zipIdx j).foldl (fun(a:Array Value) (p:Value×Nat)=>a.setIfInBounds (off+p.2) p.1) cs.toArray=(cs.take (off+j)++vs++cs.drop (off+j+vs.length)).toArray
 | [],j,off,cs,h=>by simp
 |v::vs,j,off,cs,h=>by
  simp only[List.length_cons]at h
  have hlt:off+j<cs.length:=by omega
  rw[List.zipIdx_cons,List.foldl_cons]
  have e1:cs.toArray.setIfInBounds (off+j) v=(cs.set (off+j) v).toArray:=by simp
  rw[e1,BF vs (j+1) off (cs.set (off+j) v) (by simp;omega)]
  congr 1
  rw[List.take_set,List.drop_set_of_lt (by omega),show off+(j+1)=off+j+1 by omega,List.take_succ_eq_append_getElem hlt,List.set_append_right _ _ (by simp;omega)]
  simp[Nat.min_eq_left (Nat.le_of_lt hlt),Nat.add_assoc,Nat.add_comm 1]
theorem um{place:Nat→Option (Nat×Nat)}{cs vs:List Value}{i off:Nat}{v:Value}{rest:List (Nat×Value)}(hv:v.cells=vs.toArray)(hp:place i=some (off,vs.length))(hl:off+vs.length≤cs.length):
  Instr.fill place cs.toArray ((i,v)::rest)=Instr.fill place (cs.take off++vs++cs.drop (off+vs.length)).toArray rest:=by
 have h2 : ∀(q:Array Value),q=cs.toArray→Instr.fill place q ((i,v)::rest)=Instr.fill place (v.cells.zipIdx.foldl (fun cs (c,j)=>cs.setIfInBounds (off+j) c) q) rest:=by
  intro q hq
  rw[Instr.fill]
  rw[hp]
  simp only[hv,List.size_toArray,hq]
  rw[if_neg (by simp;omega)]
 rw[h2 _ rfl]
 congr 1
 have:=BF vs 0 off cs (by omega)
 simp only[Nat.add_zero]at this
 rw[←this,hv]
 simp
inductive jn(F:List (Nat×Value))(e:ja)(lab:bg)(w:World):List (Nat×Operand)→List (Nat×RA)→List (Nat×Value)→Prop where
 |nil:jn F e lab w [] [] []
 |cons {i x a v ps as vs}:ev F x=some v→k_ e lab w a v→jn F e lab w ps as vs→jn F e lab w ((i,x)::ps) ((i,a)::as) ((i,v)::vs)
theorem jn.map{F:List (Nat×Value)}{e:ja}{lab:bg}{w:World}{ps:List (Nat×Operand)}{as:List (Nat×RA)}{vs:List (Nat×Value)}(h:jn F e lab w ps as vs):ps.map (fun p=>(p.1,ev F p.2))=vs.map (fun p=>(p.1,some p.2)):=by
 induction h with
 |nil=>rfl
 |cons h1 _ _ ih=>simp[h1,ih]
def Fs{α:Type}:List α→Nat→Option α
 | [],_=>none
 |x::_,0=>some x
 |_::r,n+1=>Fs r n
theorem ph{α:Type}: ∀(l:List α) (n:Nat),Fs l n=l[n]?
 | [],_=>by simp[Fs]
 |x::_,0=>by simp[Fs]
 |_::r,n+1=>by simp[Fs,ph r n]
def N2(fs:List (Nat×PT))(pt:PT):List (Nat×RA)→den pt→Option (den pt)
 | [],x=>some x
 | (i,a)::r,x=>match Fs fs i with
  |none=>none
  |some (off,u)=>match BU u a with
   |none=>none
   |some y=>match dV pt off u x y with
    |none=>none
    |some x'=>N2 fs pt r x'
def M3(t:PT)(n:Nat):List (Nat×RA)→List (den t)→Option (List (den t))
 | [],xs=>some xs
 | (i,a)::r,xs=>match Nat.blt i n with
  |false=>none
  |true=>match BU t a with
   |none=>none
   |some y=>M3 t n r (xs.set i y)
section
variable {P : Program} {N : Nat} {ops : Array Oper} {F : List (Nat × Value)} {w w' : World} {e : ja} {lab lab' : bg} {nid : Nat} {d : Nat} {v u : Value}
variable {ty : TypeId} {pos : String} {af : Array Edge} {g : Option (Nat × Bool)} {x y z : Operand} {T S : TypeId} {a b : RA}
theorem Ku{fs:List (Nat×PT)}{pt:PT}{ps:List (Nat×Operand)}{as:List (Nat×RA)}{vs:List (Nat×Value)}(h:jn F e lab w ps as vs): ∀{X X':den pt} {cs:List Value},N2 fs pt as X=some X'→(rep pt).rd lab w cs X→
  ∃cs',Instr.fill (fun i=>(fs.map fun p=>(p.1,dq p.2)).toArray[i]?) cs.toArray vs=some cs'.toArray∧(rep pt).rd lab w cs' X':=by
 induction h with
 |nil=>intro X X' cs hb hrd;cases hb;exact⟨cs,rfl,hrd⟩
 |cons hx ha hrest ih=>
  intro X X' cs hb hrd
  rename_i i x a v ps as vs
  unfold N2 at hb
  split at hb
  ·cases hb
  ·rename_i off u hf
   split at hb
   ·cases hb
   ·rename_i Y hY
    split at hb
    ·cases hb
    ·rename_i Z hZ
     obtain⟨cv,h1,h2⟩:=jp ha hY
     have hl:cv.length=dq u:=by rw[(rep u).len h1,bO]
     obtain⟨hle,hrd'⟩:=l7 hrd h1 hZ
     rw[ph]at hf
     rw[um (off:=off) (h2.cells ((rep u).one h1)) (by simp[hf,hl]) (by omega),hl]
     exact ih hb hrd'
def zT{P:Program}(be:BE P)(as:List (Nat×RA)):bQ:=
 match lA be.pt,N2 be.fs be.pt as (zt be.pt)with
 |true,some X=>.ret (o1 (.dat be.pt X))
 |_,_=>.stuck
theorem Fl{be:BE P}{out:fw}{parts:List (Nat×Operand)}{as:List (Nat×RA)}{vs:List (Nat×Value)}(hT:be.id=T)(hp:jn F e lab w parts as vs)(hr:jH (zT be as) out)(tp:dv lab w)(hw:Wn ops F g)(hd:Nat.blt d N=true):
  LW P N ops [⟨some d,.build T parts.toArray,ty,pos,af,g⟩] F w (Fin N F e nid lab w (some d) out):=by
 subst hT
 unfold zT at hr
 split at hr
 ·rename_i X ha hX
  obtain rfl:=hr.ret_eq
  obtain⟨cs,h1,h2⟩:=Ku hp hX (iN lab w be.pt)
  refine LW.build hp.map (by rw[be.ok];exact h1) hw hd (aJ tp ⟨cs,h2,?_⟩)
  unfold x_;rw[ha]
 ·cases hr
def LN(fs:List (Nat×PT))(off:Nat):List (Nat×RA)→Bool
 | []=>true
 | (i,_)::r=>(match Fs fs i with |some (o,u)=>Nat.blt off o||Nat.ble (o+dq u) off |none=>false)&&LN fs off r
theorem KI{fs:List (Nat×PT)}{pt:PT}{ps:List (Nat×Operand)}{as:List (Nat×RA)}{vs:List (Nat×Value)}{off:Nat}{c:Value}(h:jn F e lab w ps as vs): ∀{X X':den pt} {cs:List Value},N2 fs pt as X=some X'→(rep pt).rd lab w cs X→LN fs off as=true→cs[off]?=some c→
  ∃cs',Instr.fill (fun i=>(fs.map fun p=>(p.1,dq p.2)).toArray[i]?) cs.toArray vs=some cs'.toArray∧(rep pt).rd lab w cs' X'∧cs'[off]?=some c:=by
 induction h with
 |nil=>intro X X' cs hb hrd _ hc;cases hb;exact⟨cs,rfl,hrd,hc⟩
 |cons hx ha hrest ih=>
  intro X X' cs hb hrd hfar hc
  rename_i i x a v ps as vs
  unfold N2 at hb
  unfold LN at hfar
  rw[Bool.and_eq_true]at hfar
  split at hb
  ·cases hb
  ·rename_i o u hf
   rw[hf]at hfar
   split at hb
   ·cases hb
   ·rename_i Y hY
    split at hb
    ·cases hb
    ·rename_i Z hZ
     obtain⟨cv,h1,h2⟩:=jp ha hY
     have hl:cv.length=dq u:=by rw[(rep u).len h1,bO]
     obtain⟨hle,hrd'⟩:=l7 hrd h1 hZ
     rw[ph]at hf
     rw[um (off:=o) (h2.cells ((rep u).one h1)) (by simp[hf,hl]) (by omega),hl]
     refine ih hb hrd' hfar.2 ?_
     have hoff:off<cs.length:=(List.getElem?_eq_some_iff.1 hc).1
     simp only[Bool.or_eq_true]at hfar
     rcases hfar.1 with hq |hq
     ·have hq:=mi hq
      rw[List.append_assoc,List.getElem?_append_left (by simp;omega),List.getElem?_take_of_lt hq];exact hc
     ·have hq:o+dq u≤off:=Nat.le_of_ble_eq_true hq
      rw[List.getElem?_append_right (by simp;omega),List.getElem?_drop]
      rw[show o+dq u+(off-(List.take o cs++cv).length)=off by simp;omega];exact hc
def Nw(t:PT)(off:Nat):Bool:=match Fs (zc t) off with |some (.slice none 0 0)=>true |_=>false
def vR{P:Program}(be:BE P)(as:List (Nat×RA))(l:List (Nat×TypeId×PT)):bQ:=
 match lA be.pt,l.all (fun x=>Nw be.pt x.1&&LN be.fs x.1 as),N2 be.fs be.pt as (zt be.pt)with
 |true,true,some X=>.ret (o1 (.agn be.pt X l))
 |_,_,_=>.stuck
theorem CN{be:BE P}{out:fw}{parts:List (Nat×Operand)}{as:List (Nat×RA)}{vs:List (Nat×Value)}{l:List (Nat×TypeId×PT)}(hT:be.id=T)(hp:jn F e lab w parts as vs)(hr:jH (vR be as l) out)(tp:dv lab w)(hw:Wn ops F g)(hd:Nat.blt d N=true):
  LW P N ops [⟨some d,.build T parts.toArray,ty,pos,af,g⟩] F w (Fin N F e nid lab w (some d) out):=by
 subst hT
 unfold vR at hr
 split at hr
 ·rename_i X ha hn hX
  obtain rfl:=hr.ret_eq
  obtain⟨cs,h1,h2⟩:=Ku hp hX (iN lab w be.pt)
  have h3 : ∀h∈l,cs[h.1]?=some (.slice none 0 0):=fun h hm=>by
   have hq:=List.all_eq_true.1 hn h hm
   rw[Bool.and_eq_true]at hq
   have hz:(zc be.pt)[h.1]?=some (.slice none 0 0):=by
    have hn:=hq.1
    unfold Nw at hn
    rw[ph]at hn
    split at hn
    ·rename_i h;exact h
    ·cases hn
   obtain⟨cs',g1,_,g3⟩:=KI hp hX (iN lab w be.pt) hq.2 hz
   rw[h1]at g1
   have:cs=cs':=by have:=congrArg Array.toList (Option.some.inj g1);simpa using this
   rw[this];exact g3
  refine LW.build hp.map (by rw[be.ok];exact h1) hw hd (aJ tp ⟨⟨cs,h2,?_⟩,_,rfl,fun h hm=>by simpa using h3 h hm⟩)
  unfold x_;rw[ha]
 ·cases hr
def QN(rid:Nat)(a:RA):Bool:=match a.1 with
 | .own r=>Nat.beq r rid
 |_=>false
def P0(fs:List (Nat×PT)){pt:PT}(off rid:Nat):List (Nat×RA)→den pt→Bool→Option (den pt×Bool)
 | [],X,b=>some (X,b)
 | (i,a)::r,X,b=>match Fs fs i with
  |none=>none
  |some (o,u)=>match QN rid a&&(Nat.beq o off&&Nat.beq (dq u) 1)with
   |true=>P0 fs off rid r X true
   |false=>match Nat.blt off o||Nat.ble (o+dq u) off,BU u a with
    |true,some Y=>match dV pt o u X Y with
     |some Z=>P0 fs off rid r Z b
     |none=>none
    |_,_=>none
structure FD(P:Program) where
 id:TypeId
 f:Nat
 ft:TypeId
 off:Nat
 ok : ∀w cs,(Instr.field id (.agg cs) f).run P w=(part ft cs off).run P w
def AX{P:Program}:List (FD P)→TypeId→Nat→Option (FD P)
 | [],_,_=>none
 |e::r,T,f=>match Nat.beq e.id T&&Nat.beq e.f f with
  |true=>some e
  |false=>AX r T f
theorem yL{P:Program}: ∀{l:List (FD P)} {T:TypeId} {f:Nat} {e:FD P},AX l T f=some e→e.id=T∧e.f=f
 | [],_,_,_,h=>by cases h
 |q::r,T,f,e,h=>by
  unfold AX at h
  split at h
  ·rename_i hb
   rw[Bool.and_eq_true]at hb
   cases h
   exact⟨Nat.eq_of_beq_eq_true hb.1,Nat.eq_of_beq_eq_true hb.2⟩
  ·exact yL h
def Aw{P:Program}(fd:FD P)(te:TE P)(a:RA):bQ:=
 match kK a with
 |some ⟨.st t,X⟩=>match fj (.st t) fd.off te.pt X with
  |some Y=>.ret (o1 (.dat te.pt Y))
  |none=>.stuck
 |some ⟨.tree,X⟩=>match fj .tree fd.off te.pt X with
  |some Y=>.ret (o1 (.dat te.pt Y))
  |none=>.stuck
 |_=>.stuck
theorem Fv{fd:FD P}{te:TE P}{f:Nat}{out:fw}(hT:fd.id=T)(hf:fd.f=f)(hte:te.id=fd.ft)(hx:ev F x=some v)(hv:k_ e lab w a v)(hr:jH (Aw fd te a) out)(tp:dv lab w)(hw:Wn ops F g)(hd:Nat.blt d N=true):
  LW P N ops [⟨some d,.field T x f,ty,pos,af,g⟩] F w (Fin N F e nid lab w (some d) out):=by
 subst hT hf
 have key : ∀{t:PT} {X:den t} {Y:den te.pt} {cs:List Value},v = .agg cs.toArray→(rep t).rd lab w cs X→fj t fd.off te.pt X=some Y→jH (.ret (o1 (.dat te.pt Y))) out→
   LW P N ops [⟨some d,.field fd.id x fd.f,ty,pos,af,g⟩] F w (Fin N F e nid lab w (some d) out):=by
  intro t X Y cs hcs h1 hg hr
  subst hcs
  obtain rfl:=hr.ret_eq
  have h2:=vS (t:=t) h1 hg
  have hl:((cs.drop fd.off).take (dq te.pt)).length=dq te.pt:=by rw[(rep te.pt).len h2,bO]
  cases ha:lA te.pt with
  |true=>
   have hA2:=te.ok.agg ha
   rw[hte]at hA2
   have hrun:(Instr.field fd.id (.agg cs.toArray) fd.f).run P w = .ok (.agg ((cs.drop fd.off).take (dq te.pt)).toArray) w:=by
    rw[fd.ok]
    simp only[part,Sem.run_bind,hA2.agg w,Result.andThen_ok,if_true,hA2.size w,Sem.run_pure]
    congr 2
    apply Array.ext'
    simp[List.extract_eq_take_drop]
   refine LW.val (v:=.agg ((cs.drop fd.off).take (dq te.pt)).toArray) rfl hw rfl hd (fun q hq=>by simp[execOp,hq.eval hx,hrun]) (aJ tp ⟨_,h2,?_⟩)
   unfold x_;rw[ha]
  |false=>
   have hA2:=te.ok.one ha
   rw[hte]at hA2
   have h1c:dq te.pt=1:=by
    cases hpt:te.pt<;>rw[hpt]at ha<;>first |rfl |cases ha
   obtain⟨u,hu⟩ : ∃u,(cs.drop fd.off).take (dq te.pt) = [u]:=List.length_eq_one_iff.1 (by rw[hl,h1c])
   have hcell:cs.toArray[fd.off]?=some u:=by
    have:=congrArg (fun l=>l[0]?) hu
    rw[h1c]at this
    simpa using this
   have hrun:(Instr.field fd.id (.agg cs.toArray) fd.f).run P w = .ok u w:=by
    rw[fd.ok]
    simp only[part,Sem.run_bind,hA2.agg w,Result.andThen_ok,Bool.false_eq_true,if_false,hcell,Sem.run_pure]
   refine LW.val (v:=u) rfl hw rfl hd (fun q hq=>by simp[execOp,hq.eval hx,hrun]) (aJ tp ⟨_,h2,?_⟩)
   unfold x_;rw[ha,hu]
 unfold Aw at hr
 split at hr
 ·rename_i t X hA
  split at hr
  ·rename_i Y hg
   obtain⟨cs,h0,h1⟩:=bh.st (ce hv hA)
   exact key (t:=.st t) h0 h1 hg hr
  ·cases hr
 ·rename_i X hA
  split at hr
  ·rename_i Y hg
   obtain⟨cs,h1,h0⟩:=ce hv hA
   exact key (t:=.tree) h0 h1 hg hr
  ·cases hr
 ·cases hr
theorem KT{t:PT}{n:Nat}{ps:List (Nat×Operand)}{as:List (Nat×RA)}{vs:List (Nat×Value)}(h:jn F e lab w ps as vs): ∀{xs xs':List (den t)} {css:List (List Value)},M3 t n as xs=some xs'→dh (rep t) lab w css xs→css.length=n→
  ∃css',Instr.fill (fun i=>some (i*(rep t).sz,(rep t).sz)) css.flatten.toArray vs=some css'.flatten.toArray∧dh (rep t) lab w css' xs'∧css'.length=n:=by
 induction h with
 |nil=>intro xs xs' css hb hrd hn;cases hb;exact⟨css,rfl,hrd,hn⟩
 |cons hx ha hrest ih=>
  intro xs xs' css hb hrd hn
  rename_i i x a v ps as vs
  unfold M3 at hb
  split at hb
  ·cases hb
  ·rename_i hlt
   have hlt:=mi hlt
   split at hb
   ·cases hb
   ·rename_i Y hY
    obtain⟨cv,h1,h2⟩:=jp ha hY
    have hl:cv.length=(rep t).sz:=(rep t).len h1
    have hfl:=jD css (fun cs h=>(hrd.each cs h).1)
    have hb1:(i+1)*(rep t).sz≤css.length*(rep t).sz:=Nat.mul_le_mul_right _ (by omega)
    rw[Nat.add_mul]at hb1
    rw[um (off:=i*(rep t).sz) (h2.cells ((rep t).one h1)) (by rw[hl]) (by omega),hl]
    have:=lW i css cv (fun cs h=>(hrd.each cs h).1) (by omega)
    rw[←this]
    exact ih hb (hrd.set i h1) (by simpa using hn)
theorem Gs{t:PT}(n:Nat)(hp:0<dq t):tM (zv t) (n*(rep t).sz)=(List.replicate n (zc t)).flatten.toArray:=by
 have hz:(zc t).length=dq t:=by rw[←bO];exact(rep t).len (iN (fun _=>0) default t)
 unfold tM
 apply Array.ext_getElem?
 intro j
 rw[sQ,bO]
 by_cases hj:j<n*dq t
 ·have:=fm (l:=zc t) n j (by rw[hz];exact hj)
  have hjm:j%(zc t).length<(zc t).length:=Nat.mod_lt _ (by omega)
  simp[hj,this,List.getElem?_eq_getElem hjm]
 ·have hl:((List.replicate n (zc t)).flatten).length=n*dq t:=by simp[hz]
  rw[Array.getElem?_eq_none (by simp;omega),Array.getElem?_eq_none (by simp[hz];omega)]
theorem dh.rep0{t:PT}: ∀n,dh (rep t) lab w (List.replicate n (zc t)) (List.replicate n (zt t)):=fun n=>dh.replicate (iN lab w t) n
def xk{P:Program}(se:SE P)(nid k0:Nat)(owned:Bool)(n:Nat)(as:List (Nat×RA)):bQ:=
 match Nat.beq k0 0,Nat.ble (n*dq se.pt) 16777216,M3 se.pt n as (List.replicate n (zt se.pt))with
 |false,true,some xs=>.ret (mY nid k0 se.el se.pt owned [k0] xs)
 |_,_,_=>.stuck
theorem D7{se:SE P}{out:fw}{k0 n:Nat}{owned:Bool}{parts:List (Nat×Operand)}{as:List (Nat×RA)}{vs:List (Nat×Value)}(hT:se.id=T)(hp:jn F e lab w parts as vs)(hr:jH (xk se nid k0 owned n as) out)(tp:dv lab w)(hw:Wn ops F g)(hd:Nat.blt d N=true):
  LW P N ops [⟨some d,.buildSlice T n parts.toArray,ty,pos,af,g⟩] F w (Fin N F e nid lab w (some d) out):=by
 subst hT
 unfold xk at hr
 split at hr
 ·rename_i xs hk hb hX
  obtain rfl:=hr.ret_eq
  obtain⟨css,h1,h2,h3⟩:=KT hp hX (dh.rep0 n) (by simp)
  have hpos:0<dq se.pt:=se.ok.pos
  refine LW.buildOwn k0 hp.map se.ok.rep se.zok (by rw[Gs n hpos];exact h1) (by rw[bO];exact hb) (by rw[←h2.len,h3];simp) h2 tp hw hd ?_
  intro oa c lab' w' hs ho
  -- the new row's label is written by nobody before
  have hs':iI lab k0 w lab' w':=⟨hs.os,hs.tape,hs.output,hs.size,fun b hb _=>hs.block b hb (.inl rfl),hs.same,hs.top⟩
  exact tD hs' ho
 ·cases hr
def Dp{P:Program}(se:SE P)(nid k0:Nat)(owned:Bool)(a:RA):bQ:=
 match Nat.beq k0 0,G3 a with
 |false,some ⟨k,i⟩=>.bnd (List (den se.pt)) (Nq (eF k i) (zt se.pt)) fun zs=>.ret (mY nid k0 se.el se.pt owned [k0] zs)
 |_,_=>.stuck
theorem I4{se:SE P}{out:fw}{k0:Nat}{owned:Bool}(hT:se.id=T)(hx:ev F x=some v)(hv:k_ e lab w a v)(hr:jH (Dp se nid k0 owned a) out)(tp:dv lab w)(hw:Wn ops F g)(hd:Nat.blt d N=true):
  LW P N ops [⟨some d,.makeSlice T x x,ty,pos,af,g⟩] F w (Fin N F e nid lab w (some d) out):=by
 subst hT
 unfold Dp at hr
 split at hr
 ·rename_i k i hk hi
  obtain rfl:=mX hv hi
  cases hr with
  |bnd hz hr=>
   obtain rfl:=hr.ret_eq
   refine LW.make k0 (kk:=some) (by rw[hz];rfl) se.ok.rep se.zok (sQ se.pt) (fun lab w=>iN lab w se.pt) (by rw[bO,←bO];have:=(rep se.pt).len (iN lab w se.pt);rw[this];exact Nat.beq_refl _) se.hb tp hw hd hx hx ?_
   intro zs oa c lab' w' hzs hs ho
   obtain rfl:=Option.some.inj hzs
   have hs':iI lab k0 w lab' w':=⟨hs.os,hs.tape,hs.output,hs.size,fun b hb _=>hs.block b hb (.inl rfl),hs.same,hs.top⟩
   exact tD hs' ho
 ·cases hr
def PB{β:Type}(n:Int)(z:β):Option (List β):=bif decide (0≤n)&&decide (n≤65536)then some []else none
theorem HM{β:Type}{n:Int}{z:β}{zs:List β}(h:PB n z=some zs):0≤n∧n≤65536∧zs = []:=by
 unfold PB at h
 by_cases h1:0≤n<;>by_cases h2:n≤65536<;>simp_all
theorem LW.make0{α β:Type}{ρ:bV β}{r:α}{E:TypeId}{rest:List Oper}{K:gC}{n:Int}{kn kc:IntKind}{z:β}{zc:List Value}{nb:Nat}{zv:Value}(k:Nat){kk:List β→Option α}(hm:bnd (PB n z) kk=some r)(hT:iZ P T E ρ.sz nb zv)(hE:gO P E zv)(hz:zv.cells=zc.toArray)(hrd : ∀lab w,ρ.rd lab w zc z)(hzl:Nat.beq zc.length ρ.sz=true)(hb:Nat.ble nb 32768=true)(t:dv lab w)
  (hw:Wn ops F g) (hdN:Nat.blt d N=true) (hx:ev F x=some (.int kn 0)) (hy:ev F y=some (.int kc n))
  (h : ∀zs oa c lab' w',kk zs=some r→iI lab 0 w lab' w'→ee ρ lab' w' k E oa c zs→LW P N ops rest ((d,.slice oa zs.length c)::F) w' K):LW P N ops (⟨some d,.makeSlice T x y,ty,pos,af,g⟩::rest) F w K:=by
 obtain⟨zs,hz',hk⟩:=cX hm
 obtain⟨h0,h1,rfl⟩:=HM hz'
 obtain⟨i,hi,hiz,hsz,hby⟩:=hT.info
 have hpos:=hT.pos
 have hzl':zc.length=ρ.sz:=Nat.eq_of_beq_eq_true hzl
 have hnb:nb≤32768:=by simpa using hb
 obtain⟨m,rfl⟩ : ∃m:Nat,n=(m:Int):=⟨n.toNat,by omega⟩
 have ste:=iI.alloc t k (.cells (List.replicate m zc).flatten.toArray E)
 have hcells:madeCells zv.cells (m*i.size)=(List.replicate m zc).flatten.toArray:=by
  unfold madeCells
  apply Array.ext_getElem?
  intro j
  rw[hz,hsz]
  by_cases hj:j<m*ρ.sz
  ·have:=fm (l:=zc) m j (by rw[hzl'];exact hj)
   have hjm:j%zc.length<zc.length:=Nat.mod_lt _ (by omega)
   simp[hj,this,List.getElem?_eq_getElem hjm]
  ·have hl:((List.replicate m zc).flatten).length=m*ρ.sz:=by simp[hzl']
   rw[Array.getElem?_eq_none (by simp;omega),Array.getElem?_eq_none (by simp[hzl'];omega)]
 have hbytes:(i.bytes:Int)*(m:Int)≤281474976710656:=by
  have a1:i.bytes*m≤32768*65536:=Nat.mul_le_mul (by omega) (by omega)
  have a2:((i.bytes*m:Nat):Int)=(i.bytes:Int)*(m:Int):=Int.natCast_mul _ _
  omega
 have hrun:=run_make (P:=P) w T E i zv hT.und hi hiz kn kc 0 (m:Int) (by omega) (by omega) hbytes (by omega)
 rw[Int.toNat_natCast,hcells]at hrun
 refine LW.val rfl hw rfl hdN (w':=w.alloc (.cells (List.replicate m zc).flatten.toArray E)) (v:=.slice (some ⟨w.heap.size,0,none⟩) 0 m) (fun a ha=>?_) ?_
 ·simp only[execOp,ha.eval hx,ha.eval hy,Sem.run_bind,hrun,Result.andThen_ok,Sem.run_pure,Int.toNat_zero]
 ·exact h [] (some ⟨w.heap.size,0,none⟩) m _ _ hk ste ⟨[],trivial,.inr ⟨w.heap.size,(List.replicate m zc).flatten.toArray,rfl,heap_alloc_new w _,Nat.zero_le _,by unfold maxLen;omega,by simp[hzl'],by simp,by simp[relab]⟩⟩
def Pk:Operand→Bool
 | .const (.int .i64 0)=>true
 |_=>false
theorem Mm{y:Operand}(h:Pk y=true):y = .const (.int .i64 0):=by
 unfold Pk at h
 split at h
 ·rfl
 ·cases h
def Ar{P:Program}(se:SE P)(nid k0:Nat)(owned:Bool)(a:RA):bQ:=
 match Nat.beq k0 0,G3 a with
 |false,some ⟨k,i⟩=>.bnd (List (den se.pt)) (PB (eF k i) (zt se.pt)) fun zs=>.ret (mY nid k0 se.el se.pt owned [k0] zs)
 |_,_=>.stuck
theorem FJ{se:SE P}{out:fw}{k0:Nat}{owned:Bool}(hT:se.id=T)(hx:ev F x=some v)(hv:k_ e lab w a v)(hr:jH (Ar se nid k0 owned a) out)(tp:dv lab w)(hw:Wn ops F g)(hd:Nat.blt d N=true):
  LW P N ops [⟨some d,.makeSlice T (.const (.int .i64 0)) x,ty,pos,af,g⟩] F w (Fin N F e nid lab w (some d) out):=by
 subst hT
 unfold Ar at hr
 split at hr
 ·rename_i k i hk hi
  obtain rfl:=mX hv hi
  cases hr with
  |bnd hz hr=>
   obtain rfl:=hr.ret_eq
   refine LW.make0 (kn:=.i64) k0 (kk:=some) (by rw[hz];rfl) se.ok.rep se.zok (sQ se.pt) (fun lab w=>iN lab w se.pt) (by rw[bO,←bO];have:=(rep se.pt).len (iN lab w se.pt);rw[this];exact Nat.beq_refl _) se.hb tp hw hd rfl hx ?_
   intro zs oa c lab' w' hzs hs ho
   obtain rfl:=Option.some.inj hzs
   have hs':iI lab k0 w lab' w':=⟨hs.os,hs.tape,hs.output,hs.size,fun b hb _=>hs.block b hb (.inl rfl),hs.same,hs.top⟩
   exact tD hs' ho
 ·cases hr
theorem Hd(hx:ev F x=some v)(hv:RV e a.1 lab w v)(tp:dv lab w)(hw:Wn ops F g)(hd:Nat.blt d N=true):
  LW P N ops [⟨some d,.move x,ty,pos,af,g⟩] F w (Fin N F e nid lab w (some d) (o1 a.1)):=LW.move hw hd hx (aJ tp hv)
theorem CO(hx:ev F x=some v)(hv:RV e a.1 lab w v)(tp:dv lab w)(hw:Wn ops F g)(hd:Nat.blt d N=true):
  LW P N ops [⟨some d,.assign x,ty,pos,af,g⟩] F w (Fin N F e nid lab w (some d) (o1 a.1)):=LW.assign hw hd hx (aJ tp hv)
def Rg(a:RA):Option Bool:=
 match kK a with
 |some ⟨.bool,b⟩=>some b
 |_=>none
theorem IF{c:Bool}(h:k_ e lab w a v)(ha:Rg a=some c):v = .bool c:=by
 unfold Rg at ha
 split at ha
 ·rename_i heq;cases ha;exact bh.bool (ce h heq)
 ·cases ha
def Dk(c a b:RA):bQ:=
 match Rg c with
 |some q=>.cnd q (.ret (o1 a.1)) (.ret (o1 b.1))
 |none=>.stuck
theorem Jv{c:RA}{q u2:Value}{out:fw}(hz:ev F z=some q)(hx:ev F x=some v)(hy:ev F y=some u2)(hc:k_ e lab w c q)(hv:RV e a.1 lab w v)(hu:RV e b.1 lab w u2)(hr:jH (Dk c a b) out)(tp:dv lab w)(hw:Wn ops F g)(hd:Nat.blt d N=true):
  LW P N ops [⟨some d,.pick z x y,ty,pos,af,g⟩] F w (Fin N F e nid lab w (some d) out):=by
 unfold Dk at hr
 split at hr
 ·rename_i cb hcb
  obtain rfl:=IF hc hcb
  cases hr with
  |t hr=>obtain rfl:=hr.ret_eq;exact LW.pick_t hw hd hz hx (aJ tp hv)
  |f hr=>obtain rfl:=hr.ret_eq;exact LW.pick_f hw hd hz hy (aJ tp hu)
 ·cases hr
def Ip(a:RA):bQ:=
 match Rg a with
 |some q=>.letm _ (!q) ua
 |none=>.stuck
theorem LG{out:fw}(hx:ev F x=some v)(hv:k_ e lab w a v)(hr:jH (Ip a) out)(tp:dv lab w)(hw:Wn ops F g)(hd:Nat.blt d N=true):
  LW P N ops [⟨some d,.unOp .not T x,ty,pos,af,g⟩] F w (Fin N F e nid lab w (some d) out):=by
 unfold Ip at hr
 split at hr
 ·rename_i cb hcb
  obtain rfl:=IF hv hcb
  cases hr with
  |letm hr=>
   obtain rfl:=hr.ret_eq
   refine LW.not (k:=some) rfl hw hd hx fun c hc=>aJ tp ?_
   cases hc;exact bh.ofBool _
 ·cases hr
def uj(a:RA)(i:Nat):bQ:=
 match a.1 with
 | .tup l=>match Fs l i with
  |some sv=>.ret (o1 sv)
  |none=>.stuck
 |_=>.stuck
theorem BZ{i:Nat}{out:fw}(hx:ev F x=some v)(hv:RV e a.1 lab w v)(hr:jH (uj a i) out)(tp:dv lab w)(hw:Wn ops F g)(hd:Nat.blt d N=true):
  LW P N ops [⟨some d,.extract x i,ty,pos,af,g⟩] F w (Fin N F e nid lab w (some d) out):=by
 unfold uj at hr
 split at hr
 ·rename_i l heq
  split at hr
  ·rename_i sv hsv
   obtain rfl:=hr.ret_eq
   rw[heq]at hv
   obtain⟨vs,rfl,h2⟩:=hv
   rw[ph]at hsv
   obtain⟨q,hq,hR⟩:=h2.get hsv
   exact LW.extract hw hd hx hq (aJ tp (RV.of0 hR))
  ·cases hr
 ·cases hr
def zM{P:Program}(tes:List (TE P))(T:TypeId):Bool:=
 match eP tes T with
 |some ⟨_,.bool,_⟩=>true
 |_=>false
theorem wb{tes:List (TE P)}(h:zM tes T=true):P.underlying T=some .bool:=by
 unfold zM at h
 split at h
 ·rename_i i ok heq
  rw[←bE heq];exact ok.und
 ·cases h
theorem BR{o:BinOp}{k k':IntKind}{m n:Int}:eqGuard o T x y (.int k m) (.int k' n)=pure ():=by cases o<;>rfl
def Kx:Int→Bool
 | .ofNat n=>Nat.beq n 1
 | .negSucc _=>false
theorem B8{z:Int}(h:Kx z=true):z=1:=by
 cases z with
 |ofNat n=>have:=Nat.eq_of_beq_eq_true h;subst this;rfl
 |negSucc _=>cases h
def feq(x y:UInt64):Bool:=FloatKind.f64.format.order x.toNat y.toNat==some .eq
def QR(x y:UInt64):Bool:=FloatKind.f64.format.order x.toNat y.toNat==some .lt
def Rc(x y:UInt64):Bool:=FloatKind.f64.format.order x.toNat y.toNat==some .gt
def xD(o:BinOp)(x y:UInt64):Option UInt64:=(floatBits o .f64 x.toNat y.toNat).map UInt64.ofNat
def KH(z:Int):UInt64:=UInt64.ofNat (floatOfInt .f64 z)
def xG(x:UInt32):Option UInt64:=(floatToFloatBits .f32 x.toNat .f64).map UInt64.ofNat
def MW(z:UInt64):bQ:=.ret (o1 (.dat .fl z))
theorem Iv{n:Nat}(h:(Lit.float .f64 n).wf=true):(UInt64.ofNat n).toNat=n:=by
 have h:n<2^64:=by simpa [Lit.wf]using h
 exact UInt64.toNat_ofNat_of_lt' h
theorem bh.ofFl(x:UInt64):bh .fl x lab w (.float .f64 x.toNat):=⟨_,rfl,rfl⟩
theorem B9{o:BinOp}{p q z:UInt64}(h:xD o p q=some z):(binOp o T (.float .f64 p.toNat) (.float .f64 q.toNat)).run P w = .ok (.float .f64 z.toNat) w:=by
 unfold xD at h
 rw[Option.map_eq_some_iff]at h
 obtain⟨n,h1,rfl⟩:=h
 rw[Iv (floatBits_wf h1)]
 exact run_float_arith w o T .f64 _ _ n h1
theorem KV(p q:UInt64):(binOp .lss T (.float .f64 p.toNat) (.float .f64 q.toNat)).run P w = .ok (.bool (QR p q)) w:=rfl
theorem MS(p q:UInt64):(binOp .gtr T (.float .f64 p.toNat) (.float .f64 q.toNat)).run P w = .ok (.bool (Rc p q)) w:=rfl
theorem K8{S:TypeId}{sk:IntKind}(n:Int)(hs:(P.underlying S).isSome=true)(hd:P.underlying T=some (.float .f64)):(convert S T (.int sk n)).run P w = .ok (.float .f64 (KH n).toNat) w:=by
 obtain⟨u,hs'⟩:=Option.isSome_iff_exists.1 hs
 unfold KH
 rw[Iv (floatOfInt_wf .f64 n)]
 cases u<;>(simp[convert,run_underlying hs',run_underlying hd,Conv.intToFloat];try rfl)
theorem bh.fl{x:UInt64}{v:Value}(h:bh .fl x lab w v):v = .float .f64 x.toNat:=by
 obtain⟨cs,h1,h2⟩:=h
 have h1:cs = [.float .f64 x.toNat]:=h1
 have h2:cs = [v]:=h2
 rw[h1]at h2;cases h2;rfl
theorem Ck(p q:UInt64):(binOp .neq T (.float .f64 p.toNat) (.float .f64 q.toNat)).run P w = .ok (.bool (!(feq p q))) w:=by
 show Result.ok (Value.bool (FloatKind.f64.format.order p.toNat q.toNat != some .eq)) w=_
 rfl
def DB{P:Program}(tes:List (TE P))(T:TypeId):Bool:=
 match eP tes T with
 |some ⟨_,.err,_⟩=>true
 |_=>false
theorem zD{tes:List (TE P)}(h:DB tes T=true): ∃ms,P.underlying T=some (.interface ms):=by
 unfold DB at h
 split at h
 ·rename_i i ok heq
  rw[←bE heq];exact ok.und
 ·cases h
def Dc:Operand→Bool
 | .const .nilIface=>true
 |_=>false
theorem GH{y:Operand}(h:Dc y=true):y = .const .nilIface:=by
 unfold Dc at h
 split at h
 ·rfl
 ·cases h
def Ih{P:Program}(tes:List (TE P))(o:BinOp)(T:TypeId)(a:RA):bQ:=
 match kK a with
 |some ⟨.err,p⟩=>match o,DB tes T with
  | .neq,true=>.letm Bool p ua
  | .eql,true=>.letm Bool (!p) ua
  |_,_=>.stuck
 |_=>.stuck
theorem By(op:BinOp)(xt yt:TypeId){a:Act}{u v q:Value}(hu:a.eval x=u)(hv:a.eval y=v)(hg:(eqGuard op xt x y u v).run P w = .ok () w)(hb:(binOp op xt u v).run P w = .ok q w):
  (execOp a.eval ⟨some d,.binOp op xt x y yt,ty,pos,af,g⟩).run P w = .ok (.value q) w:=by
 simp[execOp,hu,hv,hg,hb]
theorem yU{p:Bool}{v:Value}{x:Operand}{ms:_}(h:bh .err p lab w v)(hT:P.underlying T=some (.interface ms)):
  (eqGuard .eql T x (.const .nilIface) v .nilIface).run P w = .ok () w∧(eqGuard .neq T x (.const .nilIface) v .nilIface).run P w = .ok () w∧(binOp .eql T v .nilIface).run P w = .ok (.bool (!p)) w∧(binOp .neq T v .nilIface).run P w = .ok (.bool p) w:=by
 obtain⟨cs,h1,h2⟩:=h
 have h2:cs = [v]:=h2
 subst h2
 cases p with
 |false=>
  have h1 : [v] = [Value.nilIface]:=h1
  cases h1
  have hd : ∀d:Nat,(Op.equalIn (d+1) T .nilIface .nilIface).run P w = .ok true w:=fun d=>by simp[Op.equalIn,run_underlying hT]
  have h10:=hd 9999
  exact⟨by simp[eqGuard],by simp[eqGuard],by simp[binOp,Op.equal,Op.maxDepth,h10],by simp[binOp,Op.equal,Op.maxDepth,h10]⟩
 |true=>
  obtain⟨te,u,h1⟩:=h1
  cases h1
  have hd : ∀d:Nat,(Op.equalIn (d+1) T (.iface te u) .nilIface).run P w = .ok false w:=fun d=>by simp[Op.equalIn,run_underlying hT]
  have h10:=hd 9999
  exact⟨by simp[eqGuard],by simp[eqGuard],by simp[binOp,Op.equal,Op.maxDepth,h10],by simp[binOp,Op.equal,Op.maxDepth,h10]⟩
theorem Lg{tes:List (TE P)}{o:BinOp}{t':TypeId}{out:fw}(hx:ev F x=some v)(hv:k_ e lab w a v)(hr:jH (Ih tes o T a) out)(tp:dv lab w)(hw:Wn ops F g)(hd:Nat.blt d N=true):
  LW P N ops [⟨some d,.binOp o T x (.const .nilIface) t',ty,pos,af,g⟩] F w (Fin N F e nid lab w (some d) out):=by
 unfold Ih at hr
 split at hr
 ·rename_i p hi
  have hp:=ce hv hi
  split at hr
  ·rename_i ht
   obtain⟨ms,hT⟩:=zD (tes:=tes) ht
   obtain⟨_,k2,_,k4⟩:=yU (x:=x) hp hT
   cases hr with
   |letm hr=>
    obtain rfl:=hr.ret_eq
    exact LW.val rfl hw rfl hd (fun _ ha=>By _ _ _ (ha.eval hx) rfl k2 k4) (aJ tp (bh.ofBool _))
  ·rename_i ht
   obtain⟨ms,hT⟩:=zD (tes:=tes) ht
   obtain⟨k1,_,k3,_⟩:=yU (x:=x) hp hT
   cases hr with
   |letm hr=>
    obtain rfl:=hr.ret_eq
    exact LW.val rfl hw rfl hd (fun _ ha=>By _ _ _ (ha.eval hx) rfl k1 k3) (aJ tp (bh.ofBool _))
  ·cases hr
 ·cases hr
def C_:Operand→Bool
 | .const (.slice none 0 0)=>true
 |_=>false
theorem Gz{y:Operand}(h:C_ y=true):y = .const (.slice none 0 0):=by
 unfold C_ at h
 split at h
 ·rfl
 ·cases h
def Oh{β:Type}(b:Bool):List β→Option Bool
 | []=>none
 |_::_=>some b
def Db(o:BinOp)(a:RA):bQ:=match kK a with
 |some ⟨.sl _,xs⟩=>match o with
  | .eql=>.bnd Bool (Oh false xs) ua
  | .neq=>.bnd Bool (Oh true xs) ua
  |_=>.stuck
 |_=>.stuck
theorem FSx{oa:Option Addr}{n c n' c':Nat}{E:TypeId}(hT:P.underlying T=some (.slice E)):(binOp .neq T (.slice oa n c) (.slice none n' c')).run P w = .ok (.bool (!oa.isNone)) w:=by
 have h : ∀d:Nat,(Op.equalIn (d+1) T (.slice oa n c) (.slice none n' c')).run P w = .ok oa.isNone w:=fun d=>by
  cases oa<;>simp[Op.equalIn,run_underlying hT]
 simp only[binOp]
 have:=h 9999
 simp only[Op.equal,Op.maxDepth,Sem.run_bind,this,Result.andThen_ok,Sem.run_pure]
theorem J9{o:BinOp}{t':TypeId}{out:fw}{E:TypeId}(hT:P.underlying T=some (.slice E))(hx:ev F x=some v)(hv:k_ e lab w a v)(hr:jH (Db o a) out)(tp:dv lab w)(hw:Wn ops F g)(hd:Nat.blt d N=true):
  LW P N ops [⟨some d,.binOp o T x (.const (.slice none 0 0)) t',ty,pos,af,g⟩] F w (Fin N F e nid lab w (some d) out):=by
 unfold Db at hr
 split at hr
 ·rename_i t xs hi
  obtain⟨oa,c,rfl,s⟩:=bh.sl (ce hv hi)
  cases xs with
  |nil=>split at hr<;>cases hr<;>rename_i h _<;>cases h
  |cons y ys=>
   obtain⟨ad,_,rfl,_⟩:=s.at_ (i:=0) (x:=y) rfl
   split at hr
   ·cases hr with
    |bnd hb hr=>
     cases hb
     obtain rfl:=hr.ret_eq
     exact LW.val rfl hw rfl hd (fun _ ha=>dm _ _ _ (ha.eval hx) rfl rfl (zp hT)) (aJ tp (bh.ofBool _))
   ·cases hr with
    |bnd hb hr=>
     cases hb
     obtain rfl:=hr.ret_eq
     exact LW.val rfl hw rfl hd (fun _ ha=>dm _ _ _ (ha.eval hx) rfl rfl (FSx hT)) (aJ tp (bh.ofBool _))
   ·cases hr
 ·cases hr
def I_{P:Program}(tes:List (TE P))(o:BinOp)(T:TypeId)(a b:RA):bQ:=
 match o,a,b with
 | .lss,(.rix _,some (.rgi h _ _ _ ox)),(.rlen h',_)=>match Nat.beq h h' with
  |true=>.ret (o1 (.dat .bool ox.isSome))
  |false=>.stuck
 | .lss,(.rix _,some (.rgj h _ _ more)),(.rcn h',_)=>match Nat.beq h h' with
  |true=>.ret (o1 (.dat .bool more))
  |false=>.stuck
 | .add,(.rix id,some (.rgi _ _ _ _ (some _))),(.dat (.int .i64) z,none)=>if Kx z then .ret (o1 (.rnx id))else .stuck
 | .add,(.rix id,some (.rgj _ _ _ true)),(.dat (.int .i64) z,none)=>if Kx z then .ret (o1 (.rnx id))else .stuck
 |o,a,b=>match kK a,kK b with
  |some ⟨.int k,i⟩,some ⟨.int k',j⟩=>K9 o k i k' j
  |some ⟨.bool,p⟩,some ⟨.bool,q⟩=>match o,zM tes T with
   | .eql,true=>.letm Bool (BEq.beq (α:=Bool) p q) ua
   | .neq,true=>.letm Bool (bne (α:=Bool) p q) ua
   |_,_=>.stuck
  |some ⟨.str,p⟩,some ⟨.str,q⟩=>KX o p q
  |some ⟨.fl,p⟩,some ⟨.fl,q⟩=>match o with
   | .eql=>.letm Bool (feq p q) ua
   | .neq=>.letm Bool (!(feq p q)) ua
   | .lss=>.letm Bool (QR p q) ua
   | .gtr=>.letm Bool (Rc p q) ua
   | .add=>.bnd UInt64 (xD .add p q) MW
   | .mul=>.bnd UInt64 (xD .mul p q) MW
   |_=>.stuck
  |_,_=>.stuck
theorem Ll{tes:List (TE P)}{o:BinOp}{t':TypeId}{out:fw}(hx:ev F x=some v)(hy:ev F y=some u)(hv:k_ e lab w a v)(hu:k_ e lab w b u)(hr:jH (I_ tes o T a b) out)(tp:dv lab w)(hw:Wn ops F g)(hd:Nat.blt d N=true):
  LW P N ops [⟨some d,.binOp o T x y t',ty,pos,af,g⟩] F w (Fin N F e nid lab w (some d) out):=by
 unfold I_ at hr
 split at hr
 ·rename_i id h t xs k ox h' m
  split at hr
  ·rename_i hb
   obtain rfl:=Nat.eq_of_beq_eq_true hb
   obtain rfl:=hr.ret_eq
   obtain⟨q1,q2,q3,q4,q5⟩:=hv.2 _ rfl
   have q1:(e id).n=k:=q1
   have h1:v = .int .i64 ((e id).n:Int):=hv.1
   have h2:u = .int .i64 ((e h).ls.length:Int):=hu.1
   have hl:=vq q2
   rw[q1]at h1
   rw[hl]at h2
   subst h1 h2
   refine LW.lss_lit (tv:=ox.isSome) ?_ hw hd hx hy (aJ tp (bh.ofBool _))
   rw[←q3]
   by_cases hlt:k<xs.length
   ·rw[decide_eq_true (by omega),List.getElem?_eq_getElem hlt];rfl
   ·rw[decide_eq_false (by omega),List.getElem?_eq_none (by omega)];rfl
  ·cases hr
 ·rename_i id h n k more h' m
  split at hr
  ·rename_i hb
   obtain rfl:=Nat.eq_of_beq_eq_true hb
   obtain rfl:=hr.ret_eq
   obtain⟨q1,q2,q3,q4,q5⟩:=hv.2 _ rfl
   have q1:(e id).n=k:=q1
   have h1:v = .int .i64 ((e id).n:Int):=hv.1
   have h2:u = .int .i64 (e h).z:=hu.1
   rw[q1]at h1
   rw[q2]at h2
   subst h1 h2
   refine LW.lss_lit (tv:=more) ?_ hw hd hx hy (aJ tp (bh.ofBool _))
   cases more with
   |true=>exact decide_eq_true (q3 rfl)
   |false=>exact decide_eq_false (by have:=q4 rfl;omega)
  ·cases hr
 ·rename_i id h t xs k X z
  split at hr
  ·rename_i hz
   obtain rfl:=B8 hz
   obtain rfl:=hr.ret_eq
   obtain⟨q1,q2,q3,q4,q5⟩:=hv.2 _ rfl
   have q1:(e id).n=k:=q1
   have h1:v = .int .i64 ((e id).n:Int):=hv.1
   have h2:u = .int .i64 1:=bh.int (k:=.i64) hu.1
   subst h2
   rw[q1]at h1
   subst h1
   have hlt:k<xs.length:=(List.getElem?_eq_some_iff.1 q3).1
   refine LW.add_lit (c:=((k+1:Nat):Int)) (JN hlt q5) hw hd hx hy (aJ tp ?_)
   show _=Value.int _ _
   rw[q1]
  ·cases hr
 ·rename_i id h n k z
  split at hr
  ·rename_i hz
   obtain rfl:=B8 hz
   obtain rfl:=hr.ret_eq
   obtain⟨q1,q2,q3,q4,q5⟩:=hv.2 _ rfl
   have q1:(e id).n=k:=q1
   have h1:v = .int .i64 ((e id).n:Int):=hv.1
   have h2:u = .int .i64 1:=bh.int (k:=.i64) hu.1
   subst h2
   rw[q1]at h1
   subst h1
   refine LW.add_lit (c:=((k+1:Nat):Int)) (GG (q3 rfl) q5) hw hd hx hy (aJ tp ?_)
   show _=Value.int _ _
   rw[q1]
  ·cases hr
 ·split at hr
  ·rename_i k i k' j hi hj
   obtain rfl:=bh.int (ce hv hi)
   obtain rfl:=bh.int (ce hu hj)
   obtain⟨q,sv,rfl,h1,h2⟩:=Lm (P:=P) (e:=e) (lab:=lab) (w:=w) (t:=T) hr
   exact LW.val rfl hw rfl hd (fun _ ha=>dm _ _ _ (ha.eval hx) (ha.eval hy) BR h2) (aJ tp h1)
  ·rename_i p q hi hj
   obtain rfl:=bh.bool (ce hv hi)
   obtain rfl:=bh.bool (ce hu hj)
   split at hr
   ·cases hr with
    |letm hr=>
     obtain rfl:=hr.ret_eq
     refine LW.eqb (k:=some) rfl (wb (tes:=tes) (by assumption)) hw hd hx hy fun c hc=>aJ tp ?_
     cases hc;exact bh.ofBool _
   ·cases hr with
    |letm hr=>
     obtain rfl:=hr.ret_eq
     refine LW.neb (k:=some) rfl (wb (tes:=tes) (by assumption)) hw hd hx hy fun c hc=>aJ tp ?_
     cases hc;exact bh.ofBool _
   ·cases hr
  ·rename_i p q hi hj
   obtain rfl:=bh.str (ce hv hi)
   obtain rfl:=bh.str (ce hu hj)
   exact J5 hx hy hr tp hw hd
  ·rename_i p q hi hj
   obtain rfl:=bh.fl (ce hv hi)
   obtain rfl:=bh.fl (ce hu hj)
   split at hr
   ·cases hr with
    |letm hr=>
     obtain rfl:=hr.ret_eq
     exact LW.val rfl hw rfl hd (fun _ ha=>dm _ _ _ (ha.eval hx) (ha.eval hy) rfl rfl) (aJ tp (bh.ofBool _))
   ·cases hr with
    |letm hr=>
     obtain rfl:=hr.ret_eq
     exact LW.val rfl hw rfl hd (fun _ ha=>dm _ _ _ (ha.eval hx) (ha.eval hy) rfl (Ck _ _)) (aJ tp (bh.ofBool _))
   ·cases hr with
    |letm hr=>
     obtain rfl:=hr.ret_eq
     exact LW.val rfl hw rfl hd (fun _ ha=>dm _ _ _ (ha.eval hx) (ha.eval hy) rfl (KV _ _)) (aJ tp (bh.ofBool _))
   ·cases hr with
    |letm hr=>
     obtain rfl:=hr.ret_eq
     exact LW.val rfl hw rfl hd (fun _ ha=>dm _ _ _ (ha.eval hx) (ha.eval hy) rfl (MS _ _)) (aJ tp (bh.ofBool _))
   ·cases hr with
    |bnd hb hr=>
     obtain rfl:=hr.ret_eq
     exact LW.val rfl hw rfl hd (fun _ ha=>dm _ _ _ (ha.eval hx) (ha.eval hy) rfl (B9 hb)) (aJ tp (bh.ofFl _))
   ·cases hr with
    |bnd hb hr=>
     obtain rfl:=hr.ret_eq
     exact LW.val rfl hw rfl hd (fun _ ha=>dm _ _ _ (ha.eval hx) (ha.eval hy) rfl (B9 hb)) (aJ tp (bh.ofFl _))
   ·cases hr
  ·cases hr
theorem bh.f4{x:UInt32}{v:Value}(h:bh .f4 x lab w v):v = .float .f32 x.toNat:=by
 obtain⟨cs,h1,h2⟩:=h
 have h1:cs = [.float .f32 x.toNat]:=h1
 have h2:cs = [v]:=h2
 rw[h1]at h2;cases h2;rfl
theorem FY{S:TypeId}{x:UInt32}{z:UInt64}(hs:(P.underlying S).isSome=true)(hd:P.underlying T=some (.float .f64))(h:xG x=some z):(convert S T (.float .f32 x.toNat)).run P w = .ok (.float .f64 z.toNat) w:=by
 unfold xG at h
 rw[Option.map_eq_some_iff]at h
 obtain⟨n,h1,rfl⟩:=h
 have hw:=floatToFloatBits_wf (src:=.f32) (bits:=x.toNat) (dst:=.f64) (r:=n) (by have:=x.toNat_lt;simpa [Lit.wf]using this) h1
 rw[Iv hw]
 exact run_convert_float_float w S T .f32 .f64 _ n hs hd h1
def Ao{P:Program}(tes:List (TE P))(zU:List (SE P))(S T:TypeId)(a:RA):bQ:=
 match kK a,eP tes S,eP tes T with
 |some ⟨.int k,i⟩,some ⟨_,.int _,_⟩,some ⟨_,.int k',_⟩=>.letm (db k') (lr k' (eF k i)) (rD k')
 |some ⟨.int k,i⟩,some ⟨_,.int _,_⟩,some ⟨_,.fl,_⟩=>.letm UInt64 (KH (eF k i)) MW
 |some ⟨.f4,x⟩,some ⟨_,.f4,_⟩,some ⟨_,.fl,_⟩=>.bnd UInt64 (xG x) MW
 |some ⟨.sl (.int .u8),xs⟩,_,some ⟨_,.str,_⟩=>match ip zU S with
  |some ⟨_,el,.int .u8,_,_,_,_⟩=>match eP tes el with
   |some ⟨_,.int .u8,_⟩=>.ret (o1 (.dat .str xs))
   |_=>.stuck
  |_=>.stuck
 |some ⟨.str,l⟩,some ⟨_,.str,_⟩,_=>match ip zU T with
  |some se=>IQ tes se l
  |none=>.stuck
 |_,_,_=>.stuck
theorem SL.u8{oa:Option Addr}{c:Nat}{xs:List UInt8}(s:SL (rep (.int .u8)) lab w oa c xs):SL bV.u8 lab w oa c xs:=s
theorem Gt{tes:List (TE P)}{zU:List (SE P)}{out:fw}(hx:ev F x=some v)(hv:k_ e lab w a v)(hr:jH (Ao tes zU S T a) out)(tp:dv lab w)(hw:Wn ops F g)(hd:Nat.blt d N=true):
  LW P N ops [⟨some d,.convert S T x,ty,pos,af,g⟩] F w (Fin N F e nid lab w (some d) out):=by
 unfold Ao at hr
 split at hr
 ·rename_i k i i1 k1 ok1 i2 k' ok2 ha hS hT
  obtain rfl:=bh.int (ce hv ha)
  have e1:i1=S:=bE hS
  have e2:i2=T:=bE hT
  subst e1 e2
  have u1:P.underlying i1=some (.int k1):=ok1.und
  have u2:P.underlying i2=some (.int k'):=ok2.und
  cases hr with
  |letm hr=>
   obtain rfl:=hr.ret_eq
   refine LW.val rfl hw rfl hd (fun q hq=>?_) (aJ tp (bh.ofInt (k:=k') _))
   have:=lI (P:=P) (w:=w) (S:=i1) (T:=i2) (sk:=k) (n:=eF k i) (by rw[u1];rfl) u2
   rw[kj]
   simp[execOp,hq.eval hx,this]
 ·rename_i k i i1 k1 ok1 i2 ok2 ha hS hT
  obtain rfl:=bh.int (ce hv ha)
  have e1:i1=S:=bE hS
  have e2:i2=T:=bE hT
  subst e1 e2
  have u1:P.underlying i1=some (.int k1):=ok1.und
  have u2:P.underlying i2=some (.float .f64):=ok2.und
  cases hr with
  |letm hr=>
   obtain rfl:=hr.ret_eq
   refine LW.val rfl hw rfl hd (fun q hq=>?_) (aJ tp (bh.ofFl _))
   have:=K8 (P:=P) (w:=w) (S:=i1) (T:=i2) (sk:=k) (eF k i) (by rw[u1];rfl) u2
   simp[execOp,hq.eval hx,this]
 ·rename_i x4 i1 ok1 i2 ok2 ha hS hT
  obtain rfl:=bh.f4 (ce hv ha)
  have e1:i1=S:=bE hS
  have e2:i2=T:=bE hT
  subst e1 e2
  have u1:P.underlying i1=some (.float .f32):=ok1.und
  have u2:P.underlying i2=some (.float .f64):=ok2.und
  cases hr with
  |bnd hb hr=>
   obtain rfl:=hr.ret_eq
   refine LW.val rfl hw rfl hd (fun q hq=>?_) (aJ tp (bh.ofFl _))
   have:=FY (P:=P) (w:=w) (S:=i1) (T:=i2) (by rw[u1];rfl) u2 hb
   simp[execOp,hq.eval hx,this]
 ·rename_i xs i2 ok2 ha hT
  have e2:i2=T:=bE hT
  subst e2
  obtain⟨oa,c,rfl,s⟩:=bh.sl (ce hv ha)
  split at hr
  ·rename_i i1 el nb ok1 zok hb hS
   have e1:i1=S:=ej hS
   subst e1
   split at hr
   ·rename_i i3 ok3 hel
    have e3:i3=el:=bE hel
    subst e3
    obtain rfl:=hr.ret_eq
    have u3:P.underlying i3=some (.int .u8):=ok3.und
    have u2:P.underlying i2=some .string:=ok2.und
    exact LW.b2s (SL.u8 s) ok1.und u3 u2 hw hd hx (aJ tp (bh.ofStr _))
   ·cases hr
  ·cases hr
 ·rename_i l i1 ok1 hl hS
  have e1:i1=S:=bE hS
  subst e1
  obtain rfl:=bh.str (ce hv hl)
  split at hr
  ·rename_i se hse
   exact L6 ok1.und (ej hse) hx hr tp hw hd
  ·cases hr
 ·cases hr
def Ij{P:Program}(tes:List (TE P))(se:SE P)(a:RA):bQ:=
 match a with
 | (.own _,some (.row k E t (x::r)))=>match PT.eqb t (.int .u8)&&!Nat.beq k 0&&Nat.beq E se.el,eP tes se.el with
  |true,some ⟨_,.int .u8,_⟩=>.ret ⟨.dat (.sl t) (x::r),[k],[],[]⟩
  |_,_=>.stuck
 |_=>.stuck
theorem BG{w:World}{p:Addr}{n:Nat}{q:Addr}:(w.freeze p n).cell? q=w.cell? q:=by
 unfold World.freeze
 split
 ·rfl
 ·unfold World.cell?
  dsimp only
  rw[Array.getElem?_modify]
  by_cases h:p.block=q.block
  ·rw[if_pos h]
   cases w.heap[q.block]? with
   |none=>rfl
   |some o=>cases o<;>rfl
  ·rw[if_neg h]
theorem L0{tes:List (TE P)}{se:SE P}{out:fw}(hT:se.id=T)(hx:ev F x=some v)(hv:k_ e lab w a v)(hr:jH (Ij tes se a) out)(tp:dv lab w)(hw:Wn ops F g)(hd:Nat.blt d N=true):
  LW P N ops [⟨some d,.convert T T x,ty,pos,af,g⟩] F w (Fin N F e nid lab w (some d) out):=by
 subst hT
 unfold Ij at hr
 split at hr
 ·rename_i id k E t X r
  split at hr
  ·rename_i i ok hb hel
   obtain rfl:=hr.ret_eq
   simp only[Bool.and_eq_true,Bool.not_eq_true']at hb
   obtain⟨⟨hb1,hk⟩,hb2⟩:=hb
   obtain rfl:=PT.eqb_eq hb1
   obtain rfl:=Nat.eq_of_beq_eq_true hb2
   have e3:i=se.el:=bE hel
   subst e3
   have u3:P.underlying se.el=some (.int .u8):=ok.und
   obtain⟨b1,b2,b3⟩:=hv.2 _ rfl
   have b1:(e id).n=(X::r).length:=b1
   have b3:ee (rep (.int .u8)) lab w k se.el (e id).oa (e id).c (X::r):=b3
   have h1:v = .slice (e id).oa (e id).n (e id).c:=hv.1
   have hsl:=b3.view
   obtain⟨css,c1,c2⟩:=b3
   rcases c2 with⟨_,_,h⟩ | ⟨g',dS,ha,hg,h3,h4,h5,h6,h7⟩
   ·cases h
   ·have hsh:w.shape? g'=some (se.el,dS.size):=by unfold World.shape?;rw[hg]
    have hrun:(convert se.id se.id (.slice (some ⟨g',0,none⟩) (e id).n (e id).c)).run P w = .ok (.slice (some ⟨g',0,none⟩) (e id).n (e id).c) (w.freeze ⟨g',dS.size,none⟩ 1):=by
     simp[convert,run_underlying se.ok.und,run_underlying u3,markStringish,hsh]
    rw[h1,ha]at hx
    have hm:jM [k] lab w (Gk.mask lab k) (w.freeze ⟨g',dS.size,none⟩ 1):=by
     have hk1:([k]:List Nat).contains k=true:=by simp
     have hs:=jM.mask (lab:=lab) (w:=w) tp hk1
     have hsz:(w.freeze ⟨g',dS.size,none⟩ 1).heap.size=w.heap.size:=by unfold World.freeze;rw[if_neg (by decide)];simp
     refine⟨by unfold World.freeze;rw[if_neg (by decide)],by unfold World.freeze;rw[if_neg (by decide)],by unfold World.freeze;rw[if_neg (by decide)],by rw[hsz];exact Nat.le_refl _,fun b hb hl=>?_,hs.same,fun b hb=>hs.top b (by rw[hsz]at hb;exact hb)⟩
     have hne:g'≠b:=fun e=>by
      subst e
      rw[h7]at hl
      rcases hl with hl |hl
      ·rw[hl]at hk;cases hk
      ·rw[hk1]at hl;cases hl
     unfold World.freeze
     rw[if_neg (by decide)]
     show(w.heap.modify g' _)[b]?=_
     rw[Array.getElem?_modify,if_neg hne]
    refine LW.val rfl hw rfl hd (fun q hq=>by simp only[execOp,hq.eval hx,Sem.run_bind,hrun,Result.andThen_ok,Sem.run_pure];rfl) (LW.nil fun a' ha'=>⟨rfl,e,Gk.mask lab k,_,ha',fun _ _=>rfl,hm,RV.of0 ?_,fun p hp=>absurd hp List.not_mem_nil,fun p hp=>absurd hp List.not_mem_nil⟩)
    rw[b1,←ha]
    refine bh.ofSl (t:=.int .u8) ⟨hsl.1,hsl.2.1,fun i c hc=>?_⟩
    obtain⟨ad,cs,q1,q2,q3⟩:=hsl.2.2 i c hc
    exact⟨ad,cs,q1,q2,fun j u hu=>⟨(q3 j u hu).1,by rw[BG];exact(q3 j u hu).2⟩⟩
  ·cases hr
 ·cases hr
def NT:RA→Option ((t:PT)×List (den t))
 | (.own _,some (.row _ _ t xs))=>some ⟨t,xs⟩
 |_=>none
theorem Lr{t:PT}{l:List (den t)}(h:k_ e lab w a v)(hl:NT a=some ⟨t,l⟩): ∃oa c lab2,v = .slice oa l.length c∧SL (rep t) lab2 w oa c l:=by
 unfold NT at hl
 split at hl
 ·rename_i id k E _ _
  cases hl
  obtain⟨b1,b2,b3⟩:=h.2 _ rfl
  have b1:(e id).n=l.length:=b1
  have h1:v = .slice (e id).oa (e id).n (e id).c:=h.1
  have hs:SL (rep t) (mask lab k) w (e id).oa (e id).c l:=ee.view b3
  exact⟨_,_,_,by rw[h1,b1],hs⟩
 ·cases hl
def EG(a:RA):Option (List UInt8):=
 match NT a with
 |some ⟨.int .u8,xs⟩=>some xs
 |_=>none
theorem IG{l:List UInt8}(h:k_ e lab w a v)(hl:EG a=some l): ∃oa c lab2,v = .slice oa l.length c∧SL bV.u8 lab2 w oa c l:=by
 unfold EG at hl
 split at hl
 ·rename_i xs hx
  cases hl
  exact Lr h hx
 ·cases hl
def Jm{P:Program}(tes:List (TE P))(zU:List (SE P))(S T:TypeId)(l:List UInt8):bQ:=
 match eP tes T,ip zU S with
 |some ⟨_,.str,_⟩,some ⟨_,el,.int .u8,_,_,_,_⟩=>match eP tes el with
  |some ⟨_,.int .u8,_⟩=>.ret (o1 (.dat .str l))
  |_=>.stuck
 |_,_=>.stuck
theorem LC{tes:List (TE P)}{zU:List (SE P)}{l:List UInt8}{out:fw}(hx:ev F x=some v)(hv:k_ e lab w a v)(hl:EG a=some l)(hr:jH (Jm tes zU S T l) out)(tp:dv lab w)(hw:Wn ops F g)(hd:Nat.blt d N=true):
  LW P N ops [⟨some d,.convert S T x,ty,pos,af,g⟩] F w (Fin N F e nid lab w (some d) out):=by
 unfold Jm at hr
 split at hr
 ·rename_i i2 ok2 i1 el nb ok1 zok hb hT hS
  have e2:i2=T:=bE hT
  subst e2
  have e1:i1=S:=ej hS
  subst e1
  obtain⟨oa,c,lab2,rfl,s⟩:=IG hv hl
  split at hr
  ·rename_i i3 ok3 hel
   have e3:i3=el:=bE hel
   subst e3
   obtain rfl:=hr.ret_eq
   have u3:P.underlying i3=some (.int .u8):=ok3.und
   have u2:P.underlying i2=some .string:=ok2.und
   exact LW.b2s s ok1.und u3 u2 hw hd hx (aJ tp (bh.ofStr _))
  ·cases hr
 ·cases hr
def C4{P:Program}(tes:List (TE P))(zU:List (SE P))(S T:TypeId)(a:RA):bQ:=
 match Nat.beq S T,ip zU T with
 |true,some se=>Ij tes se a
 |_,_=>match EG a with
  |some l=>Jm tes zU S T l
  |none=>Ao tes zU S T a
theorem Kl{tes:List (TE P)}{zU:List (SE P)}{out:fw}(hx:ev F x=some v)(hv:k_ e lab w a v)(hr:jH (C4 tes zU S T a) out)(tp:dv lab w)(hw:Wn ops F g)(hd:Nat.blt d N=true):
  LW P N ops [⟨some d,.convert S T x,ty,pos,af,g⟩] F w (Fin N F e nid lab w (some d) out):=by
 unfold C4 at hr
 split at hr
 ·rename_i se hb hse
  obtain rfl:=Nat.eq_of_beq_eq_true hb
  exact L0 (ej hse) hx hv hr tp hw hd
 ·split at hr
  ·rename_i l hl
   exact LC hx hv hl hr tp hw hd
  ·exact Gt hx hv hr tp hw hd
def M0(mx:Bool)(a b:RA):bQ:=
 match kK a,kK b with
 |some ⟨.int .i64,i⟩,some ⟨.int .i64,j⟩=>match mx with
  |true=>.letm Int (max (α:=Int) i j) (rD .i64)
  |false=>.letm Int (min (α:=Int) i j) (rD .i64)
 |_,_=>.stuck
theorem HB{mx:Bool}{ts:Array TypeId}{out:fw}(hx:ev F x=some v)(hy:ev F y=some u)(hv:k_ e lab w a v)(hu:k_ e lab w b u)(hr:jH (M0 mx a b) out)(tp:dv lab w)(hw:Wn ops F g)(hd:Nat.blt d N=true):
  LW P N ops [⟨some d,.call { callee:=.builtin (if mx then .max else .min),args:=#[x,y],argTypes:=ts },ty,pos,af,g⟩] F w (Fin N F e nid lab w (some d) out):=by
 unfold M0 at hr
 split at hr
 ·rename_i i j hi hj
  obtain rfl:=bh.int (ce hv hi)
  obtain rfl:=bh.int (ce hu hj)
  split at hr
  ·cases hr with
   |letm hr=>
    obtain rfl:=hr.ret_eq
    refine LW.max2 (k:=some) rfl hw hd hx hy fun c hc=>aJ tp ?_
    cases hc;exact bh.ofInt (k:=.i64) _
  ·cases hr with
   |letm hr=>
    obtain rfl:=hr.ret_eq
    refine LW.min2 (k:=some) rfl hw hd hx hy fun c hc=>aJ tp ?_
    cases hc;exact bh.ofInt (k:=.i64) _
 ·cases hr
end
structure ME(P:Program) where
 id:TypeId
 kt:TypeId
 el:TypeId
 pt:PT
 und:P.underlying id=some (.map kt el)
 ku:P.underlying kt=some (.int .u8)
 zok:gO P el (zv pt)
section
variable {lab lab' : bg} {w w' : World} {t : PT}
end
section
variable {P : Program} {N : Nat} {ops : Array Oper} {F : List (Nat × Value)} {w w' : World} {e : ja} {lab lab' : bg} {nid : Nat} {d : Nat} {v u : Value}
variable {ty : TypeId} {pos : String} {af : Array Edge} {g : Option (Nat × Bool)} {x y z : Operand} {T : TypeId} {a b : RA}
end
section
variable {α β : Type} {ρ : bV β} {lab lab' : bg} {w w' : World} {oa oa' : Option Addr} {c c' k k' E E2 : Nat} {t : PT}
theorem ee.blk{xs:List β}(o:ee ρ lab w k E oa c xs):oa=none∨∃g,oa=some ⟨g,0,none⟩∧g<w.heap.size∧lab g=k:=by
 obtain⟨css,_,h⟩:=o
 rcases h with⟨h,_⟩ | ⟨g,dS,ha,hg,_,_,_,_,h7⟩
 ·exact .inl h
 ·exact .inr ⟨g,ha,(Array.getElem?_eq_some_iff.1 hg).1,h7⟩
theorem Ls(g:Nat):DG lab (some ⟨g,0,none⟩) k g=k:=by unfold DG;simp
theorem Ew{g b:Nat}(h:b≠g):DG lab (some ⟨g,0,none⟩) k b=lab b:=by unfold DG;simp[h]
theorem ee.stpR{ks:List Nat}{xs:List β}(o:ee ρ lab w k E oa c xs)(tp:dv lab w)(k':Nat)(hk:ks.contains k=true)(hk0:k≠0):jM ks lab w (DG lab oa k') w:=by
 rcases o.blk with rfl | ⟨g,rfl,hg,hl⟩
 ·exact jM.refl tp
 ·refine⟨rfl,rfl,rfl,Nat.le_refl _,fun _ _ _=>rfl,fun b hb h=>Ew fun e=>?_,fun b hb=>?_⟩
  ·subst e
   rcases h with h |h
   ·omega
   ·rw[hl,hk]at h;cases h
  ·rw[Ew (by omega)];exact tp b hb
theorem ee.relab{xs:List β}(o:ee ρ lab w k E oa c xs)(tp:dv lab w)(k':Nat)(hk0:k≠0):ee ρ (DG lab oa k') w k' E oa c xs:=by
 have hs:=(o.stpR (ks:=[k]) tp k' (by simp) hk0).keeps
 obtain⟨css,h1,h2⟩:=o
 refine⟨css,h1.keep hs,?_⟩
 rcases h2 with h | ⟨g,dS,rfl,hg,h3,h4,h5,h6,h7⟩
 ·exact .inl h
 ·exact .inr ⟨g,dS,rfl,hg,h3,h4,h5,h6,Ls g⟩
theorem OL{xs:List (List (den t))}{vs:List Value}(o:ee bV.raw lab w k E oa c vs)(h:jZ (fun y v=>bh (.sl t) y lab' w v) xs vs)(hk:bw lab w lab' w)(h0 : ∀b,b<w.heap.size→lab b=k→lab' b=0):SL (rep (.sl t)) lab' w oa c xs:=by
 have s:=o.sl hk h0
 refine⟨by rw[h.len];exact s.1,s.2.1,fun i x hx=>?_⟩
 obtain⟨v,hv,hd⟩:=h.get hx
 obtain⟨ad,cs,h1,h2,h3⟩:=s.at_ hv
 obtain⟨ds,d1,d2⟩:=hd
 have d2:ds = [v]:=d2
 rw[h2.1]at h3
 exact⟨ad,[v],h1,by rw[←d2];exact d1,h3⟩
theorem uT.nil:uT t lab w k E E2 none 0 []:=.inl ⟨rfl,rfl,rfl⟩
theorem uT.view{xs:List (List (den t))}(o:uT t lab w k E E2 oa c xs):SL (rep (.sl t)) (mask lab k) w oa c xs:=by
 rcases o with⟨rfl,rfl,rfl⟩ | ⟨ys,z,vs,a',c',rfl,h1,h2,h3,_⟩
 ·exact SL.nil
 ·refine OL h1 ((h2.datKeep bw.mask).append (.cons (bh.ofSl h3.view) .nil)) bw.mask (fun b _ h=>by simp[mask,h])
end
section
variable {P : Program} {N : Nat} {ops : Array Oper} {F : List (Nat × Value)} {w w' : World} {e : ja} {lab lab' : bg} {nid : Nat} {d : Nat} {v u : Value}
variable {ty : TypeId} {pos : String} {af : Array Edge} {g : Option (Nat × Bool)} {x y z : Operand} {T : TypeId} {a b : RA}
end
inductive PK where
 |d (t:PT) |p (T:TypeId) (t:PT) |r (E:TypeId) (t:PT)
inductive RK where
 |d (t:PT) |o (E:TypeId) (t:PT) |p (T:TypeId) (t:PT) |x (T:TypeId) (t:PT) |h (t:PT) (off:Nat) (E:TypeId) (u:PT)
def PK.den:PK→Type
 | .d t=>Gk.den t | .p _ t=>Gk.den t | .r _ t=>List (Gk.den t)
def RK.den:RK→Type
 | .d t=>Gk.den t | .o _ t=>List (Gk.den t) | .p _ t=>Gk.den t | .x _ t=>Gk.den t | .h t _ _ u=>Gk.den t×List (Gk.den u)
def dS:List PK→Type→Type
 | [],R=>R
 |p::ps,R=>p.den→dS ps R
def hl:List PK→Type
 | []=>Unit
 |p::ps=>p.den×hl ps
def GI{R:Type}:(ps:List PK)→dS ps R→hl ps→R
 | [],f,_=>f
 |_::ps,f,a=>GI ps (f a.1) a.2
def Em:RK→List RK→Type
 |r,[]=>r.den
 |r,s::ss=>r.den×Em s ss
def xZ:List RK→Type
 | []=>Unit
 |r::rs=>Em r rs
def u0:List RK→Type
 | []=>Unit
 |r::rs=>r.den×u0 rs
def Fa:(r:RK)→(rs:List RK)→Em r rs→u0 (r::rs)
 |_,[],x=>(x,())
 |_,s::ss,x=>(x.1,Fa s ss x.2)
def io:(rs:List RK)→xZ rs→u0 rs
 | [],_=>()
 |r::rs,x=>Fa r rs x
def Ef:(r:RK)→(rs:List RK)→u0 (r::rs)→Em r rs
 |_,[],x=>x.1
 |_,s::ss,x=>(x.1,Ef s ss x.2)
def NU:(rs:List RK)→u0 rs→xZ rs
 | [],_=>()
 |r::rs,x=>Ef r rs x
theorem wh : ∀(rs:List RK) (r:RK) (x:u0 (r::rs)),Fa r rs (Ef r rs x)=x
 | [],_,(_,())=>rfl
 |s::ss,r,(a,x)=>by show(a,Fa s ss (Ef s ss x))=(a,x);rw[wh ss s x]
theorem yW : ∀(rs:List RK) (x:u0 rs),io rs (NU rs x)=x
 | [],()=>rfl
 |r::rs,x=>wh rs r x
def iH:List PK→List RK
 | []=>[]
 | .d _::ps=>iH ps
 | .r _ _::ps=>iH ps
 | .p T t::ps=>.x T t::iH ps
def jV:List PK→Bool
 | []=>false
 | .d _::ps=>jV ps
 | .r _ _::ps=>jV ps
 | .p _ _::_=>true
def nB:List PK→Bool
 | []=>false
 | .d _::ps=>nB ps
 | .r _ _::_=>true
 | .p _ _::_=>true
theorem A6 : ∀{ps:List PK},jV ps=true→nB ps=true
 | [],h=>by cases h
 | .d _::ps,h=>A6 (ps:=ps) h
 | .r _ _::_,_=>rfl
 | .p _ _::_,_=>rfl
theorem wR{ps:List PK}(h:nB ps=false):jV ps=false:=by
 cases hp:jV ps with
 |false=>rfl
 |true=>rw[A6 hp]at h;cases h
def ki(kp gp:Nat)(lab:bg)(w:World):(ps:List PK)→hl ps→List Value→Prop
 | [],_,[]=>True
 | .d t::ps,a,v::vs=>bh t a.1 lab w v∧ki kp gp lab w ps a.2 vs
 | .p T t::ps,a,v::vs=>v = .pointer (some ⟨gp,0,none⟩)∧(∃cs,jx lab w kp gp T cs∧(rep t).rd lab w cs a.1)∧ki kp gp lab w ps a.2 vs
 | .r E t::ps,a,v::vs=>(∃oa c,v = .slice oa (List.length (α:=den t) a.1) c∧ee (rep t) lab w kp E oa c a.1)∧ki kp gp lab w ps a.2 vs
 |_,_,_=>False
def D6:List PK→Bool
 | []=>true
 | .d _::ps=>D6 ps
 | .p _ _::ps=>!nB ps
 | .r _ _::ps=>!nB ps
def kL(k kp gp:Nat)(lab:bg)(w:World):(rs:List RK)→u0 rs→List Value→Prop
 | [],_,[]=>True
 | .d t::rs,r,v::vs=>bh t r.1 lab w v∧kL k kp gp lab w rs r.2 vs
 | .o E t::rs,r,v::vs=>(∃oa c,v = .slice oa (List.length (α:=den t) r.1) c∧ee (rep t) lab w k E oa c r.1)∧kL k kp gp lab w rs r.2 vs
 | .p T t::rs,r,v::vs=>(∃g cs,v = .pointer (some ⟨g,0,none⟩)∧jx lab w k g T cs∧(rep t).rd lab w cs r.1)∧kL k kp gp lab w rs r.2 vs
 | .h t off E u::rs,r,v::vs=>(∃(cs:List Value) (oa:Option Addr) (c:Nat),v = .agg cs.toArray∧(rep t).rd lab w (cs.set off (.slice none 0 0)) r.1.1∧cs[off]?=some (.slice oa (List.length (α:=den u) r.1.2) c)∧ee (rep u) lab w k E oa c r.1.2)∧kL k kp gp lab w rs r.2 vs
 | .x T t::rs,r,vs=>(∃cs,jx lab w kp gp T cs∧(rep t).rd lab w cs r.1)∧kL k kp gp lab w rs r.2 vs
 |_,_,_=>False
def MZ:List Value→Value
 | [v]=>v
 |vs=>.tuple vs.toArray
def Ok(ps:List PK)(kp:Nat):List Nat:=match nB ps with |true=>[kp] |false=>[]
def Re(P:Program)(fid:FuncId)(ps:List PK)(rs:List RK)(a:hl ps)(r:u0 (rs++iH ps)):Prop:=
 ∀(k kp gp:Nat) (lab:bg) (w:World) (vs:List Value),dv lab w→GL lab w→(nB ps=true→kp≠0)→k≠0→ki kp gp lab w ps a vs→
  Calls P fid vs.toArray w fun e w'=>∃lab' us,e = .returned (MZ us)∧jM (Ok ps kp) lab w lab' w'∧kL k kp gp lab' w' (rs++iH ps) r us
structure bW(P:Program) where
 fid:FuncId
 ps:List PK
 rs:List RK
 fn:Pz P fid
 m:dS ps (Option (xZ (rs++iH ps)))
 ok : ∀a r,GI ps m a=some r→Re P fid ps rs a (io _ r)
def qx{P:Program}:List (bW P)→FuncId→Option (bW P)
 | [],_=>none
 |c::r,f=>match Nat.beq c.fid f with
  |true=>some c
  |false=>qx r f
theorem rF{P:Program}: ∀{l:List (bW P)} {f:FuncId} {c:bW P},qx l f=some c→c.fid=f
 | [],_,_,h=>by cases h
 |q::r,f,c,h=>by
  unfold qx at h
  split at h
  ·rename_i hb;cases h;exact Nat.eq_of_beq_eq_true hb
  ·exact rF h
def ra:PT→Bool
 | .sl _=>false | .cp _=>false | .clo _ _=>false | .tree=>false | .pr a b=>ra a&&ra b | .st t=>ra t |_=>true
theorem nV{lab lab':bg}{w w':World}: ∀{t:PT} {cs:List Value} {x:den t},ra t=true→(rep t).rd lab w cs x→(rep t).rd lab' w' cs x
 | .int _,_,_,_,h=>h
 | .bool,_,_,_,h=>h
 | .str,_,_,_,h=>h
 | .un,_,_,_,h=>h
 | .err,_,_,_,h=>h
 | .fl,_,_,_,h=>h
 | .f4,_,_,_,h=>h
 | .sl _,_,_,hf,_=>by cases hf
 | .cp _,_,_,hf,_=>by cases hf
 | .clo _ _,_,_,hf,_=>by cases hf
 | .tree,_,_,hf,_=>by cases hf
 | .st t,_,_,hf,h=>nV (t:=t) hf h
 | .pr a b,cs,x,hf,h=>by
  simp only[ra,Bool.and_eq_true]at hf
  obtain⟨c1,c2,h1,h2,h3⟩:=h
  exact⟨c1,c2,h1,nV hf.1 h2,nV hf.2 h3⟩
def uJ:List RK→Bool
 | []=>true
 | .d t::rs=>ra t&&uJ rs
 | .x _ t::rs=>ra t&&uJ rs
 |_::_=>false
def ry:List RK→Bool
 | []=>true
 | .d t::rs=>ra t&&ry rs
 | .o _ t::rs=>ra t&&ry rs
 |_::_=>false
structure CA(ps:List PK) where
 a:hl ps
 vk:List Nat
 po:Option (Nat×Nat)
 ro:Option Nat
def Nc(t:PT)(a:RA):Option (den t×Nat):=
 match a with
 | (.own _,some (.row k _ t' xs))=>match cD (.sl t') t xs with
  |some y=>some (y,k)
  |none=>none
 | (.ptr _ 0,some (.box k _ t' x))=>match cD (.cp t') t (some x)with
  |some y=>some (y,k)
  |none=>none
 |_=>none
def aZ:(ps:List PK)→List RA→Option (CA ps)
 | [],[]=>some ⟨(),[],none,none⟩
 | .d t::ps,a::as=>match aZ ps as with
  |none=>none
  |some c=>match BU t a with
   |some x=>some ⟨(x,c.a),c.vk,c.po,c.ro⟩
   |none=>match Nc t a with
    |some (x,k)=>some ⟨(x,c.a),k::c.vk,c.po,c.ro⟩
    |none=>none
 | .p T t::ps,a::as=>match aZ ps as with
  |none=>none
  |some c=>match a,c.po with
   | (.ptr id 0,some (.box k T' t' x)),none=>match Nat.beq T T'&&!Nat.beq k 0&&!nB ps,cD t' t x with
    |true,some y=>some ⟨(y,c.a),c.vk,some (id,k),none⟩
    |_,_=>none
   |_,_=>none
 | .r E t::ps,a::as=>match aZ ps as with
  |none=>none
  |some c=>match nB ps,a with
   |false,(.own _,some (.row k E' t' xs))=>match Nat.beq E E'&&!Nat.beq k 0,cD (.sl t') (.sl t) xs with
    |true,some y=>some ⟨(y,c.a),c.vk,none,some k⟩
    |_,_=>none
   |false,(.nil,_)=>some ⟨([],c.a),c.vk,none,none⟩
   |_,_=>none
 |_,_=>none
def maskL:List Nat→bg→bg
 | [],lab=>lab
 |k::ks,lab=>Gk.mask (maskL ks lab) k
theorem dv.maskL{w:World}: ∀{ks:List Nat} {lab:bg},dv lab w→dv (maskL ks lab) w
 | [],_,t=>t
 |_::_,_,t=>(dv.maskL t).mask
theorem bw.maskL{w:World}: ∀{ks:List Nat} {lab:bg},bw lab w (maskL ks lab) w
 | [],_=>bw.rfl'
 |k::ks,lab=>⟨Nat.le_refl _,fun b hb h0=>⟨by
   have:=(bw.maskL (ks:=ks) (lab:=lab) (w:=w)).2 b hb h0
   show Gk.mask (Gk.maskL ks lab) k b=0
   unfold Gk.mask;rw[this.1];split<;>rfl,rfl⟩⟩
theorem jL : ∀(ks:List Nat) (lab:bg) (b:Nat),maskL ks lab b=0∧(lab b=0∨lab b∈ks)∨maskL ks lab b=lab b∧lab b∉ks
 | [],lab,b=>.inr ⟨rfl,by simp⟩
 |k::ks,lab,b=>by
  show Gk.mask (maskL ks lab) k b=0∧_∨Gk.mask (maskL ks lab) k b=lab b∧_
  unfold Gk.mask
  rcases jL ks lab b with⟨h1,h2⟩ | ⟨h1,h2⟩
  ·refine .inl ⟨by rw[h1];split<;>rfl,?_⟩
   rcases h2 with h2 |h2
   ·exact .inl h2
   ·exact .inr (by simp[h2])
  ·rw[h1]
   by_cases hk:lab b=k
   ·exact .inl ⟨by rw[if_pos hk],.inr (by simp[hk])⟩
   ·exact .inr ⟨by rw[if_neg hk],by simp[hk,h2]⟩
theorem jx.atM{lab:bg}{w:World}{k g T:Nat}{cs:List Value}{ks:List Nat}(b:jx lab w k g T cs)(hk:k∈ks):At (maskL ks lab) w ⟨g,0,none⟩ cs:=fun j u hu=>by
 refine⟨?_,?_⟩
 ·show maskL ks lab g=0
  rcases jL ks lab g with⟨h,_⟩ | ⟨_,h⟩
  ·exact h
  ·rw[b.2]at h;exact absurd hk h
 ·rw[bL,Nat.zero_add,b.cell];exact hu
theorem ee.maskS{t:PT}{lab:bg}{w:World}{k E c:Nat}{oa:Option Addr}{xs:List (den t)}(o:ee (rep t) lab w k E oa c xs): ∀{ks:List Nat},k∈ks→SL (rep t) (maskL ks lab) w oa c xs:=by
 intro ks hk
 have s:=o.view
 refine⟨s.1,s.2.1,fun i x hx=>?_⟩
 obtain⟨ad,cs,h1,h2,h3⟩:=s.at_ hx
 have kp:bw (Gk.mask lab k) w (maskL ks lab) w:=⟨Nat.le_refl _,fun b hb h0=>⟨by
  rcases jL ks lab b with⟨h,_⟩ | ⟨h,hn⟩
  ·exact h
  ·unfold Gk.mask at h0
   by_cases hbk:lab b=k
   ·rw[hbk]at hn;exact absurd hk hn
   ·rw[if_neg hbk]at h0;rw[h];exact h0,rfl⟩⟩
 exact⟨ad,cs,h1,(rep t).keep kp h2,h3.keep kp⟩
section
variable {P : Program} {N : Nat} {ops : Array Oper} {F : List (Nat × Value)} {w w' : World} {e : ja} {lab lab' : bg} {nid : Nat} {d : Nat} {v u : Value}
variable {ty : TypeId} {pos : String} {af : Array Edge} {g : Option (Nat × Bool)}
inductive jN(F:List (Nat×Value))(e:ja)(lab:bg)(w:World):List Operand→List RA→List Value→Prop where
 |nil:jN F e lab w [] [] []
 |cons {x a v xs as vs}:ev F x=some v→k_ e lab w a v→jN F e lab w xs as vs→jN F e lab w (x::xs) (a::as) (v::vs)
theorem jN.evs{xs:List Operand}{as:List RA}{vs:List Value}(h:jN F e lab w xs as vs):Gk.evs F xs=some vs:=by
 induction h with
 |nil=>rfl
 |cons h1 _ _ ih=>exact p8 h1 ih
theorem ow : ∀{ps:List PK} {as:List RA} {c:CA ps},aZ ps as=some c→(jV ps=true↔∃p,c.po=some p)
 | [],[],c,h=>by cases h;simp[jV]
 | [],_::_,c,h=>by cases h
 | .d t::ps,[],c,h=>by cases h
 | .p T t::ps,[],c,h=>by cases h
 | .r T t::ps,[],c,h=>by cases h
 | .r E t::ps,a::as,c,h=>by
  unfold aZ at h
  split at h
  ·cases h
  ·split at h
   ·rename_i hq
    split at h
    ·cases h
     show jV ps=true↔_
     rw[wR hq];simp
    ·cases h
   ·rename_i hq
    cases h
    show jV ps=true↔_
    rw[wR hq];simp
   ·cases h
 | .d t::ps,a::as,c,h=>by
  unfold aZ at h
  split at h
  ·cases h
  ·rename_i c' hc
   have ih:=ow hc
   split at h
   ·cases h;exact ih
   ·split at h
    ·cases h;exact ih
    ·cases h
 | .p T t::ps,a::as,c,h=>by
  unfold aZ at h
  split at h
  ·cases h
  ·rename_i c' hc
   split at h
   ·split at h
    ·cases h;simp[jV]
    ·cases h
   ·cases h
def yr{ps:List PK}(c:CA ps)(k:Nat):Nat:=match c.po with
 |some p=>p.2
 |none=>c.ro.getD k
theorem sT{kp kp' G G':Nat}: ∀{ps:List PK} {a:hl ps} {vs:List Value},nB ps=false→ki kp G lab w ps a vs→ki kp' G' lab w ps a vs
 | [],_,[],_,_=>trivial
 | [],_,_::_,_,h=>h.elim
 | .d t::ps,a,[],_,h=>h.elim
 | .d t::ps,a,_::vs,hn,h=>⟨h.1,sT (ps:=ps) hn h.2⟩
 | .p _ _::_,_,_,hn,_=>by cases hn
 | .r _ _::_,_,_,hn,_=>by cases hn
theorem lL : ∀{ps:List PK} {as:List RA} {c:CA ps},aZ ps as=some c→nB ps=false→c.po=none∧c.ro=none
 | [],[],c,h,_=>by cases h;exact⟨rfl,rfl⟩
 | [],_::_,c,h,_=>by cases h
 | .d t::ps,[],c,h,_=>by cases h
 | .p _ _::_,_,_,_,hn=>by cases hn
 | .r _ _::_,_,_,_,hn=>by cases hn
 | .d t::ps,a::as,c,h,hn=>by
  unfold aZ at h
  split at h
  ·cases h
  ·rename_i c' hc
   have ih:=lL hc hn
   split at h
   ·cases h;exact ih
   ·split at h
    ·cases h;exact ih
    ·cases h
theorem ee.maskN{t:PT}{lab:bg}{w:World}{k E c:Nat}{oa:Option Addr}{xs:List (den t)}(o:ee (rep t) lab w k E oa c xs): ∀{ks:List Nat},k∉ks→ee (rep t) (maskL ks lab) w k E oa c xs
 | [],_=>o
 |q::ks,h=>by
  have h1:k≠q:=fun e=>h (by simp[e])
  exact(ee.maskN o fun hm=>h (by simp[hm])).mask (by rw[ig h1])
theorem Bw{G k0:Nat}(xs:List Operand): ∀{ps:List PK} {as:List RA} {vs:List Value} {c:CA ps} {vk:List Nat},jN F e lab w xs as vs→aZ ps as=some c→(∀k∈c.vk,k∈vk)→(∀p,c.po=some p→p.2∉vk∧(e p.1).oa=some ⟨G,0,none⟩)→(∀q,c.ro=some q→q∉vk)→
  ki (yr c k0) G (maskL vk lab) w ps c.a vs:=by
 intro ps as vs c vk h
 induction h generalizing ps with
 |nil=>
  intro hc hv hp hro
  cases ps with
  |nil=>trivial
  |cons p ps=>cases p<;>cases hc
 |cons hx ha hrest ih=>
  intro hc hv hp hro
  cases ps with
  |nil=>cases hc
  |cons p ps=>
  cases p with
  |d t=>
   unfold aZ at hc
   split at hc
   ·cases hc
   ·rename_i c' hc'
    split at hc
    ·rename_i y hy
     cases hc
     exact⟨(jp ha hy).keep bw.maskL,ih hc' hv hp hro⟩
    ·split at hc
     ·rename_i y k hy
      cases hc
      refine⟨?_,ih hc' (fun q hq=>hv q (by simp[hq])) hp hro⟩
      unfold Nc at hy
      split at hy
      ·rename_i id q E t' ys _
       split at hy
       ·rename_i y' hcast
        cases hy
        obtain⟨rfl,rfl⟩:=bc hcast
        obtain⟨b1,b2,b3⟩:=ha.2 _ rfl
        have b1:(e id).n=ys.length:=b1
        have h2:=ha.1
        have h2:_=Value.slice (e id).oa (e id).n (e id).c:=h2
        rw[b1]at h2
        rw[h2]
        exact bh.ofSl (b3.maskS (hv _ (by simp)))
       ·cases hy
      ·rename_i id q T' t' x' _
       split at hy
       ·rename_i y' hcast
        cases hy
        obtain⟨rfl,rfl⟩:=bc hcast
        obtain⟨G',cs,c1,c2,c3⟩:=ha.2 _ rfl
        obtain⟨G'',c4,c5⟩:=ha.1
        have c1:(e id).oa=some ⟨G',0,none⟩:=c1
        rw[c1]at c4;cases c4
        exact⟨[_],⟨⟨G',0,none⟩,cs,by rw[c5],c2.atM (hv _ (by simp)),(rep t').keep bw.maskL c3⟩,rfl⟩
       ·cases hy
      ·cases hy
     ·cases hc
  |p T t=>
   unfold aZ at hc
   split at hc
   ·cases hc
   ·rename_i c' hc'
    split at hc
    ·rename_i id k T' t' y hpo
     split at hc
     ·rename_i y' hb hcast
      cases hc
      simp only[Bool.and_eq_true]at hb
      obtain rfl:=Nat.eq_of_beq_eq_true hb.1.1
      obtain⟨rfl,rfl⟩:=bc hcast
      obtain⟨hk,hG⟩:=hp _ rfl
      obtain⟨g',cs,b1,b2,b3⟩:=ha.2 _ rfl
      have b1:(e id).oa=some ⟨g',0,none⟩:=b1
      have hG:(e id).oa=some ⟨G,0,none⟩:=hG
      rw[b1]at hG;cases hG
      obtain⟨g2,h3,h4⟩:=ha.1
      have h3:(e id).oa=some ⟨g2,0,none⟩:=h3
      rw[b1]at h3;cases h3
      have hnp:=ow hc'
      refine⟨h4,⟨cs,⟨b2.1,?_⟩,(rep _).keep bw.maskL b3⟩,?_⟩
      ·show maskL vk lab G=k
       rcases jL vk lab G with⟨_,h |h⟩ | ⟨h,_⟩
       ·rw[b2.2]at h;simp[h]at hb
       ·rw[b2.2]at h;exact absurd h hk
       ·rw[h,b2.2]
      · -- no pointer among the rest
       have hq:nB ps=false:=by simpa using hb.2
       obtain⟨n1,n2⟩:=lL hc' hq
       exact sT hq (ih hc' hv (by rw[n1];intro p hp;cases hp) (by rw[n2];intro p hp;cases hp))
     ·cases hc
    ·cases hc
  |r E t=>
   unfold aZ at hc
   split at hc
   ·cases hc
   ·rename_i c' hc'
    split at hc
    ·rename_i id k E' t' ys hq
     obtain⟨n1,n2⟩:=lL hc' hq
     split at hc
     ·rename_i y hb hcast
      cases hc
      simp only[Bool.and_eq_true]at hb
      obtain rfl:=Nat.eq_of_beq_eq_true hb.1
      obtain⟨h0,h1⟩:=bc hcast
      cases h0
      cases h1
      obtain⟨b1,b2,b3⟩:=ha.2 _ rfl
      have b1:(e id).n=ys.length:=b1
      have h2:=ha.1
      have h2:_=Value.slice (e id).oa (e id).n (e id).c:=h2
      rw[b1]at h2
      exact⟨⟨_,_,h2,b3.maskN (hro _ rfl)⟩,sT hq (ih hc' hv (by rw[n1];intro p hp;cases hp) (by rw[n2];intro p hp;cases hp))⟩
     ·cases hc
    ·rename_i hq
     obtain⟨n1,n2⟩:=lL hc' hq
     cases hc
     exact⟨⟨none,0,ha.1,ee.nil⟩,sT hq (ih hc' hv (by rw[n1];intro p hp;cases hp) (by rw[n2];intro p hp;cases hp))⟩
    ·cases hc
def sW(nid:Nat):(rs:List RK)→u0 rs→List SV
 | [],_=>[]
 | .d t::rs,r=>.dat t r.1::sW nid rs r.2
 | .o _ _::rs,r=>.own nid::sW nid rs r.2
 | .p _ _::rs,r=>.ptr nid 0::sW nid rs r.2
 | .x _ _::rs,r=>sW nid rs r.2
 | .h t off _ _::rs,r=>.agh t r.1.1 off nid::sW nid rs r.2
def pP(nid k:Nat)(po:Nat×Nat):(rs:List RK)→u0 rs→List (Nat×dN)
 | [],_=>[]
 | .d _::rs,r=>pP nid k po rs r.2
 | .o E t::rs,r=>(nid,.row k E t r.1)::pP nid k po rs r.2
 | .p T t::rs,r=>(nid,.box k T t r.1)::pP nid k po rs r.2
 | .x T t::rs,r=>(po.1,.box po.2 T t r.1)::pP nid k po rs r.2
 | .h _ _ E u::rs,r=>(nid,.row k E u r.1.2)::pP nid k po rs r.2
def eN:List RK→Nat
 | []=>0
 | .o _ _::rs=>eN rs+1
 | .p _ _::rs=>eN rs+1
 | .h _ _ _ _::rs=>eN rs+1
 |_::rs=>eN rs
def NH:List SV→SV
 | [s]=>s
 |l=>.tup l
def D9(nid k:Nat)(po:Option (Nat×Nat))(ro:Option Nat)(rs:List RK)(r:u0 rs):fw:=
 ⟨NH (sW nid rs r),k::(match po with |some p=>[p.2] |none=>match ro with |some q=>[q] |none=>[]),pP nid k (po.getD (0,0)) rs r,[]⟩
def tN(c:bW P)(nid k:Nat)(as:List RA):bQ:=
 match aZ c.ps as,Nat.beq k 0,Nat.ble (eN (c.rs++iH c.ps)) 1 with
 |some ca,false,true=>match ca.vk.isEmpty||((uJ (c.rs++iH c.ps)||(ry (c.rs++iH c.ps)&&!nB c.ps))&&(match ca.po with |some p=>!ca.vk.contains p.2 |none=>true))with
  |true=>match(match ca.ro with |some q=>!ca.vk.contains q |none=>true)with
   |true=>.bnd (xZ (c.rs++iH c.ps)) (GI c.ps c.m ca.a) fun r=>.ret (D9 nid k ca.po ca.ro _ (io _ r))
   |false=>.stuck
  |false=>.stuck
 |_,_,_=>.stuck
def qH(lab:bg)(w:World)(k:Nat):(rs:List RK)→u0 rs→List Value→EI→Prop
 | .o E t::_,r,v::_,ei=>v = .slice ei.oa ei.n ei.c∧ei.n=List.length (α:=den t) r.1∧ei.sz=dq t∧ee (rep t) lab w k E ei.oa ei.c r.1
 | .p T t::_,r,v::_,ei=>∃g cs,ei.oa=some ⟨g,0,none⟩∧v = .pointer (some ⟨g,0,none⟩)∧jx lab w k g T cs∧(rep t).rd lab w cs r.1
 | .h t off E u::_,r,v::_,ei=>(∃cs:List Value,v = .agg cs.toArray∧(rep t).rd lab w (cs.set off (.slice none 0 0)) r.1.1∧cs[off]?=some (.slice ei.oa ei.n ei.c))∧ei.n=List.length (α:=den u) r.1.2∧ei.sz=dq u∧ee (rep u) lab w k E ei.oa ei.c r.1.2
 | .d _::rs,r,_::vs,ei=>qH lab w k rs r.2 vs ei
 | .x _ _::rs,r,vs,ei=>qH lab w k rs r.2 vs ei
 |_,_,_,_=>True
theorem xN{k kp gp:Nat}: ∀{rs:List RK} {r:u0 rs} {us:List Value},kL k kp gp lab w rs r us→∃ei,qH lab w k rs r us ei
 | [],_,_,_=>⟨⟨none,0,0,0,0,.un,[]⟩,trivial⟩
 | .d t::rs,r,[],h=>h.elim
 | .d t::rs,r,u::us,h=>by obtain⟨ei,h'⟩:=xN h.2;exact⟨ei,h'⟩
 | .o E t::rs,r,[],h=>h.elim
 | .o E t::rs,r,u::us,h=>by
  obtain⟨⟨oa,c,h1,h2⟩,_⟩:=h
  exact⟨⟨oa,List.length (α:=den t) r.1,c,dq t,0,.un,[]⟩,h1,rfl,rfl,h2⟩
 | .p T t::rs,r,[],h=>h.elim
 | .p T t::rs,r,u::us,h=>by
  obtain⟨⟨g,cs,h1,h2,h3⟩,_⟩:=h
  exact⟨⟨some ⟨g,0,none⟩,0,0,0,0,.un,[]⟩,g,cs,rfl,h1,h2,h3⟩
 | .h t off E u::rs,r,[],h=>h.elim
 | .h t off E u::rs,r,v::us,h=>by
  obtain⟨⟨cs,oa,c,h1,h2,h3,h4⟩,_⟩:=h
  exact⟨⟨oa,List.length (α:=den u) r.1.2,c,dq u,0,.un,[]⟩,⟨cs,h1,h2,h3⟩,rfl,rfl,h4⟩
 | .x T t::rs,r,us,h=>by obtain⟨ei,h'⟩:=xN h.2;exact⟨ei,h'⟩
theorem uw{k kp gp:Nat}{e':ja}(nid:Nat): ∀{rs:List RK} {r:u0 rs} {us:List Value},kL k kp gp lab w rs r us→(eN rs=0∨eN rs≤1∧qH lab w k rs r us (e' nid))→jZ (fun s u=>B5 e' s lab w u) (sW nid rs r) us
 | [],_,[],_,_=>.nil
 | [],_,_::_,h,_=>h.elim
 | .d t::rs,r,[],h,_=>h.elim
 | .d t::rs,r,u::us,h,hf=>.cons h.1 (uw nid h.2 hf)
 | .o E t::rs,r,[],h,_=>h.elim
 | .o E t::rs,r,u::us,h,hf=>by
  rcases hf with hf | ⟨hf,h1,h2,_⟩
  ·simp[eN]at hf
  ·exact .cons (by show u=_;rw[h1]) (uw nid h.2 (.inl (by simp[eN]at hf;omega)))
 | .p T t::rs,r,[],h,_=>h.elim
 | .p T t::rs,r,u::us,h,hf=>by
  rcases hf with hf | ⟨hf,g,cs,h1,h2,_⟩
  ·simp[eN]at hf
  ·exact .cons ⟨g,h1,h2⟩ (uw nid h.2 (.inl (by simp[eN]at hf;omega)))
 | .h t off E u::rs,r,[],h,_=>h.elim
 | .h t off E u::rs,r,v::us,h,hf=>by
  rcases hf with hf | ⟨hf,h1,_⟩
  ·simp[eN]at hf
  ·exact .cons h1 (uw nid h.2 (.inl (by simp[eN]at hf;omega)))
 | .x T t::rs,r,us,h,hf=>by
  have:sW nid (.x T t::rs) r=sW nid rs r.2:=rfl
  rw[this]
  exact uw nid h.2 hf
theorem qG{k kp gp:Nat}{rs0:List RK}{e':ja}(nid:Nat){po:Nat×Nat}(hpo : ∀T t,RK.x T t∈rs0→po.2=kp)(hgp : ∀T t,RK.x T t∈rs0→(e' po.1).oa=some ⟨gp,0,none⟩): ∀{rs:List RK} {r:u0 rs} {us:List Value},(∀q∈rs,q∈rs0)→kL k kp gp lab w rs r us→(eN rs=0∨eN rs≤1∧qH lab w k rs r us (e' nid))→
  ∀p∈pP nid k po rs r,bR e' lab w p.1 p.2
 | [],_,_,_,_,_,p,hp=>by simp[pP]at hp
 | .d t::rs,r,[],_,h,_,_,_=>h.elim
 | .d t::rs,r,u::us,hs,h,hf,p,hp=>qG nid hpo hgp (fun q hq=>hs q (by simp[hq])) h.2 hf p hp
 | .o E t::rs,r,[],_,h,_,_,_=>h.elim
 | .o E t::rs,r,u::us,hs,h,hf,p,hp=>by
  rcases hf with hf | ⟨hf,h1,h2,h3,h4⟩
  ·simp[eN]at hf
  ·rcases List.mem_cons.1 hp with rfl |hp
   ·exact⟨h2,h3,h4⟩
   ·exact qG nid hpo hgp (fun q hq=>hs q (by simp[hq])) h.2 (.inl (by simp[eN]at hf;omega)) p hp
 | .p T t::rs,r,[],_,h,_,_,_=>h.elim
 | .p T t::rs,r,u::us,hs,h,hf,p,hp=>by
  rcases hf with hf | ⟨hf,g,cs,h1,h2,h3,h4⟩
  ·simp[eN]at hf
  ·rcases List.mem_cons.1 hp with rfl |hp
   ·exact⟨g,cs,h1,h3,h4⟩
   ·exact qG nid hpo hgp (fun q hq=>hs q (by simp[hq])) h.2 (.inl (by simp[eN]at hf;omega)) p hp
 | .h t off E u::rs,r,[],_,h,_,_,_=>h.elim
 | .h t off E u::rs,r,v::us,hs,h,hf,p,hp=>by
  rcases hf with hf | ⟨hf,_,h2,h3,h4⟩
  ·simp[eN]at hf
  ·rcases List.mem_cons.1 hp with rfl |hp
   ·exact⟨h2,h3,h4⟩
   ·exact qG nid hpo hgp (fun q hq=>hs q (by simp[hq])) h.2 (.inl (by simp[eN]at hf;omega)) p hp
 | .x T t::rs,r,us,hs,h,hf,p,hp=>by
  rcases List.mem_cons.1 hp with rfl |hp
  ·obtain⟨cs,h1,h2⟩:=h.1
   exact⟨gp,cs,hgp T t (hs _ (by simp)),by rw[hpo T t (hs _ (by simp))];exact h1,h2⟩
  ·exact qG nid hpo hgp (fun q hq=>hs q (by simp[hq])) h.2 hf p hp
theorem NM{e':ja}{ss:List SV}{us:List Value}(h:jZ (fun s u=>B5 e' s lab w u) ss us):RV e' (NH ss) lab w (MZ us):=by
 cases h with
 |nil=>exact⟨[],rfl,.nil⟩
 |cons h1 h2=>
  cases h2 with
  |nil=>exact RV.of0 h1
  |cons h2 h3=>exact⟨_,rfl,.cons h1 (.cons h2 h3)⟩
theorem wZ{k kp gp:Nat}{lab2:bg}: ∀{rs:List RK} {r:u0 rs} {us:List Value},uJ rs=true→(∀T t,RK.x T t∈rs→lab gp=kp→lab2 gp=kp)→kL k kp gp lab w rs r us→kL k kp gp lab2 w rs r us
 | [],_,[],_,_,_=>trivial
 | [],_,_::_,_,_,h=>h.elim
 | .d t::rs,r,[],_,_,h=>h.elim
 | .d t::rs,r,u::us,hf,hl,h=>by
  simp only[uJ,Bool.and_eq_true]at hf
  obtain⟨⟨cs,h1,h2⟩,h3⟩:=h
  exact⟨⟨cs,nV hf.1 h1,h2⟩,wZ hf.2 (fun T t hm=>hl T t (by simp[hm])) h3⟩
 | .o E t::rs,r,_,hf,_,_=>by cases hf
 | .p T t::rs,r,_,hf,_,_=>by cases hf
 | .h _ _ _ _::rs,r,_,hf,_,_=>by cases hf
 | .x T t::rs,r,us,hf,hl,h=>by
  simp only[uJ,Bool.and_eq_true]at hf
  obtain⟨⟨cs,h1,h2⟩,h3⟩:=h
  exact⟨⟨cs,⟨h1.1,hl T t (by simp) h1.2⟩,nV hf.1 h2⟩,wZ hf.2 (fun T t hm=>hl T t (by simp[hm])) h3⟩
theorem dh.flat{t:PT}{lab lab2:bg}{w:World}(hf:ra t=true): ∀{css:List (List Value)} {xs:List (den t)},dh (rep t) lab w css xs→dh (rep t) lab2 w css xs
 | [],[],_=>trivial
 |_::_,_::_,⟨h1,h2⟩=>⟨nV hf h1,dh.flat hf h2⟩
theorem tS{k kp gp:Nat}{lab2:bg}: ∀{rs:List RK} {r:u0 rs} {us:List Value},ry rs=true→(∀b,lab b=k→lab2 b=k)→kL k kp gp lab w rs r us→kL k kp gp lab2 w rs r us
 | [],_,[],_,_,_=>trivial
 | [],_,_::_,_,_,h=>h.elim
 | .d t::rs,r,[],_,_,h=>h.elim
 | .d t::rs,r,u::us,hf,hl,h=>by
  simp only[ry,Bool.and_eq_true]at hf
  obtain⟨⟨cs,h1,h2⟩,h3⟩:=h
  exact⟨⟨cs,nV hf.1 h1,h2⟩,tS hf.2 hl h3⟩
 | .o E t::rs,r,[],_,_,h=>h.elim
 | .o E t::rs,r,u::us,hf,hl,h=>by
  simp only[ry,Bool.and_eq_true]at hf
  obtain⟨⟨oa,c,h1,css,h2,h3⟩,h4⟩:=h
  refine⟨⟨oa,c,h1,css,h2.flat hf.1,?_⟩,tS hf.2 hl h4⟩
  rcases h3 with h3 | ⟨g,dS,b1,b2,b3,b4,b5,b6,b7⟩
  ·exact .inl h3
  ·exact .inr ⟨g,dS,b1,b2,b3,b4,b5,b6,hl g b7⟩
 | .p T t::rs,r,_,hf,_,_=>by cases hf
 | .h _ _ _ _::rs,r,_,hf,_,_=>by cases hf
 | .x T t::rs,r,us,hf,_,_=>by cases hf
theorem wX{T:TypeId}{t:PT}: ∀{ps:List PK},RK.x T t∈iH ps→jV ps=true
 | [],h=>by simp[iH]at h
 | .d _::ps,h=>wX (ps:=ps) h
 | .r _ _::ps,h=>wX (ps:=ps) h
 | .p _ _::ps,h=>rfl
theorem Ev{k:Nat}(h:(!Nat.beq k 0)=true):k≠0:=fun e=>by subst e;cases h
theorem Ic{xs:List Operand}{ps:List PK}{as:List RA}{vs:List Value}{cc:CA ps}(h:jN F e lab w xs as vs):aZ ps as=some cc→∀p,cc.po=some p→∃G,(e p.1).oa=some ⟨G,0,none⟩∧p.2≠0∧lab G=p.2:=by
 induction h generalizing ps with
 |nil=>
  intro hc p hp
  cases ps with
  |nil=>cases hc;cases hp
  |cons p ps=>cases p<;>cases hc
 |cons hx ha hrest ih=>
  intro hc p hp
  cases ps with
  |nil=>cases hc
  |cons q ps=>
  cases q with
  |d t=>
   unfold aZ at hc
   split at hc
   ·cases hc
   ·rename_i c' hc'
    split at hc
    ·cases hc;exact ih hc' p hp
    ·split at hc
     ·cases hc;exact ih hc' p hp
     ·cases hc
  |p T t=>
   unfold aZ at hc
   split at hc
   ·cases hc
   ·split at hc
    ·split at hc
     ·rename_i y' hb hcast
      cases hc
      cases hp
      obtain⟨g',cs,b1,b2,b3⟩:=ha.2 _ rfl
      simp only[Bool.and_eq_true]at hb
      exact⟨g',b1,Ev hb.1.2,b2.2⟩
     ·cases hc
    ·cases hc
  |r E t=>
   unfold aZ at hc
   split at hc
   ·cases hc
   ·split at hc
    ·split at hc
     ·cases hc;cases hp
     ·cases hc
    ·cases hc;cases hp
    ·cases hc
theorem Hp{ps:List PK}{as:List RA}{cc:CA ps}(h:aZ ps as=some cc): ∀q,cc.ro=some q→q≠0∧cc.po=none:=by
 induction ps generalizing as with
 |nil=>
  intro q hq
  cases as with
  |nil=>cases h;cases hq
  |cons _ _=>cases h
 |cons p ps ih=>
  intro q hq
  cases as with
  |nil=>cases p<;>cases h
  |cons a as=>
  cases p with
  |d t=>
   unfold aZ at h
   split at h
   ·cases h
   ·rename_i c' hc'
    split at h
    ·cases h;exact ih hc' q hq
    ·split at h
     ·cases h;exact ih hc' q hq
     ·cases h
  |p T t=>
   unfold aZ at h
   split at h
   ·cases h
   ·split at h
    ·split at h
     ·cases h;cases hq
     ·cases h
    ·cases h
  |r E t=>
   unfold aZ at h
   split at h
   ·cases h
   ·split at h
    ·split at h
     ·rename_i hb _
      cases h
      cases hq
      simp only[Bool.and_eq_true]at hb
      exact⟨Ev hb.2,rfl⟩
     ·cases h
    ·cases h;cases hq
    ·cases h
theorem y8{c:bW P}{k:Nat}{xs:List Operand}{as:List RA}{vs:List Value}{out:fw}{o:Oper}(hcall : ∀(R:Ending→World→Prop) (K:gC),Calls P c.fid vs.toArray w R→(∀e' w',R e' w'→∃v,e' = .returned v∧LW P N ops [] ((d,v)::F) w' K)→LW P N ops [o] F w K)(hx:c.rs.all (fun r=>match r with | .x _ _=>false |_=>true)=true)(ha:jN F e lab w xs as vs)(hids : ∀ca:CA c.ps,aZ c.ps as=some ca→∀p,ca.po=some p→p.1<nid)
  (hr:jH (tN c nid k as) out) (tp:dv lab w) (gl:GL lab w) :
  LW P N ops [o] F w (Fin N F e nid lab w (some d) out):=by
 unfold tN at hr
 split at hr
 ·rename_i ca hca hk hfr
  split at hr
  ·rename_i hview
   split at hr
   ·rename_i hrow
    cases hr with
    |bnd hm hr=>
     rename_i r
     obtain rfl:=hr.ret_eq
     have hk0:k≠0:=Rb hk
     have hfr':eN (c.rs++iH c.ps)≤1:=Nat.le_of_ble_eq_true hfr
     have hnp:=ow hca
     -- the box behind the pointer
     obtain⟨G,hG⟩ : ∃G,∀p,ca.po=some p→(e p.1).oa=some ⟨G,0,none⟩∧p.2≠0∧lab G=p.2:=by
      cases hpo:ca.po with
      |none=>exact⟨0,fun p h=>by cases h⟩
      |some p=>
       obtain⟨G,h⟩:=Ic ha hca p hpo
       exact⟨G,fun q hq=>by cases hq;exact h⟩
     have hxp : ∀{T t},RK.x T t∈c.rs++iH c.ps→jV c.ps=true:=fun{T t} hm=>by
      rcases List.mem_append.1 hm with hm |hm
      ·have:=List.all_eq_true.1 hx _ hm;cases this
      ·exact wX hm
     have hvk : ∀p,ca.po=some p→p.2∉ca.vk:=by
      intro p hp
      simp only[Bool.or_eq_true,Bool.and_eq_true]at hview
      rcases hview with hv | ⟨_,hv⟩
      ·intro hm;rw[List.isEmpty_iff.1 hv]at hm;simp at hm
      ·rw[hp]at hv;simpa using hv
     have hargs:=Bw (G:=G) (k0:=k) xs ha hca (vk:=ca.vk) (fun _ h=>h) (fun p hp=>⟨hvk p hp,(hG p hp).1⟩) (fun q hq=>by
      rw[hq]at hrow;simpa using hrow)
     have hkp:nB c.ps=true→yr ca k≠0:=fun _=>by
      unfold yr
      cases hp:ca.po with
      |some p=>exact(hG p hp).2.1
      |none=>
       cases hq:ca.ro with
       |some q=>exact(Hp hca q hq).1
       |none=>exact hk0
     have hkpo : ∀p,ca.po=some p→yr ca k=p.2:=fun p hp=>by unfold yr;rw[hp]
     refine hcall _ _ (c.ok _ _ hm k (yr ca k) G (maskL ca.vk lab) w vs tp.maskL (gl.keep bw.maskL) hkp hk0 hargs) ?_
     rintro _ w' ⟨lab1,us,rfl,hs,hres⟩
     refine⟨_,rfl,LW.nil fun q hq=>?_⟩
     -- the labels behind the call
     obtain⟨lab2,hs2,hres2⟩ : ∃lab2,jM (k::(match ca.po with |some p=>[p.2] |none=>match ca.ro with |some q=>[q] |none=>[])) lab w lab2 w'∧kL k (yr ca k) G lab2 w' (c.rs++iH c.ps) (io _ r) us:=by
      have hks : ∀q,(Ok c.ps (yr ca k)).contains q=true→(k::(match ca.po with |some p=>[p.2] |none=>match ca.ro with |some q=>[q] |none=>[])).contains q=true:=fun q hq=>by
       unfold Ok at hq
       split at hq
       ·unfold yr at hq
        cases hp:ca.po with
        |some p=>rw[hp]at hq;simp at hq⊢;exact .inr hq
        |none=>
         rw[hp]at hq
         cases hr:ca.ro with
         |some r=>rw[hr]at hq;simp at hq⊢;exact .inr hq
         |none=>rw[hr]at hq;simp at hq⊢;exact hq
       ·simp at hq
      by_cases hem:ca.vk = []
      ·rw[hem]at hs
       exact⟨lab1,hs.mono hks,hres⟩
      ·have hflat:uJ (c.rs++iH c.ps)=true∨ry (c.rs++iH c.ps)=true∧nB c.ps=false:=by
        simp only[Bool.or_eq_true,Bool.and_eq_true,Bool.not_eq_true']at hview
        rcases hview with hv | ⟨hv,_⟩
        ·exact absurd (List.isEmpty_iff.1 hv) hem
        ·exact hv
       refine⟨fun b=>if b<w.heap.size then lab b else lab1 b,⟨hs.os,hs.tape,hs.output,hs.size,fun b hb hl=>?_,fun b hb _=>if_pos hb,fun b hb=>?_⟩,?_⟩
       rotate_left 2
       ·rcases hflat with hflat | ⟨hflat,hnq⟩
        ·refine wZ hflat (fun T t hm hl=>?_) hres
         obtain⟨p,hp⟩:=hnp.1 (hxp hm)
         show(if G<w.heap.size then lab G else lab1 G)=_
         split
         ·rw[hkpo p hp];exact(hG p hp).2.2
         ·exact hl
        ·refine tS hflat (fun b hb=>?_) hres
         show(if b<w.heap.size then lab b else lab1 b)=k
         split
         ·rename_i hlt
          have h1:=hs.same b hlt (.inr (by unfold Ok;rw[hnq];rfl))
          rw[hb]at h1
          rcases jL ca.vk lab b with⟨h,_⟩ | ⟨h,_⟩
          ·rw[h]at h1;exact absurd h1 hk0
          ·rw[←h,←h1]
         ·exact hb
       ·refine hs.block b hb ?_
        rcases jL ca.vk lab b with⟨h,_⟩ | ⟨h,_⟩
        ·exact .inl h
        ·rw[h]
         rcases hl with hl |hl
         ·exact .inl hl
         ·refine .inr ?_
          cases hc:(Ok c.ps (yr ca k)).contains (lab b)with
          |false=>rfl
          |true=>rw[hks _ hc]at hl;cases hl
       ·have:=hs.size
        show(if b<w.heap.size then lab b else lab1 b)=0
        rw[if_neg (by omega)];exact hs.top b hb
     obtain⟨ei,hei⟩:=xN hres2
     have hfe:eN (c.rs++iH c.ps)=0∨eN (c.rs++iH c.ps)≤1∧qH lab2 w' k (c.rs++iH c.ps) (io _ r) us (qt e nid ei nid):=.inr ⟨hfr',by rw[cY];exact hei⟩
     refine⟨rfl,qt e nid ei,lab2,_,hq,fun _ hi=>jk hi,hs2,NM (uw nid hres2 hfe),?_,fun p hp=>by simp[D9]at hp⟩
     refine qG (rs0:=c.rs++iH c.ps) nid (gp:=G) ?_ (fun T t hm=>?_) (fun _ h=>h) hres2 hfe
     ·intro T t hm
      obtain⟨p,hp⟩:=hnp.1 (hxp hm)
      rw[hkpo p hp,hp];rfl
     ·obtain⟨p,hp⟩:=hnp.1 (hxp hm)
      rw[hp]
      have hlt:=hids ca hca p hp
      show(qt e nid ei p.1).oa=_
      rw[jO (by omega)]
      exact(hG p hp).1
   ·cases hr
  ·cases hr
 ·cases hr
theorem Kb{c:bW P}{f:FuncId}{k:Nat}{xs:List Operand}{as:List RA}{vs:List Value}{ts:Array TypeId}{out:fw}(hf:c.fid=f)(hx:c.rs.all (fun r=>match r with | .x _ _=>false |_=>true)=true)(ha:jN F e lab w xs as vs)(hids : ∀ca:CA c.ps,aZ c.ps as=some ca→∀p,ca.po=some p→p.1<nid)
  (hr:jH (tN c nid k as) out) (tp:dv lab w) (gl:GL lab w) (hw:Wn ops F g) (hd:Nat.blt d N=true) :
  LW P N ops [⟨some d,.call { callee:=.value (.func f),args:=xs.toArray,argTypes:=ts },ty,pos,af,g⟩] F w (Fin N F e nid lab w (some d) out):=by
 subst hf
 exact y8 (fun R K h1 h2=>LW.call c.fn h1 hw hd ha.evs h2) hx ha hids hr tp gl
theorem LW.callC{f:FuncId}{xs:List Operand}{vs ps:List Value}{ts:Array TypeId}{s:Nat}{R:Ending→World→Prop}{rest:List Oper}{K:gC}(hf:Pz P f)(hc:Calls P f (vs++ps).toArray w R)(hw:Wn ops F g)(hdN:Nat.blt d N=true)(hs:ev F (.tmp s)=some (.func (.func f) #[] ps.toArray))(hx:evs F xs=some vs)
  (h : ∀e w',R e w'→∃v,e = .returned v∧LW P N ops rest ((d,v)::F) w' K):LW P N ops (⟨some d,.call { callee:=.value (.tmp s),args:=xs.toArray,argTypes:=ts },ty,pos,af,g⟩::rest) F w K:=
 LW.gen rfl hw fun a ha=>by
  obtain⟨fn,h1,h2,h3⟩:=hf.fn
  unfold Oper.wp
  have hr:(execOp a.eval ⟨some d,.call { callee:=.value (.tmp s),args:=xs.toArray,argTypes:=ts },ty,pos,af,g⟩).run P w = .ok (.enter f (vs++ps).toArray) w:=by
   have e:(xs.toArray.map a.eval)=vs.toArray:=by rw[List.map_toArray,ha.evals hx]
   simp only[execOp,resolve,e,ha.eval hs,Deferred.ofValue,invoke,callFunc,Sem.run_bind,Sem.run_pure,Result.andThen_ok,run_program,h1,h2,h3,Bool.false_eq_true,if_false];simp
  rw[hr,Oper.upon_enter]
  refine hc.mono fun e w' hR=>?_
  obtain⟨v,rfl,hl⟩:=h e w' hR
  exact hl _ (ha.put hdN v)
def uL:(t:PT)→den t→Option (List RA)
 | .un,_=>some []
 | .pr (.cp a) b,x=>match uL b x.2 with
  |some r=>some ((.dat (.cp a) x.1,none)::r)
  |none=>none
 |_,_=>none
theorem Bo : ∀{t:PT} {x:den t} {as:List RA} {ps:List Value},uL t x=some as→(rep t).rd lab w ps x→jN F e lab w (ps.map .const) as ps
 | .un,x,as,ps,h,hr=>by
  cases h
  have hr:ps = []:=hr
  subst hr;exact .nil
 | .pr (.cp a) b,x,as,ps,h,hr=>by
  unfold uL at h
  split at h
  ·rename_i r hb
   cases h
   obtain⟨c1,c2,rfl,h1,h2⟩:=hr
   obtain⟨p,rfl⟩ : ∃p,c1 = [p]:=List.length_eq_one_iff.1 ((rep (.cp a)).len h1)
   exact .cons rfl ⟨⟨[p],h1,rfl⟩,fun m hm=>by cases hm⟩ (Bo hb h2)
  ·cases h
 | .int _,_,_,_,h,_=>by cases h
 | .bool,_,_,_,h,_=>by cases h
 | .str,_,_,_,h,_=>by cases h
 | .sl _,_,_,_,h,_=>by cases h
 | .st _,_,_,_,h,_=>by cases h
 | .cp _,_,_,_,h,_=>by cases h
 | .clo _ _,_,_,_,h,_=>by cases h
 | .tree,_,_,_,h,_=>by cases h
 | .err,_,_,_,h,_=>by cases h
 | .fl,_,_,_,h,_=>by cases h
 | .f4,_,_,_,h,_=>by cases h
 | .pr (.int _) _,_,_,_,h,_=>by cases h
 | .pr .bool _,_,_,_,h,_=>by cases h
 | .pr .str _,_,_,_,h,_=>by cases h
 | .pr (.sl _) _,_,_,_,h,_=>by cases h
 | .pr (.pr _ _) _,_,_,_,h,_=>by cases h
 | .pr (.st _) _,_,_,_,h,_=>by cases h
 | .pr .un _,_,_,_,h,_=>by cases h
 | .pr (.clo _ _) _,_,_,_,h,_=>by cases h
 | .pr .tree _,_,_,_,h,_=>by cases h
 | .pr .err _,_,_,_,h,_=>by cases h
 | .pr .fl _,_,_,_,h,_=>by cases h
 | .pr .f4 _,_,_,_,h,_=>by cases h
theorem jN.append{xs ys:List Operand}{as bs:List RA}{vs us:List Value}(h:jN F e lab w xs as vs)(h2:jN F e lab w ys bs us):jN F e lab w (xs++ys) (as++bs) (vs++us):=by
 induction h with
 |nil=>exact h2
 |cons a b _ ih=>exact .cons a b ih
theorem Fk{c:bW P}{k:Nat}{xs:List Operand}{as cs:List RA}{vs:List Value}{ts:Array TypeId}{s:Nat}{t:PT}{y:den t}{out:fw}(hs : ∃v,ev F (.tmp s)=some v∧bh (.clo c.fid t) (some y) lab w v)(hcs:uL t y=some cs)(hx:c.rs.all (fun r=>match r with | .x _ _=>false |_=>true)=true)(ha:jN F e lab w xs as vs)(hids : ∀ca:CA c.ps,aZ c.ps (as++cs)=some ca→∀p,ca.po=some p→p.1<nid)
  (hr:jH (tN c nid k (as++cs)) out) (tp:dv lab w) (gl:GL lab w) (hw:Wn ops F g) (hd:Nat.blt d N=true) :
  LW P N ops [⟨some d,.call { callee:=.value (.tmp s),args:=xs.toArray,argTypes:=ts },ty,pos,af,g⟩] F w (Fin N F e nid lab w (some d) out):=by
 obtain⟨v,h1,ds,⟨ps,h2,h3⟩,h4⟩:=hs
 have h4:ds = [v]:=h4
 rw[h2]at h4
 have hv:v = .func (.func c.fid) #[] ps.toArray:=by simpa using h4.symm
 subst hv
 exact y8 (fun R K h5 h6=>LW.callC c.fn h5 hw hd h1 ha.evs h6) hx (ha.append (Bo hcs h3)) hids hr tp gl
theorem LW.cons1{P:Program}{N:Nat}{F:List (Nat×Value)}{w:World}{K:gC}{ops:Array Oper}{o:Oper}{rest:List Oper}{Q:gC}(h:LW P N ops [o] F w Q)(hk : ∀e a' w',Q e a' w'→e = .normal∧wpList P ops K rest a' w'):LW P N ops (o::rest) F w K:=fun a ha=>by
 have hw:=h a ha
 unfold wpList at hw⊢
 split
 ·rename_i hwant
  rw[if_pos hwant]at hw
  rcases hw with hw | ⟨_,a',w',hq⟩
  ·refine .inl ?_
   unfold Oper.wp at hw⊢
   generalize (execOp a.eval o).run P w=q at hw⊢
   have nx : ∀a' w',wpList P ops Q [] a' w'→wpList P ops K rest a' w':=fun a' w' hh=>(hk _ _ _ hh).2
   cases q with
   |ok nxt w'=>
    cases nxt<;>simp only[Oper.upon]at hw⊢<;>first |exact nx _ _ hw | (refine hw.mono fun e w'' he=>?_;cases e with |returned v=>exact nx _ _ he |panicked c=>exact absurd (hk _ _ _ he).1 (by simp) |outgrown=>exact(let⟨a',w',hq⟩:=(show LetsOut Q from he);absurd (hk _ _ _ hq).1 (by simp))) |exact hw.mono fun _ _ he=>nx _ _ he |exact hw
   |halt x w'=>
    cases x<;>simp only[Oper.upon]at hw⊢<;>first |exact hw | (obtain⟨h0,_⟩:=hk _ _ _ hw;cases h0)
  ·obtain⟨h0,_⟩:=hk _ _ _ hq;cases h0
 ·rename_i hwant
  rw[if_neg hwant]at hw
  exact(hk _ _ _ hw).2
def LR:List RA→Option ((t:PT)×den t×List Nat)
 | []=>some ⟨.un,(),[]⟩
 | (.ptr _ 0,some (.box k _ t x))::r=>match LR r with
  |some ⟨t',y,ks⟩=>some ⟨.pr (.cp t) t',(some x,y),k::ks⟩
  |none=>none
 |_=>none
theorem MI{xs:List Operand}{as:List RA}{vs:List Value}(h:jN F e lab w xs as vs): ∀{t:PT} {y:den t} {ks ks':List Nat},LR as=some ⟨t,y,ks⟩→(∀k∈ks,k∈ks')→(rep t).rd (maskL ks' lab) w vs y:=by
 induction h with
 |nil=>intro t y ks ks' h _;cases h;rfl
 |cons hx ha _ ih=>
  intro t y ks ks' h hk
  unfold LR at h
  split at h
  ·rename_i heq;cases heq
  ·rename_i id k T t1 x1 r heq
   injection heq with e1 e2
   subst e1 e2
   split at h
   ·rename_i t' y' RJ hr
    cases h
    obtain⟨b1,b2⟩:=ha
    obtain⟨G,cs,c1,c2,c3⟩:=b2 _ rfl
    obtain⟨G',c4,c5⟩:=b1
    have c1:(e id).oa=some ⟨G,0,none⟩:=c1
    rw[c1]at c4;cases c4
    refine⟨[_],_,rfl,⟨⟨G,0,none⟩,cs,by rw[c5],c2.atM (hk k (by simp)),(rep t1).keep bw.maskL c3⟩,ih hr fun q hq=>hk q (by simp[hq])⟩
   ·cases h
  ·cases h
def AI(f:FuncId)(as:List RA):bQ:=
 match LR as with
 |some ⟨t,y,ks⟩=>.ret ⟨.dat (.clo f t) (some y),ks,[],[]⟩
 |none=>.stuck
theorem jM.maskL(t:dv lab w){ks:List Nat}:jM ks lab w (Gk.maskL ks lab) w:=by
 refine⟨rfl,rfl,rfl,Nat.le_refl _,fun _ _ _=>rfl,fun b hb hl=>?_,t.maskL⟩
 rcases jL ks lab b with⟨h,h2⟩ | ⟨h,_⟩
 ·rcases h2 with h2 |h2
  ·rw[h,h2]
  ·rcases hl with hl |hl
   ·rw[h,hl]
   ·have:ks.contains (lab b)=true:=by simpa using h2
    rw[this]at hl;cases hl
 ·exact h
theorem Gu{f:FuncId}{xs:List Operand}{as:List RA}{vs:List Value}{out:fw}(ha:jN F e lab w xs as vs)(hr:jH (AI f as) out)(tp:dv lab w)(hw:Wn ops F g)(hd:Nat.blt d N=true):
  LW P N ops [⟨some d,.makeFunc (.func f) #[] xs.toArray,ty,pos,af,g⟩] F w (Fin N F e nid lab w (some d) out):=by
 unfold AI at hr
 split at hr
 ·rename_i t y ks hc
  obtain rfl:=hr.ret_eq
  refine LW.gen rfl hw fun a hq=>?_
  unfold Oper.wp
  have hev:(xs.toArray.map a.eval)=vs.toArray:=by rw[List.map_toArray,hq.evals ha.evs]
  have hrun:(execOp a.eval ⟨some d,.makeFunc (.func f) #[] xs.toArray,ty,pos,af,g⟩).run P w = .ok (.value (.func (.func f) #[] vs.toArray)) w:=by
   simp only[execOp,Instr.makeFunc,hev,Sem.run_bind,Sem.run_pure,Result.andThen_ok];simp
  rw[hrun,Oper.upon_value]
  refine wpList_nil ⟨rfl,e,Gk.maskL ks lab,.func (.func f) #[] vs.toArray,hq.put hd _,fun _ _=>rfl,jM.maskL tp,?_,fun p hp=>by simp at hp,fun p hp=>by simp at hp⟩
  exact⟨[.func (.func f) #[] vs.toArray],⟨vs,rfl,MI ha hc fun _ h=>h⟩,rfl⟩
 ·cases hr
end
end Go.Gk
