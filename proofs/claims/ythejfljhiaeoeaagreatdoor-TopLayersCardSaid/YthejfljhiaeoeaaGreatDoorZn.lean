import Derived.Test.YthejfljhiaeoeaaGreatDoorZm
namespace Go.Proofs.YthejfljhiaeoeaaGreatDoor
open Go.Gk Go.RowKit
theorem Q7(n:Nat):Gk.shl 16 (n:Int)=some (aF (16*2^min n 64)):=by
 unfold Gk.shl
 rw[if_neg (by omega),Int.toNat_natCast]
theorem EP(a:Int): ∀(r k:Nat) (b:List UInt8),k+r≤1000000→b.length+r≤1000000→∃z,mG (R:=(List UInt8)) (S:=(List UInt8)) (fun _ s3=>some s3) (fun k4 s5 self6=>letm ((aC a)) fun x7=>bnd (Gk.rem (k4:Int) 8) fun x8=>letm ((aC x8)) fun x9=>letm ((8*x9)) fun x10=>bnd (c_ .u64 x7 (UInt64.toNat x10:Int)) fun x11=>letm ((ar (UInt64.toNat x11:Int))) fun x12=>bnd (quo (k4:Int) 8) fun x13=>letm ((ar x13)) fun x14=>letm ((x12+x14)) fun x15=>bnd (cO s5 [x15]) fun x16=>self6 x16) r k b=some z∧z.length=b.length+r
 |0,_,b,_,_=>⟨b,rfl,rfl⟩
 |r+1,k,b,hk,hb=>by
  have e1:Gk.rem (k:Int) 8=some ((k%8:Nat):Int):=Ml (b:=8) (by omega)
  have e2:quo (k:Int) 8=some ((k/8:Nat):Int):=Fe (b:=8) (by omega) (by omega)
  rw[rS]
  simp only[aa,e1,e2,ae]
  have hs : ∀(x:UInt64) (n:Nat),∃y:UInt64,c_ .u64 x (n:Int)=some y:=fun x n=>by
   refine⟨UInt64.ofNat (x.toNat/2^min ((n:Int)).toNat 64),?_⟩
   show pC x (n:Int)=_
   unfold pC
   rw[if_neg (by omega)]
  obtain⟨y,hy⟩:=hs (aC a) (UInt64.toNat (8*aC ((k%8:Nat):Int)))
  rw[hy]
  show ∃z,bnd (cO b [ar (UInt64.toNat y:Int)+ar ((k/8:Nat):Int)]) _=some z∧_
  rw[aD (by simp;omega),ae]
  obtain⟨z,h1,h2⟩:=EP a r (k+1) (b ++ [ar (UInt64.toNat y:Int)+ar ((k/8:Nat):Int)]) (by omega) (by simp;omega)
  simp only[aa]at h1
  exact⟨z,h1,by simp at h2;omega⟩
theorem yT(a n:Int)(h:n≤100000): ∃z,cl a n=some z∧z.length=n.toNat:=by
 unfold cl
 rw[ui (by omega),ae]
 obtain⟨z,h1,h2⟩:=EP a n.toNat 0 [] (by omega) (by simp;omega)
 exact⟨z,h1,by simpa using h2⟩
def own(a1:Int)(a2:List UInt8)(p:aj):Bool:=p.1==a1&&p.2.1==a2
theorem Jr{a1:Int}{a2:List UInt8}{p:aj}:own a1 a2 p=true↔p.1=a1∧p.2.1=a2:=by unfold own;simp
def oO:Option Nat→Int
 |some i=>(i:Int)
 |none=>-1
def xh(p:aj):Bool:=!(decide (p.1<0)||(decide (65536<p.1)||(decide (4096<(p.2.1.length:Int))||(decide (4096<(p.2.2.1.length:Int))||decide (p.2.2.2<0)))))
def nP:List aj→List aj→Bool
 |_,[]=>true
 |pre,x::rem=>xh x&&(!(pre.any (own x.1 x.2.1))&&nP (pre ++ [x]) rem)
def oI(l:List aj):Bool:=decide (l.length≤4)&&nP [] l
theorem BK{xs:List aj}{f:aj→Bool}:decide (0≤oO (xs.findIdx? f))=xs.any f:=by
 cases h:xs.findIdx? f with
 |none=>
  rw[List.findIdx?_eq_none_iff]at h
  have:xs.any f=false:=by
   rw[List.any_eq_false];intro x hx;simp[h x hx]
  rw[this];rfl
 |some i=>
  have:=List.findIdx?_isSome (xs:=xs) (p:=f)
  rw[h]at this
  rw[←this];simp[oO]
theorem vJ : ∀(rem pre:List aj),nP pre rem=true→(∀x∈rem,xh x=true∧∀p∈pre,own x.1 x.2.1 p=false)∧rem.Pairwise (fun p q=>own q.1 q.2.1 p=false)
 | [],_,_=>by simp
 |x::rem,pre,h=>by
  simp only[nP,Bool.and_eq_true,Bool.not_eq_true',List.any_eq_false,Bool.not_eq_true]at h
  obtain⟨h1,h2,h3⟩:=h
  obtain⟨i1,i2⟩:=vJ rem (pre ++ [x]) h3
  refine⟨fun y hy=>?_,List.pairwise_cons.2 ⟨fun y hy=>(i1 y hy).2 x (by simp),i2⟩⟩
  rcases List.mem_cons.1 hy with rfl |hy
  ·exact⟨h1,fun p hp=>by simpa using h2 p hp⟩
  ·exact⟨(i1 y hy).1,fun p hp=>(i1 y hy).2 p (by simp[hp])⟩
theorem Cm{p:aj}(h:xh p=true):0≤p.1∧p.1≤65536∧p.2.1.length≤4096∧p.2.2.1.length≤4096∧0≤p.2.2.2:=by
 unfold xh at h
 simp only[Bool.not_eq_true',Bool.or_eq_false_iff,decide_eq_false_iff_not]at h
 obtain⟨h1,h2,h3,h4,h5⟩:=h
 exact⟨by omega,by omega,by omega,by omega,by omega⟩
def l8(a1:Int)(a2:List UInt8)(z:Bool)(a5:Int)(p:aj):Bool:=!(decide (p.2.2.2≤a5)||(own a1 a2 p&&z))
def BM(b:eS):Bool:=decide (0≤b.1)&&decide (b.1≤1048575)&&decide (0≤b.2.2)&&decide (b.2.2≤6)
theorem xd{b:eS}:BM b=true↔0≤b.1∧b.1≤1048575∧0≤b.2.2∧b.2.2≤6:=by
 unfold BM;simp only[Bool.and_eq_true,decide_eq_true_eq]
 constructor
 ·rintro⟨⟨⟨a,b⟩,c⟩,d⟩;exact⟨a,b,c,d⟩
 ·rintro⟨a,b,c,d⟩;exact⟨⟨⟨a,b⟩,c⟩,d⟩
abbrev Il:=List aj×(List UInt8×(Bool×Int))
def FZ(ys:List aj)(p:Int)(k:List UInt8)(m:Nat)(more:Bool)(L:Nat)(c:List UInt8)(t:Int):Il:=
  match(if 0<m then(ys.find? (own p k)).bind fun x=>if x.2.2.1.length=m*L then some x.2.2.1 else none else some []:Option (List UInt8))with
  |none=>([],([],(false,15)))
  |some D=>
   if 4096<D.length+c.length then([],([],(false,8)))else
   match more,ys.findIdx? (own p k)with
   |false,some i=>(ys.eraseIdx i,(D++c,(true,0)))
   |false,none=>(ys,(D++c,(true,0)))
   |true,some i=>(ys.set i (p,(k,(D++c,t+128))),([],(false,0)))
   |true,none=>if 4≤ys.length then([],([],(false,16)))else(ys ++ [(p,(k,(D++c,t+128)))],([],(false,0)))
def uW(l:List aj)(p:Int)(k:List UInt8)(m:Nat)(z more:Bool)(L:Nat)(c:List UInt8)(t:Int):Il:=
  if(more=true∧c.length≠L)∨(more=false∧(L<c.length∨c.length=0∧0<m))then([],([],(false,4)))else
  FZ (l.filter (l8 p k z t)) p k m more L c t
def MO(l:List aj)(p:Int)(k:List UInt8)(b:eS)(c:List UInt8)(t:Int):Il:=
 if oI l=true∧0≤p∧p≤65536∧k.length≤4096∧BM b=true∧0≤t∧t≤1073741824 then uW l p k b.1.toNat (b.1==0) b.2.1 (16*2^b.2.2.toNat) c t
 else([],([],(false,1)))
theorem M4{l:List aj}{p:Int}{k:List UInt8}{b:eS}{c:List UInt8}{t:Int}(hv:oI l=true)(h1:0≤p)(h2:p≤65536)(h3:k.length≤4096)(hs:BM b=true)(h4:0≤t)(h5:t≤1073741824):
  MO l p k b c t=uW l p k b.1.toNat (b.1==0) b.2.1 (16*2^b.2.2.toNat) c t:=by
 unfold MO;rw[if_pos ⟨hv,h1,h2,h3,hs,h4,h5⟩]
section
variable {l ys : List aj} {p : Int} {k : List UInt8} {c : List UInt8} {t : Int} {z : Bool} {L m : Nat}
theorem IK(hy:l.filter (l8 p k z t)=ys)(hc:c.length=L)(hL:L≤4096)(hn:ys.findIdx? (own p k)=none)(hl:ys.length<4):
  uW l p k 0 z true L c t=(ys ++ [(p,(k,(c,t+128)))],([],(false,0))):=by
 unfold uW FZ
 rw[hy,if_neg (by simp[hc])]
 have h5 : ¬4096<0+c.length:=by omega
 have h6 : ¬4≤ys.length:=by omega
 simp only[Nat.lt_irrefl,if_false,List.length_nil,h5,hn,h6,List.nil_append]
theorem Hj{i:Nat}{x:aj}(hy:l.filter (l8 p k z t)=ys)(hm:0<m)(hc:c.length=L)(hf:ys.find? (own p k)=some x)(hi:ys.findIdx? (own p k)=some i)(hx:x.2.2.1.length=m*L)(hL:x.2.2.1.length+L≤4096):
  uW l p k m z true L c t=(ys.set i (p,(k,(x.2.2.1++c,t+128))),([],(false,0))):=by
 unfold uW FZ
 have h5 : ¬4096<x.2.2.1.length+c.length:=by omega
 rw[hy,if_neg (by simp[hc]),if_pos hm,hf,Option.bind_some,if_pos hx,hi]
 simp only[h5,if_false]
theorem Jy(hy:l.filter (l8 p k z t)=ys)(hc:c.length≤L)(hL:L≤4096)(hn:ys.findIdx? (own p k)=none):
  uW l p k 0 z false L c t=(ys,(c,(true,0))):=by
 unfold uW FZ
 have h4 : ¬L<c.length:=by omega
 have h5 : ¬4096<0+c.length:=by omega
 rw[hy,if_neg (by simp[h4]),hn]
 simp only[Nat.lt_irrefl,if_false,List.length_nil,h5,List.nil_append]
theorem GA{i:Nat}{x:aj}(hy:l.filter (l8 p k z t)=ys)(hm:0<m)(hc:c.length≤L)(hc0:0<c.length)(hf:ys.find? (own p k)=some x)(hi:ys.findIdx? (own p k)=some i)(hx:x.2.2.1.length=m*L)(hL:x.2.2.1.length+L≤4096):
  uW l p k m z false L c t=(ys.eraseIdx i,(x.2.2.1++c,(true,0))):=by
 unfold uW FZ
 have h4 : ¬L<c.length:=by omega
 have h5 : ¬4096<x.2.2.1.length+c.length:=by omega
 have h7 : ¬c.length=0:=by omega
 rw[hy,if_neg (by simp[h4,hm];intro h;simp[h]at hc0),if_pos hm,hf,Option.bind_some,if_pos hx,hi]
 simp only[h5,if_false]
end
theorem yS(b:eS):ic b=some (BM b):=by
 unfold ic BM
 simp only[aa,iz,ae,Bool.and_assoc]
theorem ER(a1:Int)(a2:List UInt8): ∀(xs:List aj) (k:Nat),a6 (R:=Int) (S:=Unit) (α:=aj) (fun _ _=>some (-1)) (fun x5 k6 _ self8=>cond (x5.1==a1&&x5.2.1==a2) (some (k6:Int)) (self8 ())) xs k ()=some (match xs.findIdx? (own a1 a2)with |some i=>((k+i:Nat):Int) |none=>-1)
 | [],_=>rfl
 |x::xs,k=>by
  rw[bj,List.findIdx?_cons]
  show cond (own a1 a2 x) _ _=_
  cases h:own a1 a2 x with
  |true=>simp[a7]
  |false=>
   rw[ay,ER a1 a2 xs (k+1)]
   cases xs.findIdx? (own a1 a2)with
   |none=>rfl
   |some i=>
    have e:((k+1+i:Nat):Int)=((k+(i+1):Nat):Int):=by omega
    exact congrArg some e
theorem EB(xs:List aj)(a1:Int)(a2:List UInt8):iT xs a1 a2=some (oO (xs.findIdx? (own a1 a2))):=by
 unfold iT bD
 simp only[aa,ae,iz]
 rw[ER]
 cases xs.findIdx? (own a1 a2)with
 |none=>rfl
 |some i=>simp[oO]
theorem Lu{α:Type}(pre rem:List α):Gk.cut (pre++rem) 0 ((pre.length:Nat):Int)=some pre:=by
 have:=gn (xs:=pre++rem) (lo:=0) (hi:=pre.length) (by omega) (by simp)
 rw[show((0:Nat):Int)=0 from rfl]at this
 rw[this];simp
theorem F4(pre:List aj)(x:aj)(rem:List aj):nP pre (x::rem)=(xh x&&(!(pre.any (own x.1 x.2.1))&&nP (pre ++ [x]) rem)):=rfl
theorem Ci : ∀(rem pre:List aj),a6 (R:=Bool) (S:=Unit) (α:=aj) (fun _ _=>some true) (fun x4 k5 _ self7=>
  bnd (cond (decide (x4.1<0)) (some true) (cond (decide (65536<x4.1)) (some true) (cond (decide (4096<(x4.2.1.length:Int))) (some true) (cond (decide (4096<(x4.2.2.1.length:Int))) (some true) (cond (decide (x4.2.2.2<0)) (some true) (bnd (Gk.cut (pre++rem) 0 (k5:Int)) fun x13=>bnd (iT x13 x4.1 x4.2.1) fun x14=>some (decide (0≤x14)))))))) fun v16=>cond v16 (some false) (self7 ())) rem pre.length ()=some (nP pre rem)
 | [],_=>rfl
 |x::rem,pre=>by
  have ih:=Ci rem (pre ++ [x])
  rw[List.append_assoc,List.singleton_append,List.length_append,List.length_singleton]at ih
  rw[bj,ih]
  simp only[Lu,EB,BK,ae,oQ,A4]
  rw[F4]
  unfold xh
  refine congrArg some ?_
  simp only[Bool.not_or,Bool.and_assoc]
theorem FR(l:List aj):kA l=some (oI l):=by
 unfold kA oI
 have:=Ci l []
 simp only[List.nil_append,List.length_nil]at this
 simp only[aa]
 rw[this,A4]
 have:decide (l.length≤4)=!decide (4<(l.length:Int)):=by
  by_cases h:4<(l.length:Int)
  ·rw[decide_eq_true h,decide_eq_false (by omega)];rfl
  ·rw[decide_eq_false h,decide_eq_true (by omega)];rfl
 rw[this]
theorem Ah(a1:Int)(a2:List UInt8)(z:Bool)(a5:Int): ∀(rem:List aj) (k:Nat) (acc:List aj),acc.length+rem.length≤100→(∀p∈rem,p.2.1.length≤4096∧p.2.2.1.length≤4096)→
  a6 (R:=(List aj)) (S:=(List aj)) (α:=aj) (fun _ s6=>some s6) (fun x7 _ s9 self10=>
   bnd (cond (decide (x7.2.2.2≤a5)||(z&&(x7.1==a1&&x7.2.1==a2))) (some s9) (bnd (aY x7.2.1) fun x15=>bnd (aY x7.2.2.1) fun x16=>bnd (cO s9 [(x7.1,(x15,(x16,x7.2.2.2)))]) fun x17=>some x17)) fun v18=>self10 v18) rem k acc
  = some (acc++rem.filter (l8 a1 a2 z a5))
 | [],_,acc,_,_=>by simp[eU]
 |x::rem,k,acc,hl,hb=>by
  rw[bj]
  simp only[List.length_cons]at hl
  obtain⟨hk,hd⟩:=hb x (by simp)
  have e:(decide (x.2.2.2≤a5)||(z&&(x.1==a1&&x.2.1==a2)))=!(l8 a1 a2 z a5 x):=by
   unfold l8 own
   cases decide (x.2.2.2≤a5)<;>cases z<;>cases x.1==a1<;>cases x.2.1==a2<;>rfl
  rw[e,List.filter_cons]
  cases l8 a1 a2 z a5 x with
  |false=>
   simp only[Bool.not_false,a7,ae]
   rw[Ah a1 a2 z a5 rem (k+1) acc (by omega) (fun p hp=>hb p (by simp[hp]))]
   simp
  |true=>
   simp only[Bool.not_true,ay,eY (show x.2.1.length≤1000000 by omega),eY (show x.2.2.1.length≤1000000 by omega),ae]
   rw[aD (by simp;omega),ae,ae,Ah a1 a2 z a5 rem (k+1) _ (by simp;omega) (fun p hp=>hb p (by simp[hp]))]
   simp
theorem KO(a1:Int)(a2:List UInt8)(z:Bool)(a5:Int)(l:List aj)(hl:l.length≤100)(hb : ∀p∈l,p.2.1.length≤4096∧p.2.2.1.length≤4096):jK l a1 a2 z a5=some (l.filter (l8 a1 a2 z a5)):=by
 unfold jK bD
 simp only[aa,ae,iz,oQ]
 rw[Ah a1 a2 z a5 l 0 [] (by simp;omega) hb,List.nil_append]
theorem AY{z:Nat}(h:z≤6):eZ (z:Int)=some ((16*2^z:Nat):Int):=by
 have h2:2^z≤2^6:=Nat.pow_le_pow_right (by omega) h
 have e:Gk.shl 16 (z:Int)=some ((16*2^z:Nat):Int):=by
  rw[Q7,Nat.min_eq_left (by omega)]
  have:((16:Int)*2^z)=((16*2^z:Nat):Int):=by push_cast;rfl
  rw[this,ap (by omega) (by omega)]
 unfold eZ;rw[e];rfl
theorem MD{ρ ρ' Y:Type}{X:Option (ρ⊕Y)}{w:ρ→ρ'}{K:Y→Option ρ'}{y:Y}{r:Option ρ'}(h:X=some (.inr y))(h2:K y=r):fI X w K=r:=by rw[h];exact h2
theorem H'{ρ ρ' Y:Type}{X:Option (ρ⊕Y)}{w:ρ→ρ'}{K:Y→Option ρ'}{q:ρ}(h:X=some (.inl q)):fI X w K=some (w q):=by rw[h];rfl
def Mr(a0:List aj)(a1:Int)(a2:List UInt8)(a3:eS)(a5:Int):Bool:=
 !oI a0||(decide (a1<0)||(decide (65536<a1)||(decide (4096<(a2.length:Int))||(!BM a3||(decide (a5<0)||decide (1073741824<a5))))))
theorem Cj{a0:List aj}{a1:Int}{a2:List UInt8}{a3:eS}{a5:Int}:Mr a0 a1 a2 a3 a5=false↔oI a0=true∧0≤a1∧a1≤65536∧a2.length≤4096∧BM a3=true∧0≤a5∧a5≤1073741824:=by
 unfold Mr
 simp only[Bool.or_eq_false_iff,Bool.not_eq_false',decide_eq_false_iff_not]
 constructor
 ·rintro⟨h1,h2,h3,h4,h5,h6,h7⟩;exact⟨h1,by omega,by omega,by omega,h5,by omega,by omega⟩
 ·rintro⟨h1,h2,h3,h4,h5,h6,h7⟩;exact⟨h1,by omega,by omega,by omega,h5,by omega,by omega⟩
def yR(more:Bool)(c L m:Nat):Bool:=cond more (!(c==L)) (decide (L<c)||(c==0&&decide (0<m)))
theorem yv{more:Bool}{c L m:Nat}:yR more c L m=true↔((more=true∧c≠L)∨(more=false∧(L<c∨c=0∧0<m))):=by
 unfold yR
 cases more<;>simp
theorem K3(more:Bool)(c L m:Nat):(cond more (some (!((c:Int)==(L:Int))||(!more&&(decide ((L:Int)<(c:Int))||(((c:Int)==0)&&decide (0<(m:Int))))))) (some (!more&&(decide ((L:Int)<(c:Int))||(((c:Int)==0)&&decide (0<(m:Int)))))):Option Bool)=some (yR more c L m):=by
 have e1:((c:Int)==(L:Int))=(c==L):=by
  by_cases h:c=L
  ·subst h;simp
  ·rw[beq_eq_false_iff_ne.2 h,beq_eq_false_iff_ne];omega
 have e2:((c:Int)==0)=(c==0):=by
  by_cases h:c=0
  ·subst h;rfl
  ·rw[beq_eq_false_iff_ne.2 h,beq_eq_false_iff_ne];omega
 have e3:decide ((L:Int)<(c:Int))=decide (L<c):=decide_eq_decide.2 (by omega)
 have e4:decide (0<(m:Int))=decide (0<m):=decide_eq_decide.2 (by omega)
 rw[e1,e2,e3,e4]
 unfold yR
 cases more
 ·rfl
 ·show some (_||(false&&_))=some _
  rw[Bool.false_and,Bool.or_false];rfl
def Fz(ys:List aj)(p:Int)(k:List UInt8)(m L:Nat):Option (List UInt8):=
 if 0<m then(ys.find? (own p k)).bind fun x=>if x.2.2.1.length=m*L then some x.2.2.1 else none else some []
theorem Ki(ys:List aj)(p:Int)(k:List UInt8)(m:Nat)(more:Bool)(L:Nat)(c:List UInt8)(t:Int):FZ ys p k m more L c t=match Fz ys p k m L with
  |none=>([],([],(false,15)))
  |some D=>
   if 4096<D.length+c.length then([],([],(false,8)))else
   match more,ys.findIdx? (own p k)with
   |false,some i=>(ys.eraseIdx i,(D++c,(true,0)))
   |false,none=>(ys,(D++c,(true,0)))
   |true,some i=>(ys.set i (p,(k,(D++c,t+128))),([],(false,0)))
   |true,none=>if 4≤ys.length then([],([],(false,16)))else(ys ++ [(p,(k,(D++c,t+128)))],([],(false,0))):=rfl
theorem JA{ys:List aj}{p:Int}{k:List UInt8}{m L:Nat}{D:List UInt8}(hb : ∀p∈ys,p.2.1.length≤4096∧p.2.2.1.length≤4096)(h:Fz ys p k m L=some D):D.length≤4096:=by
 unfold Fz at h
 by_cases h0:0<m
 ·rw[if_pos h0]at h
  obtain⟨x,hx1,hx2⟩:=Option.bind_eq_some_iff.1 h
  have hxm:=List.mem_of_find?_eq_some hx1
  split at hx2
  ·cases hx2;exact(hb x hxm).2
  ·cases hx2
 ·rw[if_neg h0]at h;cases h;simp
theorem Cc{ys:List aj}{f:aj→Bool}:(ys.findIdx? f=none∧ys.find? f=none)∨∃(i:Nat) (hi:i<ys.length),ys.findIdx? f=some i∧ys.find? f=some ys[i]∧f ys[i]=true:=by
 cases hf:ys.findIdx? f with
 |none=>
  refine .inl ⟨rfl,?_⟩
  rw[List.find?_eq_none];rw[List.findIdx?_eq_none_iff]at hf;intro x hx;rw[hf x hx];simp
 |some i=>
  obtain⟨hi,ho,hj⟩:=List.findIdx?_eq_some_iff_getElem.1 hf
  refine .inr ⟨i,hi,rfl,?_,ho⟩
  rw[List.find?_eq_some_iff_getElem]
  exact⟨ho,i,hi,rfl,fun j hj'=>by rw[Bool.eq_false_iff.2 (hj j hj')];rfl⟩
theorem Ox(ys:List aj)(p:Int)(k:List UInt8)(m L:Nat)(hm:m*L≤2000000000)(q:Il):
  (cond (decide (0<(m:Int))) (bnd (cond (decide (oO (ys.findIdx? (own p k))<0)) (some true) (bnd (aV ys (oO (ys.findIdx? (own p k)))) fun _=>bnd (aV ys ((oO (ys.findIdx? (own p k))).toNat:Int)) fun x33=>some (!((x33.2.2.1.length:Int)==aF ((m:Int)*(L:Int)))))) fun v36=>
    cond v36 (some (.inl q)) (bnd (aV ys (oO (ys.findIdx? (own p k)))) fun _=>bnd (aV ys ((oO (ys.findIdx? (own p k))).toNat:Int)) fun x38=>some (.inr x38.2.2.1)))
   (some (.inr [])):Option (Il⊕List UInt8))
  = match Fz ys p k m L with |none=>some (.inl q) |some D=>some (.inr D):=by
 have w3:aF ((m:Int)*(L:Int))=((m*L:Nat):Int):=by rw[←Int.natCast_mul,ap (by omega) (by omega)]
 rw[w3]
 unfold Fz
 by_cases h0:0<m
 ·rw[decide_eq_true (show 0<(m:Int) by omega),if_pos h0]
  rcases Cc (ys:=ys) (f:=own p k)with⟨h1,h2⟩ | ⟨i,hi,h1,h2,_⟩
  ·rw[h1,h2];rfl
  ·have hidx:aV ys (i:Int)=some ys[i]:=aM (List.getElem?_eq_getElem hi)
   have d1:decide ((i:Int)<0)=false:=decide_eq_false (by omega)
   rw[h1,h2]
   simp only[oO,hidx,d1,a7,ay,ae,Int.toNat_natCast,Option.bind_some]
   by_cases hq:ys[i].2.2.1.length=m*L
   ·have:((ys[i].2.2.1.length:Int)==((m*L:Nat):Int))=true:=by rw[hq];simp
    rw[this,if_pos hq];rfl
   ·have:((ys[i].2.2.1.length:Int)==((m*L:Nat):Int))=false:=by rw[beq_eq_false_iff_ne];omega
    rw[this,if_neg hq];rfl
 ·rw[decide_eq_false (show ¬0<(m:Int) by omega),if_neg h0];rfl
theorem JY(a0:List aj)(a1:Int)(a2:List UInt8)(a3:eS)(a4:List UInt8)(a5:Int)(h4:a4.length≤100000):jC a0 a1 a2 a3 a4 a5=some (MO a0 a1 a2 a3 a4 a5):=by
 unfold jC
 refine ac (y:=Mr a0 a1 a2 a3 a5) (by simp only[aa,FR,yS,ae,oQ];rfl) ?_
 unfold MO
 cases hA:Mr a0 a1 a2 a3 a5 with
 |true=>rw[if_neg (fun h=>by rw[Cj.2 h]at hA;cases hA)];rfl
 |false=>
 have hA':=Cj.1 hA
 rw[if_pos hA',ay]
 obtain⟨hv,h1,h2,h3,hs,h5,h6⟩:=hA'
 obtain⟨hn1,hn2,hz1,hz2⟩:=xd.1 hs
 obtain⟨num,more,size⟩:=a3
 simp only at hn1 hn2 hz1 hz2
 obtain⟨z,rfl⟩ : ∃z:Nat,size=(z:Int):=⟨size.toNat,by omega⟩
 obtain⟨m,rfl⟩ : ∃m:Nat,num=(m:Int):=⟨num.toNat,by omega⟩
 refine ac (AY (z:=z) (by omega)) ?_
 unfold oI at hv
 simp only[Bool.and_eq_true,decide_eq_true_eq]at hv
 obtain⟨hl,hv⟩:=hv
 obtain⟨hg,hd⟩:=vJ a0 [] hv
 have hb : ∀p∈a0,p.2.1.length≤4096∧p.2.2.1.length≤4096:=fun p hp=>⟨(Cm (hg p hp).1).2.2.1,(Cm (hg p hp).1).2.2.2.1⟩
 have hp2:2^z≤2^6:=Nat.pow_le_pow_right (by omega) (by omega)
 have hL:16*2^z≤1024:=by omega
 simp only[Int.toNat_natCast]
 generalize 16*2^z=L at hL⊢
 have hmL:m*L≤1048575*1024:=Nat.mul_le_mul (by omega) hL
 refine ac (y:=yR more a4.length L m) (by simp only[aa,bne,oQ,iz];exact K3 more a4.length L m) ?_
 unfold uW
 cases hF:yR more a4.length L m with
 |true=>rw[if_pos (yv.1 hF)];rfl
 |false=>
 rw[if_neg (fun h=>by rw[yv.2 h]at hF;cases hF),ay]
 refine ac (KO a1 a2 ((m:Int)==0) a5 a0 (by omega) hb) ?_
 have hyb : ∀p∈a0.filter (l8 a1 a2 ((m:Int)==0) a5),p.2.1.length≤4096∧p.2.2.1.length≤4096:=fun p hp=>hb p (List.mem_filter.1 hp).1
 have hyl:(a0.filter (l8 a1 a2 ((m:Int)==0) a5)).length≤4:=Nat.le_trans (List.length_filter_le _ _) hl
 generalize a0.filter (l8 a1 a2 ((m:Int)==0) a5)=ys at hyb hyl⊢
 refine ac (EB ys a1 a2) ?_
 rw[Ki]
 have ho:=Ox ys a1 a2 m L (by omega) ([],([],(false,15)))
 cases hO:Fz ys a1 a2 m L with
 |none=>rw[hO]at ho;exact H' (by simp only[aa,bne];exact ho)
 |some D=>
 rw[hO]at ho
 refine MD (y:=D) (by simp only[aa,bne];exact ho) ?_
 have hD:D.length≤4096:=JA hyb hO
 have w1:aF ((D.length:Int)+(a4.length:Int))=((D.length+a4.length:Nat):Int):=by rw[ap (by omega) (by omega)];simp
 have w2:aF (a5+128)=a5+128:=ap (by omega) (by omega)
 have d4:decide (4096<((D.length+a4.length:Nat):Int))=decide (4096<D.length+a4.length):=decide_eq_decide.2 (by omega)
 have ck:jl D=some D:=eY (by omega)
 have ca:cO D a4=some (D++a4):=aD (by omega)
 simp only[aa,w1,w2,d4,ck,ca,ae,iz]
 by_cases h5':4096<D.length+a4.length
 ·rw[decide_eq_true h5',if_pos h5'];rfl
 rw[decide_eq_false h5',if_neg h5',ay]
 rcases Cc (ys:=ys) (f:=own a1 a2)with⟨hf,_⟩ | ⟨i,hi,hf,_,ho'⟩
 ·rw[hf]
  simp only[oO]
  have d2:decide ((0:Int)≤ -1)=false:=by decide
  cases more with
  |false=>rfl
  |true=>
   simp only[Bool.not_true,Bool.false_and,ay,d2]
   by_cases h6':4≤ys.length
   ·rw[decide_eq_true (show(4:Int)≤(ys.length:Int) by omega),if_pos h6'];rfl
   ·rw[decide_eq_false (show ¬(4:Int)≤(ys.length:Int) by omega),if_neg h6']
    have c2:jl a2=some a2:=eY (by omega)
    rw[ay,c2,ae,aD (by simp;omega)];rfl
 ·obtain⟨o1,o2⟩:=Jr.1 ho'
  rw[hf]
  simp only[oO]
  have hidx:aV ys (i:Int)=some ys[i]:=aM (List.getElem?_eq_getElem hi)
  have d2:decide ((0:Int)≤(i:Int))=true:=decide_eq_true (by omega)
  cases more with
  |false=>
   have w4:aF ((i:Int)+1)=((i+1:Nat):Int):=by rw[ap (by omega) (by omega)];rfl
   have c0:Gk.cut ys 0 (i:Int)=some ((ys.take i).drop 0):=gn (lo:=0) (by omega) (by omega)
   have c1:Gk.cut ys ((i+1:Nat):Int) (ys.length:Int)=some ((ys.take ys.length).drop (i+1)):=gn (by omega) (by omega)
   simp only[Bool.not_false,Bool.true_and,a7,ae,d2,w4,c0,c1]
   rw[aD (by simp;omega)]
   simp only[ae,List.drop_zero,List.take_length,List.eraseIdx_eq_take_drop_succ]
   rfl
  |true=>
   simp only[Bool.not_true,Bool.false_and,ay,ae,d2,a7,hidx,Int.toNat_natCast]
   have g2:aV (ys.set i (ys[i].1,(ys[i].2.1,(D++a4,ys[i].2.2.2)))) (i:Int)=some (ys[i].1,(ys[i].2.1,(D++a4,ys[i].2.2.2))):=aM (by rw[List.getElem?_set_self hi])
   rw[g2]
   simp only[ae,List.set_set,o1,o2]
   rfl
set_option maxRecDepth 100000
structure Mg(k b:Nat)(m:am):Prop where
 t0:0≤m.1
 t1:m.1≤1
 cd:m.2.1∈([1,2,5,69,132]:List Int)
 i0:0≤m.2.2.1
 i1:m.2.2.1≤65535
 tok:m.2.2.2.1.length≤4
 ol:m.2.2.2.2.1.length≤k
 srt:yg b m.2.2.2.2.1
 pay:m.2.2.2.2.2.length≤20
theorem Mg.len{k b:Nat}{m:am}(h:Mg k b m)(hk:k≤100000)(hb:b≤100000):HN m:=
 ⟨by have:=h.tok;omega,⟨by have:=h.ol;omega,fun o ho=>by have:=h.srt.val o ho;omega⟩,by have:=h.pay;omega⟩
theorem DV : ∀(k f:Nat) (j:Nat) (d:ab) (l:List ai),k<f→k+j≤5→bt d→l.length≤j→yg 5 l→∃l' d',bo (R:=((List ai)×ab)) (S:=(Int×(ab×am))) (fun self5 s4=>
  letm (decide (0<s4.1)) fun x6=>cond x6 (bnd (dM) fun x7=>bnd (ah s4.2.1 24) fun x8=>bnd (aV x7 x8.1) fun x9=>bnd (dY s4.2.2 x9) fun x10=>bnd (aH x8.2 5) fun x11=>bnd (cO x10 [x11.1]) fun x12=>bnd (dP s4.2.2 x9 x12) fun x13=>letm ((aF (s4.1-1))) fun x14=>self5 (x14,(x11.2,x13))) (some (s4.2.2.2.2.2.2.1,s4.2.1))) f ((k:Int),(d,((0,(0,(0,([],(l,[]))))):am)))=some (l',d')∧bt d'∧l'.length≤5∧yg 5 l':=by
 intro k
 induction k with
 |zero=>
  intro f j d l hf hj hd hl hs
  obtain⟨f,rfl⟩ : ∃g,f=g+1:=⟨f-1,by omega⟩
  refine⟨l,d,?_,hd,by omega,hs⟩
  have d0:decide ((0:Int)<((0:Nat):Int))=false:=rfl
  rw[bS,aa]
  simp only[d0,ay]
 |succ k ih=>
  intro f j d l hf hj hd hl hs
  obtain⟨f,rfl⟩ : ∃g,f=g+1:=⟨f-1,by omega⟩
  obtain⟨v,d1,e1,l1,u1,h1⟩:=bI hd (n:=24) (by omega) (by omega)
  obtain⟨x,e2,hx⟩:=qM ([1,3,4,6,8,11,11,12,14,15,17,23,27,28,35,60,252,258,292,9,2,13,300,65535]:List Int) l1 (by show v<24;omega)
  have hx2:0≤x∧x≤65535:=by
   have : ∀y∈([1,3,4,6,8,11,11,12,14,15,17,23,27,28,35,60,252,258,292,9,2,13,300,65535]:List Int),0≤y∧y≤65535:=by decide
   exact this x hx
  obtain⟨b,d2,e3,l3,h3⟩:=sJ h1 (n:=5) (by omega)
  have e3':aH d1 5=some (b,d2):=e3
  have hal:=HY l x
  have hL:HN ((0,(0,(0,([],(l,[]))))):am):=⟨by simp,⟨by show l.length≤1000000;omega,fun o ho=>by have:=hs.val o ho;omega⟩,by simp⟩
  have e4:dY ((0,(0,(0,([],(l,[]))))):am) x=some (uS l x):=by rw[QQ,Mt hL.2.1]
  have hvs : ∀w∈uS l x ++ [b],w.length≤5:=fun w hw=>by
   rcases List.mem_append.1 hw with hw |hw
   ·obtain⟨o,ho,rfl⟩:=HZ hw;exact hs.val o ho
   ·rw[List.mem_singleton.1 hw];omega
  have e5:dP ((0,(0,(0,([],(l,[]))))):am) x (uS l x ++ [b])=some (0,(0,(0,([],(uV l x (uS l x ++ [b]),[]))))):=
   Lw hL (by show l.length≤400000;omega) (by simp;omega) fun w hw=>by have:=hvs w hw;omega
  have dk:decide ((0:Int)<((k+1:Nat):Int))=true:=decide_eq_true (by omega)
  have wk:aF (((k+1:Nat):Int)-1)=(k:Int):=by rw[ap (by omega) (by omega)];omega
  have ea:cO (uS l x) [b]=some (uS l x ++ [b]):=aD (by simp;omega)
  rw[bS]
  unfold dM
  simp only[aa,dk,a7,e1,e2,e3',e4,ea,e5,ae,wk]
  obtain⟨m',d',g1,g2,g3⟩:=ih f (j+1) d2 _ (by omega) (by omega) h3 (by have:=GC l x b;omega) (hs.set hx2.1 hx2.2 hvs)
  unfold dM at g1
  simp only[aa,ae]at g1
  exact⟨m',d',g1,g2,g3⟩
theorem zW{d:ab}(h:bt d): ∃l d',dE d 5=some (l,d')∧bt d'∧l.length≤5∧yg 5 l:=by
 unfold dE
 rw[aa,ap (by omega) (by omega)]
 obtain⟨v,d1,h2,v0,v1,h3⟩:=bI h (n:=(5:Int)+1) (by omega) (by omega)
 rw[h2,ae]
 obtain⟨k,rfl⟩ : ∃k:Nat,v=(k:Int):=⟨v.toNat,by omega⟩
 exact DV k cS 0 d1 [] (by rw[dU];omega) (by omega) h3 (by simp) ⟨List.Pairwise.nil,by simp,by simp⟩
theorem tR{d:ab}(h:bt d){c:Int}(hc:c∈([1,2,5,69,132]:List Int)): ∃m d',dw d c=some (m,d')∧bt d'∧Mg 5 5 m:=by
 unfold dw
 obtain⟨v2,d2,e2,l2,u2,h2⟩:=bI h (n:=2) (by omega) (by omega)
 obtain⟨v3,d3,e3,l3,u3,h3⟩:=bI h2 (n:=65536) (by omega) (by omega)
 obtain⟨b4,d4,e4,l4,h4⟩:=sJ h3 (n:=4) (by omega)
 have e4':aH d3 4=some (b4,d4):=e4
 obtain⟨l5,d5,e5,h5,s5,t5⟩:=zW h4
 obtain⟨b6,d6,e6,l6,h6⟩:=sJ h5 (n:=20) (by omega)
 have e6':aH d5 20=some (b6,d6):=e6
 have hm:Mg 5 5 (v2,(c,(v3,(b4,(l5,b6))))):=⟨l2,by show v2≤1;omega,hc,l3,by show v3≤65535;omega,l4,s5,t5,l6⟩
 have c0:(c==0)=false:=by
  rw[beq_eq_false_iff_ne]
  rintro rfl
  revert hc;decide
 simp only[e2,e3,e4',e5,e6',c0,aa,ay,ae,Oq (hm.len (by omega) (by omega))]
 exact⟨_,_,rfl,h6,hm⟩
theorem Mg.val{m:am}(h:Mg 5 5 m):CZ m=true∧(qd m).length≤100:=by
 have ho:mo 0 m.2.2.2.2.1=true:=h.srt.opts (by omega) fun o ho=>(h.srt.num o ho).1
 have hcs : ∀y∈([1,2,5,69,132]:List Int),1≤y∧y≤191∧Ow (y/32)=true:=by decide
 have hc:=hcs _ h.cd
 have h1:=h.t0;have h2:=h.t1;have h3:=h.i0;have h4:=h.i1;have h5:=h.tok;have h6:=h.ol;have h7:=h.pay
 have e1:(m.2.1==0)=false:=by rw[beq_eq_false_iff_ne];omega
 have e2:(m.1==3)=false:=by rw[beq_eq_false_iff_ne];omega
 have e3:=JG h.srt.val
 have e4:=CC m.2.2.2.2.1 0
 have hlen:(qd m).length≤100:=by
  have e5:(nf m.2.2.2.2.2).length≤21:=by
   unfold nf
   cases decide (0<(m.2.2.2.2.2.length:Int))with
   |true=>rw[cond_true,List.length_cons];omega
   |false=>simp
  have e6:=Nat.mul_le_mul_right 10 h6
  unfold qd
  simp only[List.length_append,List.length_cons,List.length_nil]
  omega
 refine⟨?_,hlen⟩
 unfold CZ
 rw[Bool.and_eq_true]
 constructor
 ·unfold C5
  rw[ho,hc.2.2,e1,e2]
  simp only[Bool.false_and,Bool.not_false,Bool.and_true,Bool.and_eq_true,Bool.not_eq_true',decide_eq_false_iff_not,decide_eq_true_eq]
  omega
 ·exact decide_eq_true (by omega)
theorem Lt{c:List UInt8}{k z:Nat}(hz:z≤3)(hk:k*(16*2^z)<c.length)(hc:c.length≤3000):kC c (k:Int) (z:Int)=some ((c.drop (k*(16*2^z))).take (16*2^z),(decide (k*(16*2^z)+16*2^z<c.length),0)):=by
 have hL2:16*2^z≤128:=by
  have:2^z≤2^3:=Nat.pow_le_pow_right (by omega) hz
  omega
 have hL1:16≤16*2^z:=by have:=Nat.one_le_two_pow (n:=z);omega
 have hbl:=AY (z:=z) (by omega)
 generalize 16*2^z=L at hL1 hL2 hk hbl⊢
 have hkk:k≤4000:=by
  have:k*16≤k*L:=Nat.mul_le_mul_left _ hL1
  omega
 have hkL:((k:Int)*(L:Int))=((k*L:Nat):Int):=by push_cast;rfl
 unfold kC
 have hs:ic ((k:Int),(false,(z:Int)))=some true:=by
  rw[yS]
  refine congrArg some (xd.2 ⟨?_,?_,?_,?_⟩)
  ·show 0≤(k:Int);omega
  ·show(k:Int)≤1048575;omega
  ·show 0≤(z:Int);omega
  ·show(z:Int)≤6;omega
 refine ac hs ?_
 rw[aa,Bool.not_true,ay]
 refine ac hbl ?_
 rw[aa,hkL,ap (x:=((k*L:Nat):Int)) (by omega) (by omega)]
 refine ac (y:=false) ?_ ?_
 ·rw[aa,decide_eq_false (by omega),ay]
 rw[ay]
 refine ac hbl ?_
 rw[aa,ap (x:=((k*L:Nat):Int)+(L:Int)) (by omega) (by omega),aa]
 have hmin:min (c.length:Int) (((k*L:Nat):Int)+(L:Int))=((min c.length (k*L+L):Nat):Int):=by omega
 rw[hmin]
 have hcut:Gk.cut c ((k*L:Nat):Int) ((min c.length (k*L+L):Nat):Int)=some ((c.drop (k*L)).take L):=by
  rw[gn (by omega) (by omega)]
  refine congrArg some ?_
  rw[List.drop_take]
  rcases Nat.lt_or_ge c.length (k*L+L)with h |h
  ·rw[Nat.min_eq_left (by omega),List.take_of_length_le (by rw[List.length_drop];omega),List.take_of_length_le (by rw[List.length_drop];omega)]
  ·rw[Nat.min_eq_right (by omega),show k*L+L-k*L=L by omega]
 refine ac hcut (ac (eY (by rw[List.length_take];omega)) ?_)
 rw[aa]
 refine congrArg (fun q:Bool=>some ((c.drop (k*L)).take L,(q,(0:Int)))) ?_
 rw[Bool.eq_iff_iff,decide_eq_true_eq,decide_eq_true_eq]
 omega
def mj(c:List UInt8)(L k:Nat):List aj:=if k=0 then []else [((1:Int),(([]:List UInt8),(c.take (k*L),(k:Int)+127)))]
theorem CY{c:List UInt8}{L k:Nat}(hc:c.length≤3000):oI (mj c L k)=true:=by
 unfold mj
 by_cases h:k=0
 ·rw[if_pos h];rfl
 ·rw[if_neg h]
  unfold oI nP nP xh
  have h1 : ¬(4096:Int)<((c.take (k*L)).length:Int):=by rw[List.length_take];omega
  have h2 : ¬((k:Int)+127<0):=by omega
  simp only[List.length_cons,List.length_nil,List.any_nil,Bool.not_false,Bool.true_and,Bool.and_true]
  rw[decide_eq_false h1,decide_eq_false h2]
  rfl
theorem KU{c:List UInt8}{k z:Nat}(hz:z≤3)(hk:k*(16*2^z)<c.length)(hc:c.length≤3000):
  jC (mj c (16*2^z) k) 1 [] ((k:Int),(decide (k*(16*2^z)+16*2^z<c.length),(z:Int))) ((c.drop (k*(16*2^z))).take (16*2^z)) (k:Int) =
   some (if k*(16*2^z)+16*2^z<c.length then(mj c (16*2^z) (k+1),([],(false,0)))else(([]:List aj),(c,(true,0)))):=by
 have hL2:16*2^z≤128:=by
  have:2^z≤2^3:=Nat.pow_le_pow_right (by omega) hz
  omega
 have hL1:16≤16*2^z:=by have:=Nat.one_le_two_pow (n:=z);omega
 have hkk:k≤4000:=by
  have:k*16≤k*(16*2^z):=Nat.mul_le_mul_left _ hL1
  omega
 rw[JY _ _ _ _ _ _ (by rw[List.length_take];omega)]
 refine congrArg some ?_
 rw[M4 (CY hc) (by omega) (by omega) (by simp) (xd.2 ⟨by show 0≤(k:Int);omega,by show(k:Int)≤1048575;omega,by show 0≤(z:Int);omega,by show(z:Int)≤6;omega⟩) (by omega) (by omega)]
 show uW (mj c (16*2^z) k) 1 [] (k:Int).toNat ((k:Int)==0) (decide (k*(16*2^z)+16*2^z<c.length)) (16*2^(z:Int).toNat) _ (k:Int)=_
 rw[Int.toNat_natCast,Int.toNat_natCast]
 generalize 16*2^z=L at hL1 hL2 hk⊢
 have htake:c.take (k*L)++(c.drop (k*L)).take L=c.take (k*L+L):=by rw[List.take_add]
 have hlt:((c.drop (k*L)).take L).length=min L (c.length-k*L):=by rw[List.length_take,List.length_drop]
 by_cases h0:k=0
 ·subst h0
  rw[show mj c L 0 = []from rfl]
  simp only[Nat.zero_mul,List.drop_zero,Nat.zero_add]at hk hlt htake⊢
  by_cases hm:L<c.length
  ·rw[decide_eq_true hm,if_pos hm]
   rw[IK (ys:=[]) rfl (by rw[hlt];omega) (by omega) rfl (by simp)]
   unfold mj
   rw[if_neg (by omega),Nat.one_mul]
   rfl
  ·rw[decide_eq_false hm,if_neg hm]
   rw[Jy (ys:=[]) rfl (by rw[hlt];omega) (by omega) rfl]
   rw[List.take_of_length_le (by omega)]
 ·have hkept:mj c L k = [((1:Int),(([]:List UInt8),(c.take (k*L),(k:Int)+127)))]:=by unfold mj;rw[if_neg h0]
  rw[hkept]
  have hfil:([((1:Int),(([]:List UInt8),(c.take (k*L),(k:Int)+127)))]:List aj).filter (l8 1 [] ((k:Int)==0) (k:Int)) = [((1:Int),(([]:List UInt8),(c.take (k*L),(k:Int)+127)))]:=by
   rw[List.filter_cons_of_pos]
   ·rfl
   ·unfold l8
    have e0:((k:Int)==0)=false:=by rw[←Bool.not_eq_true,beq_iff_eq];omega
    have e1 : ¬((k:Int)+127≤(k:Int)):=by omega
    simp only[e0,Bool.and_false,Bool.or_false]
    rw[decide_eq_false e1];rfl
  have hx:(c.take (k*L)).length=k*L:=by rw[List.length_take];omega
  by_cases hm:k*L+L<c.length
  ·rw[decide_eq_true hm,if_pos hm]
   rw[Hj (i:=0) (x:=((1:Int),(([]:List UInt8),(c.take (k*L),(k:Int)+127)))) hfil (by omega) (by rw[hlt];omega) rfl rfl hx (by show(c.take (k*L)).length+L≤4096;omega)]
   show([((1:Int),(([]:List UInt8),(c.take (k*L)++(c.drop (k*L)).take L,(k:Int)+128)))],([],(false,(0:Int))))=_
   unfold mj
   rw[if_neg (by omega),htake,show(k+1)*L=k*L+L by rw[Nat.succ_mul],show(((k+1:Nat):Int)+127)=(k:Int)+128 by omega]
  ·rw[decide_eq_false hm,if_neg hm]
   rw[GA (i:=0) (x:=((1:Int),(([]:List UInt8),(c.take (k*L),(k:Int)+127)))) hfil (by omega) (by rw[hlt];omega) (by rw[hlt];omega) rfl rfl hx (by show(c.take (k*L)).length+L≤4096;omega)]
   show(([]:List aj),(c.take (k*L)++(c.drop (k*L)).take L,(true,(0:Int))))=_
   rw[htake,List.take_of_length_le (by omega)]
theorem I8{n z:Nat}(hz:z≤3)(h1:1≤n)(h2:n≤3000):jP (n:Int) (z:Int)=some (((n+16*2^z-1)/(16*2^z):Nat):Int):=by
 have hL2:2^z≤8:=by
  have:2^z≤2^3:=Nat.pow_le_pow_right (by omega) hz
  omega
 have hL1:=Nat.one_le_two_pow (n:=z)
 unfold jP
 refine ac (y:=false) ?_ ?_
 ·simp only[aa]
  rw[decide_eq_false (by omega),ay,decide_eq_false (by omega),ay,decide_eq_false (by omega),ay,decide_eq_false (by omega)]
 rw[ay]
 refine ac (AY (z:=z) (by omega)) ?_
 rw[aa,ap (x:=(n:Int)+((16*2^z:Nat):Int)) (by omega) (by omega),aa,ap (x:=(n:Int)+((16*2^z:Nat):Int)-1) (by omega) (by omega),aa,ap (x:=4+(z:Int)) (by omega) (by omega)]
 have hsh:Gk.shr ((n:Int)+((16*2^z:Nat):Int)-1) (4+(z:Int))=some (((n+16*2^z-1)/(16*2^z):Nat):Int):=by
  have:=L8 (a:=n+16*2^z-1) (b:=4+z) (by omega)
  rw[Nat.pow_add,show(2:Nat)^4=16 from rfl]at this
  rw[←this]
  congr 1
  omega
 refine ac hsh ?_
 rw[aa]
 refine congrArg some ?_
 have:1≤(n+16*2^z-1)/(16*2^z):=(Nat.le_div_iff_mul_le (by omega)).2 (by omega)
 omega
theorem zh{c:List UInt8}{z:Nat}(hz:z≤3)(hc:c.length≤3000){F:List UInt8→Option Bool}(hF:F c=some true){Z:Nat→List aj→Option Bool}: ∀(r k:Nat),1≤r→k*(16*2^z)<c.length→c.length≤(k+r)*(16*2^z)→
  mG (R:=Bool) (S:=(List aj)) Z (fun k20 s21 self22=>bnd (kC c (k20:Int) (z:Int)) fun x23=>bnd (jC s21 1 [] ((k20:Int),(x23.2.1,(z:Int))) x23.1 (k20:Int)) fun x24=>
   bnd (β:=Bool) (letm ((x23.2.2 != 0)) fun x25=>cond x25 (some true) (letm ((x24.2.2.2 != 0)) fun x26=>cond x26 (some true) (letm ((x24.2.2.1==x23.2.1)) fun x27=>some x27))) fun v28=>cond v28 (some false) (letm ((!x24.2.2.1)) fun x29=>cond x29 (self22 x24.1) (F x24.2.1))) r k (mj c (16*2^z) k)=some true
 |0,k,h,_,_=>by omega
 |r+1,k,_,hk,hn=>by
  rw[rS]
  refine ac (Lt hz hk hc) (ac (KU hz hk hc) ?_)
  by_cases hm:k*(16*2^z)+16*2^z<c.length
  ·rw[if_pos hm,decide_eq_true hm]
   refine ac (y:=false) rfl ?_
   rw[ay,aa]
   show mG _ _ r (k+1) (mj c (16*2^z) (k+1))=_
   have e:(k+1)*(16*2^z)=k*(16*2^z)+16*2^z:=Nat.succ_mul _ _
   refine zh hz hc hF r (k+1) ?_ (by omega) (by rw[show k+1+r=k+(r+1) by omega];exact hn)
   rcases Nat.eq_zero_or_pos r with h0 |h0
   ·rw[h0,Nat.zero_add]at hn;omega
   ·exact h0
  ·rw[if_neg hm,decide_eq_false hm]
   refine ac (y:=false) rfl ?_
   rw[ay,aa]
   exact hF
set_option maxRecDepth 100000
theorem GD:fi=some true:=by kernel_rfl
open Classical in
theorem Oj{p u:Tr}{c t:List UInt8}(hp:eV p=true)(hu:eV u=true):dJ ((p,u),(c,t)) ((p,u),(c,t))=some true:=by
 have h12:eK (p,u) (p,u)=some true:=by
  unfold eK
  refine ac (y:=true) ?_ rfl
  show(bnd (aB p p) fun x2=>cond x2 (bnd (aB u u) fun x3=>some x3) (some false))=_
  rw[mc hp hp,ae,mc hu hu,ae,decide_eq_true rfl,decide_eq_true rfl];rfl
 unfold dJ
 refine ac (y:=true) ?_ rfl
 show(bnd (eK (p,u) (p,u)) fun x2=>cond x2 (letm (c==c) fun x3=>cond x3 (letm (t==t) fun x4=>some x4) (some false)) (some false))=_
 rw[h12,ae,aa,aa,beq_self_eq_true,beq_self_eq_true];rfl
theorem zC{n:Nat}(h:n≤100000):fD (n:Int)=some (((n+72)/64:Nat):Int):=by
 unfold fD
 rw[aa,decide_eq_false (by omega),ay,aa,ap (x:=(n:Int)+8) (by omega) (by omega),aa,ap (by omega) (by omega),show(n:Int)+8+64=((n+72:Nat):Int) by omega]
 have:=Fe (a:=n+72) (b:=64) (by omega) (by omega)
 rw[show((64:Nat):Int)=64 from rfl]at this
 rw[this,ae]
theorem JX{n:Nat}(h:n≤100000-64): ∃r,jB 16 (n:Int)=some r∧4≤r:=by
 unfold jB
 rw[aa,ap (by omega) (by omega),show(64:Int)+(n:Int)=((64+n:Nat):Int) by omega,zC (by omega),ae,show(96:Int)=((96:Nat):Int)from rfl,zC (by omega),ae,aa,ap (by omega) (by omega)]
 refine⟨(((64+n+72)/64:Nat):Int)+(((96+72)/64:Nat):Int),rfl,?_⟩
 omega
theorem RE(a:Int): ∃y,quo a 3=some y:=⟨_,(by unfold quo;rw[if_neg (by decide)])⟩
theorem ww(a0:List Int)(a1 a2:Int)(h0:a0.length≤maxLen):gR a0 a1 a2=some true:=by
 have h1:bt (a0,0):=Le h0
 obtain⟨m,d2,e2,h2,g2⟩:=tR h1 (c:=2) (by decide)
 obtain⟨vm,lm⟩:=g2.val
 obtain⟨ec,dc,_⟩:=Rr vm
 obtain⟨⟨⟨p,u⟩,d3⟩,e3,h3,g3⟩:=z7 h2
 have EHd:EH p u:=HS.eh g3
 obtain⟨key,ek,lk⟩:=yT a1 16 (by omega)
 obtain⟨q,eq⟩:=RE a1
 obtain⟨nonce,en,ln⟩:=yT q 13 (by omega)
 have lk:key.length=16:=lk
 have ln:nonce.length=13:=ln
 obtain⟨c,es,lc,eo⟩:=Ga EHd lk ln (plain:=qd m) (by omega)
 have hcl:c.length≤2000:=by omega
 have eE:=Dm EHd hcl
 have eD:=Dg EHd hcl
 have hBo:=cR.1 (DC EHd hcl)
 generalize hB:aK (wH p u c)=B at eE eD hBo
 have hB1:1≤B.length:=by rw[←hB,ue,List.length_append];have:=Bf (wH p u c);omega
 have hB2:B.length≤3000:=by
  have hpl:=EHd.pl
  have hul:=EHd.ul
  have n2:=(cM 2 0 (jg p) 0).2
  have n3:=(cM 2 0 c 0).2
  have n4:=(cM 4 0 [] (0+1+1+1)).2
  have n6:=(cM 6 16 [] (0+1)).2
  rw[←hB]
  unfold wH
  rw[fM,aX,bB,fM,aX,aX,aX,bB,dd,dd]
  simp only[List.length_append,List.length_nil,List.length_cons]at n2 n3 n4 n6⊢
  omega
 obtain⟨z,ez,z0,z1⟩:=Cy a2 (m:=4) (by omega) (by omega)
 obtain⟨s,rfl⟩ : ∃s:Nat,z=(s:Int):=⟨z.toNat,by omega⟩
 have hs:s≤3:=by omega
 unfold gR
 refine ac (y:=(a0,0)) rfl (ac e2 (ac ec (ac e3 (ac ek (ac eq (ac en (ac es (ac eE ?_))))))))
 refine ac (y:=false) rfl ?_
 rw[ay]
 refine ac ez (ac (I8 hs hB1 hB2) ?_)
 rw[ui (by
  have:(B.length+16*2^s-1)/(16*2^s)≤B.length+16*2^s-1:=Nat.div_le_self _ _
  show(((B.length+16*2^s-1)/(16*2^s):Nat):Int)≤_
  have h8:2^s≤2^3:=Nat.pow_le_pow_right (by omega) hs
  omega),ae,Int.toNat_natCast]
 have hL:0<16*2^s:=by have:=Nat.one_le_two_pow (n:=s);omega
 have hge:B.length≤(B.length+16*2^s-1)/(16*2^s)*(16*2^s):=by
  have a:=Nat.div_add_mod (B.length+16*2^s-1) (16*2^s)
  have b:=Nat.mod_lt (B.length+16*2^s-1) hL
  rw[Nat.mul_comm]at a
  omega
 refine zh (c:=B) (z:=s) hs hB2 (F:=fun w=>bnd (fJ w) fun x30=>bnd (cl a1 16) fun x31=>bnd (quo a1 3) fun x32=>bnd (cl x32 13) fun x33=>bnd (gZ x30.2.1 [] x31 x33) fun x34=>bnd (jd x34.1) fun x35=>
  bnd (β:=Bool) (letm ((x30.2.2==0)) fun x36=>cond x36 (letm ((x34.2==0)) fun x37=>cond x37 (letm ((x35.2==0)) fun x38=>cond x38 (letm ((x30.1==16)) fun x39=>cond x39 (bnd (dJ x30.2.1 ((p,u),(c,[]))) fun x40=>cond x40 (bnd (dH x35.1 m) fun x41=>cond x41 (bnd (jB 16 (x34.1.length:Int)) fun x42=>letm (decide (4≤x42)) fun x43=>cond x43 (bnd (fi) fun x44=>some x44) (some false))
   (some false)) (some false)) (some false)) (some false)) (some false)) (some false)) fun v45=>some v45) ?_ ((B.length+16*2^s-1)/(16*2^s)) 0 ?_ (by rw[Nat.zero_mul];omega) (by rw[Nat.zero_add];exact hge)
 ·refine ac eD (ac ek (ac eq (ac en (ac eo (ac dc ?_)))))
  refine ac (y:=true) ?_ rfl
  obtain⟨r,hr,h4⟩:=JX (n:=(qd m).length) (by omega)
  show(bnd (dJ ((p,u),(c,[])) ((p,u),(c,[]))) fun x40=>cond x40 (bnd (dH m m) fun x41=>cond x41 (bnd (jB 16 ((qd m).length:Int)) fun x42=>letm (decide (4≤x42)) fun x43=>cond x43 (bnd (fi) fun x44=>some x44) (some false)) (some false)) (some false))=_
  rw[Oj EHd.hv.o1 EHd.hv.o2,ae,a7,Om,ae,a7,hr,ae,aa,decide_eq_true h4,a7,GD,ae]
 ·exact(Nat.le_div_iff_mul_le hL).2 (by omega)
end Go.Proofs.YthejfljhiaeoeaaGreatDoor
