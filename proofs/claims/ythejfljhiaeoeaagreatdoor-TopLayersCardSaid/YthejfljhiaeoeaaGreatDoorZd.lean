import Derived.Test.YthejfljhiaeoeaaGreatDoorZc
namespace Go.Gk
open Go.RowKit
def DH:(k:IntKind)→Int→Option (db k)
 | .i64,n=>some n | .i32,n=>some n | .i16,n=>some n | .i8,n=>some n | .u16,n=>some n
 | .u8,n=>match decide (eF .u8 (ar n)=n)with |true=>some (ar n) |false=>none
 | .u64,n=>match decide (eF .u64 (aC n)=n)with |true=>some (aC n) |false=>none
 | .u32,n=>match decide (eF .u32 (gY n)=n)with |true=>some (gY n) |false=>none
theorem FT{k:IntKind}{n:Int}{x:db k}(h:DH k n=some x):eF k x=n:=by
 cases k<;>first | (cases h;rfl) | (unfold DH at h;simp only at h;split at h;(rename_i hd;cases h;exact of_decide_eq_true hd);cases h)
def Am:Value→Option SV
 | .int k n=>match DH k n with |some x=>some (.dat (.int k) x) |none=>none
 | .bool b=>some (.dat .bool b)
 | .string s=>some (.dat .str s.data.toList)
 | .slice none 0 0=>some .nil
 | .pointer none=>some .pnil
 | .nilFunc=>some (.dat (.clo 0 .un) none)
 | .nilIface=>some (.dat .err false)
 | .float .f64 n=>match Nat.blt n 18446744073709551616 with |true=>some (.dat .fl (UInt64.ofNat n)) |false=>none
 |_=>none
def B2:SV→Option Nat
 | .agh _ _ _ id=>some id | .clb _ id=>some id | .mp id=>some id | .ptr id _=>some id | .own id=>some id | .eptr id _ _=>some id | .rix id=>some id | .rlen id=>some id | .rsl id=>some id | .rnx id=>some id | .rcn id=>some id |_=>none
def oM(ps:PS)(sv:SV):Option dN:=
 match B2 sv with
 |none=>none
 |some id=>match aP ps.mem id with
  |some (_,m)=>some m
  |none=>none
def cJ(ps:PS):Operand→Option RA
 | .tmp t=>match aP ps.sl t with
  |some (_,sv)=>some (sv,oM ps sv)
  |none=>none
 | .const v=>match Am v with
  |some sv=>some (sv,none)
  |none=>none
 |_=>none
section
variable {P : Program} {N : Nat} {ops : Array Oper} {F : List (Nat × Value)} {w w' : World} {e : ja} {lab lab' : bg} {ps : PS} {v : Value} {a : RA}
theorem Gv{sv:SV}(h:Am v=some sv):RV e sv lab w v:=by
 unfold Am at h
 split at h
 ·split at h
  ·rename_i x hx
   cases h
   rw[←FT hx];exact bh.ofInt x
  ·cases h
 ·cases h;exact bh.ofBool _
 ·rename_i s
  cases h
  have:(Value.string s)=eA s.data.toList:=by simp[eA]
  rw[this];exact bh.ofStr _
 ·cases h;rfl
 ·cases h;rfl
 ·cases h;exact⟨[.nilFunc],rfl,rfl⟩
 ·cases h;exact⟨[.nilIface],rfl,rfl⟩
 ·rename_i n
  split at h
  ·rename_i hn
   cases h
   have hn:n<18446744073709551616:=Nat.blt_eq.mp hn
   exact⟨[.float .f64 n],by show [Value.float .f64 n] = [.float .f64 (UInt64.ofNat n).toNat];rw[UInt64.toNat_ofNat_of_lt' hn],rfl⟩
  ·cases h
 ·cases h
theorem ID{sv:SV}{id:Nat}(h:B2 sv=some id):OX sv=id:=by cases sv<;>first | (cases h;rfl) |cases h
theorem ta(h:rV e ps F lab w){sv:SV}{m:dN}(hm:oM ps sv=some m):bR e lab w (OX sv) m:=by
 unfold oM at hm
 split at hm
 ·cases hm
 ·rename_i id hid
  split at hm
  ·rename_i st m' hf
   cases hm
   rw[ID hid]
   exact h.mem _ _ _ (aw hf)
  ·cases hm
theorem a8(h:rV e ps F lab w){x:Operand}(hx:cJ ps x=some a): ∃v,ev F x=some v∧k_ e lab w a v:=by
 unfold cJ at hx
 split at hx
 ·rename_i t
  split at hx
  ·rename_i st sv hf
   cases hx
   obtain⟨v,hv,hr⟩:=h.sl _ _ _ (aw hf)
   exact⟨v,hv,hr,fun m hm=>ta h hm⟩
  ·cases hx
 ·rename_i v
  split at hx
  ·rename_i sv hs
   cases hx
   exact⟨v,rfl,Gv hs,fun m hm=>by cases hm⟩
  ·cases hx
 ·cases hx
theorem sj(wf:WF ps){x:Operand}(hx:cJ ps x=some a): ∀i∈kN a.1,i<ps.nxt:=by
 unfold cJ at hx
 split at hx
 ·split at hx
  ·rename_i st sv hf
   cases hx
   exact(wf.sl _ _ _ (aw hf)).2
  ·cases hx
 ·split at hx
  ·rename_i v sv hs
   cases hx
   intro i hi
   unfold Am at hs
   split at hs
   ·split at hs
    ·cases hs;simp[kN,lq]at hi
    ·cases hs
   all_goals first | (cases hs;done) | (cases hs;simp[kN,lq]at hi) | (split at hs<;>first | (cases hs;done) | (cases hs;simp[kN,lq]at hi))
  ·cases hx
 ·cases hx
def rQ(ps:PS):List Operand→Option (List RA)
 | []=>some []
 |x::xs=>match cJ ps x,rQ ps xs with
  |some a,some as=>some (a::as)
  |_,_=>none
theorem sR(h:rV e ps F lab w): ∀{xs:List Operand} {as:List RA},rQ ps xs=some as→∃vs,jN F e lab w xs as vs
 | [],as,hx=>by cases hx;exact⟨[],.nil⟩
 |x::xs,as,hx=>by
  unfold rQ at hx
  split at hx
  ·rename_i a as' ha has
   cases hx
   obtain⟨v,h1,h2⟩:=a8 h ha
   obtain⟨vs,h3⟩:=sR h has
   exact⟨v::vs,.cons h1 h2 h3⟩
  ·cases hx
def zN(ps:PS):List (Nat×Operand)→Option (List (Nat×RA))
 | []=>some []
 | (i,x)::xs=>match cJ ps x,zN ps xs with
  |some a,some as=>some ((i,a)::as)
  |_,_=>none
theorem vc(h:rV e ps F lab w): ∀{xs:List (Nat×Operand)} {as:List (Nat×RA)},zN ps xs=some as→∃vs,jn F e lab w xs as vs
 | [],as,hx=>by cases hx;exact⟨[],.nil⟩
 | (i,x)::xs,as,hx=>by
  unfold zN at hx
  split at hx
  ·rename_i a as' ha has
   cases hx
   obtain⟨v,h1,h2⟩:=a8 h ha
   obtain⟨vs,h3⟩:=vc h has
   exact⟨(i,v)::vs,.cons h1 h2 h3⟩
  ·cases hx
theorem BY(wf:WF ps){xs:List Operand}: ∀{qs:List PK} {as:List RA} {c:CA qs},rQ ps xs=some as→aZ qs as=some c→∀p,c.po=some p→p.1<ps.nxt:=by
 induction xs with
 |nil=>
  intro qs as c h hc p hp
  cases h
  cases qs with
  |nil=>cases hc;cases hp
  |cons q qs=>cases q<;>cases hc
 |cons x xs ih=>
  intro qs as c h hc p hp
  unfold rQ at h
  split at h
  ·rename_i a as' ha has
   cases h
   cases qs with
   |nil=>cases hc
   |cons q qs=>
   cases q with
   |d t=>
    unfold aZ at hc
    split at hc
    ·cases hc
    ·rename_i c' hc'
     split at hc
     ·cases hc;exact ih has hc' p hp
     ·split at hc
      ·cases hc;exact ih has hc' p hp
      ·cases hc
   |p T t=>
    unfold aZ at hc
    split at hc
    ·cases hc
    ·split at hc
     ·split at hc
      ·cases hc
       cases hp
       exact sj wf ha _ (by simp[kN,lq])
      ·cases hc
     ·cases hc
   |r E t=>
    unfold aZ at hc
    split at hc
    ·cases hc
    ·split at hc
     ·split at hc
      ·cases hc;cases hp
      ·cases hc
     ·cases hc;cases hp
     ·cases hc
  ·cases h
end
section
variable {ps : PS}
theorem sI : ∀{t:PT} {x:den t} {cs:List RA} {qs:List PK} {c:CA qs},uL t x=some cs→aZ qs cs=some c→c.po=none
 | .un,x,cs,qs,c,h,hc=>by
  cases h
  cases qs with
  |nil=>cases hc;rfl
  |cons q qs=>cases q<;>cases hc
 | .pr (.cp a) b,x,cs,qs,c,h,hc=>by
  unfold uL at h
  split at h
  ·rename_i r hb
   cases h
   cases qs with
   |nil=>cases hc
   |cons q qs=>
    cases q with
    |d t=>
     unfold aZ at hc
     split at hc
     ·cases hc
     ·rename_i c' hc'
      have ih:=sI hb hc'
      split at hc
      ·cases hc;exact ih
      ·split at hc
       ·cases hc;exact ih
       ·cases hc
    |p T t=>
     unfold aZ at hc
     split at hc
     ·cases hc
     ·cases hc
    |r E t=>
     unfold aZ at hc
     split at hc
     ·cases hc
     ·split at hc<;>first | (cases hc;done) |contradiction |skip
      all_goals (rename_i h2;cases h2)
  ·cases h
 | .int _,_,_,_,_,h,_=>by cases h
 | .bool,_,_,_,_,h,_=>by cases h
 | .str,_,_,_,_,h,_=>by cases h
 | .sl _,_,_,_,_,h,_=>by cases h
 | .st _,_,_,_,_,h,_=>by cases h
 | .cp _,_,_,_,_,h,_=>by cases h
 | .clo _ _,_,_,_,_,h,_=>by cases h
 | .tree,_,_,_,_,h,_=>by cases h
 | .err,_,_,_,_,h,_=>by cases h
 | .fl,_,_,_,_,h,_=>by cases h
 | .f4,_,_,_,_,h,_=>by cases h
 | .pr (.int _) _,_,_,_,_,h,_=>by cases h
 | .pr .bool _,_,_,_,_,h,_=>by cases h
 | .pr .str _,_,_,_,_,h,_=>by cases h
 | .pr (.sl _) _,_,_,_,_,h,_=>by cases h
 | .pr (.pr _ _) _,_,_,_,_,h,_=>by cases h
 | .pr (.st _) _,_,_,_,_,h,_=>by cases h
 | .pr .un _,_,_,_,_,h,_=>by cases h
 | .pr (.clo _ _) _,_,_,_,_,h,_=>by cases h
 | .pr .tree _,_,_,_,_,h,_=>by cases h
 | .pr .err _,_,_,_,_,h,_=>by cases h
 | .pr .fl _,_,_,_,_,h,_=>by cases h
 | .pr .f4 _,_,_,_,_,h,_=>by cases h
theorem z8(wf:WF ps){t:PT}{x:den t}{cs:List RA}(hcs:uL t x=some cs){xs:List Operand}: ∀{qs:List PK} {as:List RA} {c:CA qs},rQ ps xs=some as→aZ qs (as++cs)=some c→∀p,c.po=some p→p.1<ps.nxt:=by
 induction xs with
 |nil=>
  intro qs as c h hc p hp
  cases h
  rw[List.nil_append]at hc
  rw[sI hcs hc]at hp;cases hp
 |cons x xs ih=>
  intro qs as c h hc p hp
  unfold rQ at h
  split at h
  ·rename_i a as' ha has
   cases h
   cases qs with
   |nil=>cases hc
   |cons q qs=>
   cases q with
   |d t=>
    rw[List.cons_append]at hc
    unfold aZ at hc
    split at hc
    ·cases hc
    ·rename_i c' hc'
     split at hc
     ·cases hc;exact ih has hc' p hp
     ·split at hc
      ·cases hc;exact ih has hc' p hp
      ·cases hc
   |p T t=>
    rw[List.cons_append]at hc
    unfold aZ at hc
    split at hc
    ·cases hc
    ·split at hc
     ·split at hc
      ·cases hc
       cases hp
       exact sj wf ha _ (by simp[kN,lq])
      ·cases hc
     ·cases hc
   |r E t=>
    rw[List.cons_append]at hc
    unfold aZ at hc
    split at hc
    ·cases hc
    ·split at hc
     ·split at hc
      ·cases hc;cases hp
      ·cases hc
     ·cases hc;cases hp
     ·cases hc
  ·cases h
end
structure Rj(P:Program) where
 fid:FuncId
 clo:Nat
 ift:TypeId
 el:TypeId
 pt:PT
 rel:List (den pt)→List (den pt)→Prop
 und:P.underlying ift=some (.slice el)
 fn:Pz P fid
 ok : ∀{lab:bg} {w:World} {k c G:Nat} {oa:Option Addr} {xs:List (den pt)},xs.length≤xR→dv lab w→GL lab w→k≠0→ee (rep pt) lab w k el oa c xs→w.cell? ⟨G,0,none⟩=some (.slice oa xs.length c)→lab G≠k→lab G≠0→
  Calls P fid #[.iface ift (.slice oa xs.length c),.func (.func clo) #[] #[.pointer (some ⟨G,0,none⟩)]] w fun e' w'=>e' = .returned (.tuple #[])∧∃lab' ys,rel xs ys∧ys.length=xs.length∧jM [k] lab w lab' w'∧ee (rep pt) lab' w' k el oa c ys
structure XE(P:Program) where
 id:FuncId
 src:PT
 dst:PT
 f:den src→den dst
 ok : ∀(x:den src) (v:Value) (lab:bg) (w:World),bh src x lab w v→∃v',(callFunc id #[v]).run P w = .ok (.value v') w∧bh dst (f x) lab w v'
def zQ{P:Program}:List (XE P)→FuncId→Option (XE P)
 | [],_=>none
 |c::r,f=>match Nat.beq c.id f with
  |true=>some c
  |false=>zQ r f
theorem yV{P:Program}: ∀{l:List (XE P)} {f:FuncId} {c:XE P},zQ l f=some c→c.id=f
 | [],_,_,h=>by cases h
 |q::r,f,c,h=>by
  unfold zQ at h
  split at h
  ·rename_i hb;cases h;exact Nat.eq_of_beq_eq_true hb
  ·exact yV h
def Ou{P:Program}(xe:XE P)(a:RA):bQ:=match BU xe.src a with
 |some x=>.letm (den xe.dst) (xe.f x) fun y=>.ret (o1 (.dat xe.dst y))
 |none=>.stuck
theorem Pd{P:Program}{N:Nat}{ops:Array Oper}{F:List (Nat×Value)}{w:World}{lab:bg}{e:ja}{nid d:Nat}{a:RA}{vs:List Value}{xs:List Operand}{ts:Array TypeId}{ty:TypeId}{pos:String}{af:Array Edge}{g:Option (Nat×Bool)}{xe:XE P}{out:fw}(ha:jN F e lab w xs [a] vs)(hr:jH (Ou xe a) out)(tp:dv lab w)(hw:Wn ops F g)(hd:Nat.blt d N=true):
  LW P N ops [⟨some d,.call { callee:=.value (.func xe.id),args:=xs.toArray,argTypes:=ts },ty,pos,af,g⟩] F w (Fin N F e nid lab w (some d) out):=by
 cases ha with
 |cons hx hv h4=>
 cases h4
 rename_i x v
 unfold Ou at hr
 split at hr
 ·rename_i z hz
  obtain⟨v',h1,h2⟩:=xe.ok z v lab w (jp hv hz)
  cases hr with
  |letm hr=>
   obtain rfl:=hr.ret_eq
   exact LW.val rfl hw rfl hd (fun q hq=>by
    have e:([x].toArray.map q.eval) = #[v]:=by simp[hq.eval hx]
    simp only[execOp,resolve,e,Act.eval,Deferred.ofValue,invoke,Sem.run_bind,Sem.run_pure,Result.andThen_ok]
    have e2:(#[] ++ #[v] ++ #[]:Array Value) = #[v]:=by simp
    rw[e2,h1]) (aJ (sv:=.dat xe.dst (xe.f z)) tp h2)
 ·cases hr
structure mR(P:Program) where
 te:List (TE P)
 se:List (SE P)
 fe:List (FE P)
 be:List (BE P)
 cs:List (bW P)
 hold:List Nat
 fd:List (FD P)
 nil:List (Nat×Nat×TypeId)
 qe:List (QE P)
 ge:List (GE P)
 me:List (ME P)
 so:List (Rj P)
 xe:List (XE P)
def fp:List Nat→Nat→Bool
 | [],_=>false
 |x::r,n=>Nat.beq x n||fp r n
def vK:Operand→Option Nat
 | .tmp t=>some t
 |_=>none
theorem Hu{x:Operand}: ∀i,vK x=some i→x = .tmp i:=fun i h=>by cases x<;>cases h;rfl
def HD:Operand→Operand→Bool
 | .tmp a,.tmp b=>Nat.beq a b
 | .const (.int k n),.const (.int k' n')=>IntKind.eqb k k'&&decide (n=n')
 |_,_=>false
theorem JR{x y:Operand}(h:HD x y=true):x=y:=by
 unfold HD at h
 split at h
 ·rw[Nat.eq_of_beq_eq_true h]
 ·simp only[Bool.and_eq_true]at h
  rw[IntKind.eqb_eq h.1,of_decide_eq_true h.2]
 ·cases h
def Sw{P:Program}(c:bW P):Bool:=c.rs.all fun r=>match r with | .x _ _=>false |_=>true
def OP(ps:PS):Option Operand→Option (Option ((k:IntKind)×db k))
 |none=>some none
 |some x=>match cJ ps x with
  |some a=>match G3 a with
   |some i=>some (some i)
   |none=>none
  |none=>none
def Kk(l:List Nat)(x:Operand):Option Nat:=
 match vK x with
 |some s=>match fp l s with |true=>some s |false=>none
 |none=>none
def Hs:List (Nat×Nat×TypeId)→Nat→List (Nat×TypeId)
 | [],_=>[]
 | (d',off,t)::r,d=>match Nat.beq d' d with |true=>(off,t)::Hs r d |false=>Hs r d
def PL{P:Program}(zU:List (SE P)):List (Nat×TypeId)→Option (List (Nat×TypeId×PT))
 | []=>some []
 | (off,st)::r=>match ip zU st,PL zU r with
  |some se,some l=>some ((off,se.el,se.pt)::l)
  |_,_=>none
def Ie:SV→Option ((t:PT)×den t×List (Nat×TypeId×PT))
 | .agn t x l=>some ⟨t,x,l⟩
 |_=>none
theorem G7{sv:SV}{t:PT}{x:den t}{l:List (Nat×TypeId×PT)}(h:Ie sv=some ⟨t,x,l⟩):sv = .agn t x l:=by
 unfold Ie at h
 split at h
 ·cases h;rfl
 ·cases h
def EZ(hold:List Nat):List Operand→Bool
 | [x]=>match vK x with
  |some s=>fp hold (4000000+s)
  |none=>false
 |_=>false
def AB{P:Program}(tes:List (TE P))(T:TypeId):Bool:=
 match eP tes T with
 |some ⟨_,.str,_⟩=>true
 |_=>false
theorem y5{P:Program}{tes:List (TE P)}{T:TypeId}(h:AB tes T=true):P.underlying T=some .string:=by
 unfold AB at h
 split at h
 ·rename_i i ok hf
  have e1:i=T:=bE hf
  subst e1
  exact ok.und
 ·cases h
def J':SV→Option (Nat×((t:PT)×Option (den t)))
 | .dat (.clo f t) y=>some (f,⟨t,y⟩)
 |_=>none
theorem Iz{sv:SV}{f:Nat}{t:PT}{y:Option (den t)}(h:J' sv=some (f,⟨t,y⟩)):sv = .dat (.clo f t) y:=by
 unfold J' at h
 split at h
 ·cases h;rfl
 ·cases h
section
variable {P : Program}
def i_(T:mR P)(own rng:List Nat)(ps:PS)(dst:Option Nat)(op:Op):bQ:=
 match op,dst with
 | .move x,some _=>match cJ ps x with |some a=>.ret (o1 a.1) |none=>.stuck
 | .assign x,some _=>match cJ ps x with |some a=>.ret (o1 a.1) |none=>.stuck
 | .pick c x y,some _=>match cJ ps c,cJ ps x,cJ ps y with |some c,some a,some b=>Dk c a b |_,_,_=>.stuck
 | .alloc t,some d=>match eP T.te t with |some e=>.ret (rE (10+d) ps.nxt t e.pt (zt e.pt)) |none=>.stuck
 | .box t x,some d=>match eP T.te t,cJ ps x with |some e,some a=>(match BU e.pt a with |some u=>.ret (rE (10+d) ps.nxt t e.pt u) |none=>.stuck) |_,_=>.stuck
 | .fieldAddr t x f,some _=>match rK T.fe t f,cJ ps x with |some e,some a=>(match vF e.off a.1 with |some sv=>.ret (o1 sv) |none=>.stuck) |_,_=>.stuck
 | .nilCheck x,some _=>match cJ ps x with |some a=>(match vF 0 a.1 with |some _=>.ret (o1 a.1) |none=>.stuck) |none=>.stuck
 | .load t x,some _=>match J_ x with
  |some g=>(match xq T.ge t g with |some ge=>zY ge |none=>.stuck)
  |none=>match eP T.te t,cJ ps x with
   |some e,some a=>DD e a
   |_,_=>.stuck
 | .store t x y,none=>match Kk T.hold x with
  |some s=>match eP T.te t,cJ ps x,cJ ps y with
   |some e,some a,some b=>match Ie b.1 with
    |some ⟨t2,X2,l⟩=>match PT.eqb e.pt t2 with
     |true=>xb ps.nxt (1000010+s) a t2 X2 l
     |false=>.stuck
    |none=>match ip T.se t with
     |some se=>xr e se.el ps.nxt (1000010+s) a b
     |none=>.stuck
   |_,_,_=>.stuck
  |none=>match eP T.te t,cJ ps x,cJ ps y with
   |some e,some a,some b=>match NP a.2 with
    |true=>ug e a b
    |false=>A5 e a b
   |_,_,_=>.stuck
 | .binOp o t x y _,some _=>match cJ ps x,cJ ps y with |some a,some b=>(match Dc y with |true=>Ih T.te o t a |false=>match C_ y with |true=>(match ip T.se t with |some _=>Db o a |none=>.stuck) |false=>I_ T.te o t a b) |_,_=>.stuck
 | .index t x y,some _=>match AB T.te t,cJ ps x,cJ ps y with |true,some a,some b=>xM a b |false,some a,some b=>(match AZ T.ge t with |some ge=>xm ge a b |none=>.stuck) |_,_,_=>.stuck
 | .unOp .not _ x,some _=>match cJ ps x with |some a=>Ip a |none=>.stuck
 | .convert s t x,some _=>match cJ ps x with |some a=>C4 T.te T.se s t a |none=>.stuck
 | .build t parts,some d=>match Hs T.nil d with
  | []=>match xa T.be t,zN ps parts.toList with
   |some e,some as=>zT e as
   |_,_=>.stuck
  |q=>match xa T.be t,PL T.se q,zN ps parts.toList with |some e,some l,some as=>vR e as l |_,_,_=>.stuck
 | .field t x f,some _=>match AX T.fd t f,cJ ps x with
  |some fd,some a=>match eP T.te fd.ft with |some te=>Aw fd te a |none=>.stuck
  |_,_=>.stuck
 | .makeFunc (.func f) first caps,some _=>match EZ T.hold caps.toList with
  |false=>match first.toList,rQ ps caps.toList with
   | [],some as=>AI f as
   |_,_=>.stuck
  |true=>.stuck
 | .buildSlice t n parts,some d=>match ip T.se t,zN ps parts.toList with |some e,some as=>xk e ps.nxt (10+d) (fp own d) n as |_,_=>.stuck
 | .makeSlice t x y,some d=>match Pk x with
  |true=>(match ip T.se t,cJ ps y with |some e,some a=>Ar e ps.nxt (10+d) (fp own d) a |_,_=>.stuck)
  |false=>(match ip T.se t,cJ ps x,HD y x with |some e,some a,true=>Dp e ps.nxt (10+d) (fp own d) a |_,_,_=>.stuck)
 | .slice t x lo hi none,some _=>match AB T.te t,cJ ps x,OP ps lo,OP ps hi with
  |true,some a,some i,some j=>wl a i j
  |false,some a,some i,some j=>(match ip T.se t with |some e=>AL e ps.nxt a i j |none=>.stuck)
  |_,_,_,_=>.stuck
 | .slice t x none (some hi) (some mx),some _=>match ip T.se t,cJ ps x,cJ ps hi,cJ ps mx with
  |some e,some a,some b,some c=>xL e a b c
  |_,_,_,_=>.stuck
 | .indexAddr t x y,some _=>match J_ x with
  |none=>(match ip T.se t,cJ ps x,cJ ps y with |some e,some a,some b=>Av e a b |_,_,_=>.stuck)
  |some g=>(match xq T.ge t g,cJ ps y with |some e,some b=>wG e b |_,_=>.stuck)
 | .extract x i,some _=>match cJ ps x with |some a=>uj a i |none=>.stuck
 | .call c,some d=>match c.callee,c.args.toList,c.argTypes.toList with
  | .builtin .len,[x],[t]=>match cJ ps x with
   |none=>.stuck
   |some a=>match ip T.se t with
    |some e=>Iq e ps.nxt (fp rng d) (vK x) a
    |none=>match eP T.te t,kK a with
     |some ⟨_,.str,_⟩,some ⟨.str,l⟩=>.ret (o1 (.dat (.int .i64) (List.length (α:=UInt8) l:Int)))
     |_,_=>.stuck
  | .builtin .append,[x,y],[t,t']=>match Nat.beq t' t,ip T.se t,cJ ps x,cJ ps y with
   |true,some e,some a,some b=>wM e ps.nxt (10+d) (fp own d) a b
   |_,_,_,_=>.stuck
  | .builtin .max,[x,y],_=>match cJ ps x,cJ ps y with |some a,some b=>M0 true a b |_,_=>.stuck
  | .builtin .min,[x,y],_=>match cJ ps x,cJ ps y with |some a,some b=>M0 false a b |_,_=>.stuck
  | .value (.func f),xs,_=>match qx T.cs f,rQ ps xs with
   |some c,some as=>match Sw c with
    |true=>tN c ps.nxt (10+d) as
    |false=>.stuck
   |none,some [a]=>match zQ T.xe f with
    |some xe=>Ou xe a
    |none=>.stuck
   |_,_=>.stuck
  | .value (.tmp s),xs,_=>match cJ ps (.tmp s),rQ ps xs with
   |some b,some as=>match J' b.1 with
    |some (f,⟨t,y⟩)=>.bnd (den t) y fun z=>match qx T.cs f,uL t z with
     |some c,some cs=>match Sw c with
      |true=>tN c ps.nxt (10+d) (as++cs)
      |false=>.stuck
     |_,_=>.stuck
    |none=>.stuck
   |_,_=>.stuck
  |_,_,_=>.stuck
 |_,_=>.stuck
variable {N : Nat} {ops : Array Oper} {F : List (Nat × Value)} {w w' : World} {e : ja} {lab lab' : bg} {ps : PS} {v : Value} {a : RA}
theorem gE{α:Type}{xs:Array α}{l:List α}(h:xs.toList=l):xs=l.toArray:=by rw[←h]
theorem zS(h:rV e ps F lab w){x:Option Operand}{i:Option ((k:IntKind)×db k)}(hx:OP ps x=some i):QX F x i:=by
 unfold OP at hx
 split at hx
 ·cases hx;trivial
 ·split at hx
  ·rename_i a ha
   split at hx
   ·rename_i i' hi
    cases hx
    obtain⟨v,h1,h2⟩:=a8 h ha
    obtain⟨k,j⟩:=i'
    show ev F _=some (.int k (eF k j))
    rw[h1,mX h2 hi]
   ·cases hx
  ·cases hx
theorem Ma{T:mR P}{own rng:List Nat}{dst:Option Nat}{op:Op}{ty:TypeId}{pos:String}{af:Array Edge}{g:Option (Nat×Bool)}{out:fw}(h:rV e ps F lab w)(wf:WF ps)(tp:dv lab w)(hr:jH (i_ T own rng ps dst op) out)(hw:Wn ops F g)
  (hd : ∀d,dst=some d→Nat.blt d N=true):LW P N ops [⟨dst,op,ty,pos,af,g⟩] F w (Fin N F e ps.nxt lab w dst out):=by
 unfold i_ at hr
 split at hr
 · -- move
  split at hr
  ·rename_i a ha
   obtain rfl:=hr.ret_eq
   obtain⟨v,h1,h2⟩:=a8 h ha
   exact Hd h1 h2.1 tp hw (hd _ rfl)
  ·cases hr
 ·split at hr
  ·rename_i a ha
   obtain rfl:=hr.ret_eq
   obtain⟨v,h1,h2⟩:=a8 h ha
   exact CO h1 h2.1 tp hw (hd _ rfl)
  ·cases hr
 ·split at hr
  ·rename_i c a b hc ha hb
   obtain⟨v1,h1,h2⟩:=a8 h hc
   obtain⟨v2,h3,h4⟩:=a8 h ha
   obtain⟨v3,h5,h6⟩:=a8 h hb
   exact Jv h1 h3 h5 h2 h4.1 h6.1 hr tp hw (hd _ rfl)
  ·cases hr
 ·split at hr
  ·rename_i te hte
   obtain rfl:=hr.ret_eq
   obtain rfl:=bE hte
   exact Gf te.ok _ tp hw (hd _ rfl)
  ·cases hr
 ·split at hr
  ·rename_i te a hte ha
   split at hr
   ·rename_i u hu
    obtain rfl:=hr.ret_eq
    obtain⟨v,h1,h2⟩:=a8 h ha
    exact M_ h1 (jp h2 hu) _ tp hw (hd _ rfl)
   ·cases hr
  ·cases hr
 ·split at hr
  ·rename_i fe a hfe ha
   split at hr
   ·rename_i sv hs
    obtain rfl:=hr.ret_eq
    obtain⟨rfl,rfl⟩:=zq hfe
    obtain⟨v,h1,h2⟩:=a8 h ha
    exact K0 fe.ok h1 h2.1 hs tp hw (hd _ rfl)
   ·cases hr
  ·cases hr
 ·split at hr
  ·rename_i a ha
   split at hr
   ·rename_i sv hs
    obtain rfl:=hr.ret_eq
    obtain⟨v,h1,h2⟩:=a8 h ha
    exact As h1 h2.1 hs tp hw (hd _ rfl)
   ·cases hr
  ·cases hr
 ·split at hr
  ·rename_i gi hgi
   obtain rfl:=BV hgi
   split at hr
   ·rename_i ge hge
    obtain⟨rfl,rfl⟩:=uh hge
    exact Gx h.gl hr tp hw (hd _ rfl)
   ·cases hr
  ·split at hr
   ·rename_i te a hte ha
    obtain⟨v,h1,h2⟩:=a8 h ha
    exact IN (bE hte) h1 h2 hr tp hw (hd _ rfl)
   ·cases hr
 ·split at hr
  ·split at hr
   ·rename_i te a b hte ha hb
    obtain⟨v,h1,h2⟩:=a8 h ha
    obtain⟨u,h3,h4⟩:=a8 h hb
    split at hr
    ·rename_i t2 X2 l hag
     have hag:=G7 hag
     split at hr
     ·rename_i hpt
      have h5:=h4.1
      rw[hag]at h5
      exact DY (bE hte) hpt h1 h3 h2 h5 hr (fun i hi=>sj wf ha i hi) tp hw
     ·cases hr
    ·split at hr
     ·rename_i se hse
      refine Dj (bE hte) h1 h3 h2 h4 hr (fun i hi=>?_) tp hw
      rcases List.mem_append.1 hi with hi |hi
      ·exact sj wf ha i hi
      ·exact sj wf hb i hi
     ·cases hr
   ·cases hr
  ·split at hr
   ·rename_i te a b hte ha hb
    obtain⟨v,h1,h2⟩:=a8 h ha
    obtain⟨u,h3,h4⟩:=a8 h hb
    split at hr
    ·exact Ct (bE hte) h1 h3 h2 h4 hr tp hw
    ·exact Gq (bE hte) h1 h3 h2 h4 hr tp hw
   ·cases hr
 ·split at hr
  ·rename_i a b ha hb
   obtain⟨v,h1,h2⟩:=a8 h ha
   obtain⟨u,h3,h4⟩:=a8 h hb
   split at hr
   ·rename_i hnc
    obtain rfl:=GH hnc
    exact Lg h1 h2 hr tp hw (hd _ rfl)
   ·split at hr
    ·rename_i hns
     obtain rfl:=Gz hns
     split at hr
     ·rename_i se hse
      obtain rfl:=ej hse
      exact J9 se.ok.elem.1 h1 h2 hr tp hw (hd _ rfl)
     ·cases hr
    ·exact Ll h1 h3 h2 h4 hr tp hw (hd _ rfl)
  ·cases hr
 ·split at hr
  ·rename_i a b hs ha hb
   obtain⟨v,h1,h2⟩:=a8 h ha
   obtain⟨u,h3,h4⟩:=a8 h hb
   exact C' (y5 hs) h1 h3 h2 h4 hr tp hw (hd _ rfl)
  ·rename_i a b hs ha hb
   obtain⟨v,h1,h2⟩:=a8 h ha
   obtain⟨u,h3,h4⟩:=a8 h hb
   split at hr
   ·rename_i ge hge
    obtain⟨rfl,hag⟩:=yD hge
    exact Da hag h1 h3 h2 h4 hr tp hw (hd _ rfl)
   ·cases hr
  ·cases hr
 ·split at hr
  ·rename_i a ha
   obtain⟨v,h1,h2⟩:=a8 h ha
   exact LG h1 h2 hr tp hw (hd _ rfl)
  ·cases hr
 ·split at hr
  ·rename_i a ha
   obtain⟨v,h1,h2⟩:=a8 h ha
   exact Kl h1 h2 hr tp hw (hd _ rfl)
  ·cases hr
 ·split at hr
  ·split at hr
   ·rename_i be as hbe ha
    obtain⟨vs,h1⟩:=vc h ha
    exact Fl (uv hbe) h1 hr tp hw (hd _ rfl)
   ·cases hr
  ·split at hr
   ·rename_i be se as hbe hse ha
    obtain⟨vs,h1⟩:=vc h ha
    exact CN (uv hbe) h1 hr tp hw (hd _ rfl)
   ·cases hr
 ·split at hr
  ·rename_i fd a hfd ha
   split at hr
   ·rename_i te hte
    obtain⟨v,h1,h2⟩:=a8 h ha
    obtain⟨e1,e2⟩:=yL hfd
    exact Fv e1 e2 (bE hte) h1 h2 hr tp hw (hd _ rfl)
   ·cases hr
  ·cases hr
 ·rename_i f first caps d
  split at hr
  ·split at hr
   ·rename_i as hfi has
    obtain⟨first⟩:=first
    obtain⟨caps⟩:=caps
    have hfi:first = []:=hfi
    subst hfi
    obtain⟨vs,h1⟩:=sR h has
    exact Gu h1 hr tp hw (hd _ rfl)
   ·cases hr
  ·cases hr
 ·split at hr
  ·rename_i se as hse ha
   obtain⟨vs,h1⟩:=vc h ha
   exact D7 (ej hse) h1 hr tp hw (hd _ rfl)
  ·cases hr
 ·split at hr
  ·rename_i hz
   obtain rfl:=Mm hz
   split at hr
   ·rename_i se a hse ha
    obtain⟨v,h1,h2⟩:=a8 h ha
    exact FJ (ej hse) h1 h2 hr tp hw (hd _ rfl)
   ·cases hr
  ·split at hr
   ·rename_i se a hse ha hsm
    obtain rfl:=JR hsm
    obtain⟨v,h1,h2⟩:=a8 h ha
    exact I4 (ej hse) h1 h2 hr tp hw (hd _ rfl)
   ·cases hr
 ·split at hr
  ·rename_i a i j hs ha hi hj
   obtain⟨v,h1,h2⟩:=a8 h ha
   exact D8 (y5 hs) h1 (zS h hi) (zS h hj) h2 hr tp hw (hd _ rfl)
  ·rename_i a i j hs ha hi hj
   obtain⟨v,h1,h2⟩:=a8 h ha
   split at hr
   ·rename_i se hse
    exact F6 (ej hse) h1 (zS h hi) (zS h hj) h2 hr tp hw (hd _ rfl)
   ·cases hr
  ·cases hr
 ·split at hr
  ·rename_i se a b c hse ha hb hc
   obtain⟨v,h1,h2⟩:=a8 h ha
   obtain⟨u1,h3,h4⟩:=a8 h hb
   obtain⟨u2,h5,h6⟩:=a8 h hc
   exact Dz (ej hse) h1 h3 h5 h2 h4 h6 hr tp hw (hd _ rfl)
  ·cases hr
 ·split at hr
  ·split at hr
   ·rename_i se a b hse ha hb
    obtain⟨v,h1,h2⟩:=a8 h ha
    obtain⟨u,h3,h4⟩:=a8 h hb
    exact Gb (ej hse) h1 h3 h2 h4 hr tp hw (hd _ rfl)
   ·cases hr
  ·rename_i g hg
   split at hr
   ·rename_i ge b hge hb
    obtain⟨u,h3,h4⟩:=a8 h hb
    obtain⟨e1,e2⟩:=uh hge
    obtain rfl:=BV hg
    subst e1 e2
    exact Dv h.gl h3 h4 hr tp hw (hd _ rfl)
   ·cases hr
 ·split at hr
  ·rename_i a ha
   obtain⟨v,h1,h2⟩:=a8 h ha
   exact BZ h1 h2.1 hr tp hw (hd _ rfl)
  ·cases hr
 ·rename_i c d
  obtain⟨callee,args,ats⟩:=c
  simp only at hr
  split at hr
  ·rename_i x t hx ht
   obtain rfl:=gE hx
   obtain rfl:=gE ht
   split at hr
   ·cases hr
   ·rename_i a ha
    obtain⟨v,h1,h2⟩:=a8 h ha
    split at hr
    ·rename_i se hse
     exact K6 (ej hse) Hu h1 h2 hr tp hw (hd _ rfl)
    ·split at hr
     ·rename_i i ok l hte hl
      obtain rfl:=hr.ret_eq
      have e2:i=t:=bE hte
      subst e2
      obtain rfl:=bh.str (ce h2 hl)
      exact LW.lenS ok.und hw (hd _ rfl) h1 (aJ tp (bh.ofInt (k:=.i64) _))
     ·cases hr
  ·rename_i x y t t' hx ht
   obtain rfl:=gE hx
   obtain rfl:=gE ht
   split at hr
   ·rename_i se a b hb hse ha hb'
    obtain rfl:=Nat.eq_of_beq_eq_true hb
    obtain⟨v,h1,h2⟩:=a8 h ha
    obtain⟨u,h3,h4⟩:=a8 h hb'
    exact DN (ej hse) h1 h3 h2 h4 hr tp hw (hd _ rfl)
   ·cases hr
  ·rename_i x y l hx
   obtain rfl:=gE hx
   split at hr
   ·rename_i a b ha hb
    obtain⟨v,h1,h2⟩:=a8 h ha
    obtain⟨u,h3,h4⟩:=a8 h hb
    exact HB (mx:=true) h1 h3 h2 h4 hr tp hw (hd _ rfl)
   ·cases hr
  ·rename_i x y l hx
   obtain rfl:=gE hx
   split at hr
   ·rename_i a b ha hb
    obtain⟨v,h1,h2⟩:=a8 h ha
    obtain⟨u,h3,h4⟩:=a8 h hb
    exact HB (mx:=false) h1 h3 h2 h4 hr tp hw (hd _ rfl)
   ·cases hr
  ·rename_i f xs l
   split at hr
   ·rename_i c as hc has
    split at hr
    ·rename_i hx
     obtain⟨vs,h1⟩:=sR h has
     exact Kb (rF hc) hx h1 (fun ca hca p hp=>BY wf has hca p hp) hr tp h.gl hw (hd _ rfl)
    ·cases hr
   ·rename_i a _ has
    split at hr
    ·rename_i xe hxe
     obtain rfl:=yV hxe
     obtain⟨vs,h1⟩:=sR h has
     exact Pd h1 hr tp hw (hd _ rfl)
    ·cases hr
   ·cases hr
  ·rename_i s xs l
   split at hr
   ·rename_i b as hb has
    split at hr
    ·rename_i f t y hclo
     have hclo:=Iz hclo
     cases hr with
     |bnd hy hr=>
      dsimp only at hr
      split at hr
      ·rename_i c cs hc hcs
       split at hr
       ·rename_i hx
        obtain⟨vs,h1⟩:=sR h has
        obtain⟨v,h2,h3⟩:=a8 h hb
        have h3:=h3.1
        rw[hclo,hy]at h3
        refine Fk (c:=c) ⟨v,h2,by rw[rF hc];exact h3⟩ hcs hx h1 (fun ca hca p hp=>?_) hr tp h.gl hw (hd _ rfl)
        exact z8 wf hcs has hca p hp
       ·cases hr
      ·cases hr
    cases hr
   ·cases hr
  ·cases hr
 ·cases hr
end
structure mz(pts:List Nat)(w0:World)(aQ:bg)(e:ja)(ps:PS)(F:List (Nat×Value))(lab:bg)(w:World):Prop where
 sim:rV e ps F lab w
 wf:WF ps
 cx:Cx pts w0 aQ w lab
 a0:A0 pts e
def P'{β:Type}(l:List (Nat×Nat×β))(s:Nat):Bool:=match aP l s with |some _=>true |none=>false
def jw(ps:PS)(o:fw):Bool:=Fn ps.nxt o&&o.ks.all (fun k=>Nat.ble 2 k)&&o.re.all (fun p=>P' ps.sl p.1)
section
variable {P : Program} {N : Nat} {F : List (Nat × Value)} {w w' w0 : World} {e e' : ja} {lab lab' aQ : bg} {ps ps' : PS} {v : Value} {pts : List Nat} {d : Option Nat} {out : fw} {K : gC}
theorem RJ{ks:List Nat}(h:ks.all (fun k=>Nat.ble 2 k)=true):ks.contains 1=false:=by
 cases hc:ks.contains 1 with
 |false=>rfl
 |true=>
  have:1∈ks:=by simpa using hc
  have:=List.all_eq_true.1 h 1 this
  cases this
theorem mz.step(h:mz pts w0 aQ e ps F lab w)(hp:ru N F e ps.nxt lab w d out e' lab' w' v)(hc:jw ps out=true):mz pts w0 aQ e' (apply ps d out) (PA F d v) lab' w':=by
 simp only[jw,Bool.and_eq_true]at hc
 refine⟨h.sim.apply (N:=N) h.wf hp fun p hp'=>?_,h.wf.apply d hc.1.1,h.cx.stp hp.2.1 (RJ hc.1.2),fun g hg=>by rw[hp.1 0 (.inl h.wf.n0)];exact h.a0 g hg⟩
 have:=List.all_eq_true.1 hc.2 p hp'
 unfold P' at this
 split at this
 ·rename_i x hx
  obtain⟨st,sv⟩:=x
  obtain⟨u,hu,_⟩:=h.sim.sl _ _ _ (aw hx)
  exact⟨u,hu⟩
 ·cases this
def wt(all:List Oper)(j:Nat):Option Nat:=match Fs all j with |some o=>o.dst |none=>none
theorem sZ{all:List Oper}{j dj:Nat}(h:wt all j=some dj):(all.toArray[j]?).bind (·.dst)=some dj:=by
 unfold wt at h
 split at h
 ·rename_i o ho
  rw[ph]at ho
  simp[ho,h]
 ·cases h
def Aj:SV→Option Bool
 | .dat .bool c=>some c
 |_=>none
theorem yM{sv:SV}{c:Bool}(h:Aj sv=some c):sv = .dat .bool c:=by
 unfold Aj at h
 split at h
 ·cases h;rfl
 ·cases h
def M':SV→Bool
 | .und=>true
 |_=>false
theorem Ii{sv:SV}(h:M' sv=true):sv = .und:=by cases sv<;>first |rfl |cases h
def GW(all:List Oper)(ps:PS)(g:Option (Nat×Bool)):Prop:=
 match g with
 |none=>True
 |some (j,b)=>∃dj st,wt all j=some dj∧aP ps.sl dj=some (st,.dat .bool b)
def GN(all:List Oper)(ps:PS)(o:Oper):Prop:=
 ∃j b dj st,o.guard=some (j,b)∧wt all j=some dj∧(aP ps.sl dj=some (st,.dat .bool (!b))∨aP ps.sl dj=some (st,.und)∧o.dst≠none)
def QU(N:Nat)(d:Option Nat):Bool:=match d with |some d=>Nat.blt d N |none=>true
theorem DK{d:Option Nat}(h:QU N d=true): ∀i,d=some i→Nat.blt i N=true:=fun i e=>by subst e;exact h
def pm(T:mR P)(N:Nat)(own rng:List Nat)(all:List Oper)(o:Oper)(ps:PS)(out:fw):Prop:=
 QU N o.dst=true∧jw ps out=true∧((GW all ps o.guard∧jH (i_ T own rng ps o.dst o.op) out)∨(GN all ps o∧out=o1 .und))
theorem GW.wn{all:List Oper}{g:Option (Nat×Bool)}(h:rV e ps F lab w)(hg:GW all ps g):Wn all.toArray F g:=by
 unfold Wn
 unfold GW at hg
 split
 ·trivial
 ·rename_i j b
  obtain⟨dj,st,h1,h2⟩:=hg
  obtain⟨v,hv,hr⟩:=h.sl _ _ _ (aw h2)
  have hr:bh .bool b lab w v:=hr
  rw[hr.bool]at hv
  exact⟨dj,sZ h1,hv⟩
theorem Lz{all:List Oper}{o:Oper}(h:rV e ps F lab w)(hg:GN all ps o)(hd:QU N o.dst=true)(tp:dv lab w):LW P N all.toArray [o] F w (Fin N F e ps.nxt lab w o.dst (o1 .und)):=by
 obtain⟨dst,op,ty,pos,af,g⟩:=o
 obtain⟨j,b,dj,st,h1,h2,h3⟩:=hg
 have h1:g=some (j,b):=h1
 subst h1
 have hfin : ∀{F':List (Nat×Value)} {d:Option Nat},F'=PA F d undef→LW P N all.toArray [] F' w (Fin N F e ps.nxt lab w d (o1 .und)):=fun hF=>by
  subst hF
  exact LW.nil fun a ha=>⟨rfl,e,lab,undef,ha,fun _ _=>rfl,jM.refl tp,rfl,fun p hp=>by simp[o1]at hp,fun p hp=>by simp[o1]at hp⟩
 rcases h3 with h3 | ⟨h3,h4⟩
 ·obtain⟨v,hv,hr⟩:=h.sl _ _ _ (aw h3)
  have hr:bh .bool (!b) lab w v:=hr
  rw[hr.bool]at hv
  cases dst with
  |some d=>exact LW.skip dj (sZ h2) hv (by cases b<;>rfl) (DK hd _ rfl) (hfin rfl)
  |none=>exact LW.skip0 dj (sZ h2) hv (by cases b<;>rfl) (hfin rfl)
 ·obtain⟨v,hv,hr⟩:=h.sl _ _ _ (aw h3)
  have hr:v=undef:=hr
  rw[hr]at hv
  cases dst with
  |some d=>exact LW.skipU dj (sZ h2) hv (DK hd _ rfl) (hfin rfl)
  |none=>exact absurd rfl h4
theorem LI:jw ps (o1 .und)=true:=rfl
theorem pm.fin{T:mR P}{own rng:List Nat}{all:List Oper}{o:Oper}(s:pm T N own rng all o ps out)(h:rV e ps F lab w)(wf:WF ps)(tp:dv lab w):
  LW P N all.toArray [o] F w (Fin N F e ps.nxt lab w o.dst out):=by
 obtain⟨hd,hc,⟨hg,hr⟩ | ⟨hg,rfl⟩⟩:=s
 ·obtain⟨dst,op,ty,pos,af,g⟩:=o
  exact Ma h wf tp hr (hg.wn h) (DK hd)
 ·exact Lz h hg hd tp
theorem HJ{T:mR P}{own rng:List Nat}{all:List Oper}{o:Oper}{rest:List Oper}(s:pm T N own rng all o ps out)(h:mz pts w0 aQ e ps F lab w)
  (hk : ∀e' F' lab' w',mz pts w0 aQ e' (apply ps o.dst out) F' lab' w'→LW P N all.toArray rest F' w' K):LW P N all.toArray (o::rest) F w K:=by
 refine LW.cons1 (s.fin h.sim h.wf h.cx.top) ?_
 rintro ex a' w' ⟨h0,e',lab',v,hs,hp⟩
 exact⟨h0,hk _ _ _ _ (h.step hp s.2.1) _ hs⟩
def jT:List (Nat×Nat×SV)→Nat→List Nat
 | [],_=>[]
 | (s,_,.own i)::r,id=>match Nat.beq i id with
  |true=>s::jT r id
  |false=>jT r id
 |_::r,id=>jT r id
theorem iO : ∀{l:List (Nat×Nat×SV)} {id s:Nat},s∈jT l id→∃st,(s,st,.own id)∈l
 | [],_,_,h=>by simp[jT]at h
 | (s',st,sv)::r,id,s,h=>by
  cases sv with
  |own i=>
   unfold jT at h
   split at h
   ·rename_i hb
    obtain rfl:=Nat.eq_of_beq_eq_true hb
    rcases List.mem_cons.1 h with rfl |h
    ·exact⟨st,by simp⟩
    ·obtain⟨st',h⟩:=iO h;exact⟨st',by simp[h]⟩
   ·obtain⟨st',h⟩:=iO h;exact⟨st',by simp[h]⟩
  |_=>obtain⟨st',h⟩:=iO (l:=r) h;exact⟨st',by simp[h]⟩
def Nk(k:Nat)(T:TypeId)(t:PT)(x:den t):List (Nat×Nat)→dN
 | []=>.box k T t x
 |h::r=>.boxh k T t x (h::r)
theorem Km{k:Nat}{T:TypeId}{t:PT}{x:den t}{hs:List (Nat×Nat)}{e:ja}{lab:bg}{w:World}{id:Nat}(h:bR e lab w id (.boxh k T t x hs)):bR e lab w id (Nk k T t x hs):=by
 cases hs with
 |nil=>
  obtain⟨g,cs,h1,h2,h3,_⟩:=h
  exact⟨g,cs,h1,h2,h3⟩
 |cons a r=>exact h
def Sh(ps:PS)(id:Nat):Option fw:=
 match aP ps.mem id with
 |some (_,.row k _ t xs)=>some ⟨.und,[k],[],(jT ps.sl id).map fun s=>(s,.dat (.sl t) xs)⟩
 |some (_,.rq k _ _ t xs)=>some ⟨.und,[k],[],(jT ps.sl id).map fun s=>(s,.dat (.sl (.sl t)) xs)⟩
 |some (_,.boxh k T t x ((off,rid)::hs))=>match aP ps.mem rid with
  |some (_,.row q _ u xs)=>match Nat.beq k q,dV t off (.sl u) x xs with
   |false,some x'=>some ⟨.und,[q],[(id,Nk k T t x' hs)],(jT ps.sl rid).map fun s=>(s,.dat (.sl u) xs)⟩
   |_,_=>none
  |_=>none
 |_=>none
theorem NX{id:Nat}(h:rV e ps F lab w)(tp:dv lab w)(hf:Sh ps id=some out): ∃lab',ru N F e ps.nxt lab w none out e lab' w undef:=by
 unfold Sh at hf
 split at hf
 ·rename_i st k E t xs hm
  cases hf
  obtain⟨b1,b2,b3⟩:=h.mem _ _ _ (aw hm)
  refine⟨Gk.mask lab k,fun _ _=>rfl,jM.mask tp (by simp),rfl,fun p hp=>by simp at hp,fun p hp u hu=>?_⟩
  obtain⟨s,hs,rfl⟩:=List.mem_map.1 hp
  obtain⟨st',hs⟩:=iO hs
  obtain⟨v,hv,hr⟩:=h.sl _ _ _ hs
  have hv':bN F s=some u:=hu
  rw[hv]at hv'
  have hvu:=Option.some.inj hv'
  have hr:v = .slice (e id).oa (e id).n (e id).c:=hr
  rw[←hvu,hr,b1]
  exact bh.ofSl b3.view
 ·rename_i st k E E2 t xs hm
  cases hf
  obtain⟨b1,b2,b3⟩:=h.mem _ _ _ (aw hm)
  refine⟨Gk.mask lab k,fun _ _=>rfl,jM.mask tp (by simp),rfl,fun p hp=>by simp at hp,fun p hp u hu=>?_⟩
  obtain⟨s,hs,rfl⟩:=List.mem_map.1 hp
  obtain⟨st',hs⟩:=iO hs
  obtain⟨v,hv,hr⟩:=h.sl _ _ _ hs
  have hv':bN F s=some u:=hu
  rw[hv]at hv'
  have hvu:=Option.some.inj hv'
  have hr:v = .slice (e id).oa (e id).n (e id).c:=hr
  rw[←hvu,hr,b1]
  exact bh.ofSl (t:=.sl t) b3.view
 ·rename_i st k T t x off rid hs0 hm
  split at hf
  ·rename_i st2 q E u xs hm2
   split at hf
   ·rename_i x' hkq hs
    cases hf
    obtain⟨b1,b2,b3⟩:=h.mem _ _ _ (aw hm2)
    have b1:(e rid).n=xs.length:=b1
    obtain⟨G,cs,c1,c2,c3,c4,c5⟩:=h.mem _ _ _ (aw hm)
    have hne:k≠q:=fun e=>by subst e;simp at hkq
    refine⟨Gk.mask lab q,fun _ _=>rfl,jM.mask tp (by simp),rfl,fun p hp=>?_,fun p hp u' hu=>?_⟩
    ·simp at hp;subst hp
     refine Km ?_
     rw[List.map_cons]at c5
     obtain⟨hnin,hnd⟩:=List.nodup_cons.1 c5
     have hoff:(qC cs hs0)[off]?=some (.slice (e rid).oa (e rid).n (e rid).c):=by
      rw[DX fun h hm he=>hnin (List.mem_map.2 ⟨h,hm,he⟩)]
      exact c4 (off,rid) (by simp)
     have hsl:(rep (.sl u)).rd (Gk.mask lab q) w [.slice (e rid).oa (e rid).n (e rid).c] xs:=⟨(e rid).oa,(e rid).c,by rw[b1],b3.view⟩
     obtain⟨hle,hrd⟩:=l7 (u:=.sl u) ((rep t).keep bw.mask c3) hsl hs
     refine⟨G,cs,c1,⟨c2.1,?_⟩,?_,fun h hm=>c4 h (by simp[hm]),hnd⟩
     ·unfold Gk.mask;rw[c2.2,if_neg hne]
     ·have hlo:off<(qC cs hs0).length:=(List.getElem?_eq_some_iff.1 hoff).1
      have e1:((qC cs hs0).set off (.slice none 0 0)).take off ++ [.slice (e rid).oa (e rid).n (e rid).c]++((qC cs hs0).set off (.slice none 0 0)).drop (off+dq (.sl u))=qC cs hs0:=by
       show _++_++((qC cs hs0).set off _).drop (off+1)=qC cs hs0
       rw[List.take_set_of_le (Nat.le_refl _),List.drop_set_of_lt (by omega)]
       have e2:(qC cs hs0)[off] = .slice (e rid).oa (e rid).n (e rid).c:=by
        have:=List.getElem?_eq_getElem hlo
        rw[hoff]at this;exact(Option.some.inj this).symm
       rw[←e2,List.append_assoc,List.singleton_append,←List.drop_eq_getElem_cons hlo,List.take_append_drop]
      exact e1▸hrd
    ·obtain⟨s,hs',rfl⟩:=List.mem_map.1 hp
     obtain⟨st',hs'⟩:=iO hs'
     obtain⟨v,hv,hr⟩:=h.sl _ _ _ hs'
     have hv':bN F s=some u':=hu
     rw[hv]at hv'
     have hvu:=Option.some.inj hv'
     have hr:v = .slice (e rid).oa (e rid).n (e rid).c:=hr
     rw[←hvu,hr,b1]
     exact bh.ofSl b3.view
   ·cases hf
  ·cases hf
 ·cases hf
def tZ:List Nat→PS→Option PS
 | [],ps=>some ps
 |id::r,ps=>match Sh ps id with
  |some out=>match jw ps out with
   |true=>tZ r (apply ps none out)
   |false=>none
  |none=>none
theorem qE : ∀{ids:List Nat} {ps ps':PS} {lab:bg},tZ ids ps=some ps'→mz pts w0 aQ e ps F lab w→(∃lab',mz pts w0 aQ e ps' F lab' w)∧dD ps ps'
 | [],ps,ps',lab,hf,h=>by cases hf;exact⟨⟨lab,h⟩,dD.refl _⟩
 |id::r,ps,ps',lab,hf,h=>by
  unfold tZ at hf
  split at hf
  ·rename_i out ho
   split at hf
   ·rename_i hc
    obtain⟨lab',hp⟩:=NX (N:=0) h.sim h.cx.top ho
    have h2:=h.step hp hc
    obtain⟨h3,h4⟩:=qE hf h2
    exact⟨h3,(dD.apply _ _ _).trans h4⟩
   ·cases hf
  ·cases hf
def RS:Nat:=let _f:=@i_;0
noncomputable def d9 {R:Type} (n:Nat) (k:Nat→R):R:=(fun _=>Nat.rec (motive:=fun _=>R) (k 0) (fun m _=>k (m+1)) n) RS
theorem ib{R:Type}(n:Nat)(k:Nat→R):d9 n k=k n:=by cases n<;>rfl
noncomputable def C8 {R:Type} (b:SV) (k:SV→R):R:=
 match b with
 | .dat t x=>k (.dat t x) | .agn t x l=>k (.agn t x l) | .agh t x off id=>d9 id fun id=>k (.agh t x off id) | .clb f id=>d9 id fun id=>k (.clb f id) | .nil=>k .nil | .und=>k .und | .pnil=>k .pnil
 | .ptr id off=>d9 id fun id=>k (.ptr id off) | .own id=>d9 id fun id=>k (.own id) | .eptr id i off=>d9 id fun id=>k (.eptr id i off) | .dptr t x off=>k (.dptr t x off)
 | .rix id=>d9 id fun id=>k (.rix id) | .rlen id=>d9 id fun id=>k (.rlen id) | .rsl id=>d9 id fun id=>k (.rsl id) | .rnx id=>d9 id fun id=>k (.rnx id) | .rcn id=>d9 id fun id=>k (.rcn id) | .mp id=>d9 id fun id=>k (.mp id) | .garr t xs=>k (.garr t xs) | .tup l=>k (.tup l)
theorem FB{R:Type}(b:SV)(k:SV→R):C8 b k=k b:=by
 cases b<;>unfold C8<;>first |rfl |exact ib _ _
noncomputable def CT {R:Type} (l:List (Nat×Nat)):(List (Nat×Nat)→R)→R:=
 List.rec (motive:=fun _=>(List (Nat×Nat)→R)→R) (fun k=>k []) (fun x _ ih k=>Prod.casesOn (motive:=fun _=>R) x fun o r=>d9 o fun o=>d9 r fun r=>ih fun l=>k ((o,r)::l)) l
theorem zo{R:Type}: ∀(l:List (Nat×Nat)) (k:List (Nat×Nat)→R),CT l k=k l
 | [],k=>rfl
 | (o,r)::l,k=>by
  show d9 o (fun o=>d9 r fun r=>CT l fun l=>k ((o,r)::l))=_
  rw[ib,ib,zo l]
noncomputable def C1 {R:Type} (b:dN) (k:dN→R):R:=
 match b with
 | .box q T t x=>k (.box q T t x) | .boxh q T t x hs=>CT hs fun hs=>k (.boxh q T t x hs) | .row q E t xs=>k (.row q E t xs) | .src q t xs=>k (.src q t xs)
 | .rgh t xs=>k (.rgh t xs) | .rgi h t xs i ox=>d9 h fun h=>k (.rgi h t xs i ox) | .rgc n=>k (.rgc n) | .rgj h n i more=>d9 h fun h=>k (.rgj h n i more) | .mp q T t f=>k (.mp q T t f) | .rq q E E2 t xs=>k (.rq q E E2 t xs) | .rp q E E2 t xs=>k (.rp q E E2 t xs)
theorem Ft{R:Type}(b:dN)(k:dN→R):C1 b k=k b:=by
 cases b<;>unfold C1<;>first |rfl |exact zo _ (fun r=>k (.boxh _ _ _ _ r)) |exact ib _ (fun h=>k (.rgi h _ _ _ _)) |exact ib _ (fun h=>k (.rgj h _ _ _))
noncomputable def AF {R β:Type} (f:(b:β)→(β→R)→R) (l:List (Nat×Nat×β)):(List (Nat×Nat×β)→R)→R:=
 List.rec (motive:=fun _=>(List (Nat×Nat×β)→R)→R) (fun k=>k []) (fun x _ ih k=>Prod.casesOn (motive:=fun _=>R) x fun s y=>Prod.casesOn (motive:=fun _=>R) y fun st b=>d9 s fun s=>d9 st fun st=>f b fun b=>ih fun r=>k ((s,st,b)::r)) l
theorem uz{R β:Type}{f:(b:β)→(β→R)→R}(hf : ∀b k,f b k=k b): ∀(l:List (Nat×Nat×β)) (k:List (Nat×Nat×β)→R),AF f l k=k l
 | [],k=>rfl
 | (s,st,b)::r,k=>by
  show d9 s (fun s=>d9 st fun st=>f b fun b=>AF f r fun r=>k ((s,st,b)::r))=_
  rw[ib,ib,hf,uz hf r]
noncomputable def AA {R:Type} (ps:PS) (k:PS→R):R:=d9 ps.nxt fun n=>AF C8 ps.sl fun sl=>AF C1 ps.mem fun mem=>k ⟨n,sl,mem⟩
theorem yO{R:Type}(ps:PS)(k:PS→R):AA ps k=k ps:=by
 unfold AA
 rw[ib,uz FB,uz Ft]
def L2:List (Nat×Nat×SV)→Nat→SV→List (Nat×Nat×SV)
 | [],_,_=>[]
 | (k,st,b)::r,s,sv=>match Nat.beq k s with
  |true=>(k,st,sv)::r
  |false=>(k,st,b)::L2 r s sv
theorem EJ : ∀{l:List (Nat×Nat×SV)} {s st:Nat} {sv:SV},aP l s=some (st,sv)→L2 l s sv=l
 | [],_,_,_,h=>by cases h
 | (k,st',b)::r,s,st,sv,h=>by
  unfold aP at h
  unfold L2
  split at h
  ·rename_i hb
   cases h
   simp only[hb]
  ·rename_i hb
   simp only[hb]
   rw[EJ h]
def pW(ps:PS)(s:Nat)(c:Bool):PS:=⟨ps.nxt,L2 ps.sl s (.dat .bool c),ps.mem⟩
theorem qB{s st:Nat}{c:Bool}(h:aP ps.sl s=some (st,.dat .bool c)):pW ps s c=ps:=by
 unfold pW;rw[EJ h]
def Rt:List PK→List Operand→List Operand
 | .r _ _::ps,_::xs=>Rt ps xs
 |_::ps,x::xs=>x::Rt ps xs
 | [],xs=>xs
 |_,[]=>[]
def Kf(hold:List Nat)(x:Operand):Bool:=match vK x with
 |some s=>fp hold (1000000+s)
 |none=>false
def Q8(hold:List Nat)(x:Operand):Bool:=match vK x with
 |some s=>fp hold (5000000+s)
 |none=>false
def Np(hold:List Nat)(x:Operand):Bool:=match vK x with
 |some s=>fp hold (2000000+s)
 |none=>false
def St{P:Program}(T:mR P):Op→List Operand
 | .store _ x v=>match Kk T.hold x with
  |some _=>[]
  |none=>match Kf T.hold x with
   |true=>[]
   |false=>match Q8 T.hold x with
    |true=>[v]
    |false=>[v,x]
 | .box _ v=>[v]
 | .load t x=>match eP T.te t with
  |some e=>match lA e.pt with
   |true=>match Np T.hold x with
    |true=>[]
    |false=>[x]
   |false=>[]
  |none=>[]
 | .build _ parts=>(parts.toList.filter fun p=>!Kf T.hold p.2).map (·.2)
 | .buildSlice _ _ parts=>match parts.toList with
  | [(0,x)]=>match Kf T.hold x with
   |true=>[]
   |false=>[x]
  |l=>l.map (·.2)
 | .call c=>match c.callee with
  | .value (.func f)=>match qx T.cs f with
   |some q=>match uJ (q.rs++iH q.ps)with
    |true=>[]
    |false=>Rt q.ps c.args.toList
   |none=>[]
  | .value (.tmp _)=>c.args.toList
  |_=>[]
 | .makeFunc _ _ caps=>match EZ T.hold caps.toList with
  |true=>[]
  |false=>caps.toList
 | .field _ x _=>[x]
 | .mapUpdate _ _ _ z=>[z]
 |_=>[]
def P7(id:Nat):List (Nat×Nat)→List Nat→List Nat
 | [],l=>l
 |_::r,l=>id::P7 id r l
def oN(ps:PS):List Operand→List Nat
 | []=>[]
 |x::r=>match cJ ps x with
  |some (.own id,some (.row _ _ _ _))=>match fp (oN ps r) id with
   |true=>oN ps r
   |false=>id::oN ps r
  |some (.own id,some (.rq _ _ _ _ _))=>match fp (oN ps r) id with
   |true=>oN ps r
   |false=>id::oN ps r
  |some (.ptr id _,some (.boxh _ _ _ _ hs))=>match fp (oN ps r) id with
   |true=>oN ps r
   |false=>P7 id hs (oN ps r)
  |_=>oN ps r
def Nu(id:Nat):List (Nat×Nat)→List Nat
 |_::h::r=>id::Nu id (h::r)
 |_=>[]
def SW{P:Program}(T:mR P)(ps:PS):Op→List Nat
 | .load _ x=>match Np T.hold x,cJ ps x with
  |true,some (.ptr id 0,some (.boxh _ _ _ _ hs))=>Nu id hs
  |_,_=>[]
 |_=>[]
def SM{P:Program}(T:mR P)(ps:PS)(op:Op):List Nat:=(SW T ps op).foldr (fun x l=>x::l) (oN ps (St T op))
noncomputable def QY (T:mR P) (N:Nat) (own rng:List Nat) {R:Type} (o:Oper) (ps:PS) (K:PS→fw→Option R):Option R:=
 match QU N o.dst with
 |true=>(i_ T own rng ps o.dst o.op).go fun out=>match jw ps out with
  |true=>K ps out
  |false=>none
 |false=>none
def Q2(N:Nat){R:Type}(o:Oper)(ps:PS)(K:PS→fw→Option R):Option R:=
 match QU N o.dst with
 |true=>K ps (o1 .und)
 |false=>none
noncomputable def Is (T:mR P) (N:Nat) (own rng:List Nat) (all:List Oper) {R:Type} (o:Oper) (ps:PS) (K:PS→fw→Option R):Option R:=
 match o.guard with
 |none=>QY T N own rng o ps K
 |some (j,b)=>match wt all j with
  |none=>none
  |some dj=>match aP ps.sl dj with
   |none=>none
   |some (_,sv)=>match Aj sv with
    |some c=>cond c
      (match b with |true=>QY T N own rng o (pW ps dj true) K |false=>Q2 N o (pW ps dj true) K)
      (match b with |true=>Q2 N o (pW ps dj false) K |false=>QY T N own rng o (pW ps dj false) K)
    |none=>match M' sv,o.dst with
     |true,some _=>Q2 N o ps K
     |_,_=>none
theorem wQ{T:mR P}{own rng:List Nat}{all:List Oper}{R:Type}{q:R}{o:Oper}{K:PS→fw→Option R}(hg:GW all ps o.guard)(h:QY T N own rng o ps K=some q): ∃out,pm T N own rng all o ps out∧K ps out=some q:=by
 unfold QY at h
 split at h
 ·rename_i hd
  obtain⟨out,h1,h2⟩:=MJ h
  split at h2
  ·rename_i hc
   exact⟨_,⟨hd,hc,.inl ⟨hg,h1⟩⟩,h2⟩
  ·cases h2
 ·cases h
theorem wi{T:mR P}{own rng:List Nat}{all:List Oper}{R:Type}{q:R}{o:Oper}{K:PS→fw→Option R}(hg:GN all ps o)(h:Q2 N o ps K=some q): ∃out,pm T N own rng all o ps out∧K ps out=some q:=by
 unfold Q2 at h
 split at h
 ·rename_i hd
  exact⟨_,⟨hd,LI,.inr ⟨hg,rfl⟩⟩,h⟩
 ·cases h
theorem ux{T:mR P}{own rng:List Nat}{all:List Oper}{R:Type}{q:R}{o:Oper}{K:PS→fw→Option R}(h:Is T N own rng all o ps K=some q): ∃out,pm T N own rng all o ps out∧K ps out=some q:=by
 unfold Is at h
 split at h
 ·rename_i hg
  exact wQ (by rw[hg];trivial) h
 ·rename_i j b hg
  split at h
  ·cases h
  ·rename_i dj hdj
   split at h
   ·cases h
   ·rename_i st sv hf
    split at h
    ·rename_i c hc
     obtain rfl:=yM hc
     cases c with
     |true=>
      have e1:=qB hf
      simp only[cond_true]at h
      cases b with
      |true=>
       simp only[e1]at h
       exact wQ (by rw[hg];exact⟨dj,st,hdj,hf⟩) h
      |false=>
       simp only[e1]at h
       exact wi ⟨j,false,dj,st,hg,hdj,.inl hf⟩ h
     |false=>
      have e1:=qB hf
      simp only[cond_false]at h
      cases b with
      |true=>
       simp only[e1]at h
       exact wi ⟨j,true,dj,st,hg,hdj,.inl hf⟩ h
      |false=>
       simp only[e1]at h
       exact wQ (by rw[hg];exact⟨dj,st,hdj,hf⟩) h
    ·split at h
     ·rename_i hu hd
      obtain rfl:=Ii hu
      exact wi ⟨j,b,dj,st,hg,hdj,.inr ⟨hf,by rw[hd];simp⟩⟩ h
     ·cases h
noncomputable def JU (T:mR P) (N:Nat) (own rng:List Nat) (all:List Oper) {R:Type}:List Oper→PS→(PS→Option R)→Option R
 | [],ps,K=>K ps
 |o::r,ps,K=>match tZ (SM T ps o.op) ps with
  |some ps=>Is T N own rng all o ps fun ps out=>JU T N own rng all r (apply ps o.dst out) K
  |none=>none
theorem zL{T:mR P}{own rng:List Nat}{all:List Oper}{R:Type}{q:R}: ∀{l:List Oper} {ps:PS} {e:ja} {F:List (Nat×Value)} {lab:bg} {w:World} {K:PS→Option R} {kont:gC},JU T N own rng all l ps K=some q→mz pts w0 aQ e ps F lab w→
  (∀ps' e' F' lab' w',dD ps ps'→mz pts w0 aQ e' ps' F' lab' w'→K ps'=some q→EW N .normal F' w' kont)→LW P N all.toArray l F w kont
 | [],ps,e,F,lab,w,K,kont,h,hi,hk=>LW.nil (hk _ _ _ _ _ (dD.refl _) hi h)
 |o::r,ps,e,F,lab,w,K,kont,h,hi,hk=>by
  unfold JU at h
  split at h
  ·rename_i ps1 hf
   obtain⟨⟨lab1,hi1⟩,hp1⟩:=qE hf hi
   obtain⟨out,hs,h2⟩:=ux h
   refine HJ hs hi1 fun e' F' lab' w' hi2=>?_
   exact zL h2 hi2 fun ps' e'' F'' lab'' w'' hp hi3 hK=>hk _ _ _ _ _ ((hp1.trans (dD.apply _ _ _)).trans hp) hi3 hK
  ·cases h
end
section
variable {P : Program} {N : Nat} {K : gC}
def Qx(l:List Oper)(n:Nat):Bool:=(List.range n).all fun i=>match l[i]? with
 |some o=>o.after.all (fun e=>!Region.binds .any e||decide (e.on<i))
 |none=>false
def RP(l:List Oper)(n:Nat):Bool:=(List.range n).all fun i=>match l[i]? with
 |some o=>match o.dst with
  |some d=>(List.range i).all fun j=>match l[j]? with
   |some o'=>match o'.dst with |some d'=>!Nat.beq d' d |none=>true
   |none=>true
  |none=>true
 |none=>true
theorem H3{l:List Oper}{n:Nat}{I:(Nat→Bool)→List (Nat×Value)→World→Prop}(hn:n≤l.length)(hback:Qx l n=true)(htl:Jo l n=true)(hseq:Region.seqB .any l.toArray (l.length-n) n (oF l n)=true)
  (hop : ∀i,i<n→∀o L F w,l[i]?=some o→L i=false→(∀j,Region.waitsFor .any l.toArray i j=true→L j=true)→(∀j j',Region.waitsFor .any l.toArray j j'=true→L j=true→L j'=true)→(∀j,n≤j→L j=false)→I L F w→
   LW P N l.toArray [o] F w (fun e a' w'=>e = .normal∧∃F',pU F' N a'∧I (qU L i) F' w'))
  (htail : ∀F w,I (fun j=>decide (j<n)) F w→LW P N l.toArray (l.drop n) F w K) :
  ∀(m:Nat) (listed:Array Bool) (a:Act) (F:List (Nat×Value)) (w:World),HI l n listed→cnt n (Lf listed)=m→pU F N a→I (Lf listed) F w→wpAny P .any l.toArray K (m+(l.length-n)) listed a w:=by
 intro m
 induction m with
 |zero=>
  intro listed a F w inv hc ha hq
  have hall:=BQ hc
  have hL:Lf listed=fun j=>decide (j<n):=by
   funext j
   rcases Nat.lt_or_ge j n with h |h
   ·rw[hall j h];simp[h]
   ·rw[inv.tail j h];simp;omega
  have hlisted:listed=oF l n:=by
   apply Array.ext
   ·simp[oF,inv.size]
   ·intro j h1 h2
    have:=congrFun hL j
    simp only[Lf]at this
    rw[Array.getD_eq_getD_getElem?,Array.getElem?_eq_getElem h1]at this
    simp at this
    simp[oF,this]
  rw[hL]at hq
  have:=htail F w hq a ha
  have h2:=wpAny_of_seq (md:=.any) (Q':=K) (l.drop n) n listed a w (fun j=>by simp[List.getElem?_drop]) (by rw[List.length_drop,hlisted];exact hseq) this
  simpa using h2
 |succ m ih=>
  intro listed a F w inv hc ha hq
  rw[show m+1+(l.length-n)=(m+(l.length-n))+1 by omega]
  have hex : ∃i,i<n∧Lf listed i=false:=by
   apply Classical.byContradiction
   intro hno
   have:cnt n (Lf listed)=0:=by
    unfold cnt
    rw[List.length_eq_zero_iff,List.filter_eq_nil_iff]
    intro i hi
    have:=List.mem_range.1 hi
    by_cases h:Lf listed i=true
    ·simp[h]
    ·exact absurd ⟨i,this,by simpa using h⟩ hno
   omega
  obtain⟨i0,hi0⟩:=hex
  obtain⟨k,⟨hkn,hk0⟩,hmin⟩:=B1 (p:=fun i=>i<n∧Lf listed i=false) i0 hi0
  have hklt:k<l.length:=by omega
  have hback':=fun i (hi:i<n)=>List.all_eq_true.1 hback i (List.mem_range.2 hi)
  have hready:k∈Region.ready .any l.toArray listed:=by
   refine mem_ready.2 ⟨getD_in (by rw[inv.size];exact hklt) hk0,l[k],by simp[hklt],fun e he hbnd=>?_⟩
   have:=hback' k hkn
   rw[List.getElem?_eq_getElem hklt]at this
   have h2:=Array.all_eq_true_iff_forall_mem.1 this e he
   simp[hbnd]at h2
   apply Classical.byContradiction
   intro hne
   have:Lf listed e.on=false:=by unfold Lf;simpa using hne
   have:=hmin e.on ⟨by omega,this⟩
   omega
  refine⟨fun h0=>(by rw[h0]at hready;cases hready),fun i hi=>?_⟩
  obtain⟨hil,o,hio,hie⟩:=mem_ready.1 hi
  have hio':l[i]?=some o:=by simpa using hio
  have hilt:i<l.length:=(List.getElem?_eq_some_iff.1 hio').1
  have hiL:Lf listed i=false:=getD_both hil
  have hwait : ∀j,Region.waitsFor .any l.toArray i j=true→Lf listed j=true:=fun j hj=>by
   obtain⟨o',ho',e,he,hbnd,hon⟩:=Region.waitsFor_spec hj
   have:o'=o:=Option.some.inj (ho'.symm.trans hio)
   subst this;subst hon
   exact hie e he hbnd
  have hin:i<n:=by
   rcases Nat.lt_or_ge i n with h |h
   ·exact h
   ·have:=List.all_eq_true.1 htl i (List.mem_range.2 hilt)
    simp only[Bool.or_eq_true,decide_eq_true_eq]at this
    rcases this with h' |h'
    ·omega
    ·have:=List.all_eq_true.1 h' k (List.mem_range.2 (by omega))
     rw[hwait k this]at hk0;cases hk0
  refine wO hio' ha (hop i hin o (Lf listed) F w hio' hiL hwait inv.closed inv.tail hq) fun e a' w' hkk=>?_
  obtain⟨h0,F',hs,hq'⟩:=hkk
  refine⟨h0,?_⟩
  have hset:Lf (listed.setIfInBounds i true)=qU (Lf listed) i:=by
   funext j;unfold Lf qU;exact zE listed i j false (by rw[inv.size];exact hilt)
  refine ih _ _ F' w' ⟨by simp[inv.size],fun j j' hj hl=>?_,fun j hj=>?_⟩ ?_ hs (by rw[hset];exact hq')
  ·rw[hset]at hl⊢
   unfold qU at hl⊢
   by_cases hji:j=i
   ·subst hji
    by_cases hj'i:j'=j
    ·simp[hj'i]
    ·simp[hj'i,hwait j' hj]
   ·rw[if_neg hji]at hl
    by_cases hj'i:j'=i
    ·simp[hj'i]
    ·simp[hj'i,inv.closed j j' hj hl]
  ·rw[hset];unfold qU;rw[if_neg (by omega)];exact inv.tail j hj
  ·have:=Eb hin hiL;rw[hset];omega
end
theorem ff : ∀{l:List Nat} {n:Nat},fp l n=true↔n∈l
 | [],n=>by simp[fp]
 |x::r,n=>by
  unfold fp
  rw[Bool.or_eq_true,ff,List.mem_cons]
  constructor
  ·rintro(h |h)
   ·exact .inl (Nat.eq_of_beq_eq_true h).symm
   ·exact .inr h
  ·rintro(rfl |h)
   ·exact .inl (Nat.beq_refl _)
   ·exact .inr h
def sE:List Nat→List Nat→Bool
 | [],_=>false
 |x::r,l=>fp l x||sE r l
theorem tt : ∀{a b:List Nat},(∃x,x∈a∧x∈b)→sE a b=true
 | [],_,⟨x,h,_⟩=>by simp at h
 |y::r,b,⟨x,h,h2⟩=>by
  unfold sE
  rcases List.mem_cons.1 h with rfl |h
  ·rw[ff.2 h2];rfl
  ·rw[tt ⟨x,h,h2⟩,Bool.or_true]
def nT(l:List (List Nat))(n:Nat):List Nat:=match Fs l n with |some x=>x |none=>[]
def CP(t:List (List Nat)):List Nat→List Nat
 | []=>[]
 |d::r=>match fp (CP t r) d with
  |true=>CP t r
  |false=>d::(nT t d++CP t r)
theorem wD{t:List (List Nat)}{j:Nat}: ∀{ds:List Nat},j∈CP t ds→j∈ds∨∃k,k∈ds∧j∈nT t k
 | [],h=>by simp[CP]at h
 |d::r,h=>by
  unfold CP at h
  have up:(j∈r∨∃k,k∈r∧j∈nT t k)→j∈d::r∨∃k,k∈d::r∧j∈nT t k:=by
   rintro(h | ⟨k,h1,h2⟩)
   ·exact .inl (List.mem_cons_of_mem _ h)
   ·exact .inr ⟨k,List.mem_cons_of_mem _ h1,h2⟩
  split at h
  ·exact up (wD h)
  ·rcases List.mem_cons.1 h with rfl |h
   ·exact .inl (by simp)
   ·rcases List.mem_append.1 h with h |h
    ·exact .inr ⟨d,by simp,h⟩
    ·exact up (wD h)
def lp(l:List Oper):Nat→List (List Nat)
 |0=>[]
 |n+1=>
  let t:=lp l n
  let ds:=(List.range n).filter fun j=>Region.waitsFor .any l.toArray n j
  t ++ [CP t ds]
theorem zf(l:List Oper): ∀n,(lp l n).length=n
 |0=>rfl
 |n+1=>by simp[lp,zf l n]
theorem tH{l:List Oper}{L:Nat→Bool}(hc : ∀j j',Region.waitsFor .any l.toArray j j'=true→L j=true→L j'=true): ∀n i j,j∈nT (lp l n) i→(L i=true∨∀k,Region.waitsFor .any l.toArray i k=true→L k=true)→L j=true
 |0,i,j,h,_=>by simp[lp,nT,Fs]at h
 |n+1,i,j,h,hi=>by
  have hl:=zf l n
  unfold nT at h
  rw[ph]at h
  simp only[lp]at h
  by_cases hin:i<n
  ·rw[List.getElem?_append_left (by omega)]at h
   have:=tH hc n i j (by unfold nT;rw[ph];exact h) hi
   exact this
  ·by_cases hen:i=n
   ·subst hen
    rw[List.getElem?_append_right (by omega),hl,Nat.sub_self]at h
    simp only[List.getElem?_cons_zero]at h
    have hi' : ∀k,Region.waitsFor .any l.toArray i k=true→L k=true:=fun k hk=>by
     rcases hi with hi |hi
     ·exact hc _ _ hk hi
     ·exact hi k hk
    rcases wD h with h | ⟨k,hk,hj⟩
    ·exact hi' j (List.mem_filter.1 h).2
    ·exact tH hc i k j hj (.inl (hi' k (List.mem_filter.1 hk).2))
   ·rw[List.getElem?_eq_none (by simp[hl];omega)]at h
    simp at h
def oL:Op→List Operand
 | .move x=>[x] | .assign x=>[x] | .pick c x y=>[c,x,y] | .box _ x=>[x] | .fieldAddr _ x _=>[x] | .nilCheck x=>[x] | .load _ x=>[x] | .store _ x y=>[x,y]
 | .binOp _ _ x y _=>[x,y] | .unOp _ _ x=>[x] | .convert _ _ x=>[x] | .build _ ps=>ps.toList.map (·.2) | .buildSlice _ _ ps=>ps.toList.map (·.2) | .makeSlice _ x y=>[x,y]
 | .slice _ x lo hi mx=>x::(lo.toList++(hi.toList++mx.toList)) | .indexAddr _ x y=>[x,y] | .index _ x y=>[x,y] | .lookup _ x y _=>[x,y] | .mapUpdate _ x y z=>[x,y,z] | .extract x _=>[x] | .field _ x _=>[x] | .makeFunc _ _ caps=>caps.toList
 | .call c=>c.args.toList++(match c.callee with | .value f=>[f] |_=>[])
 |_=>[]
def tmps:List Operand→List Nat
 | []=>[]
 | .tmp t::r=>t::tmps r
 |_::r=>tmps r
theorem xp : ∀{l:List Operand} {t:Nat},Operand.tmp t∈l→t∈tmps l
 | [],t,h=>by simp at h
 |x::r,t,h=>by
  rcases List.mem_cons.1 h with rfl |h
  ·simp[tmps]
  ·have:=xp h
   cases x<;>simp[tmps,this]
section
variable {P : Program} {ps ps' : PS}
theorem rM : ∀{xs:List Operand},(∀x∈xs,cJ ps x=cJ ps' x)→rQ ps xs=rQ ps' xs
 | [],_=>rfl
 |x::xs,h=>by unfold rQ;rw[h x (by simp),rM fun y hy=>h y (by simp[hy])]
theorem rH : ∀{xs:List (Nat×Operand)},(∀x∈xs.map (·.2),cJ ps x=cJ ps' x)→zN ps xs=zN ps' xs
 | [],_=>rfl
 | (i,x)::xs,h=>by unfold zN;rw[h x (by simp),rH fun y hy=>h y (by simp at hy⊢;exact .inr hy)]
theorem yX{x:Option Operand}(h : ∀y∈x.toList,cJ ps y=cJ ps' y):OP ps x=OP ps' x:=by
 cases x with
 |none=>rfl
 |some x=>simp only[OP,h x (by simp)]
theorem DL{T:mR P}{own rng:List Nat}{dst:Option Nat}{op:Op}(hn:ps.nxt=ps'.nxt)(h : ∀x∈oL op,cJ ps x=cJ ps' x):i_ T own rng ps dst op=i_ T own rng ps' dst op:=by
 cases op<;>cases dst<;>first |rfl |skip
 case move.some x d=>simp only[i_];rw[h x (by simp[oL])]
 case assign.some x d=>simp only[i_];rw[h x (by simp[oL])]
 case pick.some c x y d=>simp only[i_];rw[h c (by simp[oL]),h x (by simp[oL]),h y (by simp[oL])]
 case alloc.some t d=>simp only[i_,hn]
 case box.some t x d=>simp only[i_,hn];rw[h x (by simp[oL])]
 case fieldAddr.some t x f d=>simp only[i_];rw[h x (by simp[oL])]
 case nilCheck.some x d=>simp only[i_];rw[h x (by simp[oL])]
 case load.some t x d=>simp only[i_,hn];rw[h x (by simp[oL])]
 case store.none t x y=>simp only[i_,hn];rw[h x (by simp[oL]),h y (by simp[oL])]
 case binOp.some o t x y t' d=>simp only[i_];rw[h x (by simp[oL]),h y (by simp[oL])]
 case unOp.some o t x d=>cases o<;>first |rfl | (simp only[i_];rw[h x (by simp[oL])])
 case convert.some s t x d=>simp only[i_];rw[h x (by simp[oL])]
 case build.some t ps0 d=>simp only[i_];rw[rH (by simpa [oL]using h)]
 case field.some t x f d=>simp only[i_];rw[h x (by simp[oL])]
 case makeFunc.none fn fs caps=>cases fn<;>rfl
 case makeFunc.some fn fs caps d=>cases fn<;>first |rfl | (simp only[i_];rw[rM (by simpa [oL]using h)])
 case buildSlice.some t n ps0 d=>simp only[i_,hn];rw[rH (by simpa [oL]using h)]
 case makeSlice.some t x y d=>simp only[i_,hn];rw[h x (by simp[oL]),h y (by simp[oL])]
 case slice.some t x lo hi mx d=>
  cases mx with
  |none=>simp only[i_,hn];rw[h x (by simp[oL]),yX (x:=lo) (fun y hy=>h y (by simp[oL]at hy⊢;exact .inr (.inl hy))),yX (x:=hi) (fun y hy=>h y (by simp[oL]at hy⊢;exact .inr (.inr hy)))]
  |some m=>
   cases lo with
   |some _=>cases hi<;>rfl
   |none=>
    cases hi with
    |none=>rfl
    |some q=>simp only[i_];rw[h x (by simp[oL]),h q (by simp[oL]),h m (by simp[oL])]
 case unOp.none o t x=>cases o<;>rfl
 case slice.none t x lo hi mx=>cases mx<;>cases lo<;>cases hi<;>rfl
 case index.some t x y d=>simp only[i_];rw[h x (by simp[oL]),h y (by simp[oL])]
 case indexAddr.some t x y d=>simp only[i_];rw[h x (by simp[oL]),h y (by simp[oL])]
 case extract.some x i d=>simp only[i_];rw[h x (by simp[oL])]
 case call.some c d=>
  have hL : ∀l,c.args.toList=l→rQ ps l=rQ ps' l:=fun l hl=>rM fun x hx=>h x (by simp only[oL];rw[hl];exact List.mem_append_left _ hx)
  have h1 : ∀x,x∈c.args.toList→cJ ps x=cJ ps' x:=fun x hx=>h x (by simp only[oL];exact List.mem_append_left _ hx)
  have h2 : ∀f,c.callee = .value f→cJ ps f=cJ ps' f:=fun f hf=>h f (by simp only[oL];rw[hf];exact List.mem_append_right _ (List.mem_singleton.2 rfl))
  simp only[i_,hn]
  generalize hc:c.callee=cal at h2
  generalize ha:c.args.toList=al at hL h1
  generalize c.argTypes.toList=tl
  split<;>first |rfl |skip
  ·rename_i x t;rw[h1 x (by simp)]
  ·rename_i x y t t';rw[h1 x (by simp),h1 y (by simp)]
  ·rename_i l x y;rw[h1 x (by simp),h1 y (by simp)]
  ·rename_i l x y;rw[h1 x (by simp),h1 y (by simp)]
  ·rename_i f xs l;rw[hL _ rfl]
  ·rename_i s xs l;rw[hL _ rfl,h2 _ rfl]
end
section
variable {P : Program} {N : Nat}
structure SI where
 d:Option Nat
 us:List Nat
 ids:List Nat
 tl:List Nat
 ks:List Nat
 rf:List Nat
 bn:List Nat
 lo:Nat
def Hf(all:List Oper)(g:Option (Nat×Bool)):List Nat:=
 match g with
 |some (j,_)=>match wt all j with |some dj=>[dj] |none=>[]
 |none=>[]
def mT(ps:PS):List Nat→List Nat
 | []=>[]
 |t::r=>match aP ps.sl t with
  |some (_,sv)=>match B2 sv with
   |some id=>id::mT ps r
   |none=>mT ps r
  |none=>mT ps r
def zk(ps:PS):List Nat→List Nat
 | []=>[]
 |id::r=>match aP ps.mem id with
  |some (_,m)=>m.lbl::zk ps r
  |none=>zk ps r
def pq(all:List Oper)(o:Oper):List Nat:=tmps (oL o.op)++Hf all o.guard
def yi(all:List Oper)(o:Oper)(ps:PS):List Nat:=
 match o.op with
 | .move _=>[] | .assign _=>[] | .fieldAddr _ _ _=>[] | .nilCheck _=>[]
 |_=>mT ps (pq all o)
def uF(all:List Oper)(o:Oper)(ps:PS)(out:fw):SI:=
 ⟨o.dst,pq all o,yi all o ps,zk ps (yi all o ps)++out.ks++out.puts.map (·.2.lbl),out.ks,kN out.sv++out.puts.flatMap (fun p=>p.1::iu p.2),out.puts.map (·.1),ps.nxt⟩
def Pw(lo:Nat)(i:Nat):Bool:=Nat.ble lo i&&Nat.blt i (lo+4)
def uo(dep:Bool)(a b:SI):Bool:=
 dep||!((match a.d with |some d=>fp b.us d |none=>false)||b.rf.any (Pw a.lo)||sE a.bn b.ids||sE a.ks b.tl||sE a.tl b.ks)
def Ge(tab:List (List Nat)):Nat→List (Nat×SI)→List SI→Bool
 |_,_,[]=>true
 |j,prev,s::r=>prev.all (fun p=>uo (fp (nT tab j) p.1) p.2 s)&&Ge tab (j+1) ((j,s)::prev) r
theorem CJ{tab:List (List Nat)}: ∀{l:List SI} {j:Nat} {prev:List (Nat×SI)},Ge tab j prev l=true→∀{b:Nat} {sb:SI},l[b]?=some sb→(∀p∈prev,uo (fp (nT tab (j+b)) p.1) p.2 sb=true)∧∀{a:Nat} {sa:SI},a<b→l[a]?=some sa→uo (fp (nT tab (j+b)) (j+a)) sa sb=true
 | [],_,_,_,_,_,h=>by simp at h
 |s::r,j,prev,h,0,sb,hb=>by
  unfold Ge at h
  rw[Bool.and_eq_true]at h
  simp at hb;subst hb
  exact⟨fun p hp=>List.all_eq_true.1 h.1 p hp,fun ha=>absurd ha (Nat.not_lt_zero _)⟩
 |s::r,j,prev,h,b+1,sb,hb=>by
  unfold Ge at h
  rw[Bool.and_eq_true]at h
  obtain⟨h1,h2⟩:=CJ h.2 (b:=b) (sb:=sb) (by simpa using hb)
  rw[show j+1+b=j+(b+1) by omega]at h1 h2
  refine⟨fun p hp=>h1 p (by simp[hp]),fun{a sa} ha hsa=>?_⟩
  cases a with
  |zero=>
   simp at hsa;subst hsa
   exact h1 (j,s) (by simp)
  |succ a=>
   have:=h2 (a:=a) (sa:=sa) (by omega) (by simpa using hsa)
   rw[show j+1+a=j+(a+1) by omega]at this
   exact this
theorem iK{β:Type}{us:List Nat}: ∀{l:List (Nat×Nat×β)} {s:Nat},fp us s=true→aP (l.filter fun x=>fp us x.1) s=aP l s
 | [],_,_=>rfl
 | (k,st,b)::r,s,h=>by
  by_cases hk:fp us k=true
  ·rw[List.filter_cons_of_pos (by simpa using hk)]
   unfold aP
   split
   ·rfl
   ·exact iK h
  ·rw[List.filter_cons_of_neg (by simpa using hk)]
   have hne:Nat.beq k s=false:=ig fun e=>by subst e;exact hk h
   have e1:aP ((k,st,b)::r) s=aP r s:=by simp only[aP,hne]
   rw[e1]
   exact iK h
theorem yA{ps:PS}{st:Nat}{sv:SV}{id:Nat}: ∀{us:List Nat} {t:Nat},t∈us→aP ps.sl t=some (st,sv)→B2 sv=some id→id∈mT ps us
 | [],_,h,_,_=>by simp at h
 |x::r,t,h,hf,hr=>by
  unfold mT
  rcases List.mem_cons.1 h with rfl |h
  ·rw[hf];simp[hr]
  ·have:=yA h hf hr
   split
   ·split<;>simp[this]
   ·exact this
theorem zj{ps:PS}{st:Nat}{m:dN}: ∀{ids:List Nat} {id:Nat},id∈ids→aP ps.mem id=some (st,m)→m.lbl∈zk ps ids
 | [],_,h,_=>by simp at h
 |x::r,t,h,hf=>by
  unfold zk
  rcases List.mem_cons.1 h with rfl |h
  ·rw[hf];simp
  ·have:=zj h hf
   split<;>simp[this]
theorem Ac{β:Type}{l:List (Nat×Nat×β)}(hn:KN l){s st:Nat}{b:β}(h:(s,st,b)∈l):aP l s=some (st,b):=by
 induction l with
 |nil=>simp at h
 |cons x r ih=>
  obtain⟨k,st',b'⟩:=x
  obtain⟨hx,hr⟩:=List.pairwise_cons.1 hn
  unfold aP
  rcases List.mem_cons.1 h with e |h
  ·injection e with e1 e2;injection e2 with e2 e3;subst e1 e2 e3
   simp
  ·have hne:Nat.beq k s=false:=ig fun e=>hx _ h e
   rw[hne];exact ih hr h
def oP(us ids:List Nat)(ps:PS):PS:=⟨ps.nxt,ps.sl.filter fun x=>fp us x.1,ps.mem.filter fun x=>fp ids x.1⟩
theorem G_{us ids:List Nat}{ps:PS}(h:WF ps):WF (oP us ids ps):=
 ⟨fun s st sv hm=>h.sl s st sv (List.mem_filter.1 hm).1,fun i st m hm=>h.mem i st m (List.mem_filter.1 hm).1,fun i st m hm=>h.lbl i st m (List.mem_filter.1 hm).1,h.ns.filter _,h.nm.filter _,h.n0⟩
theorem D3{us:List Nat}{ps:PS}{x:Operand}(h : ∀t,x = .tmp t→t∈us):cJ (oP us (mT ps us) ps) x=cJ ps x:=by
 cases x with
 |tmp t=>
  have ht:=h t rfl
  have h1:aP (oP us (mT ps us) ps).sl t=aP ps.sl t:=iK (ff.2 ht)
  unfold cJ
  simp only[h1]
  cases hf:aP ps.sl t with
  |none=>rfl
  |some p=>
   obtain⟨st,sv⟩:=p
   have:oM (oP us (mT ps us) ps) sv=oM ps sv:=by
    unfold oM
    cases hr:B2 sv with
    |none=>rfl
    |some id=>
     have h2:aP (oP us (mT ps us) ps).mem id=aP ps.mem id:=iK (ff.2 (yA ht hf hr))
     simp only[h2]
   simp only[this]
 |const v=>rfl
 |global g=>rfl
 |func f=>rfl
theorem DO{us ids:List Nat}{ps:PS}{x:Operand}(h : ∀t,x = .tmp t→t∈us):(cJ (oP us ids ps) x).map (·.1)=(cJ ps x).map (·.1):=by
 cases x with
 |tmp t=>
  have h1:aP (oP us ids ps).sl t=aP ps.sl t:=iK (ff.2 (h t rfl))
  unfold cJ
  simp only[h1]
  cases aP ps.sl t<;>rfl
 |const v=>rfl
 |global g=>rfl
 |func f=>rfl
def mf(f:SV→bQ)(r:Option RA):bQ:=match r with |some a=>f a.1 |none=>.stuck
theorem qA{r r':Option RA}(f:SV→bQ)(h:r.map (·.1)=r'.map (·.1)):mf f r=mf f r':=by
 cases r with
 |none=>cases r' with
  |none=>rfl
  |some _=>cases h
 |some a=>cases r' with
  |none=>cases h
  |some b=>
   have e:a.1=b.1:=Option.some.inj h
   show f a.1=f b.1
   rw[e]
theorem FU{T:mR P}{own rng:List Nat}{dst:Option Nat}{op:Op}{ps ps':PS}(hop:(match op with | .move _=>true | .assign _=>true | .fieldAddr _ _ _=>true | .nilCheck _=>true |_=>false)=true)(h : ∀x,x∈oL op→(cJ ps x).map (·.1)=(cJ ps' x).map (·.1)):i_ T own rng ps dst op=i_ T own rng ps' dst op:=by
 cases op<;>first | (cases hop;done) |skip
 ·rename_i x
  cases dst with
  |none=>rfl
  |some d=>exact qA (fun sv=>.ret (o1 sv)) (h x (List.mem_singleton.2 rfl))
 ·rename_i x
  cases dst with
  |none=>rfl
  |some d=>exact qA (fun sv=>.ret (o1 sv)) (h x (List.mem_singleton.2 rfl))
 ·rename_i x
  cases dst with
  |none=>rfl
  |some d=>exact qA (fun sv=>match vF 0 sv with |some _=>.ret (o1 sv) |none=>.stuck) (h x (List.mem_singleton.2 rfl))
 ·rename_i t x f
  cases dst with
  |none=>rfl
  |some d=>
   show(match rK T.fe t f,cJ ps x with |some e,some a=>(match vF e.off a.1 with |some sv=>bQ.ret (o1 sv) |none=>.stuck) |_,_=>.stuck)=(match rK T.fe t f,cJ ps' x with |some e,some a=>(match vF e.off a.1 with |some sv=>bQ.ret (o1 sv) |none=>.stuck) |_,_=>.stuck)
   have h1:=h x (List.mem_singleton.2 rfl)
   cases rK T.fe t f with
   |none=>rfl
   |some e=>
    have:=qA (fun sv=>match vF e.off sv with |some sv=>bQ.ret (o1 sv) |none=>.stuck) h1
    revert this
    cases cJ ps x<;>cases cJ ps' x<;>exact fun h=>h
theorem Dr{T:mR P}{own rng:List Nat}{all:List Oper}{o:Oper}{ps:PS}{out:fw}(h:pm T N own rng all o ps out)(hre:out.re = []):pm T N own rng all o (oP (pq all o) (yi all o ps) ps) out:=by
 obtain⟨hd,hc,hs⟩:=h
 have hslot : ∀{j:Nat} {b:Bool} {dj:Nat},o.guard=some (j,b)→wt all j=some dj→aP (oP (pq all o) (yi all o ps) ps).sl dj=aP ps.sl dj:=fun h1 h2=>
  iK (ff.2 (by unfold pq Hf;rw[h1];simp only[h2];simp))
 refine⟨hd,?_,?_⟩
 ·unfold jw at hc⊢
  rw[hre]at hc⊢
  exact hc
 ·rcases hs with⟨hg,hr⟩ | ⟨hg,ho⟩
  ·refine .inl ⟨?_,?_⟩
   ·unfold GW at hg⊢
    split
    ·trivial
    ·rename_i j b heq
     rw[heq]at hg
     obtain⟨dj,st,h1,h2⟩:=hg
     exact⟨dj,st,h1,by rw[hslot heq h1];exact h2⟩
   ·by_cases hop:(match o.op with | .move _=>true | .assign _=>true | .fieldAddr _ _ _=>true | .nilCheck _=>true |_=>false)=true
    ·have:=FU (T:=T) (own:=own) (rng:=rng) (dst:=o.dst) (ps:=oP (pq all o) (yi all o ps) ps) (ps':=ps) hop (fun x hx=>DO fun t e=>by subst e;exact List.mem_append_left _ (xp hx))
     rw[this];exact hr
    have hX:yi all o ps=mT ps (pq all o):=by
     unfold yi
     split<;>first |rfl | (rename_i heq;rw[heq]at hop;exact absurd rfl hop)
    rw[hX]
    have:=DL (T:=T) (own:=own) (rng:=rng) (dst:=o.dst) (op:=o.op) (ps:=oP (pq all o) (mT ps (pq all o)) ps) (ps':=ps) rfl (fun x hx=>D3 fun t e=>by subst e;exact List.mem_append_left _ (xp hx))
    rw[this];exact hr
  ·refine .inr ⟨?_,ho⟩
   obtain⟨j,b,dj,st,h1,h2,h3⟩:=hg
   exact⟨j,b,dj,st,h1,h2,by rw[hslot h1 h2];exact h3⟩
def Qr(l:List Oper)(n s:Nat):Bool:=(List.range n).any fun i=>match l[i]? with |some o=>fp (pq l o) s |none=>false
def Sv(l:List Oper)(n s:Nat):Bool:=(List.range n).all fun i=>match l[i]? with
 |some o=>match o.dst with
  |some d=>!Nat.beq d s||(List.range n).all fun j=>Nat.beq j i||(match l[j]? with |some oj=>!fp (pq l oj) s |none=>true)||fp (nT (lp l n) i) j
  |none=>true
 |none=>true
theorem Pb{l:List Oper}{n s i j:Nat}{o oj:Oper}(h:Sv l n s=true)(hi:i<n)(hj:j<n)(hij:j≠i)(ho:l[i]?=some o)(hoj:l[j]?=some oj)(hd:o.dst=some s)(hu:s∈pq l oj):j∈nT (lp l n) i:=by
 have h1:=List.all_eq_true.1 h i (List.mem_range.2 hi)
 rw[ho]at h1
 simp only[hd]at h1
 have h2:((List.range n).all fun j=>Nat.beq j i||(match l[j]? with |some oj=>!fp (pq l oj) s |none=>true)||fp (nT (lp l n) i) j)=true:=by
  simpa using h1
 have h3:=List.all_eq_true.1 h2 j (List.mem_range.2 hj)
 rw[hoj]at h3
 simp only[Bool.or_eq_true]at h3
 rcases h3 with(h3 |h3) |h3
 ·exact absurd (Nat.eq_of_beq_eq_true h3) hij
 ·rw[ff.2 hu]at h3;cases h3
 ·exact ff.1 h3
structure KA(T:mR P)(N:Nat)(own rng:List Nat)(l:List Oper)(n:Nat)(st:Nat→PS)(ou:Nat→fw):Prop where
 step : ∀ i, i < n → ∃ o, l[i]? = some o ∧ pm T N own rng l o (st i) (ou i) ∧ st (i + 1) = apply (st i) o.dst (ou i) ∧ (ou i).re = []
 wf:WF (st 0)
 fresh : ∀i j,i<n→j<n→j≠i→∀o oj s,l[i]?=some o→l[j]?=some oj→o.dst=some s→∀t v,(s,t,v)∈(st 0).sl→s∈pq l oj→j∈nT (lp l n) i
 dist : ∀i j oi oj di dj,i<n→j<n→i≠j→l[i]?=some oi→l[j]?=some oj→oi.dst=some di→oj.dst=some dj→di≠dj
section
variable {T : mR P} {own rng : List Nat} {l : List Oper} {n : Nat} {st : Nat → PS} {ou : Nat → fw}
theorem KA.wfi (r : KA T N own rng l n st ou) : ∀ i, i ≤ n → WF (st i)
 |0,_=>r.wf
 |i+1,h=>by
  obtain ⟨o, h1, h2, h3, h4⟩ := r.step i (by omega)
  rw[h3]
  have hc:=h2.2.1
  simp only[jw,Bool.and_eq_true]at hc
  exact(r.wfi i (by omega)).apply _ hc.1.1
theorem KA.nx (r : KA T N own rng l n st ou) : ∀ i j, i ≤ j → j ≤ n → (st i).nxt + 4 * (j - i) = (st j).nxt
 |i,0,h,_=>by
  have:i=0:=by omega
  subst this;simp
 |i,j+1,h,hn=>by
  rcases Nat.lt_or_ge i (j+1)with hlt |hge
  ·have:=r.nx i j (by omega) (by omega)
   obtain⟨o,h1,h2,h3,h4⟩:=r.step j (by omega)
   rw[h3]
   show _=(st j).nxt+4
   omega
  ·have:i=j+1:=by omega
   subst this;simp
theorem KA.osl (r : KA T N own rng l n st ou) : ∀ i, i ≤ n → ∀ s t sv, (s, t, sv) ∈ (st i).sl → ((s, t, sv) ∈ (st 0).sl ∧ ∀ j o, j < i → l[j]? = some o → o.dst ≠ some s) ∨ ∃ j o, j < i ∧ l[j]? = some o ∧ o.dst = some s ∧ sv = (ou j).sv
 |0,_,s,t,sv,h=>.inl ⟨h,fun j o hj=>absurd hj (Nat.not_lt_zero _)⟩
 |i+1,hi,s,t,sv,h=>by
  obtain ⟨o, h1, h2, h3, h4⟩ := r.step i (by omega)
  rw[h3]at h
  have h:(s,t,sv)∈NC (st i).nxt o.dst (ou i).sv (reS (st i).nxt (ou i).re (st i).sl):=h
  have key:(s,t,sv)∈(st i).sl→o.dst≠some s→((s,t,sv)∈(st 0).sl∧∀j o,j<i+1→l[j]?=some o→o.dst≠some s)∨∃j o,j<i+1∧l[j]?=some o∧o.dst=some s∧sv=(ou j).sv:=fun h hne=>by
   rcases r.osl i (by omega) s t sv h with⟨h,hb⟩ | ⟨j,oj,a,b,c,d'⟩
   ·refine .inl ⟨h,fun j oj hj hoj=>?_⟩
    rcases Nat.lt_or_ge j i with hlt |hge
    ·exact hb j oj hlt hoj
    ·have:j=i:=by omega
     subst this
     have:oj=o:=Option.some.inj (hoj.symm.trans h1)
     subst this;exact hne
   ·exact .inr ⟨j,oj,by omega,b,c,d'⟩
  rw[h4]at h
  cases hd:o.dst with
  |none=>rw[hd]at h;exact key h (by rw[hd];simp)
  |some d=>
   rw[hd]at h
   rcases List.mem_cons.1 h with e |h
   ·injection e with e1 e2;injection e2 with e2 e3
    exact .inr ⟨i,o,by omega,h1,by rw[hd,e1],e3⟩
   ·exact key (cf.1 h).1 (by rw[hd];exact fun e=>(cf.1 h).2 (Option.some.inj e).symm)
theorem KA.omem (r : KA T N own rng l n st ou) : ∀ i, i ≤ n → ∀ id t m, (id, t, m) ∈ (st i).mem →
  ((id,t,m)∈(st 0).mem∧∀j,j<i→m.lbl=0∨(ou j).ks.contains m.lbl=false)∨∃j,j<i∧(id,m)∈(ou j).puts∧∀j',j<j'→j'<i→m.lbl=0∨(ou j').ks.contains m.lbl=false
 |0,_,id,t,m,h=>.inl ⟨h,fun j hj=>absurd hj (Nat.not_lt_zero _)⟩
 |i+1,hi,id,t,m,h=>by
  obtain ⟨o, h1, h2, h3, h4⟩ := r.step i (by omega)
  rw[h3]at h
  rcases gu h with h | ⟨_,h⟩
  ·obtain⟨h,hk⟩:=j5.1 h
   rcases r.omem i (by omega) id t m h with⟨a,b⟩ | ⟨j,a,b,c⟩
   ·refine .inl ⟨a,fun j hj=>?_⟩
    rcases Nat.lt_or_ge j i with hlt |hge
    ·exact b j hlt
    ·have:j=i:=by omega
     subst this;exact hk
   ·refine .inr ⟨j,by omega,b,fun j' h5 h6=>?_⟩
    rcases Nat.lt_or_ge j' i with hlt |hge
    ·exact c j' h5 hlt
    ·have:j'=i:=by omega
     subst this;exact hk
  ·exact .inr ⟨i,by omega,h,fun j' h5 h6=>absurd h5 (by omega)⟩
def Lb(pts:List Nat)(w0:World)(aQ:bg)(l:List Oper)(n:Nat)(st:Nat→PS)(ou:Nat→fw)(L:Nat→Bool)(F:List (Nat×Value))(w:World):Prop:=
 ∃e lab,(∀s t sv,(s,t,sv)∈(st 0).sl→(∀j o,j<n→L j=true→l[j]?=some o→o.dst≠some s)→∃v,bN F s=some v∧RV e sv lab w v)∧
  (∀i,i<n→L i=true→∀o d,l[i]?=some o→o.dst=some d→∃v,bN F d=some v∧RV e (ou i).sv lab w v)∧
  (∀id t m,(id,t,m)∈(st 0).mem→(∀j,j<n→L j=true→m.lbl=0∨(ou j).ks.contains m.lbl=false)→bR e lab w id m)∧
  (∀i,i<n→L i=true→∀p∈(ou i).puts,(∀j,i<j→j<n→L j=true→p.2.lbl=0∨(ou j).ks.contains p.2.lbl=false)→bR e lab w p.1 p.2)∧Cx pts w0 aQ w lab∧A0 pts e∧GL lab w
theorem GK {pts : List Nat} {w0 : World} {aQ : bg} (r : KA T N own rng l n st ou) {sis : List SI} (hp : Ge (lp l n) 0 [] sis = true) (hsi : ∀ a, a < n → ∃ oa, l[a]? = some oa ∧ sis[a]? = some (uF l oa (st a) (ou a))) :
  ∀i,i<n→∀o L F w,l[i]?=some o→L i=false→(∀j,Region.waitsFor .any l.toArray i j=true→L j=true)→(∀j j',Region.waitsFor .any l.toArray j j'=true→L j=true→L j'=true)→(∀j,n≤j→L j=false)→Lb pts w0 aQ l n st ou L F w→
   LW P N l.toArray [o] F w (fun e a' w'=>e = .normal∧∃F',pU F' N a'∧Lb pts w0 aQ l n st ou (qU L i) F' w'):=by
 intro i hi o L F w ho hLi hw hcl htl ⟨e,lab,hS0,hS1,hM0,hM1,hcx,ha0,hgl⟩
 have hpair : ∀a b oa ob,a<b→b<n→l[a]?=some oa→l[b]?=some ob→a∈nT (lp l n) b∨uo false (uF l oa (st a) (ou a)) (uF l ob (st b) (ou b))=true:=by
  intro a b oa ob hab hb hoa hob
  obtain⟨oa',h1,h2⟩:=hsi a (by omega)
  obtain⟨ob',h3,h4⟩:=hsi b hb
  have e1:oa'=oa:=Option.some.inj (h1.symm.trans hoa)
  have e2:ob'=ob:=Option.some.inj (h3.symm.trans hob)
  subst e1 e2
  have:=(CJ hp h4).2 hab h2
  simp only[Nat.zero_add]at this
  cases hd:fp (nT (lp l n) b) a with
  |true=>exact .inl (ff.1 hd)
  |false=>rw[hd]at this;exact .inr this
 -- i is done by nobody who is done
 have hno : ∀j,L j=true→i∉nT (lp l n) j:=fun j hj h=>by
  have:=tH hcl n j i h (.inl hj)
  rw[hLi]at this;cases this
 have hdone : ∀j,j∈nT (lp l n) i→L j=true:=fun j h=>tH hcl n i j h (.inr hw)
 -- pairs with i, taken apart
 have later : ∀j oj,i<j→j<n→L j=true→l[j]?=some oj→(∀x,x∈(uF l oj (st j) (ou j)).rf→Pw (st i).nxt x=false)∧sE (ou i).ks (uF l oj (st j) (ou j)).tl=false∧sE (uF l o (st i) (ou i)).tl (ou j).ks=false:=by
  intro j oj hij hjn hLj hoj
  rcases hpair i j o oj hij hjn ho hoj with h |h
  ·exact absurd h (hno j hLj)
  ·simp only[uo,Bool.false_or,Bool.not_eq_true',Bool.or_eq_false_iff]at h
   obtain⟨⟨⟨⟨_,h2⟩,_⟩,h4⟩,h5⟩:=h
   refine⟨fun x hx=>?_,h4,h5⟩
   cases hc:Pw (st i).nxt x with
   |false=>rfl
   |true=>
    have:(uF l oj (st j) (ou j)).rf.any (Pw (uF l o (st i) (ou i)).lo)=true:=List.any_eq_true.2 ⟨x,hx,hc⟩
    rw[this]at h2;cases h2
 have earlier : ∀j oj,j<i→l[j]?=some oj→L j=true∨((∀d,oj.dst=some d→d∉pq l o)∧sE ((ou j).puts.map (·.1)) (yi l o (st i))=false):=by
  intro j oj hji hoj
  rcases hpair j i oj o hji hi hoj ho with h |h
  ·exact .inl (hdone j h)
  ·simp only[uo,Bool.false_or,Bool.not_eq_true',Bool.or_eq_false_iff]at h
   obtain⟨⟨⟨⟨h1,_⟩,h3⟩,_⟩,_⟩:=h
   refine .inr ⟨fun d hd hm=>?_,h3⟩
   have h1:(match oj.dst with |some d=>fp (pq l o) d |none=>false)=false:=h1
   rw[hd]at h1
   simp only at h1
   rw[ff.2 hm]at h1;cases h1
 obtain ⟨o', ho', hstep, hst, hre⟩ := r.step i hi
 have:o'=o:=Option.some.inj (ho'.symm.trans ho)
 subst this
 have hwfi:=r.wfi i (by omega)
 -- what the step looks at stands
 have hsim:rV e (oP (pq l o') (yi l o' (st i)) (st i)) F lab w:=by
  refine⟨fun s t sv hm=>?_,fun id t m hm=>?_,hgl⟩
  ·obtain⟨hm,hu⟩:=List.mem_filter.1 hm
   rcases r.osl i (by omega) s t sv hm with⟨h,_⟩ | ⟨j,oj,h1,h2,h3,h4⟩
   ·refine hS0 s t sv h fun j oj hj hLj hoj hdj=>?_
    have hji:i≠j:=fun e=>by subst e;rw[hLi]at hLj;cases hLj
    exact hno j hLj (r.fresh j i hj hi hji oj o' s hoj ho hdj t sv h (ff.1 (by simpa using hu)))
   ·have hLj:L j=true:=by
     rcases earlier j oj h1 h2 with h | ⟨h,_⟩
     ·exact h
     ·exact absurd (ff.1 (by simpa using hu)) (h s h3)
    rw[h4]
    exact hS1 j (by omega) hLj oj s h2 h3
  ·obtain⟨hm,hu⟩:=List.mem_filter.1 hm
   have hid:id∈yi l o' (st i):=ff.1 (by simpa using hu)
   have hlb:m.lbl∈(uF l o' (st i) (ou i)).tl:=by
    show _∈zk _ _++_++_
    rw[List.append_assoc]
    exact List.mem_append_left _ (zj hid (Ac hwfi.nm hm))
   have hafter : ∀j,i<j→j<n→L j=true→m.lbl=0∨(ou j).ks.contains m.lbl=false:=fun j h1 h2 h3=>by
    obtain⟨oj,hoj,_⟩:=r.step j h2
    have:=(later j oj h1 h2 h3 hoj).2.2
    refine .inr ?_
    cases hc:(ou j).ks.contains m.lbl with
    |false=>rfl
    |true=>
     have hcm:m.lbl∈(ou j).ks:=by simpa using hc
     rw[tt ⟨_,hlb,hcm⟩]at this;cases this
   rcases r.omem i (by omega) id t m hm with⟨h1,h2⟩ | ⟨j,h1,h2,h3⟩
   ·refine hM0 id t m h1 fun j hj hLj=>?_
    rcases Nat.lt_trichotomy j i with h |h |h
    ·exact h2 j h
    ·subst h;rw[hLi]at hLj;cases hLj
    ·exact hafter j h hj hLj
   ·obtain⟨oj,hoj,_⟩:=r.step j (by omega)
    have hLj:L j=true:=by
     rcases earlier j oj h1 hoj with h | ⟨_,h⟩
     ·exact h
     ·have:id∈(ou j).puts.map (·.1):=List.mem_map.2 ⟨_,h2,rfl⟩
      rw[tt ⟨_,this,hid⟩]at h;cases h
    refine hM1 j (by omega) hLj (id,m) h2 fun j' hj hj' hLj'=>?_
    rcases Nat.lt_trichotomy j' i with h |h |h
    ·exact h3 j' hj h
    ·subst h;rw[hLi]at hLj';cases hLj'
    ·exact hafter j' h hj' hLj'
 have hl:=(Dr hstep hre).fin hsim (G_ hwfi) hcx.top
 have hc:=hstep.2.1
 simp only[jw,Bool.and_eq_true]at hc
 have hup : ∀{s:Nat} {v:Value},(∀d,o'.dst=some d→s≠d)→bN (PA F o'.dst v) s=bN F s:=fun{s v} h=>by
  cases hd:o'.dst with
  |none=>rfl
  |some d=>exact qI (h d hd)
 refine LW.cons1 hl ?_
 rintro ex a' w' ⟨h0,e',lab',v,hs,hp1,hp2,hp3,hp4,hp5⟩
 have hp1 : ∀x,(x<(st i).nxt∨(st i).nxt+4≤x)→e' x=e x:=hp1
 refine⟨h0,rfl,PA F o'.dst v,hs,e',lab',?_,?_,?_,?_,hcx.stp hp2 (RJ hc.1.2),fun g hg=>by rw[hp1 0 (.inl hwfi.n0)];exact ha0 g hg,hgl.keep hp2.keeps⟩
 ·intro s t sv hm hnd
  obtain⟨u,hu,hr⟩:=hS0 s t sv hm fun j oj hj hLj hoj=>hnd j oj hj (by unfold qU;split<;>simp[hLj]) hoj
  refine⟨u,by rw[hup fun d hd e=>hnd i o' hi (by unfold qU;simp) ho (by rw[hd,e])];exact hu,(hr.keep hp2.keeps).env fun x hx=>hp1 x (.inl ?_)⟩
  have h1:=(r.wf.sl s t sv hm).2 x hx
  have h2:=r.nx 0 i (by omega) (by omega)
  omega
 ·intro j hj hLj oj dj hoj hdj
  by_cases hji:j=i
  ·subst hji
   have:oj=o':=Option.some.inj (hoj.symm.trans ho)
   subst this
   exact⟨v,by rw[hdj];exact vn,hp3⟩
  ·have hLj':L j=true:=by unfold qU at hLj;rw[if_neg hji]at hLj;exact hLj
   obtain⟨u,hu,hr⟩:=hS1 j hj hLj' oj dj hoj hdj
   refine⟨u,by rw[hup fun d hd=>r.dist j i oj o' dj d hj hi hji hoj ho hdj hd];exact hu,(hr.keep hp2.keeps).env fun x hx=>hp1 x ?_⟩
   rcases Nat.lt_or_ge j i with hlt |hge
   · -- an earlier one's numbers lie below
    obtain⟨oj',h1,h2,h3,h4⟩:=r.step j hj
    have hwf:=r.wfi (j+1) (by omega)
    rw[h3]at hwf
    have hcj:=h2.2.1
    simp only[jw,Fn,Bool.and_eq_true]at hcj
    have h5:=mi (List.all_eq_true.1 hcj.1.1.1.1 x hx)
    have h6:=r.nx j i (by omega) (by omega)
    exact .inl (by omega)
   ·have h1:=(later j oj (by omega) hj hLj' hoj).1 x (List.mem_append_left _ hx)
    unfold Pw at h1
    by_cases hle:(st i).nxt≤x
    ·have:Nat.ble (st i).nxt x=true:=Nat.ble_eq_true_of_le hle
     rw[this,Bool.true_and]at h1
     exact .inr (qK h1)
    ·exact .inl (by omega)
 ·intro id t m hm hal
  have hali:=hal i hi (by unfold qU;simp)
  have h1:=hM0 id t m hm fun j hj hLj=>hal j hj (by unfold qU;split<;>simp[hLj])
  obtain⟨_,h2,h3⟩:=r.wf.mem id t m hm
  have h4:=r.nx 0 i (by omega) (by omega)
  exact(h1.stp hp2 hali (r.wf.lbl id t m hm)).env (hp1 id (.inl (by omega))) fun x hx=>hp1 x (.inl (by have:=h3 x hx;omega))
 ·intro j hj hLj p hpj hal
  by_cases hji:j=i
  ·subst hji
   exact hp4 p hpj
  ·have hLj':L j=true:=by unfold qU at hLj;rw[if_neg hji]at hLj;exact hLj
   have h1:=hM1 j hj hLj' p hpj fun j' h5 h6 h7=>hal j' h5 h6 (by unfold qU;split<;>simp[h7])
   obtain⟨oj,hoj,hsj,_,_⟩:=r.step j hj
   have hcj:=hsj.2.1
   simp only[jw,Fn,Bool.and_eq_true]at hcj
   have hpo:=List.all_eq_true.1 hcj.1.1.1.2 p hpj
   simp only[Bool.and_eq_true,Bool.or_eq_true]at hpo
   obtain⟨⟨q1,q2⟩,q3⟩:=hpo
   have hlb:p.2.lbl=0→Ca p.2=true:=fun h0=>by
    rcases q3 with q3 |q3
    ·exact q3
    ·rw[h0]at q3;cases q3
   rcases Nat.lt_or_ge j i with hlt |hge
   ·have hali:=hal i hlt hi (by unfold qU;simp)
    have h6:=r.nx j i (by omega) (by omega)
    refine(h1.stp hp2 hali hlb).env (hp1 p.1 (.inl ?_)) fun x hx=>hp1 x (.inl ?_)
    ·have:=mi q1;omega
    ·have:=mi (List.all_eq_true.1 q2 x hx);omega
   ·have hl3:=later j oj (by omega) hj hLj' hoj
    have hali:p.2.lbl=0∨(ou i).ks.contains p.2.lbl=false:=by
     refine .inr ?_
     cases hcc:(ou i).ks.contains p.2.lbl with
     |false=>rfl
     |true=>
      have h5:p.2.lbl∈(ou i).ks:=by simpa using hcc
      have h6:p.2.lbl∈(uF l oj (st j) (ou j)).tl:=List.mem_append_right _ (List.mem_map.2 ⟨p,hpj,rfl⟩)
      have:=hl3.2.1
      rw[tt ⟨_,h5,h6⟩]at this;cases this
    have hrf : ∀x,x∈p.1::iu p.2→(x<(st i).nxt∨(st i).nxt+4≤x):=fun x hx=>by
     have h2:=hl3.1 x (List.mem_append_right _ (List.mem_flatMap.2 ⟨p,hpj,hx⟩))
     unfold Pw at h2
     by_cases hle:(st i).nxt≤x
     ·have:Nat.ble (st i).nxt x=true:=Nat.ble_eq_true_of_le hle
      rw[this,Bool.true_and]at h2
      exact .inr (qK h2)
     ·exact .inl (by omega)
    exact(h1.stp hp2 hali hlb).env (hp1 p.1 (hrf _ (by simp))) fun x hx=>hp1 x (hrf x (by simp[hx]))
end
inductive G1(T:mR P)(N:Nat)(own rng:List Nat)(all:List Oper):List Oper→PS→List (PS×fw)→PS→Prop where
 |nil {p:PS}:G1 T N own rng all [] p [] p
 |cons {o:Oper} {r:List Oper} {p:PS} {q:fw} {tr:List (PS×fw)} {p':PS}:pm T N own rng all o p q→q.re = []→G1 T N own rng all r (apply p o.dst q) tr p'→G1 T N own rng all (o::r) p ((p,q)::tr) p'
noncomputable def mF {R:Type} (l:List Nat):(List Nat→R)→R:=
 List.rec (motive:=fun _=>(List Nat→R)→R) (fun k=>k []) (fun x _ ih k=>d9 x fun x=>ih fun r=>k (x::r)) l
theorem wI{R:Type}: ∀(l:List Nat) (k:List Nat→R),mF l k=k l
 | [],k=>rfl
 |x::r,k=>by
  show d9 x (fun x=>mF r fun r=>k (x::r))=_
  rw[ib,wI r]
noncomputable def A2 {R:Type} (s:SI) (k:SI→R):R:=
 mF s.us fun us=>mF s.ids fun ids=>mF s.tl fun tl=>mF s.ks fun ks=>mF s.rf fun rf=>mF s.bn fun bn=>d9 s.lo fun lo=>k ⟨s.d,us,ids,tl,ks,rf,bn,lo⟩
theorem CX{R:Type}(s:SI)(k:SI→R):A2 s k=k s:=by
 unfold A2
 simp only[wI,ib]
noncomputable def H6 (T:mR P) (N:Nat) (own rng:List Nat) (all:List Oper) {R:Type}:List Oper→PS→List SI→(List SI→PS→Option R)→Option R
 | [],ps,acc,K=>K acc ps
 |o::r,ps,acc,K=>Is T N own rng all o ps fun ps out=>match out.re with
  | []=>A2 (uF all o ps out) fun si=>AA (apply ps o.dst out) fun ps=>H6 T N own rng all r ps (acc ++ [si]) K
  |_=>none
def BB(all:List Oper):List Oper→List (PS×fw)→List SI
 |o::r,(p,q)::tr=>uF all o p q::BB all r tr
 |_,_=>[]
theorem zi{T:mR P}{own rng:List Nat}{all:List Oper}{R:Type}{q:R}: ∀{l:List Oper} {ps:PS} {acc:List SI} {K:List SI→PS→Option R},H6 T N own rng all l ps acc K=some q→∃tr pn,G1 T N own rng all l ps tr pn∧K (acc++BB all l tr) pn=some q
 | [],ps,acc,K,h=>⟨[],ps,.nil,by simpa [BB,H6]using h⟩
 |o::r,ps,acc,K,h=>by
  unfold H6 at h
  obtain⟨out,hs,h2⟩:=ux h
  split at h2
  ·rename_i hre
   rw[CX,yO]at h2
   obtain⟨tr,pn,h3,h4⟩:=zi h2
   exact⟨_,_,.cons hs hre h3,by simpa [BB]using h4⟩
  ·cases h2
def uD(tr:List (PS×fw))(pn:PS)(i:Nat):PS:=match tr[i]? with |some p=>p.1 |none=>pn
def Dh(tr:List (PS×fw))(i:Nat):fw:=match tr[i]? with |some p=>p.2 |none=>o1 .und
theorem G1.len{T:mR P}{own rng:List Nat}{all l:List Oper}{p pn:PS}{tr:List (PS×fw)}(h:G1 T N own rng all l p tr pn):tr.length=l.length:=by
 induction h with
 |nil=>rfl
 |cons _ _ _ ih=>simp[ih]
theorem G1.at0{T:mR P}{own rng:List Nat}{all l:List Oper}{p pn:PS}{tr:List (PS×fw)}(h:G1 T N own rng all l p tr pn):uD tr pn 0=p:=by
 cases h<;>rfl
theorem G1.atn{T:mR P}{own rng:List Nat}{all l:List Oper}{p pn:PS}{tr:List (PS×fw)}(h:G1 T N own rng all l p tr pn):uD tr pn l.length=pn:=by
 unfold uD;rw[List.getElem?_eq_none (by rw[h.len];exact Nat.le_refl _)]
theorem G1.get{T:mR P}{own rng:List Nat}{all l:List Oper}{p pn:PS}{tr:List (PS×fw)}(h:G1 T N own rng all l p tr pn): ∀{i:Nat} {o:Oper},l[i]?=some o→
  pm T N own rng all o (uD tr pn i) (Dh tr i) ∧ uD tr pn (i + 1) = apply (uD tr pn i) o.dst (Dh tr i) ∧ (Dh tr i).re = [] ∧ (BB all l tr)[i]? = some (uF all o (uD tr pn i) (Dh tr i)) := by
 induction h with
 |nil=>intro i o ho;simp at ho
 |cons hs hre ht ih=>
  intro i o ho
  cases i with
  |zero=>
   simp at ho;subst ho
   refine⟨hs,?_,hre,rfl⟩
   show uD _ _ 0=_
   exact ht.at0
  |succ i=>
   exact ih (by simpa using ho)
def mK(l:List Oper):Nat→Nat
 |0=>0
 |k+1=>match(List.range k).all fun j=>Region.waitsFor .any l.toArray k j with
  |true=>mK l k
  |false=>k+1
def qb:List Oper→List Nat
 | []=>[]
 |o::r=>match o.dst with
  |some d=>d::qb r
  |none=>qb r
theorem xH{o:Oper}{d:Nat}: ∀{l:List Oper} {i:Nat},l[i]?=some o→o.dst=some d→d∈qb l
 | [],i,h,_=>by simp at h
 |x::r,0,h,hd=>by simp at h;subst h;simp[qb,hd]
 |x::r,i+1,h,hd=>by
  have:=xH (l:=r) (i:=i) (by simpa using h) hd
  unfold qb;split<;>simp[this]
def IS(l:List Oper)(n s:Nat):Bool:=!fp (qb (l.take n)) s||(Qr l n s&&Sv l n s)
def Ny(l:List Oper)(n:Nat):Bool:=Nat.ble n l.length&&Qx l n&&RP l n&&Jo l n&&Region.seqB .any l.toArray (l.length-n) n (oF l n)
noncomputable def HP (T:mR P) (N:Nat) (own rng:List Nat) (l:List Oper) {R:Type} (ps:PS) (K:PS→Option R):Option R:=
 match Ny l (mK l l.length)with
 |false=>none
 |true=>H6 T N own rng l (l.take (mK l l.length)) ⟨ps.nxt,ps.sl.filter (fun x=>IS l (mK l l.length) x.1),ps.mem⟩ [] fun sis ps=>
   match Ge (lp l (mK l l.length)) 0 [] sis with
   |true=>JU T N own rng l (l.drop (mK l l.length)) ps K
   |false=>none
theorem Hi{T:mR P}{own rng:List Nat}{l:List Oper}{R:Type}{q:R}{ps:PS}{e:ja}{F:List (Nat×Value)}{lab aQ:bg}{w w0:World}{pts:List Nat}{K:PS→Option R}{kont:gC}{id:Nat}(hm:P.follows .mixedOrders=true)(h:HP T N own rng l ps K=some q)(hi:mz pts w0 aQ e ps F lab w)
  (hk : ∀ps' e' F' lab' w',dD ps ps'→mz pts w0 aQ e' ps' F' lab' w'→K ps'=some q→EW N .normal F' w' kont):CW P N (.region id l.toArray true) F w kont:=by
 intro a ha
 unfold HP at h
 generalize mK l l.length=n at h
 split at h
 ·cases h
 rename_i hS
 simp only[Ny,Bool.and_eq_true]at hS
 obtain⟨⟨⟨⟨hn,hback⟩,hdst⟩,htl⟩,hseq⟩:=hS
 have hn:n≤l.length:=Nat.le_of_ble_eq_true hn
 obtain⟨tr,pn,ht,hK⟩:=zi h
 simp only[List.nil_append]at hK
 split at hK
 ·rename_i hchk
  have htk:(l.take n).length=n:=by simp;omega
  have hget : ∀i,i<n→∃o,l[i]?=some o∧(l.take n)[i]?=some o:=fun i hi=>⟨l[i],List.getElem?_eq_getElem (by omega),by rw[List.getElem?_take_of_lt hi];exact List.getElem?_eq_getElem (by omega)⟩
  have hb : ∀i j oi oj di dj,i<n→j<i→l[i]?=some oi→l[j]?=some oj→oi.dst=some di→oj.dst=some dj→dj≠di:=fun i j oi oj di dj hi hj hoi hoj hdi hdj e=>by
   have:=List.all_eq_true.1 hdst i (List.mem_range.2 hi)
   rw[hoi]at this
   simp only[hdi]at this
   have h2:=List.all_eq_true.1 this j (List.mem_range.2 hj)
   rw[hoj]at h2
   simp only[hdj]at h2
   subst e
   simp at h2
  have h0:=ht.at0
  have hrun : KA T N own rng l n (uD tr pn) (Dh tr) := by
   refine⟨fun i hi=>?_,?_,fun i j hi hj hji o oj s ho hoj hd t v hm hus=>?_,fun i j oi oj di dj hi hj hij hoi hoj hdi hdj=>?_⟩
   ·obtain ⟨o, h1, h2⟩ := hget i hi
    obtain⟨a1,a2,a3,_⟩:=ht.get h2
    exact⟨o,h1,a1,a2,a3⟩
   ·rw[h0]
    exact⟨fun s st sv hm=>hi.wf.sl s st sv (List.mem_filter.1 hm).1,hi.wf.mem,hi.wf.lbl,hi.wf.ns.filter _,hi.wf.nm,hi.wf.n0⟩
   ·rw[h0]at hm
    obtain⟨_,hm⟩:=List.mem_filter.1 hm
    have:s∈qb (l.take n):=xH (i:=i) (by rw[List.getElem?_take_of_lt hi];exact ho) hd
    have:=ff.2 this
    have hm:IS l n s=true:=hm
    unfold IS at hm
    rw[this,Bool.not_true,Bool.false_or,Bool.and_eq_true]at hm
    exact Pb hm.2 hi hj hji ho hoj hd hus
   ·rcases Nat.lt_trichotomy i j with h |h |h
    ·exact hb j i oj oi dj di hj h hoj hoi hdj hdi
    ·exact absurd h hij
    ·exact fun e=>hb i j oi oj di dj hi h hoi hoj hdi hdj e.symm
  have hn':uD tr pn n=pn:=by have:=ht.atn;rwa [htk]at this
  refine wp_region_any hm ?_
  have hL:Lf (Array.replicate l.toArray.size false)=fun _=>false:=by
   funext j;unfold Lf;exact getD_replicate_false _ _
  have sd:=(iI.draw hi.cx.top (w.drawn+1)).stp (ks:=[]) (.inr rfl)
  have hinit:Lb pts w0 aQ l n (uD tr pn) (Dh tr) (fun _=>false) F { w with drawn:=w.drawn+1 }:=by
   refine⟨e,lab,fun s t sv hm _=>?_,fun i _ h=>(by cases h),fun id t m hm _=>?_,fun i _ h=>(by cases h),hi.cx.stp sd rfl,hi.a0,hi.sim.gl.keep sd.keeps⟩
   ·rw[h0]at hm
    obtain⟨v,hv,hr⟩:=hi.sim.sl s t sv (List.mem_filter.1 hm).1
    exact⟨v,hv,hr.keep sd.keeps⟩
   ·rw[h0]at hm
    exact(hi.sim.mem id t m hm).stp sd (.inr rfl) (hi.wf.lbl id t m hm)
  have:=H3 (P:=P) (N:=N) (K:=kont) (I:=Lb pts w0 aQ l n (uD tr pn) (Dh tr)) hn hback htl hseq (GK hrun hchk fun i hi=>by
   obtain⟨o,h1,h2⟩:=hget i hi
   exact⟨o,h1,(ht.get h2).2.2.2⟩) (fun F' w' hI=>?_) n (Array.replicate l.toArray.size false) a F { w with drawn:=w.drawn+1 } ⟨by simp,fun j j' _ h=>(by rw[hL]at h;cases h),fun j _=>by rw[hL]⟩
   (by rw[hL];unfold cnt;rw[List.filter_eq_self.2 (by simp)];simp) ha (by rw[hL];exact hinit)
  ·rw[show n+(l.length-n)=l.toArray.size by simp;omega]at this
   exact this
  ·obtain⟨e',lab',hS0,hS1,hM0,hM1,hcx,ha0,hgl⟩:=hI
   have hinv:mz pts w0 aQ e' pn F' lab' w':=by
    rw[←hn']
    refine⟨⟨fun s t sv hm=>?_,fun id t m hm=>?_,hgl⟩,hrun.wfi n (Nat.le_refl _),hcx,ha0⟩
    ·rcases hrun.osl n (Nat.le_refl _) s t sv hm with ⟨h, hnd⟩ | ⟨j, o, h1, h2, h3, h4⟩
     ·exact hS0 s t sv h fun j o hj _ hoj=>hnd j o hj hoj
     ·rw[h4];exact hS1 j h1 (by simpa using h1) o s h2 h3
    ·rcases hrun.omem n (Nat.le_refl _) id t m hm with ⟨h1, h2⟩ | ⟨j, h1, h2, h3⟩
     ·exact hM0 id t m h1 fun j hj _=>h2 j hj
     ·exact hM1 j h1 (by simpa using h1) (id,m) h2 fun j' h4 h5 _=>h3 j' h4 h5
   have hpres:dD ps pn:=by
    have key : ∀i,i≤n→dD ps (uD tr pn i):=by
     intro i
     induction i with
     |zero=>intro _;rw[h0];exact⟨Nat.le_refl _,fun s st sv hm _=>(List.mem_filter.1 hm).1,fun i st m hm _=>hm⟩
     |succ i ih=>
      intro hi
      obtain⟨o,h1,h2⟩:=hget i (by omega)
      rw[(ht.get h2).2.1]
      exact(ih (by omega)).trans (dD.apply _ _ _)
    have:=key n (Nat.le_refl _)
    rwa [hn']at this
   exact zL hK hinv fun ps' e'' F'' lab'' w'' hp hi3 hKK=>hk _ _ _ _ _ (hpres.trans hp) hi3 hKK
 ·cases hK
def SN(T:mR P)(l:List Oper)(ps:PS):List Nat:=
 oN ⟨ps.nxt,ps.sl.filter (fun x=>!fp (qb l) x.1),ps.mem⟩ (l.flatMap fun o=>St T o.op)
noncomputable def Oa (T:mR P) (N:Nat) (own rng:List Nat) (l:List Oper) {R:Type} (ps:PS) (K:PS→Option R):Option R:=
 match tZ (SN T (l.take (mK l l.length)) ps) ps with
 |some ps=>HP T N own rng l ps K
 |none=>none
theorem MC{T:mR P}{own rng:List Nat}{l:List Oper}{R:Type}{q:R}{ps:PS}{e:ja}{F:List (Nat×Value)}{lab aQ:bg}{w w0:World}{pts:List Nat}{K:PS→Option R}{kont:gC}{id:Nat}(hm:P.follows .mixedOrders=true)(h:Oa T N own rng l ps K=some q)(hi:mz pts w0 aQ e ps F lab w)
  (hk : ∀ps' e' F' lab' w',dD ps ps'→mz pts w0 aQ e' ps' F' lab' w'→K ps'=some q→EW N .normal F' w' kont):CW P N (.region id l.toArray true) F w kont:=by
 unfold Oa at h
 split at h
 ·rename_i ps1 hf
  obtain⟨⟨lab1,hi1⟩,hp1⟩:=qE hf hi
  exact Hi hm h hi1 fun ps' e' F' lab' w' hp=>hk ps' e' F' lab' w' (hp1.trans hp)
 ·cases h
end
end Go.Gk
