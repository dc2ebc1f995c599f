/- A part of the proof of TopChain. No condition. -/
import Derived.Test.YtimjjookppejeaaGreatDoorZa
import Derived.Lib.DecodeN
import Derived.Lib.ItoaNum
namespace Go.Gk
open Go.RowKit
inductive PT where
 |int (k:IntKind) |bool |str |sl (t:PT) |pr (a b:PT) |st (t:PT) |un |cp (t:PT) |clo (f:Nat) (t:PT) |tree |err |fl |f4 |ar (n:Nat) (k:IntKind)
inductive Tr where
 |mk (k:Int) (n:UInt64) (b:List UInt8) (l:List Tr)
def Tr.k:Tr→Int
 | .mk k _ _ _=>k
def Tr.n:Tr→UInt64
 | .mk _ n _ _=>n
def Tr.b:Tr→List UInt8
 | .mk _ _ b _=>b
def Tr.l:Tr→List Tr
 | .mk _ _ _ l=>l
def aQ:IntKind→Type
 | .u8=>UInt8 | .u64=>UInt64 | .u32=>UInt32 | .i64=>Int | .i32=>Int | .i16=>Int | .i8=>Int | .u16=>Int
def den:PT→Type
 | .int k=>aQ k | .bool=>Bool | .str=>List UInt8 | .sl t=>List (den t) | .pr a b=>den a×den b | .st t=>den t | .un=>Unit | .cp t=>Option (den t) | .clo _ t=>Option (den t) | .tree=>Tr | .err=>Bool | .fl=>UInt64 | .f4=>UInt32 | .ar _ k=>List (aQ k)
def bH:(k:IntKind)→aQ k→Int
 | .u8,x=>(UInt8.toNat x:Int) | .u64,x=>(UInt64.toNat x:Int) | .u32,x=>(UInt32.toNat x:Int) | .i64,x=>x | .i32,x=>x | .i16,x=>x | .i8,x=>x | .u16,x=>x
def iU:(k:IntKind)→Int→aQ k
 | .u8,n=>aj n | .u64,n=>ab n | .u32,n=>lk n | .i64,n=>aP n | .i32,n=>IntKind.i32.wrap n | .i16,n=>IntKind.i16.wrap n | .i8,n=>IntKind.i8.wrap n | .u16,n=>IntKind.u16.wrap n
theorem iW(k:IntKind)(n:Int):bH k (iU k n)=k.wrap n:=by
 cases k<;>first |rfl |exact(wrap_u8 n).symm |exact(wrap_u32 n).symm |exact(lD n).symm
def bF.kd(k:IntKind):bF (aQ k) where
 sz:=1
 rd:=fun _ _ cs x=>cs = [.int k (bH k x)]
 len:=fun h=>by rw[h];rfl
 one:=fun h u hu=>by rw[h]at hu;simp at hu;rw[hu];rfl
 keep:=fun _ h=>h
def bF.pr{α β:Type}(ρ:bF α)(σ:bF β):bF (α×β) where
 sz:=ρ.sz+σ.sz
 rd:=fun lab w cs x=>∃c1 c2,cs=c1++c2∧ρ.rd lab w c1 x.1∧σ.rd lab w c2 x.2
 len:=fun⟨c1,c2,h,h1,h2⟩=>by rw[h,List.length_append,ρ.len h1,σ.len h2]
 one:=fun⟨c1,c2,h,h1,h2⟩ u hu=>by
  rw[h]at hu
  rcases List.mem_append.1 hu with hu |hu
  ·exact ρ.one h1 u hu
  ·exact σ.one h2 u hu
 keep:=fun hk ⟨c1,c2,h,h1,h2⟩=>⟨c1,c2,h,ρ.keep hk h1,σ.keep hk h2⟩
def bF.un:bF Unit where
 sz:=0
 rd:=fun _ _ cs _=>cs = []
 len:=fun h=>by rw[h];rfl
 one:=fun h u hu=>by rw[h]at hu;simp at hu
 keep:=fun _ h=>h
def bF.cp{α:Type}(ρ:bF α):bF (Option α) where
 sz:=1
 rd:=fun lab w cs x=>match x with
  |none=>cs = [.pointer none]
  |some y=>∃q ds,cs = [.pointer (some q)]∧At lab w q ds∧ρ.rd lab w ds y
 len:=fun{lab w cs x} h=>by
  cases x with
  |none=>rw[show cs = [.pointer none]from h];rfl
  |some y=>obtain⟨q,ds,h,_⟩:=h;rw[h];rfl
 one:=fun{lab w cs x} h u hu=>by
  cases x with
  |none=>rw[show cs = [.pointer none]from h]at hu;simp at hu;rw[hu];rfl
  |some y=>obtain⟨q,ds,h,_⟩:=h;rw[h]at hu;simp at hu;rw[hu];rfl
 keep:=fun{lab w lab' w' cs x} hk h=>by
  cases x with
  |none=>exact h
  |some y=>obtain⟨q,ds,h1,h2,h3⟩:=h;exact⟨q,ds,h1,h2.keep hk,ρ.keep hk h3⟩
def bF.clo{α:Type}(f:Nat)(ρ:bF α):bF (Option α) where
 sz:=1
 rd:=fun lab w cs x=>match x with
  |none=>cs = [.nilFunc]
  |some y=>∃ps,cs = [.func (.func f) #[] ps.toArray]∧ρ.rd lab w ps y
 len:=fun{lab w cs x} h=>by
  cases x with
  |none=>rw[show cs = [.nilFunc]from h];rfl
  |some y=>obtain⟨ps,h,_⟩:=h;rw[h];rfl
 one:=fun{lab w cs x} h u hu=>by
  cases x with
  |none=>rw[show cs = [.nilFunc]from h]at hu;simp at hu;rw[hu];rfl
  |some y=>obtain⟨ps,h,_⟩:=h;rw[h]at hu;simp at hu;rw[hu];rfl
 keep:=fun{lab w lab' w' cs x} hk h=>by
  cases x with
  |none=>exact h
  |some y=>obtain⟨ps,h1,h2⟩:=h;exact⟨ps,h1,ρ.keep hk h2⟩
theorem SL.imp{α:Type}{ρ σ:bF α}{lab:bf}{w:World}{oa:Option Addr}{c:Nat}{xs:List α}(hz:ρ.sz=σ.sz)(h : ∀(i:Nat) (x:α) (cs:List Value),xs[i]?=some x→ρ.rd lab w cs x→σ.rd lab w cs x)(s:SL ρ lab w oa c xs):SL σ lab w oa c xs:=
 ⟨s.1,s.2.1,fun i x hx=>by obtain⟨ad,cs,h1,h2,h3⟩:=s.2.2 i x hx;exact⟨ad,cs,h1,h i x cs hx h2,by rw[←hz];exact h3⟩⟩
def bF.trs(ρ:bF Tr):bF Tr where
 sz:=4
 rd:=fun lab w cs x=>(bF.pr (bF.kd .i64) (bF.pr (bF.kd .u64) (bF.pr (bF.sl (bF.kd .u8)) (bF.sl ρ)))).rd lab w cs (x.k,x.n,x.b,x.l)
 len:=fun h=>(bF.pr (bF.kd .i64) (bF.pr (bF.kd .u64) (bF.pr (bF.sl (bF.kd .u8)) (bF.sl ρ)))).len h
 one:=fun h=>(bF.pr (bF.kd .i64) (bF.pr (bF.kd .u64) (bF.pr (bF.sl (bF.kd .u8)) (bF.sl ρ)))).one h
 keep:=fun hk h=>(bF.pr (bF.kd .i64) (bF.pr (bF.kd .u64) (bF.pr (bF.sl (bF.kd .u8)) (bF.sl ρ)))).keep hk h
def uE:Nat→bF Tr
 |0=>⟨4,fun _ _ _ _=>False,fun h=>h.elim,fun h=>h.elim,fun _ h=>h⟩
 |n+1=>bF.trs (uE n)
theorem sH : ∀n,(uE n).sz=4
 |0=>rfl
 |_+1=>rfl
theorem DY{ρ σ:bF Tr}{lab:bf}{w:World}{cs:List Value}{x:Tr}(hz:ρ.sz=σ.sz)(h : ∀y ds,y∈x.l→ρ.rd lab w ds y→σ.rd lab w ds y)(hx:(bF.trs ρ).rd lab w cs x):(bF.trs σ).rd lab w cs x:=by
 obtain⟨c1,c2,e1,h1,c3,c4,e2,h2,c5,c6,e3,h3,oa,c,e4,h4⟩:=hx
 exact⟨c1,c2,e1,h1,c3,c4,e2,h2,c5,c6,e3,h3,oa,c,e4,SL.imp hz (fun i y ds hi hy=>h y ds (List.mem_of_getElem? hi) hy) h4⟩
theorem DF{lab:bf}{w:World}: ∀{n:Nat} {cs:List Value} {x:Tr},(uE n).rd lab w cs x→∀{m:Nat},n≤m→(uE m).rd lab w cs x
 |0,_,_,h,_,_=>h.elim
 |n+1,cs,x,h,0,hm=>by omega
 |n+1,cs,x,h,m+1,hm=>DY (ρ:=uE n) (σ:=uE m) (by rw[sH,sH]) (fun y ds _ hy=>DF hy (by omega)) h
def bF.tree:bF Tr where
 sz:=4
 rd:=fun lab w cs x=>∃n,(uE n).rd lab w cs x
 len:=fun⟨n,h⟩=>by rw[(uE n).len h,sH]
 one:=fun⟨n,h⟩=>(uE n).one h
 keep:=fun hk ⟨n,h⟩=>⟨n,(uE n).keep hk h⟩
theorem Ev{α:Type}{P:Nat→α→Prop}(up : ∀n m x,n≤m→P n x→P m x): ∀(l:List α),(∀x∈l,∃n,P n x)→∃n,∀x∈l,P n x
 | [],_=>⟨0,by simp⟩
 |x::l,h=>by
  obtain⟨n,hn⟩:=h x (by simp)
  obtain⟨m,hm⟩:=Ev up l fun y hy=>h y (by simp[hy])
  refine⟨max n m,fun y hy=>?_⟩
  rcases List.mem_cons.1 hy with rfl |hy
  ·exact up _ _ _ (Nat.le_max_left _ _) hn
  ·exact up _ _ _ (Nat.le_max_right _ _) (hm y hy)
theorem lE{lab:bf}{w:World}{cs:List Value}{x:Tr}:bF.tree.rd lab w cs x↔(bF.trs bF.tree).rd lab w cs x:=by
 constructor
 ·rintro⟨n,h⟩
  cases n with
  |zero=>exact h.elim
  |succ n=>exact DY (ρ:=uE n) (σ:=bF.tree) (sH n) (fun y ds _ hy=>⟨n,hy⟩) h
 ·rintro⟨c1,c2,e1,h1,c3,c4,e2,h2,c5,c6,e3,h3,oa,c,e4,h4⟩
  obtain⟨n,hn⟩:=Ev (P:=fun n i=>∀y,x.l[i]?=some y→∃ad ds,oa=some ad∧(uE n).rd lab w ds y∧At lab w (ad.add (i*4)) ds) (fun n m i hm h y hy=>by
   obtain⟨ad,ds,a1,a2,a3⟩:=h y hy
   exact⟨ad,ds,a1,DF a2 hm,a3⟩) (List.range x.l.length) fun i hi=>by
    have hi:=List.mem_range.1 hi
    obtain⟨ad,ds,a1,⟨n,a2⟩,a3⟩:=h4.2.2 i x.l[i] (List.getElem?_eq_getElem hi)
    refine⟨n,fun y hy=>?_⟩
    rw[List.getElem?_eq_getElem hi]at hy
    cases hy
    exact⟨ad,ds,a1,a2,a3⟩
  refine⟨n+1,c1,c2,e1,h1,c3,c4,e2,h2,c5,c6,e3,h3,oa,c,e4,h4.1,h4.2.1,fun i y hy=>?_⟩
  obtain⟨ad,ds,a1,a2,a3⟩:=hn i (List.mem_range.2 (List.getElem?_eq_some_iff.1 hy).1) y hy
  exact⟨ad,ds,a1,a2,by rw[sH];exact a3⟩
def bF.err:bF Bool where
 sz:=1
 rd:=fun _ _ cs x=>match x with
  |false=>cs = [.nilIface]
  |true=>∃te v,cs = [.iface te v]
 len:=fun{lab w cs x} h=>by
  cases x with
  |false=>rw[show cs = [.nilIface]from h];rfl
  |true=>obtain⟨te,v,h⟩:=h;rw[h];rfl
 one:=fun{lab w cs x} h u hu=>by
  cases x with
  |false=>rw[show cs = [.nilIface]from h]at hu;simp at hu;rw[hu];rfl
  |true=>obtain⟨te,v,h⟩:=h;rw[h]at hu;simp at hu;rw[hu];rfl
 keep:=fun _ h=>h
def bF.fl:bF UInt64 where
 sz:=1
 rd:=fun _ _ cs x=>cs = [.float .f64 x.toNat]
 len:=fun h=>by rw[h];rfl
 one:=fun h u hu=>by rw[h]at hu;simp at hu;rw[hu];rfl
 keep:=fun _ h=>h
def bF.f4:bF UInt32 where
 sz:=1
 rd:=fun _ _ cs x=>cs = [.float .f32 x.toNat]
 len:=fun h=>by rw[h];rfl
 one:=fun h u hu=>by rw[h]at hu;simp at hu;rw[hu];rfl
 keep:=fun _ h=>h
def bF.ar(n:Nat)(k:IntKind):bF (List (aQ k)) where
 sz:=n
 rd:=fun _ _ cs x=>x.length=n∧cs=x.map fun y=>.int k (bH k y)
 len:=fun⟨h1,h2⟩=>by rw[h2,List.length_map,h1]
 one:=fun⟨_,h2⟩ u hu=>by rw[h2]at hu;obtain⟨y,_,rfl⟩:=List.mem_map.1 hu;rfl
 keep:=fun _ h=>h
def rep:(t:PT)→bF (den t)
 | .int k=>bF.kd k | .bool=>bF.bool | .str=>bF.str | .sl t=>bF.sl (rep t) | .pr a b=>bF.pr (rep a) (rep b) | .st t=>rep t | .un=>bF.un | .cp t=>bF.cp (rep t) | .clo f t=>bF.clo f (rep t) | .tree=>bF.tree | .err=>bF.err | .fl=>bF.fl | .f4=>bF.f4 | .ar n k=>bF.ar n k
def bZ:PT→Nat
 | .int _=>1 | .bool=>1 | .str=>1 | .sl _=>1 | .pr a b=>bZ a+bZ b | .st t=>bZ t | .un=>0 | .cp _=>1 | .clo _ _=>1 | .tree=>4 | .err=>1 | .fl=>1 | .f4=>1 | .ar n _=>n
theorem a_ : ∀t,(rep t).sz=bZ t
 | .int _=>rfl | .bool=>rfl | .str=>rfl | .sl _=>rfl | .un=>rfl | .cp _=>rfl | .clo _ _=>rfl | .tree=>rfl | .err=>rfl | .fl=>rfl | .f4=>rfl | .ar _ _=>rfl
 | .st t=>a_ t
 | .pr a b=>by show(rep a).sz+(rep b).sz=_;rw[a_ a,a_ b];rfl
def IntKind.eqb:IntKind→IntKind→Bool
 | .i8,.i8=>true | .i16,.i16=>true | .i32,.i32=>true | .i64,.i64=>true | .u8,.u8=>true | .u16,.u16=>true | .u32,.u32=>true | .u64,.u64=>true |_,_=>false
theorem IntKind.eqb_eq{a b:IntKind}(h:IntKind.eqb a b=true):a=b:=by cases a<;>cases b<;>first |rfl |cases h
def PT.eqb:PT→PT→Bool
 | .int a,.int b=>IntKind.eqb a b | .bool,.bool=>true | .str,.str=>true | .sl a,.sl b=>PT.eqb a b | .pr a b,.pr c d=>PT.eqb a c&&PT.eqb b d | .st a,.st b=>PT.eqb a b | .un,.un=>true | .cp a,.cp b=>PT.eqb a b | .clo f a,.clo g b=>Nat.beq f g&&PT.eqb a b | .tree,.tree=>true | .err,.err=>true | .fl,.fl=>true | .f4,.f4=>true | .ar n a,.ar m b=>Nat.beq n m&&IntKind.eqb a b |_,_=>false
theorem PT.eqb_eq : ∀{a b:PT},PT.eqb a b=true→a=b
 | .int a,b,h=>by cases b<;>first |cases h;done | (simp only[PT.eqb]at h;rw[IntKind.eqb_eq h])
 | .bool,b,h=>by cases b<;>first |rfl |cases h
 | .str,b,h=>by cases b<;>first |rfl |cases h
 | .un,b,h=>by cases b<;>first |rfl |cases h
 | .tree,b,h=>by cases b<;>first |rfl |cases h
 | .err,b,h=>by cases b<;>first |rfl |cases h
 | .fl,b,h=>by cases b<;>first |rfl |cases h
 | .f4,b,h=>by cases b<;>first |rfl |cases h
 | .ar n a,b,h=>by cases b<;>first |cases h;done | (simp only[PT.eqb,Bool.and_eq_true]at h;rw[Nat.eq_of_beq_eq_true h.1,IntKind.eqb_eq h.2])
 | .sl a,b,h=>by cases b<;>first |cases h;done | (simp only[PT.eqb]at h;rw[PT.eqb_eq h])
 | .st a,b,h=>by cases b<;>first |cases h;done | (simp only[PT.eqb]at h;rw[PT.eqb_eq h])
 | .cp a,b,h=>by cases b<;>first |cases h;done | (simp only[PT.eqb]at h;rw[PT.eqb_eq h])
 | .clo f a,b,h=>by cases b<;>first |cases h;done | (simp only[PT.eqb,Bool.and_eq_true]at h;rw[Nat.eq_of_beq_eq_true h.1,PT.eqb_eq h.2])
 | .pr a c,b,h=>by
  cases b<;>first |cases h;done | (simp only[PT.eqb,Bool.and_eq_true]at h;rw[PT.eqb_eq h.1,PT.eqb_eq h.2])
def bh(t u:PT)(x:den t):Option (den u):=if h:PT.eqb t u=true then some (PT.eqb_eq h▸x)else none
theorem ay{t u:PT}{x:den t}{y:den u}(h:bh t u x=some y): ∃e:t=u,e▸x=y:=by
 unfold bh at h
 split at h
 ·rename_i he
  exact⟨PT.eqb_eq he,by simpa using h⟩
 ·cases h
def ja:PT→Bool
 | .st _=>true | .pr _ _=>true | .un=>true | .tree=>true | .ar _ _=>true |_=>false
def uS(t:PT)(cs:List Value)(v:Value):Prop:=
 match ja t with
 |true=>v = .agg cs.toArray
 |false=>cs = [v]
def aV(t:PT)(x:den t)(lab:bf)(w:World)(v:Value):Prop:=∃cs,(rep t).rd lab w cs x∧uS t cs v
theorem aV.keep{t:PT}{x:den t}{lab lab':bf}{w w':World}{v:Value}(hk:bd lab w lab' w')(h:aV t x lab w v):aV t x lab' w' v:=by
 obtain⟨cs,h1,h2⟩:=h
 exact⟨cs,(rep t).keep hk h1,h2⟩
theorem uS.cells{t:PT}{cs:List Value}{v:Value}(h:uS t cs v)(ho : ∀u∈cs,u.oneCell'=true):v.cells=cs.toArray:=by
 unfold uS at h
 split at h
 ·rw[h];rfl
 ·subst h
  have:=ho v (by simp)
  cases v<;>first |rfl | (simp[Value.oneCell']at this)
section
variable {lab : bf} {w : World} {v : Value}
theorem aV.int{k:IntKind}{x:aQ k}(h:aV (.int k) x lab w v):v = .int k (bH k x):=by
 obtain⟨cs,h1,h2⟩:=h
 have h1:cs = [.int k (bH k x)]:=h1
 have h2:cs = [v]:=h2
 rw[h1]at h2;simp at h2;exact h2.symm
theorem aV.ofInt{k:IntKind}(x:aQ k):aV (.int k) x lab w (.int k (bH k x)):=⟨[.int k (bH k x)],rfl,rfl⟩
theorem aV.bool{x:Bool}(h:aV .bool x lab w v):v = .bool x:=by
 obtain⟨cs,h1,h2⟩:=h
 have h1:cs = [.bool x]:=h1
 have h2:cs = [v]:=h2
 rw[h1]at h2;simp at h2;exact h2.symm
theorem aV.ofBool(x:Bool):aV .bool x lab w (.bool x):=⟨[.bool x],rfl,rfl⟩
theorem aV.str{x:List UInt8}(h:aV .str x lab w v):v=dG x:=by
 obtain⟨cs,h1,h2⟩:=h
 have h1:cs = [dG x]:=h1
 have h2:cs = [v]:=h2
 rw[h1]at h2;simp at h2;exact h2.symm
theorem aV.ofStr(x:List UInt8):aV .str x lab w (dG x):=⟨[dG x],rfl,rfl⟩
theorem aV.sl{t:PT}{xs:List (den t)}(h:aV (.sl t) xs lab w v): ∃oa c,v = .slice oa xs.length c∧SL (rep t) lab w oa c xs:=by
 obtain⟨cs,⟨oa,c,h1,h3⟩,h2⟩:=h
 have h2:cs = [v]:=h2
 rw[h1]at h2;simp at h2;exact⟨oa,c,h2.symm,h3⟩
theorem aV.ofSl{t:PT}{xs:List (den t)}{oa:Option Addr}{c:Nat}(h:SL (rep t) lab w oa c xs):aV (.sl t) xs lab w (.slice oa xs.length c):=⟨[.slice oa xs.length c],⟨oa,c,rfl,h⟩,rfl⟩
theorem aV.st{t:PT}{x:den t}(h:aV (.st t) x lab w v): ∃cs,v = .agg cs.toArray∧(rep t).rd lab w cs x:=by
 obtain⟨cs,h1,h2⟩:=h
 exact⟨cs,h2,h1⟩
end
def zt:(t:PT)→den t
 | .int k=>iU k 0 | .bool=>false | .str=>[] | .sl _=>[] | .pr a b=>(zt a,zt b) | .st t=>zt t | .un=>() | .cp _=>none | .clo _ _=>none | .tree=>.mk 0 0 [] [] | .err=>false | .fl=>(0:UInt64) | .f4=>(0:UInt32) | .ar n k=>List.replicate n (iU k 0)
def zc:PT→List Value
 | .int k=>[.int k 0] | .bool=>[.bool false] | .str=>[dG []] | .sl _=>[.slice none 0 0] | .pr a b=>zc a++zc b | .st t=>zc t | .un=>[] | .cp _=>[.pointer none] | .clo _ _=>[.nilFunc] | .tree=>[.int .i64 0,.int .u64 0,.slice none 0 0,.slice none 0 0] | .err=>[.nilIface] | .fl=>[.float .f64 0] | .f4=>[.float .f32 0] | .ar n k=>List.replicate n (.int k 0)
theorem Bs(k:IntKind):bH k (iU k 0)=0:=by cases k<;>rfl
theorem fA(lab:bf)(w:World): ∀t,(rep t).rd lab w (zc t) (zt t)
 | .int k=>by show [Value.int k 0] = [.int k (bH k (iU k 0))];rw[Bs]
 | .bool=>rfl
 | .str=>rfl
 | .sl t=>⟨none,0,rfl,SL.nil⟩
 | .pr a b=>⟨zc a,zc b,rfl,fA lab w a,fA lab w b⟩
 | .st t=>fA lab w t
 | .un=>rfl
 | .cp _=>rfl
 | .clo _ _=>rfl
 | .err=>rfl
 | .fl=>rfl
 | .f4=>rfl
 | .ar n k=>⟨List.length_replicate,by show List.replicate n (Value.int k 0)=(List.replicate n (iU k 0)).map _;rw[List.map_replicate,Bs]⟩
 | .tree=>lE.2 ⟨[.int .i64 0],_,rfl,rfl,[.int .u64 0],_,rfl,rfl,[.slice none 0 0],[.slice none 0 0],rfl,⟨none,0,rfl,SL.nil⟩,⟨none,0,rfl,SL.nil⟩⟩
theorem pB{a b:Nat}(h:Nat.blt a b=false):b≤a:=Nat.le_of_not_lt fun h'=>by rw[show Nat.blt a b=true from Nat.ble_eq_true_of_le h']at h;cases h
def eb:(t:PT)→Nat→(u:PT)→den t→Option (den u)
 | .pr a b,o,u,x=>match Nat.blt o (bZ a)with
  |true=>eb a o u x.1
  |false=>eb b (o-bZ a) u x.2
 | .st t,o,u,x=>match Nat.beq o 0 with
  |true=>match bh (.st t) u x with
   |some y=>some y
   |none=>eb t 0 u x
  |false=>eb t o u x
 | .tree,o,u,x=>match o with
  |0=>match bh .tree u x with
   |some y=>some y
   |none=>bh (.int .i64) u x.k
  |1=>bh (.int .u64) u x.n
  |2=>bh (.sl (.int .u8)) u x.b
  |3=>bh (.sl .tree) u x.l
  |_=>none
 | .ar n k,o,u,x=>match bh (.ar n k) u x with
  |some y=>match Nat.beq o 0 with
   |true=>some y
   |false=>none
  |none=>match Nat.blt o n with
   |true=>bh (.int k) u (List.getD (α:=aQ k) x o (iU k 0))
   |false=>none
 |t,o,u,x=>match Nat.beq o 0 with
  |true=>bh t u x
  |false=>none
def cW:(t:PT)→Nat→(u:PT)→den t→den u→Option (den t)
 | .pr a b,o,u,x,y=>match Nat.blt o (bZ a)with
  |true=>match cW a o u x.1 y with
   |some z=>some (z,x.2)
   |none=>none
  |false=>match cW b (o-bZ a) u x.2 y with
   |some z=>some (x.1,z)
   |none=>none
 | .st t,o,u,x,y=>match Nat.beq o 0 with
  |true=>match bh u (.st t) y with
   |some z=>some z
   |none=>cW t 0 u x y
  |false=>cW t o u x y
 | .tree,o,u,x,y=>match o with
  |0=>match bh u .tree y with
   |some z=>some z
   |none=>match bh u (.int .i64) y with
    |some k=>some (.mk k x.n x.b x.l)
    |none=>none
  |1=>match bh u (.int .u64) y with
   |some n=>some (.mk x.k n x.b x.l)
   |none=>none
  |2=>match bh u (.sl (.int .u8)) y with
   |some b=>some (.mk x.k x.n b x.l)
   |none=>none
  |3=>match bh u (.sl .tree) y with
   |some l=>some (.mk x.k x.n x.b l)
   |none=>none
  |_=>none
 | .ar n k,o,u,x,y=>match bh u (.ar n k) y with
  |some z=>match Nat.beq o 0 with
   |true=>some z
   |false=>none
  |none=>match Nat.blt o n,bh u (.int k) y with
   |true,some z=>some (List.set (α:=aQ k) x o z)
   |_,_=>none
 |t,o,u,x,y=>match Nat.beq o 0 with
  |true=>bh u t y
  |false=>none
theorem kS{lab:bf}{w:World}{t u:PT}{cs:List Value}{x:den t}{y:den u}(h:(rep t).rd lab w cs x)(e:bh t u x=some y):(rep u).rd lab w cs y:=by
 obtain⟨rfl,rfl⟩:=ay e
 exact h
theorem pR{cs:List Value}{n:Nat}(h:cs.length=n):(cs.drop 0).take n=cs:=by subst h;simp
theorem M1{k:IntKind}{x:List (aQ k)}{o:Nat}(h:o<x.length):((x.map fun y=>Value.int k (bH k y)).drop o).take 1 = [Value.int k (bH k (x.getD o (iU k 0)))]:=by
 rw[List.drop_eq_getElem_cons (by rw[List.length_map];exact h),List.take_succ_cons,List.take_zero,List.getElem_map]
 simp[List.getD,List.getElem?_eq_getElem h]
theorem Ny{k:IntKind}{x:List (aQ k)}{o:Nat}{z:aQ k}(h:o<x.length):(x.map fun y=>Value.int k (bH k y)).take o ++ [Value.int k (bH k z)]++(x.map fun y=>Value.int k (bH k y)).drop (o+1)=(x.set o z).map fun y=>Value.int k (bH k y):=by
 rw[List.map_set,List.set_eq_take_append_cons_drop,if_pos (by rw[List.length_map];exact h),List.append_assoc]
 rfl
theorem wo{lab:bf}{w:World}: ∀{t:PT} {o:Nat} {u:PT} {x:den t} {y:den u} {cs:List Value},(rep t).rd lab w cs x→eb t o u x=some y→(rep u).rd lab w ((cs.drop o).take (bZ u)) y:=by
 have leaf : ∀{t u:PT} {o:Nat} {x:den t} {y:den u} {cs:List Value},(rep t).rd lab w cs x→(match Nat.beq o 0 with |true=>bh t u x |false=>none)=some y→(rep u).rd lab w ((cs.drop o).take (bZ u)) y:=by
  intro t u o x y cs h e
  split at e
  ·rename_i h0
   have:=Nat.eq_of_beq_eq_true h0;subst this
   have h2:=kS h e
   rw[pR (by rw[(rep u).len h2,a_])]
   exact h2
  ·cases e
 intro t
 induction t with
 |int k=>intro o u x y cs h e;exact leaf h (by simpa only[eb]using e)
 |bool=>intro o u x y cs h e;exact leaf h (by simpa only[eb]using e)
 |str=>intro o u x y cs h e;exact leaf h (by simpa only[eb]using e)
 |sl t _=>intro o u x y cs h e;exact leaf h (by simpa only[eb]using e)
 |un=>intro o u x y cs h e;exact leaf h (by simpa only[eb]using e)
 |cp t _=>intro o u x y cs h e;exact leaf h (by simpa only[eb]using e)
 |clo f t _=>intro o u x y cs h e;exact leaf h (by simpa only[eb]using e)
 |err=>intro o u x y cs h e;exact leaf h (by simpa only[eb]using e)
 |fl=>intro o u x y cs h e;exact leaf h (by simpa only[eb]using e)
 |f4=>intro o u x y cs h e;exact leaf h (by simpa only[eb]using e)
 |ar n k=>
  intro o u x y cs h e
  simp only[eb]at e
  split at e
  ·rename_i y' hy
   split at e
   ·rename_i h0
    have:=Nat.eq_of_beq_eq_true h0;subst this
    cases e
    have h2:=kS (t:=.ar n k) h hy
    rw[pR (by rw[(rep u).len h2,a_])]
    exact h2
   ·cases e
  ·split at e
   ·rename_i hb
    have hlt:o<n:=by simpa using hb
    obtain⟨hl,hc⟩:List.length (α:=aQ k) x=n∧cs=List.map (fun y=>Value.int k (bH k y)) x:=h
    have hlt':o<List.length (α:=aQ k) x:=by omega
    have hx:(rep (.int k)).rd lab w [Value.int k (bH k (List.getD (α:=aQ k) x o (iU k 0)))] (List.getD (α:=aQ k) x o (iU k 0)):=rfl
    have h2:=kS hx e
    have h3:bZ u=1:=by rw[←a_,←(rep u).len h2];rfl
    have h4:(cs.drop o).take (bZ u) = [Value.int k (bH k (List.getD (α:=aQ k) x o (iU k 0)))]:=by
     rw[h3,hc];exact M1 (x:=x) hlt'
    rw[h4];exact h2
   ·cases e
 |tree=>
  intro o u x y cs h e
  obtain⟨c1,r1,rfl,h1,c2,r2,rfl,h2,c3,c4,rfl,h3,h4⟩:=lE.1 h
  have l1:c1.length=1:=(rep (.int .i64)).len (x:=x.k) h1
  have l2:c2.length=1:=(rep (.int .u64)).len (x:=x.n) h2
  have l3:c3.length=1:=(rep (.sl (.int .u8))).len (x:=x.b) h3
  have l4:c4.length=1:=(rep (.sl .tree)).len (x:=x.l) h4
  obtain⟨v1,rfl⟩:=List.length_eq_one_iff.1 l1
  obtain⟨v2,rfl⟩:=List.length_eq_one_iff.1 l2
  obtain⟨v3,rfl⟩:=List.length_eq_one_iff.1 l3
  obtain⟨v4,rfl⟩:=List.length_eq_one_iff.1 l4
  have part : ∀{t:PT} {z:den t} {v:Value} {rest:List Value},(rep t).rd lab w [v] z→bh t u z=some y→(rep u).rd lab w ((v::rest).take (bZ u)) y:=by
   intro t z v rest hz hc
   have h2:=kS hz hc
   have:bZ u=1:=by rw[←a_,←(rep u).len h2];rfl
   rw[this];exact h2
  match o,e with
  |0,e=>
   simp only[eb]at e
   split at e
   ·rename_i y' hy
    cases e
    have h2:=kS (t:=.tree) h hy
    rw[pR (by rw[(rep u).len h2,a_])]
    exact h2
   ·exact part (t:=.int .i64) h1 e
  |1,e=>exact part (t:=.int .u64) h2 (by simpa only[eb]using e)
  |2,e=>exact part (t:=.sl (.int .u8)) h3 (by simpa only[eb]using e)
  |3,e=>exact part (t:=.sl .tree) h4 (by simpa only[eb]using e)
  |o+4,e=>simp[eb]at e
 |pr a b iha ihb=>
  intro o u x y cs h e
  obtain⟨c1,c2,rfl,h1,h2⟩:=h
  have l1:c1.length=bZ a:=by rw[(rep a).len h1,a_]
  simp only[eb]at e
  split at e
  ·rename_i hb
   have hlt:o<bZ a:=by simpa using hb
   have h3:=iha h1 e
   have h4:((c1.drop o).take (bZ u)).length=bZ u:=by rw[(rep u).len h3,a_]
   have h5:bZ u≤(c1.drop o).length:=by simp at h4⊢;omega
   have:((c1++c2).drop o).take (bZ u)=(c1.drop o).take (bZ u):=by
    rw[List.drop_append_of_le_length (by omega),List.take_append_of_le_length h5]
   rw[this];exact h3
  ·rename_i hb
   have hge:bZ a≤o:=pB hb
   have h3:=ihb h2 e
   have:(c1++c2).drop o=c2.drop (o-bZ a):=by
    rw[List.drop_append,List.drop_of_length_le (by omega),l1,List.nil_append]
   rw[this];exact h3
 |st t ih=>
  intro o u x y cs h e
  simp only[eb]at e
  split at e
  ·rename_i h0
   have:=Nat.eq_of_beq_eq_true h0;subst this
   split at e
   ·rename_i y' hy
    cases e
    have h2:=kS (t:=.st t) h hy
    rw[pR (by rw[(rep u).len h2,a_])]
    exact h2
   ·exact ih h e
  ·exact ih h e
theorem gL{lab:bf}{w:World}: ∀{t:PT} {o:Nat} {u:PT} {x z:den t} {y:den u} {cs vs:List Value},(rep t).rd lab w cs x→(rep u).rd lab w vs y→cW t o u x y=some z→o+bZ u≤cs.length∧(rep t).rd lab w (cs.take o++vs++cs.drop (o+bZ u)) z:=by
 have whole : ∀{t u:PT} {x z:den t} {y:den u} {cs vs:List Value},(rep t).rd lab w cs x→(rep u).rd lab w vs y→bh u t y=some z→0+bZ u≤cs.length∧(rep t).rd lab w (cs.take 0++vs++cs.drop (0+bZ u)) z:=by
  intro t u x z y cs vs h hv e
  have h2:=kS hv e
  obtain⟨rfl,rfl⟩:=ay e
  have l1:cs.length=bZ u:=by rw[(rep u).len h,a_]
  refine⟨by omega,?_⟩
  rw[List.take_zero,List.nil_append,List.drop_of_length_le (by omega),List.append_nil]
  exact h2
 have leaf : ∀{t u:PT} {o:Nat} {x z:den t} {y:den u} {cs vs:List Value},(rep t).rd lab w cs x→(rep u).rd lab w vs y→(match Nat.beq o 0 with |true=>bh u t y |false=>none)=some z→o+bZ u≤cs.length∧(rep t).rd lab w (cs.take o++vs++cs.drop (o+bZ u)) z:=by
  intro t u o x z y cs vs h hv e
  split at e
  ·rename_i h0
   have:=Nat.eq_of_beq_eq_true h0;subst this
   exact whole h hv e
  ·cases e
 intro t
 induction t with
 |int k=>intro o u x z y cs vs h hv e;exact leaf h hv (by simpa only[cW]using e)
 |bool=>intro o u x z y cs vs h hv e;exact leaf h hv (by simpa only[cW]using e)
 |str=>intro o u x z y cs vs h hv e;exact leaf h hv (by simpa only[cW]using e)
 |sl t _=>intro o u x z y cs vs h hv e;exact leaf h hv (by simpa only[cW]using e)
 |un=>intro o u x z y cs vs h hv e;exact leaf h hv (by simpa only[cW]using e)
 |cp t _=>intro o u x z y cs vs h hv e;exact leaf h hv (by simpa only[cW]using e)
 |clo f t _=>intro o u x z y cs vs h hv e;exact leaf h hv (by simpa only[cW]using e)
 |err=>intro o u x z y cs vs h hv e;exact leaf h hv (by simpa only[cW]using e)
 |fl=>intro o u x z y cs vs h hv e;exact leaf h hv (by simpa only[cW]using e)
 |f4=>intro o u x z y cs vs h hv e;exact leaf h hv (by simpa only[cW]using e)
 |ar n k=>
  intro o u x z y cs vs h hv e
  simp only[cW]at e
  split at e
  ·rename_i z' hz
   split at e
   ·rename_i h0
    have:=Nat.eq_of_beq_eq_true h0;subst this
    cases e
    exact whole h hv hz
   ·cases e
  ·split at e
   ·rename_i z' hb hz
    cases e
    have hlt:o<n:=by simpa using hb
    have hcl:cs.length=n:=(rep (.ar n k)).len (x:=x) h
    obtain⟨hl,hc⟩:List.length (α:=aQ k) x=n∧cs=List.map (fun y=>Value.int k (bH k y)) x:=h
    have hlt':o<List.length (α:=aQ k) x:=by omega
    have h2:=kS hv hz
    have h2:vs = [Value.int k (bH k z')]:=h2
    obtain⟨hu,_⟩:=ay hz
    subst hu
    refine⟨by show o+1≤cs.length;omega,?_,?_⟩
    ·exact(List.length_set (α:=aQ k) (as:=x)).trans hl
    ·show cs.take o++vs++cs.drop (o+1)=List.map (fun y=>Value.int k (bH k y)) (List.set (α:=aQ k) x o z')
     rw[hc,h2];exact Ny (x:=x) hlt'
   ·cases e
 |tree=>
  intro o u x z y cs vs h hv e
  obtain⟨c1,r1,rfl,h1,c2,r2,rfl,h2,c3,c4,rfl,h3,h4⟩:=lE.1 h
  have l1:c1.length=1:=(rep (.int .i64)).len (x:=x.k) h1
  have l2:c2.length=1:=(rep (.int .u64)).len (x:=x.n) h2
  have l3:c3.length=1:=(rep (.sl (.int .u8))).len (x:=x.b) h3
  have l4:c4.length=1:=(rep (.sl .tree)).len (x:=x.l) h4
  obtain⟨v1,rfl⟩:=List.length_eq_one_iff.1 l1
  obtain⟨v2,rfl⟩:=List.length_eq_one_iff.1 l2
  obtain⟨v3,rfl⟩:=List.length_eq_one_iff.1 l3
  obtain⟨v4,rfl⟩:=List.length_eq_one_iff.1 l4
  have part : ∀{t:PT} {s:den t},bZ t=1→bh u t y=some s→bZ u=1∧(rep t).rd lab w vs s∧∃v,vs = [v]:=by
   intro t s ht hc
   have h2:=kS hv hc
   have hl:vs.length=1:=by rw[(rep t).len h2,a_,ht]
   have hu:bZ u=1:=by rw[←a_,←(rep u).len hv];exact hl
   exact⟨hu,h2,List.length_eq_one_iff.1 hl⟩
  match o,e with
  |0,e=>
   simp only[cW]at e
   split at e
   ·rename_i z' hz
    cases e
    exact whole (t:=.tree) h hv hz
   ·split at e
    ·rename_i k hk
     cases e
     obtain⟨hu,hk2,v,rfl⟩:=part (t:=.int .i64) rfl hk
     rw[hu]
     exact⟨by simp,lE.2 ⟨[v],[v2,v3,v4],rfl,hk2,[v2],[v3,v4],rfl,h2,[v3],[v4],rfl,h3,h4⟩⟩
    ·cases e
  |1,e=>
   simp only[cW]at e
   split at e
   ·rename_i k hk
    cases e
    obtain⟨hu,hk2,v,rfl⟩:=part (t:=.int .u64) rfl hk
    rw[hu]
    exact⟨by simp,lE.2 ⟨[v1],[v,v3,v4],rfl,h1,[v],[v3,v4],rfl,hk2,[v3],[v4],rfl,h3,h4⟩⟩
   ·cases e
  |2,e=>
   simp only[cW]at e
   split at e
   ·rename_i k hk
    cases e
    obtain⟨hu,hk2,v,rfl⟩:=part (t:=.sl (.int .u8)) rfl hk
    rw[hu]
    exact⟨by simp,lE.2 ⟨[v1],[v2,v,v4],rfl,h1,[v2],[v,v4],rfl,h2,[v],[v4],rfl,hk2,h4⟩⟩
   ·cases e
  |3,e=>
   simp only[cW]at e
   split at e
   ·rename_i k hk
    cases e
    obtain⟨hu,hk2,v,rfl⟩:=part (t:=.sl .tree) rfl hk
    rw[hu]
    exact⟨by simp,lE.2 ⟨[v1],[v2,v3,v],rfl,h1,[v2],[v3,v],rfl,h2,[v3],[v],rfl,h3,hk2⟩⟩
   ·cases e
  |o+4,e=>simp[cW]at e
 |pr a b iha ihb=>
  intro o u x z y cs vs h hv e
  obtain⟨c1,c2,rfl,h1,h2⟩:=h
  have l1:c1.length=bZ a:=by rw[(rep a).len h1,a_]
  simp only[cW]at e
  split at e
  ·rename_i hb
   have hlt:o<bZ a:=by simpa using hb
   split at e
   ·rename_i z' hz
    cases e
    obtain⟨h3,h4⟩:=iha h1 hv hz
    refine⟨by simp;omega,_,c2,?_,h4,h2⟩
    rw[List.take_append_of_le_length (by omega),List.drop_append_of_le_length (by omega)]
    simp
   ·cases e
  ·rename_i hb
   have hge:bZ a≤o:=pB hb
   split at e
   ·rename_i z' hz
    cases e
    obtain⟨h3,h4⟩:=ihb h2 hv hz
    refine⟨by simp;omega,c1,_,?_,h1,h4⟩
    rw[List.take_append,List.take_of_length_le (by omega),l1,List.drop_append,List.drop_of_length_le (by omega),l1]
    simp only[List.nil_append,List.append_assoc]
    rw[show o+bZ u-bZ a=o-bZ a+bZ u by omega]
   ·cases e
 |st t ih=>
  intro o u x z y cs vs h hv e
  simp only[cW]at e
  split at e
  ·rename_i h0
   have:=Nat.eq_of_beq_eq_true h0;subst this
   split at e
   ·rename_i z' hz
    cases e
    exact whole (t:=.st t) h hv hz
   ·exact ih h hv e
  ·exact ih h hv e
inductive SV where
 |dat (t:PT) (x:den t)
 |agn (t:PT) (x:den t) (l:List (Nat×TypeId×PT))
 |agh (t:PT) (x:den t) (off id:Nat)
 |clb (f:FuncId) (id:Nat)
 |nil |und |pnil
 |ptr (id off:Nat)
 |own (id:Nat)
 |eptr (id i off:Nat)
 |dptr (t:PT) (x:den t) (off:Nat)
 |rix (id:Nat) |rlen (id:Nat) |rsl (id:Nat) |rnx (id:Nat) |rcn (id:Nat)
 |mp (id:Nat)
 |mpq (id:Nat) (l:List (Int×Nat))
 |garr (t:PT) (xs:List (den t))
 |fsl (k:IntKind) (x:List (aQ k))
 |tup (l:List SV)
inductive dq where
 |box (k:Nat) (T:TypeId) (t:PT) (x:den t)
 |boxh (k:Nat) (T:TypeId) (t:PT) (x:den t) (hs:List (Nat×Nat))
 |row (k:Nat) (E:TypeId) (t:PT) (xs:List (den t))
 |src (k:Nat) (t:PT) (xs:List (den t))
 |rgh (t:PT) (xs:List (den t))
 |rgi (h:Nat) (t:PT) (xs:List (den t)) (k:Nat) (ox:Option (den t))
 |rgc (n:Int)
 |rgj (h:Nat) (n:Int) (k:Nat) (more:Bool)
 |mp (k:Nat) (T:TypeId) (t:PT) (f:List (UInt8×den t))
 |rq (k:Nat) (E E2:TypeId) (t:PT) (xs:List (List (den t)))
 |rp (k:Nat) (E E2:TypeId) (t:PT) (xs:List (List (den t)))
def dq.lbl:dq→Nat
 | .mp k _ _ _=>k | .rq k _ _ _ _=>k | .rp k _ _ _ _=>k | .box k _ _ _=>k | .boxh k _ _ _ _=>k | .row k _ _ _=>k | .src k _ _=>k | .rgh _ _=>0 | .rgi _ _ _ _ _=>0 | .rgc _=>0 | .rgj _ _ _ _=>0
def By:dq→Bool
 | .rgh _ _=>true | .rgi _ _ _ _ _=>true | .rgc _=>true | .rgj _ _ _ _=>true |_=>false
structure EI where
 oa:Option Addr
 n:Nat
 c:Nat
 sz:Nat
 z:Int
 lt:PT
 ls:List (den lt)
abbrev f7:=Nat→EI
inductive ju{α β:Type}(R:α→β→Prop):List α→List β→Prop where
 |nil:ju R [] []
 |cons {a b l m}:R a b→ju R l m→ju R (a::l) (b::m)
def tm(G:Nat):List MapEntry→List (Int×Nat)→Prop
 | [],[]=>True
 |x::es,q::l=>x.key = .int .i64 q.1∧x.val = .pointer (some ⟨G,q.2,none⟩)∧tm G es l
 |_,_=>False
def BF(e:f7)(sv:SV)(lab:bf)(w:World)(v:Value):Prop:=
 match sv with
 | .dat t x=>aV t x lab w v
 | .agn t x l=>aV t x lab w v∧∃cs,v = .agg cs∧∀h∈l,cs[h.1]?=some (.slice none 0 0)
 | .agh t x off id=>∃cs:List Value,v = .agg cs.toArray∧(rep t).rd lab w (cs.set off (.slice none 0 0)) x∧cs[off]?=some (.slice (e id).oa (e id).n (e id).c)
 | .clb f id=>∃g,(e id).oa=some ⟨g,0,none⟩∧v = .func (.func f) #[] #[.pointer (some ⟨g,0,none⟩)]
 | .nil=>v = .slice none 0 0
 | .und=>v=undef
 | .pnil=>v = .pointer none
 | .ptr id off=>∃g,(e id).oa=some ⟨g,0,none⟩∧v = .pointer (some ⟨g,off,none⟩)
 | .own id=>v = .slice (e id).oa (e id).n (e id).c
 | .eptr id i off=>∃p,Mb (e id).oa (e id).sz i p∧v = .pointer (some (p.add off))∧i<(e id).n
 | .dptr t x off=>∃p cs,v = .pointer (some (p.add off))∧At lab w p cs∧(rep t).rd lab w cs x
 | .rix id=>v = .int .i64 ((e id).n:Int)
 | .rlen id=>v = .int .i64 ((e id).ls.length:Int)
 | .rsl id=>∃oa c,v = .slice oa (e id).ls.length c∧SL (rep (e id).lt) lab w oa c (e id).ls
 | .rnx id=>v = .int .i64 (((e id).n+1:Nat):Int)
 | .rcn id=>v = .int .i64 (e id).z
 | .mp id=>∃g,(e id).oa=some ⟨g,0,none⟩∧v = .map (some g)
 | .mpq id l=>∃G g es c,(e id).oa=some ⟨G,0,none⟩∧v = .map (some g)∧g<w.heap.size∧lab g=0∧w.heap[g]?=some (.map es c)∧tm G es.toList l
 | .garr t xs=>∃us:List Value,v = .agg us.toArray∧ju (fun x u=>aV t x lab w u) xs us
 | .fsl k x=>∃p:Addr,v = .slice (some p) (List.length (α:=aQ k) x) (List.length (α:=aQ k) x)∧SL (bF.kd k) lab w (some p) (List.length (α:=aQ k) x) x
 | .tup _=>False
theorem ju.imp{α β:Type}{R S:α→β→Prop}{l:List α}{m:List β}(h:ju R l m)(hi : ∀a b,a∈l→R a b→S a b):ju S l m:=by
 induction h with
 |nil=>exact .nil
 |cons h _ ih=>exact .cons (hi _ _ (by simp) h) (ih fun a b ha=>hi a b (by simp[ha]))
theorem ju.len{α β:Type}{R:α→β→Prop}{l:List α}{m:List β}(h:ju R l m):l.length=m.length:=by
 induction h with
 |nil=>rfl
 |cons _ _ ih=>simp[ih]
theorem ju.get{α β:Type}{R:α→β→Prop}{l:List α}{m:List β}(h:ju R l m): ∀{i:Nat} {a:α},l[i]?=some a→∃b,m[i]?=some b∧R a b:=by
 induction h with
 |nil=>intro i a h;simp at h
 |cons h _ ih=>
  intro i a ha
  cases i with
  |zero=>simp at ha;subst ha;exact⟨_,rfl,h⟩
  |succ i=>simpa using ih (by simpa using ha)
def RV(e:f7)(sv:SV)(lab:bf)(w:World)(v:Value):Prop:=
 match sv with
 | .tup l=>∃vs,v = .tuple vs.toArray∧ju (fun s u=>BF e s lab w u) l vs
 |s=>BF e s lab w v
theorem Fh{t:PT}{lab lab':bf}{w w':World}(hk:bd lab w lab' w'): ∀{xs:List (den t)} {us:List Value},ju (fun x u=>aV t x lab w u) xs us→ju (fun x u=>aV t x lab' w' u) xs us:=fun h=>h.imp fun _ _ _ h=>aV.keep hk h
theorem RV.of0{e:f7}{sv:SV}{lab:bf}{w:World}{v:Value}(h:BF e sv lab w v):RV e sv lab w v:=by
 cases sv<;>first |exact h |exact h.elim
def jN:SV→List Nat
 | .agh _ _ _ id=>[id] | .clb _ id=>[id] | .mp id=>[id] | .mpq id _=>[id] | .ptr id _=>[id] | .own id=>[id] | .eptr id _ _=>[id] | .rix id=>[id] | .rlen id=>[id] | .rsl id=>[id] | .rnx id=>[id] | .rcn id=>[id] |_=>[]
def gZ:SV→List Nat
 | .tup l=>l.flatMap jN
 |s=>jN s
def bF.raw:bF Value where
 sz:=1
 rd:=fun _ _ cs x=>cs = [x]∧x.oneCell'=true
 len:=fun h=>by rw[h.1];rfl
 one:=fun h u hu=>by rw[h.1]at hu;simp at hu;rw[hu];exact h.2
 keep:=fun _ h=>h
def qx(oa oa':Option Addr):Prop:=∀g g',oa=some ⟨g,0,none⟩→oa'=some ⟨g',0,none⟩→g≠g'
def uF(lab:bf)(oa:Option Addr)(k:Nat):bf:=fun b=>match oa with
 |some a=>if b=a.block then k else lab b
 |none=>lab b
def kD(t:PT)(lab:bf)(w:World)(k E E2:Nat)(oa:Option Addr)(c:Nat)(xs:List (List (den t))):Prop:=
 (xs = []∧oa=none∧c=0)∨∃(ys:List (List (den t))) (z:List (den t)) (vs:List Value) (a':Option Addr) (c':Nat),xs=ys ++ [z]∧cY bF.raw lab w k E oa c (vs ++ [.slice a' z.length c'])∧ju (fun y v=>aV (.sl t) y lab w v) ys vs∧cY (rep t) lab w k E2 a' c' z∧qx oa a'
def zP(t:PT)(lab:bf)(w:World)(k E:Nat)(oa:Option Addr)(c:Nat)(xs:List (List (den t))):Prop:=
 ∃(ys:List (List (den t))) (z:List (den t)) (vs:List Value) (u:Value),xs=ys ++ [z]∧cY bF.raw lab w k E oa c (vs ++ [u])∧ju (fun y v=>aV (.sl t) y lab w v) ys vs
section
variable {α β : Type} {t : PT} {lab lab' : bf} {w w' : World}
theorem ju.append{R:α→β→Prop}{l l2:List α}{m m2:List β}(h:ju R l m)(h2:ju R l2 m2):ju R (l++l2) (m++m2):=by
 induction h with
 |nil=>exact h2
 |cons h _ ih=>exact .cons h ih
theorem ju.datKeep{ys:List (List (den t))}{vs:List Value}(h:ju (fun y v=>aV (.sl t) y lab w v) ys vs)(hk:bd lab w lab' w'):ju (fun y v=>aV (.sl t) y lab' w' v) ys vs:=h.imp fun _ _ _ h=>h.keep hk
end
def ur(t:PT)(lab:bf)(w:World):List MapEntry→List (UInt8×den t)→Prop
 | [],[]=>True
 |e::es,x::f=>e.key = .int .u8 (x.1.toNat:Int)∧aV t x.2 lab w e.val∧ur t lab w es f
 |_,_=>False
theorem ur.keep{t:PT}{lab lab':bf}{w w':World}(hk:bd lab w lab' w'): ∀{es:List MapEntry} {f:List (UInt8×den t)},ur t lab w es f→ur t lab' w' es f
 | [],[],_=>trivial
 |_::_,_::_,h=>⟨h.1,h.2.1.keep hk,ur.keep hk h.2.2⟩
 | [],_::_,h=>h.elim
 |_::_,[],h=>h.elim
def oz:List Value→List (Nat×Nat)→List Value
 |cs,[]=>cs
 |cs,h::r=>(oz cs r).set h.1 (.slice none 0 0)
theorem pA : ∀{cs:List Value} {hs:List (Nat×Nat)},(oz cs hs).length=cs.length
 |_,[]=>rfl
 |cs,h::r=>by show((oz cs r).set _ _).length=_;rw[List.length_set,pA]
theorem BY : ∀{cs:List Value} {hs:List (Nat×Nat)} {i:Nat},(∀h∈hs,h.1≠i)→(oz cs hs)[i]?=cs[i]?
 |_,[],_,_=>rfl
 |cs,h::r,i,hn=>by
  show((oz cs r).set _ _)[i]?=_
  rw[List.getElem?_set_ne (hn h (by simp)),BY fun x hx=>hn x (by simp[hx])]
theorem nO : ∀{cs:List Value} {hs:List (Nat×Nat)} {o:Nat} {u:Value},(∀h∈hs,h.1≠o)→oz (cs.set o u) hs=(oz cs hs).set o u
 |_,[],_,_,_=>rfl
 |cs,h::r,o,u,hn=>by
  show(oz (cs.set o u) r).set _ _=((oz cs r).set _ _).set _ _
  rw[nO fun x hx=>hn x (by simp[hx]),List.set_comm _ _ (hn h (by simp)).symm]
theorem Ep : ∀{cs:List Value} {hs:List (Nat×Nat)} {o:Nat} {u:Value},(∃h∈hs,h.1=o)→oz (cs.set o u) hs=oz cs hs
 |_,[],_,_,h=>by obtain⟨_,h,_⟩:=h;cases h
 |cs,h::r,o,u,hn=>by
  show(oz (cs.set o u) r).set h.1 _=(oz cs r).set h.1 _
  by_cases h0 : ∃x∈r,x.1=o
  ·rw[Ep h0]
  ·obtain⟨x,hx,rfl⟩:=hn
   rcases List.mem_cons.1 hx with rfl |hx
   ·rw[nO fun y hy e=>h0 ⟨y,hy,e⟩,List.set_set]
   ·exact absurd ⟨x,hx,rfl⟩ h0
theorem D' : ∀{cs:List Value} {hs:List (Nat×Nat)},(∀h∈hs,cs[h.1]?=some (.slice none 0 0))→oz cs hs=cs
 |_,[],_=>rfl
 |cs,h::r,hn=>by
  show(oz cs r).set h.1 _=cs
  rw[D' fun x hx=>hn x (by simp[hx])]
  obtain⟨h1,h2⟩:=List.getElem?_eq_some_iff.1 (hn h (by simp))
  rw[←h2,List.set_getElem_self]
def ll:List (Nat×Nat)→Nat→Option Nat
 | [],_=>none
 | (o,r)::l,off=>match Nat.beq o off with
  |true=>some r
  |false=>ll l off
def oH:List (Nat×Nat)→Nat→Nat→List (Nat×Nat)
 | [],_,_=>[]
 | (o,r)::l,off,r'=>match Nat.beq o off with
  |true=>(o,r')::oH l off r'
  |false=>(o,r)::oH l off r'
theorem iF : ∀{hs:List (Nat×Nat)} {off rid:Nat},ll hs off=some rid→(off,rid)∈hs
 | (o,r)::l,off,rid,h=>by
  unfold ll at h
  split at h
  ·rename_i hb
   obtain rfl:=Nat.eq_of_beq_eq_true hb
   cases h;simp
  ·exact List.mem_cons_of_mem _ (iF h)
theorem tW : ∀{hs:List (Nat×Nat)} {off:Nat},ll hs off=none→∀h∈hs,h.1≠off
 | (o,r)::l,off,h,q,hq=>by
  unfold ll at h
  split at h
  ·cases h
  ·rename_i hb
   rcases List.mem_cons.1 hq with rfl |hq
   ·exact fun e=>by have e:o=off:=e;subst e;simp at hb
   ·exact tW h q hq
theorem ly : ∀{hs:List (Nat×Nat)} {off r:Nat},(oH hs off r).map (·.1)=hs.map (·.1)
 | [],_,_=>rfl
 | (o,q)::l,off,r=>by
  unfold oH
  split<;>simp[ly]
theorem mY : ∀{hs:List (Nat×Nat)} {off r:Nat} {h:Nat×Nat},h∈oH hs off r→(h=(off,r))∨(h∈hs∧h.1≠off)
 | [],_,_,_,h=>by cases h
 | (o,q)::l,off,r,h,hm=>by
  unfold oH at hm
  split at hm
  ·rename_i hb
   obtain rfl:=Nat.eq_of_beq_eq_true hb
   rcases List.mem_cons.1 hm with rfl |hm
   ·exact .inl rfl
   ·rcases mY hm with h1 |h1
    ·exact .inl h1
    ·exact .inr ⟨by simp[h1.1],h1.2⟩
  ·rename_i hb
   rcases List.mem_cons.1 hm with rfl |hm
   ·exact .inr ⟨by simp,fun e=>by have e:o=off:=e;subst e;simp at hb⟩
   ·rcases mY hm with h1 |h1
    ·exact .inl h1
    ·exact .inr ⟨by simp[h1.1],h1.2⟩
theorem za : ∀{hs:List (Nat×Nat)} {off r:Nat} {h:Nat×Nat},h∈hs→h.1≠off→h∈oH hs off r
 | [],_,_,_,h,_=>by cases h
 | (o,q)::l,off,r,h,hm,hn=>by
  unfold oH
  split
  ·rename_i hb
   obtain rfl:=Nat.eq_of_beq_eq_true hb
   rcases List.mem_cons.1 hm with rfl |hm
   ·exact absurd rfl hn
   ·exact List.mem_cons_of_mem _ (za hm hn)
  ·rcases List.mem_cons.1 hm with rfl |hm
   ·simp
   ·exact List.mem_cons_of_mem _ (za hm hn)
theorem uT : ∀{cs:List Value} {hs hs':List (Nat×Nat)},hs.map (·.1)=hs'.map (·.1)→oz cs hs=oz cs hs'
 |_,[],[],_=>rfl
 |_,[],_::_,h=>by cases h
 |_,_::_,[],h=>by cases h
 |cs,a::r,b::r',h=>by
  rw[List.map_cons,List.map_cons,List.cons.injEq]at h
  show(oz cs r).set a.1 _=(oz cs r').set b.1 _
  rw[uT h.2,h.1]
def bg(e:f7)(lab:bf)(w:World)(id:Nat)(m:dq):Prop:=
 match m with
 | .box k T t x=>∃g cs,(e id).oa=some ⟨g,0,none⟩∧iI lab w k g T cs∧(rep t).rd lab w cs x
 | .boxh k T t x hs=>∃g cs,(e id).oa=some ⟨g,0,none⟩∧iI lab w k g T cs∧(rep t).rd lab w (oz cs hs) x∧(∀h∈hs,cs[h.1]?=some (.slice (e h.2).oa (e h.2).n (e h.2).c))∧(hs.map (·.1)).Nodup
 | .row k E t xs=>(e id).n=xs.length∧(e id).sz=bZ t∧cY (rep t) lab w k E (e id).oa (e id).c xs
 | .src k t xs=>(e id).n=xs.length∧vA (rep t) lab w k (e id).oa xs
 | .rgh t xs=>(⟨(e id).lt,(e id).ls⟩:(t:PT)×List (den t))=⟨t,xs⟩∧xs.length≤maxLen
 | .rgi h t xs k ox=>(e id).n=k∧(⟨(e h).lt,(e h).ls⟩:(t:PT)×List (den t))=⟨t,xs⟩∧xs[k]?=ox∧k≤xs.length∧xs.length≤maxLen
 | .rgc n=>(e id).z=n
 | .mp k _ t f=>∃g es clock,(e id).oa=some ⟨g,0,none⟩∧w.heap[g]?=some (.map es clock)∧lab g=k∧ur t lab w es.toList f
 | .rq k E E2 t xs=>(e id).n=xs.length∧(e id).sz=1∧kD t lab w k E E2 (e id).oa (e id).c xs
 | .rp k E _ t xs=>(e id).n=xs.length∧(e id).sz=1∧zP t lab w k E (e id).oa (e id).c xs
 | .rgj h n k more=>(e id).n=k∧(e h).z=n∧(more=true→(k:Int)<n)∧(more=false→n≤(k:Int))∧n≤9223372036854775807
def fi:dq→List Nat
 | .rgi h _ _ _ _=>[h] | .rgj h _ _ _=>[h] | .boxh _ _ _ _ hs=>hs.map (·.2) |_=>[]
theorem Ux{n:Nat}(h:0<n):(!Nat.beq n 0)=true:=by
 cases n with
 |zero=>omega
 |succ n=>rfl
theorem Gh{n:Nat}(h:Nat.beq n 0=false):n≠0:=fun e=>by subst e;cases h
theorem kb{n:Nat}{c:Bool}:(Nat.beq n 0||!c)=true↔n=0∨c=false:=by cases n<;>cases c<;>simp[Nat.beq]
structure gu(ks:List Nat)(lab:bf)(w:World)(lab':bf)(w':World):Prop where
 os:w'.os=w.os
 tape:w'.tape=w.tape
 output:w'.output=w.output
 size:w.heap.size≤w'.heap.size
 block : ∀b,b<w.heap.size→(lab b=0∨ks.contains (lab b)=false)→w'.heap[b]?=w.heap[b]?
 same : ∀b,b<w.heap.size→(lab b=0∨ks.contains (lab b)=false)→lab' b=lab b
 top : ∀b,w'.heap.size≤b→lab' b=0
section
variable {ks : List Nat} {lab lab' lab2 : bf} {w w' w2 : World} {e e' : f7} {sv : SV} {v : Value} {m : dq} {id k : Nat}
theorem gu.keeps(h:gu ks lab w lab' w'):bd lab w lab' w':=⟨h.size,fun b hb h0=>⟨(h.same b hb (.inl h0)).trans h0,h.block b hb (.inl h0)⟩⟩
theorem gu.refl(t:cm lab w):gu ks lab w lab w:=⟨rfl,rfl,rfl,Nat.le_refl _,fun _ _ _=>rfl,fun _ _ _=>rfl,t⟩
theorem i7.stp(h:i7 lab k w lab' w')(hk:ks.contains k=true∨k=0):gu ks lab w lab' w':=by
 refine⟨h.os,h.tape,h.output,h.size,fun b hb hl=>h.block b hb ?_,fun b hb _=>h.same b hb,h.top⟩
 rcases hk with hk |hk
 ·rcases Nat.eq_zero_or_pos k with h0 |h0
  ·exact .inl h0
  ·refine .inr fun e=>?_
   rcases hl with hl |hl
   ·omega
   ·rw[e,hk]at hl;cases hl
 ·exact .inl hk
theorem gu.mask(t:cm lab w)(hk:ks.contains k=true):gu ks lab w (Gk.mask lab k) w:=by
 refine⟨rfl,rfl,rfl,Nat.le_refl _,fun _ _ _=>rfl,fun b hb hl=>?_,t.mask⟩
 unfold Gk.mask
 by_cases hb:lab b=k
 ·rcases hl with hl |hl
  ·rw[hl];split<;>rfl
  ·rw[hb,hk]at hl;cases hl
 ·rw[if_neg hb]
theorem gu.trans(h:gu ks lab w lab2 w2)(h2:gu ks lab2 w2 lab' w'):gu ks lab w lab' w':=by
 refine⟨h2.os.trans h.os,h2.tape.trans h.tape,h2.output.trans h.output,Nat.le_trans h.size h2.size,fun b hb hl=>?_,fun b hb hl=>?_,h2.top⟩
 ·have e1:=h.same b hb hl
  exact(h2.block b (Nat.lt_of_lt_of_le hb h.size) (by rw[e1];exact hl)).trans (h.block b hb hl)
 ·have e1:=h.same b hb hl
  exact(h2.same b (Nat.lt_of_lt_of_le hb h.size) (by rw[e1];exact hl)).trans e1
theorem gu.mono{ks':List Nat}(h:gu ks lab w lab' w')(hs : ∀k,ks.contains k=true→ks'.contains k=true):gu ks' lab w lab' w':=by
 have key : ∀b,(lab b=0∨ks'.contains (lab b)=false)→(lab b=0∨ks.contains (lab b)=false):=fun b hl=>by
  rcases hl with hl |hl
  ·exact .inl hl
  ·refine .inr ?_
   cases hc:ks.contains (lab b)with
   |false=>rfl
   |true=>rw[hs _ hc]at hl;cases hl
 exact⟨h.os,h.tape,h.output,h.size,fun b hb hl=>h.block b hb (key b hl),fun b hb hl=>h.same b hb (key b hl),h.top⟩
theorem Cx.stp{pts:List Nat}{w0:World}{aU:bf}(h:Cx pts w0 aU w lab)(s:gu ks lab w lab' w')(h1:ks.contains 1=false):Cx pts w0 aU w' lab':=by
 have key : ∀b,b<w0.heap.size→b∉pts→(lab b=0∨ks.contains (lab b)=false):=fun b hb hp=>by
  rw[h.low b hb hp]
  have:=zd aU b
  rcases Nat.eq_zero_or_pos (lin aU b)with h0 |h0
  ·exact .inl h0
  ·have:lin aU b=1:=by omega
   rw[this];exact .inr h1
 refine⟨s.os.trans h.os,s.tape.trans h.tape,s.output.trans h.output,Nat.le_trans h.size s.size,fun b hb hp=>?_,fun b hb hp=>?_,s.top⟩
 ·exact(s.block b (Nat.lt_of_lt_of_le hb h.size) (key b hb hp)).trans (h.block b hb hp)
 ·exact(s.same b (Nat.lt_of_lt_of_le hb h.size) (key b hb hp)).trans (h.low b hb hp)
theorem BF.keep(hk:bd lab w lab' w')(h:BF e sv lab w v):BF e sv lab' w' v:=by
 cases sv<;>first |exact h |skip
 ·exact aV.keep hk h
 ·exact⟨aV.keep hk h.1,h.2⟩
 ·obtain⟨cs,h1,h2,h3⟩:=h
  exact⟨cs,h1,(rep _).keep hk h2,h3⟩
 ·obtain⟨p,cs,h1,h2,h3⟩:=h
  exact⟨p,cs,h1,h2.keep hk,(rep _).keep hk h3⟩
 ·obtain⟨oa,c,h1,h2⟩:=h
  exact⟨oa,c,h1,h2.keep hk⟩
 ·obtain⟨G,g,es,c,h1,h2,h3,h4,h5,h6⟩:=h
  obtain⟨q1,q2⟩:=hk.2 g h3 h4
  exact⟨G,g,es,c,h1,h2,Nat.lt_of_lt_of_le h3 hk.1,q1,q2.trans h5,h6⟩
 ·obtain⟨us,h1,h2⟩:=h
  exact⟨us,h1,Fh hk h2⟩
 ·obtain⟨p,h1,h2⟩:=h
  exact⟨p,h1,h2.keep hk⟩
theorem L'(h : ∀l,sv≠.tup l):RV e sv lab w v=BF e sv lab w v:=by
 cases sv<;>first |rfl |exact absurd rfl (h _)
theorem KY(h : ∀l,sv≠.tup l):gZ sv=jN sv:=by
 cases sv<;>first |rfl |exact absurd rfl (h _)
theorem IL(sv:SV):(∃l,sv = .tup l)∨∀l,sv≠.tup l:=by
 cases sv<;>first |exact .inl ⟨_,rfl⟩ |exact .inr fun _ h=>by cases h
theorem RV.keep(hk:bd lab w lab' w')(h:RV e sv lab w v):RV e sv lab' w' v:=by
 rcases IL sv with⟨l,rfl⟩ |ht
 ·obtain⟨vs,h1,h2⟩:=h
  exact⟨vs,h1,h2.imp fun _ _ _ h=>BF.keep hk h⟩
 ·rw[L' ht]at h⊢
  exact BF.keep hk h
theorem BF.env(he : ∀i∈jN sv,e' i=e i)(h:BF e sv lab w v):BF e' sv lab w v:=by
 cases sv<;>first |exact h | (have:=he _ (List.mem_singleton.2 rfl);unfold BF at h⊢;dsimp only at h⊢;rw[this];exact h)
theorem RV.env(he : ∀i∈gZ sv,e' i=e i)(h:RV e sv lab w v):RV e' sv lab w v:=by
 rcases IL sv with⟨l,rfl⟩ |ht
 ·obtain⟨vs,h1,h2⟩:=h
  exact⟨vs,h1,h2.imp fun a _ ha h=>BF.env (fun i hi=>he i (List.mem_flatMap.2 ⟨a,ha,hi⟩)) h⟩
 ·rw[L' ht]at h⊢
  rw[KY ht]at he
  exact BF.env he h
theorem bg.env(he:e' id=e id)(hr : ∀i∈fi m,e' i=e i)(h:bg e lab w id m):bg e' lab w id m:=by
 cases m with
 |rgi q t xs k ox=>
  have:=hr q (List.mem_singleton.2 rfl)
  unfold bg at h⊢;dsimp only at h⊢;rw[he,this];exact h
 |rgj q n k more=>
  have:=hr q (List.mem_singleton.2 rfl)
  unfold bg at h⊢;dsimp only at h⊢;rw[he,this];exact h
 |boxh k T t x hs=>
  obtain⟨g,cs,h1,h2,h3,h4,h5⟩:=h
  exact⟨g,cs,by rw[he];exact h1,h2,h3,fun q hq=>by rw[hr q.2 (List.mem_map.2 ⟨q,hq,rfl⟩)];exact h4 q hq,h5⟩
 |_=>unfold bg at h⊢;dsimp only at h⊢;rw[he];exact h
theorem iI.stp{g T:Nat}{cs:List Value}(b:iI lab w k g T cs)(s:gu ks lab w lab' w')(hk:ks.contains k=false):iI lab' w' k g T cs:=by
 have h:=b.2
 exact⟨(s.block g b.lt (.inr (by rw[h];exact hk))).trans b.1,(s.same g b.lt (.inr (by rw[h];exact hk))).trans h⟩
theorem gu.ke(s:gu ks lab w lab' w'):Ke (ks.filter (fun k=>!Nat.beq k 0)) lab w lab' w':=by
 refine⟨s.size,fun b hb h=>?_⟩
 have:lab b=0∨ks.contains (lab b)=false:=by
  rcases Nat.eq_zero_or_pos (lab b)with h0 |h0
  ·exact .inl h0
  ·refine .inr ?_
   cases hc:ks.contains (lab b)with
   |false=>rfl
   |true=>
    have hm:lab b∈ks:=by simpa using hc
    have:lab b∈ks.filter (fun k=>!Nat.beq k 0):=List.mem_filter.2 ⟨hm,Ux h0⟩
    have h2:(ks.filter (fun k=>!Nat.beq k 0)).contains (lab b)=true:=by simpa using this
    rw[h2]at h;cases h
 exact⟨s.same b hb this,s.block b hb this⟩
theorem tK:(ks.filter (fun k=>!Nat.beq k 0)).contains 0=false:=by
 cases h:(ks.filter (fun k=>!Nat.beq k 0)).contains 0 with
 |false=>rfl
 |true=>
  simp at h
theorem x_(h:ks.contains k=false):(ks.filter (fun k=>!Nat.beq k 0)).contains k=false:=by
 cases hc:(ks.filter (fun k=>!Nat.beq k 0)).contains k with
 |false=>rfl
 |true=>
  have h1:k∈ks.filter (fun k=>!Nat.beq k 0):=by simpa using hc
  have h2:ks.contains k=true:=by simpa using(List.mem_filter.1 h1).1
  rw[h2]at h;cases h
theorem kD.stp{E E2 c:Nat}{oa:Option Addr}{t:PT}{ks:List Nat}{xs:List (List (den t))}(o:kD t lab w k E E2 oa c xs)(s:gu ks lab w lab' w')(hk:ks.contains k=false):kD t lab' w' k E E2 oa c xs:=by
 rcases o with h | ⟨ys,z,vs,a',c',rfl,h1,h2,h3,h4⟩
 ·exact .inl h
 ·exact .inr ⟨ys,z,vs,a',c',rfl,h1.ke s.ke tK (x_ hk),h2.datKeep s.keeps,h3.ke s.ke tK (x_ hk),h4⟩
theorem zP.stp{E E2 c:Nat}{oa:Option Addr}{t:PT}{ks:List Nat}{xs:List (List (den t))}(o:zP t lab w k E oa c xs)(s:gu ks lab w lab' w')(hk:ks.contains k=false):zP t lab' w' k E oa c xs:=by
 obtain⟨ys,z,vs,u,rfl,h1,h2⟩:=o
 exact⟨ys,z,vs,u,rfl,h1.ke s.ke tK (x_ hk),h2.datKeep s.keeps⟩
theorem bg.stp(s:gu ks lab w lab' w')(hk:m.lbl=0∨ks.contains m.lbl=false)(hp:m.lbl=0→By m=true)(h:bg e lab w id m):bg e lab' w' id m:=by
 cases m with
 |rgh t xs=>exact h
 |rgi q t xs k ox=>exact h
 |rgc n=>exact h
 |rgj q n k more=>exact h
 |mp k T t f=>
  obtain⟨g,es,clock,h1,h2,h3,h4⟩:=h
  rcases hk with hk |hk
  ·cases hp hk
  ·have hlt:g<w.heap.size:=(Array.getElem?_eq_some_iff.1 h2).1
   have hs:lab g=0∨ks.contains (lab g)=false:=.inr (by rw[h3];exact hk)
   exact⟨g,es,clock,h1,(s.block g hlt hs).trans h2,(s.same g hlt hs).trans h3,h4.keep s.keeps⟩
 |box k T t x=>
  obtain⟨g,cs,h1,h2,h3⟩:=h
  rcases hk with hk |hk
  ·cases hp hk
  ·exact⟨g,cs,h1,h2.stp s hk,(rep t).keep s.keeps h3⟩
 |boxh k T t x hs=>
  obtain⟨g,cs,h1,h2,h3,h4⟩:=h
  rcases hk with hk |hk
  ·cases hp hk
  ·exact⟨g,cs,h1,h2.stp s hk,(rep t).keep s.keeps h3,h4⟩
 |row k E t xs=>
  obtain⟨h1,h2,h3⟩:=h
  rcases hk with hk |hk
  ·cases hp hk
  ·exact⟨h1,h2,h3.ke s.ke tK (x_ hk)⟩
 |src k t xs=>
  obtain⟨h1,h2⟩:=h
  rcases hk with hk |hk
  ·cases hp hk
  ·exact⟨h1,h2.ke s.ke tK (x_ hk)⟩
 |rq k E E2 t xs=>
  obtain⟨h1,h2,h3⟩:=h
  rcases hk with hk |hk
  ·cases hp hk
  ·exact⟨h1,h2,h3.stp s hk⟩
 |rp k E E2 t xs=>
  obtain⟨h1,h2,h3⟩:=h
  rcases hk with hk |hk
  ·cases hp hk
  ·exact⟨h1,h2,zP.stp (E2:=E2) h3 s hk⟩
end
structure PS where
 nxt:Nat
 sl:List (Nat×Nat×SV)
 mem:List (Nat×Nat×dq)
def aL{β:Type}:List (Nat×Nat×β)→Nat→Option (Nat×β)
 | [],_=>none
 | (k,st,b)::r,s=>match Nat.beq k s with
  |true=>some (st,b)
  |false=>aL r s
def dO{β:Type}:List (Nat×Nat×β)→Nat→List (Nat×Nat×β)
 | [],_=>[]
 | (k,st,b)::r,s=>match Nat.beq k s with
  |true=>dO r s
  |false=>(k,st,b)::dO r s
theorem am{β:Type}: ∀{l:List (Nat×Nat×β)} {s st:Nat} {b:β},aL l s=some (st,b)→(s,st,b)∈l
 | [],_,_,_,h=>by simp[aL]at h
 | (k,st',b')::r,s,st,b,h=>by
  unfold aL at h
  split at h
  ·rename_i hb
   have:=Nat.eq_of_beq_eq_true hb;subst this
   simp at h;obtain⟨rfl,rfl⟩:=h;simp
  ·exact List.mem_cons_of_mem _ (am h)
theorem bC{β:Type}: ∀{l:List (Nat×Nat×β)} {s:Nat} {x:Nat×Nat×β},x∈dO l s↔x∈l∧x.1≠s
 | [],s,x=>by simp[dO]
 | (k,st,b)::r,s,x=>by
  unfold dO
  split
  ·rename_i hb
   have:=Nat.eq_of_beq_eq_true hb;subst this
   rw[bC,List.mem_cons]
   constructor
   ·exact fun⟨h1,h2⟩=>⟨.inr h1,h2⟩
   ·rintro⟨rfl |h1,h2⟩
    ·exact absurd rfl h2
    ·exact⟨h1,h2⟩
  ·rename_i hb
   have hne:k≠s:=fun e=>by subst e;simp at hb
   rw[List.mem_cons,bC,List.mem_cons]
   constructor
   ·rintro(rfl | ⟨h1,h2⟩)
    ·exact⟨.inl rfl,hne⟩
    ·exact⟨.inr h1,h2⟩
   ·rintro⟨rfl |h1,h2⟩
    ·exact .inl rfl
    ·exact .inr ⟨h1,h2⟩
def KN{β:Type}(l:List (Nat×Nat×β)):Prop:=l.Pairwise fun a b=>a.1≠b.1
theorem KN.uniq{β:Type}: ∀{l:List (Nat×Nat×β)},KN l→∀{s st st':Nat} {b b':β},(s,st,b)∈l→(s,st',b')∈l→st=st'∧b=b'
 | [],_,_,_,_,_,_,h,_=>by simp at h
 |x::r,hn,s,st,st',b,b',h1,h2=>by
  obtain⟨hx,hr⟩:=List.pairwise_cons.1 hn
  rcases List.mem_cons.1 h1 with e1 |m1
  ·rcases List.mem_cons.1 h2 with e2 |m2
   ·have e:=e1.trans e2.symm
    injection e with _ h;injection h with ha hb;exact⟨ha,hb⟩
   ·exact(hx _ m2 (by rw[←e1])).elim
  ·rcases List.mem_cons.1 h2 with e2 |m2
   ·exact(hx _ m1 (by rw[←e2])).elim
   ·exact KN.uniq hr m1 m2
theorem KN.filter{β:Type}{l:List (Nat×Nat×β)}(h:KN l)(p:Nat×Nat×β→Bool):KN (l.filter p):=List.Pairwise.filter p h
theorem pU{β:Type}: ∀{l:List (Nat×Nat×β)} {s:Nat},List.Sublist (dO l s) l
 | [],_=>List.Sublist.refl _
 | (k,st,b)::r,s=>by
  unfold dO
  split
  ·exact List.Sublist.cons _ pU
  ·exact List.Sublist.cons_cons _ pU
theorem KN.put{β:Type}{l:List (Nat×Nat×β)}(h:KN l)(s st:Nat)(b:β):KN ((s,st,b)::dO l s):=by
 refine List.pairwise_cons.2 ⟨fun x hx=>?_,List.Pairwise.sublist pU h⟩
 exact fun e=>(bC.1 hx).2 e.symm
structure cL where
 sv:SV
 ks:List Nat
 puts:List (Nat×dq)
 re:List (Nat×SV)
def killM(ks:List Nat):List (Nat×Nat×dq)→List (Nat×Nat×dq)
 | []=>[]
 | (i,st,m)::r=>match Nat.beq m.lbl 0||!ks.contains m.lbl with
  |true=>(i,st,m)::killM ks r
  |false=>killM ks r
theorem jO{ks:List Nat}: ∀{l:List (Nat×Nat×dq)} {x:Nat×Nat×dq},x∈killM ks l↔x∈l∧(x.2.2.lbl=0∨ks.contains x.2.2.lbl=false)
 | [],x=>by simp[killM]
 | (i,st,m)::r,x=>by
  unfold killM
  split
  ·rename_i hb
   have hb':m.lbl=0∨ks.contains m.lbl=false:=kb.1 hb
   rw[List.mem_cons,jO,List.mem_cons]
   constructor
   ·rintro(rfl | ⟨h1,h2⟩)
    ·exact⟨.inl rfl,hb'⟩
    ·exact⟨.inr h1,h2⟩
   ·rintro⟨rfl |h1,h2⟩
    ·exact .inl rfl
    ·exact .inr ⟨h1,h2⟩
  ·rename_i hb
   have hb' : ¬(m.lbl=0∨ks.contains m.lbl=false):=fun h=>by rw[kb.2 h]at hb;cases hb
   rw[jO,List.mem_cons]
   constructor
   ·exact fun⟨h1,h2⟩=>⟨.inr h1,h2⟩
   ·rintro⟨rfl |h1,h2⟩
    ·exact absurd h2 hb'
    ·exact⟨h1,h2⟩
def putsM(st:Nat):List (Nat×dq)→List (Nat×Nat×dq)→List (Nat×Nat×dq)
 | [],l=>l
 | (i,m)::r,l=>putsM st r ((i,st,m)::dO l i)
def reS(st:Nat):List (Nat×SV)→List (Nat×Nat×SV)→List (Nat×Nat×SV)
 | [],l=>l
 | (s,v)::r,l=>reS st r ((s,st,v)::dO l s)
def Ml(st:Nat)(d:Option Nat)(sv:SV)(l:List (Nat×Nat×SV)):List (Nat×Nat×SV):=
 match d with
 |some d=>(d,st,sv)::dO l d
 |none=>l
def apply(ps:PS)(d:Option Nat)(o:cL):PS:=
 ⟨ps.nxt+4,Ml ps.nxt d o.sv (reS ps.nxt o.re ps.sl),putsM ps.nxt o.puts (killM o.ks ps.mem)⟩
theorem fJ{st:Nat}: ∀{p:List (Nat×dq)} {l:List (Nat×Nat×dq)} {x:Nat×Nat×dq},x∈putsM st p l→x∈l∨(x.2.1=st∧(x.1,x.2.2)∈p)
 | [],l,x,h=>.inl h
 | (i,m)::r,l,x,h=>by
  unfold putsM at h
  rcases fJ h with h | ⟨h1,h2⟩
  ·rcases List.mem_cons.1 h with rfl |h
   ·exact .inr ⟨rfl,by simp⟩
   ·exact .inl (bC.1 h).1
  ·exact .inr ⟨h1,by simp[h2]⟩
theorem my{st:Nat}: ∀{p:List (Nat×SV)} {l:List (Nat×Nat×SV)} {x:Nat×Nat×SV},x∈reS st p l→x∈l∨(x.2.1=st∧(x.1,x.2.2)∈p)
 | [],l,x,h=>.inl h
 | (i,m)::r,l,x,h=>by
  unfold reS at h
  rcases my h with h | ⟨h1,h2⟩
  ·rcases List.mem_cons.1 h with rfl |h
   ·exact .inr ⟨rfl,by simp⟩
   ·exact .inl (bC.1 h).1
  ·exact .inr ⟨h1,by simp[h2]⟩
theorem KN.putsM{st:Nat}: ∀{p:List (Nat×dq)} {l:List (Nat×Nat×dq)},KN l→KN (Gk.putsM st p l)
 | [],_,h=>h
 | (i,m)::r,l,h=>by
  show KN (Gk.putsM st r ((i,st,m)::dO l i))
  exact KN.putsM (h.put i st m)
theorem KN.reS{st:Nat}: ∀{p:List (Nat×SV)} {l:List (Nat×Nat×SV)},KN l→KN (Gk.reS st p l)
 | [],_,h=>h
 | (i,m)::r,l,h=>by
  show KN (Gk.reS st r ((i,st,m)::dO l i))
  exact KN.reS (h.put i st m)
theorem tk{ks:List Nat}: ∀{l:List (Nat×Nat×dq)},List.Sublist (killM ks l) l
 | []=>List.Sublist.refl _
 | (i,st,m)::r=>by
  unfold killM
  split
  ·exact List.Sublist.cons_cons _ tk
  ·exact List.Sublist.cons _ tk
theorem KN.killM{ks:List Nat}{l:List (Nat×Nat×dq)}(h:KN l):KN (Gk.killM ks l):=List.Pairwise.sublist tk h
structure WF(ps:PS):Prop where
 sl : ∀s st sv,(s,st,sv)∈ps.sl→st<ps.nxt∧∀i∈gZ sv,i<ps.nxt
 mem : ∀i st m,(i,st,m)∈ps.mem→st<ps.nxt∧i<ps.nxt∧∀j∈fi m,j<ps.nxt
 lbl : ∀i st m,(i,st,m)∈ps.mem→m.lbl=0→By m=true
 ns:KN ps.sl
 nm:KN ps.mem
 n0:0<ps.nxt
def A0(pts:List Nat)(e:f7):Prop:=∀g,pts.head?=some g→(e 0).oa=some ⟨g,0,none⟩
structure co(base ps:PS):Prop where
 nxt:base.nxt≤ps.nxt
 sl : ∀s st sv,(s,st,sv)∈ps.sl→st<base.nxt→(s,st,sv)∈base.sl
 mem : ∀i st m,(i,st,m)∈ps.mem→st<base.nxt→(i,st,m)∈base.mem
theorem co.refl(ps:PS):co ps ps:=⟨Nat.le_refl _,fun _ _ _ h _=>h,fun _ _ _ h _=>h⟩
theorem co.trans{a b c:PS}(h:co a b)(h2:co b c):co a c:=
 ⟨Nat.le_trans h.nxt h2.nxt,fun s st sv hm hl=>h.sl s st sv (h2.sl s st sv hm (Nat.lt_of_lt_of_le hl h.nxt)) hl,fun i st m hm hl=>h.mem i st m (h2.mem i st m hm (Nat.lt_of_lt_of_le hl h.nxt)) hl⟩
theorem co.apply(ps:PS)(d:Option Nat)(o:cL):co ps (apply ps d o):=by
 refine⟨Nat.le_add_right _ _,fun s st sv hm hl=>?_,fun i st m hm hl=>?_⟩
 ·have key:(s,st,sv)∈reS ps.nxt o.re ps.sl:=by
   cases d with
   |none=>exact hm
   |some d=>
    rcases List.mem_cons.1 hm with h |h
    ·injection h with _ h;injection h with h _;omega
    ·exact(bC.1 h).1
  rcases my key with h | ⟨h,_⟩
  ·exact h
  ·exact absurd h (Nat.ne_of_lt hl)
 ·rcases fJ hm with h | ⟨h,_⟩
  ·exact(jO.1 h).1
  ·exact absurd h (Nat.ne_of_lt hl)
def EZ(nxt:Nat)(o:cL):Bool:=
 (gZ o.sv).all (fun i=>Nat.blt i (nxt+4))&&o.puts.all (fun p=>Nat.blt p.1 (nxt+4)&&(fi p.2).all (fun i=>Nat.blt i (nxt+4))&&(By p.2||!Nat.beq p.2.lbl 0))&&o.re.all (fun p=>(gZ p.2).all fun i=>Nat.blt i (nxt+4))
theorem jX{a b:Nat}(h:Nat.blt a b=true):a<b:=Nat.le_of_ble_eq_true h
theorem WF.apply{ps:PS}(h:WF ps)(d:Option Nat){o:cL}(ho:EZ ps.nxt o=true):WF (apply ps d o):=by
 simp only[EZ,Bool.and_eq_true]at ho
 obtain⟨⟨h1,h2⟩,h3⟩:=ho
 have keyS : ∀s st sv,(s,st,sv)∈reS ps.nxt o.re ps.sl→st<ps.nxt+4∧∀i∈gZ sv,i<ps.nxt+4:=fun s st sv hm=>by
  rcases my hm with hm | ⟨hs,hm⟩
  ·obtain⟨a,b⟩:=h.sl s st sv hm
   exact⟨by omega,fun i hi=>by have:=b i hi;omega⟩
  ·have:=List.all_eq_true.1 (List.all_eq_true.1 h3 _ hm)
   refine⟨?_,fun i hi=>jX (this i hi)⟩
   have hs:st=ps.nxt:=hs
   omega
 have keyM : ∀p∈o.puts,p.1<ps.nxt+4∧(∀j∈fi p.2,j<ps.nxt+4)∧(p.2.lbl=0→By p.2=true):=fun p hp=>by
  have:=List.all_eq_true.1 h2 p hp
  simp only[Bool.and_eq_true,Bool.or_eq_true]at this
  obtain⟨⟨a,b⟩,c⟩:=this
  refine⟨jX a,fun j hj=>jX (List.all_eq_true.1 b j hj),fun h0=>?_⟩
  rcases c with c |c
  ·exact c
  ·rw[h0]at c;cases c
 refine⟨fun s st sv hm=>?_,fun i st m hm=>?_,fun i st m hm h0=>?_,?_,h.nm.killM.putsM,Nat.lt_of_lt_of_le h.n0 (Nat.le_add_right _ _)⟩
 ·cases d with
  |none=>exact keyS s st sv hm
  |some d=>
   rcases List.mem_cons.1 hm with he |hm
   ·injection he with _ he;injection he with he1 he2
    subst he1 he2
    refine⟨?_,fun i hi=>jX (List.all_eq_true.1 h1 i hi)⟩
    show ps.nxt<ps.nxt+4
    omega
   ·exact keyS s st sv (bC.1 hm).1
 ·rcases fJ hm with hm | ⟨hs,hm⟩
  ·obtain⟨a,b,c⟩:=h.mem i st m (jO.1 hm).1
   exact⟨Nat.lt_of_lt_of_le a (Nat.le_add_right _ _),Nat.lt_of_lt_of_le b (Nat.le_add_right _ _),fun j hj=>Nat.lt_of_lt_of_le (c j hj) (Nat.le_add_right _ _)⟩
  ·obtain⟨a,b,_⟩:=keyM _ hm
   have hs:st=ps.nxt:=hs
   refine⟨?_,a,b⟩
   show st<ps.nxt+4
   omega
 ·rcases fJ hm with hm | ⟨hs,hm⟩
  ·exact h.lbl i st m (jO.1 hm).1 h0
  ·exact(keyM _ hm).2.2 h0
 ·cases d with
  |none=>exact h.ns.reS
  |some d=>exact h.ns.reS.put d ps.nxt o.sv
def TJ:List Nat:=[0,1,2,4,5,6,7]
def GF(w:World):Prop:=(∃m,w.cell? ⟨4,0,none⟩=some (.int .i64 m))∧((∀c,c<256→w.cell? ⟨1,c,none⟩=some (.int .u8 (Lib.firstT c)))∧(∀i,i<16→w.cell? ⟨2,2*i,none⟩=some (.int .u8 (Lib.accLo i))∧w.cell? ⟨2,2*i+1,none⟩=some (.int .u8 (Lib.accHi i))))∧(w.cell? ⟨0,0,none⟩=some (dG [102,97,108,115,101])∧w.cell? ⟨0,1,none⟩=some (dG [116,114,117,101])∧w.cell? ⟨0,2,none⟩=some (dG [110,117,108,108])∧w.cell? ⟨0,3,none⟩=some (dG [117,110,100,101,102,105,110,101,100]))∧(∃t p,w.heap[5]?=some (.cells (Lib.pow10Tab.map fun z=>Value.int .u64 z).toArray t p))∧(∃tp p,w.cell? ⟨6,0,none⟩=some (.iface tp p))∧(∃tp p,w.cell? ⟨7,0,none⟩=some (.iface tp p))
def GL(lab:bf)(w:World):Prop:=∃w0,GF w0∧∀g∈TJ,g<w.heap.size∧lab g=0∧w.heap[g]?=w0.heap[g]?
theorem GL.keep{lab lab':bf}{w w':World}(hk:bd lab w lab' w')(h:GL lab w):GL lab' w':=by
 obtain⟨w0,h0,h1⟩:=h
 refine⟨w0,h0,fun g hg=>?_⟩
 obtain⟨a,b,c⟩:=h1 g hg
 obtain⟨d,e⟩:=hk.2 g a b
 exact⟨Nat.lt_of_lt_of_le a hk.1,d,e.trans c⟩
structure rb(e:f7)(ps:PS)(F:List (Nat×Value))(lab:bf)(w:World):Prop where
 sl : ∀s st sv,(s,st,sv)∈ps.sl→∃v,cN F s=some v∧RV e sv lab w v
 mem : ∀i st m,(i,st,m)∈ps.mem→bg e lab w i m
 gl:GL lab w
theorem mg{F:List (Nat×Value)}{d s:Nat}{v:Value}(h:s≠d):cN ((d,v)::F) s=cN F s:=by
 have:Nat.beq d s=false:=jY fun e=>h e.symm
 simp[cN,this]
theorem nU{F:List (Nat×Value)}{d:Nat}{v:Value}:cN ((d,v)::F) d=some v:=by simp[cN]
def PC(F:List (Nat×Value))(d:Option Nat)(v:Value):List (Nat×Value):=
 match d with
 |some d=>(d,v)::F
 |none=>F
def qU(N:Nat)(F:List (Nat×Value))(e:f7)(nid:Nat)(lab:bf)(w:World)(d:Option Nat)(o:cL)(e':f7)(lab':bf)(w':World)(v:Value):Prop:=
 (∀i,(i<nid∨nid+4≤i)→e' i=e i)∧gu o.ks lab w lab' w'∧RV e' o.sv lab' w' v∧(∀p∈o.puts,bg e' lab' w' p.1 p.2)∧(∀p∈o.re,∀u,cN F p.1=some u→RV e' p.2 lab' w' u)
theorem rb.apply{N:Nat}{e e':f7}{ps:PS}{F:List (Nat×Value)}{lab lab':bf}{w w':World}{d:Option Nat}{o:cL}{v:Value}(h:rb e ps F lab w)(wf:WF ps)
  (hp:qU N F e ps.nxt lab w d o e' lab' w' v) (hre : ∀p∈o.re,∃u,cN F p.1=some u):rb e' (apply ps d o) (PC F d v) lab' w':=by
 obtain⟨h1,h2,h3,h4,h5⟩:=hp
 have keyS : ∀s st sv,(s,st,sv)∈reS ps.nxt o.re ps.sl→∃u,cN F s=some u∧RV e' sv lab' w' u:=fun s st sv hm=>by
  rcases my hm with hm | ⟨_,hm⟩
  ·obtain⟨u,hu,hr⟩:=h.sl s st sv hm
   exact⟨u,hu,(hr.keep h2.keeps).env fun i hi=>h1 i (.inl ((wf.sl s st sv hm).2 i hi))⟩
  ·obtain⟨u,hu⟩:=hre _ hm
   exact⟨u,hu,h5 _ hm u hu⟩
 refine⟨fun s st sv hm=>?_,fun i st m hm=>?_,h.gl.keep h2.keeps⟩
 ·cases d with
  |none=>exact keyS s st sv hm
  |some d=>
   rcases List.mem_cons.1 hm with he |hm
   ·injection he with he0 he;injection he with he1 he2
    subst he0 he1 he2
    exact⟨v,nU,h3⟩
   ·obtain⟨hm,hne⟩:=bC.1 hm
    obtain⟨u,hu,hr⟩:=keyS s st sv hm
    exact⟨u,by show cN ((d,v)::F) s=some u;rw[mg hne];exact hu,hr⟩
 ·rcases fJ hm with hm | ⟨_,hm⟩
  ·obtain⟨hm,hl⟩:=jO.1 hm
   obtain⟨_,hi,hj⟩:=wf.mem i st m hm
   exact((h.mem i st m hm).stp h2 hl (wf.lbl i st m hm)).env (h1 i (.inl hi)) fun j hj'=>h1 j (.inl (hj j hj'))
  ·exact h4 _ hm
def Q3:(k:IntKind)→aQ k→aQ k→aQ k
 | .i64,a,b=>aP (Int.add a b)
 | .u8,a,b=>UInt8.add a b
 | .u64,a,b=>UInt64.add a b
 | .u32,a,b=>UInt32.add a b
 | .i32,a,b=>IntKind.i32.wrap (Int.add a b)
 | .i16,a,b=>IntKind.i16.wrap (Int.add a b)
 | .i8,a,b=>IntKind.i8.wrap (Int.add a b)
 | .u16,a,b=>IntKind.u16.wrap (Int.add a b)
def OX:(k:IntKind)→aQ k→aQ k→aQ k
 | .i64,a,b=>aP (Int.sub a b)
 | .u8,a,b=>UInt8.sub a b
 | .u64,a,b=>UInt64.sub a b
 | .u32,a,b=>UInt32.sub a b
 | .i32,a,b=>IntKind.i32.wrap (Int.sub a b)
 | .i16,a,b=>IntKind.i16.wrap (Int.sub a b)
 | .i8,a,b=>IntKind.i8.wrap (Int.sub a b)
 | .u16,a,b=>IntKind.u16.wrap (Int.sub a b)
def P9:(k:IntKind)→aQ k→aQ k→aQ k
 | .i64,a,b=>aP (Int.mul a b)
 | .u8,a,b=>UInt8.mul a b
 | .u64,a,b=>UInt64.mul a b
 | .u32,a,b=>UInt32.mul a b
 | .i32,a,b=>IntKind.i32.wrap (Int.mul a b)
 | .i16,a,b=>IntKind.i16.wrap (Int.mul a b)
 | .i8,a,b=>IntKind.i8.wrap (Int.mul a b)
 | .u16,a,b=>IntKind.u16.wrap (Int.mul a b)
def bB(o:BinOp):(k:IntKind)→aQ k→aQ k→aQ k
 | .i64,a,b=>TK o a b
 | .u8,a,b=>aj (bits o .u8 (UInt8.toNat a) (UInt8.toNat b))
 | .u64,a,b=>ab (bits o .u64 (UInt64.toNat a) (UInt64.toNat b))
 | .u32,a,b=>lk (bits o .u32 (UInt32.toNat a) (UInt32.toNat b))
 | .i32,a,b=>bits o .i32 a b
 | .i16,a,b=>bits o .i16 a b
 | .i8,a,b=>bits o .i8 a b
 | .u16,a,b=>bits o .u16 a b
def H':(k:IntKind)→aQ k→aQ k→Option (aQ k)
 | .i64,a,b=>quo a b
 |k,a,b=>if bH k b=0 then none else some (iU k ((bH k a).tdiv (bH k b)))
def Fr:(k:IntKind)→aQ k→aQ k→Option (aQ k)
 | .i64,a,b=>Gk.rem a b
 | .u8,a,b=>if UInt8.toNat b=0 then none else some (UInt8.mod a b)
 | .u64,a,b=>if UInt64.toNat b=0 then none else some (UInt64.mod a b)
 | .u32,a,b=>if UInt32.toNat b=0 then none else some (UInt32.mod a b)
 | .i32,a,b=>Gk.rem a b
 | .i16,a,b=>Gk.rem a b
 | .i8,a,b=>Gk.rem a b
 | .u16,a,b=>Gk.rem a b
def gE:(k:IntKind)→aQ k→Int→Option (aQ k)
 | .i64,a,n=>Gk.shl a n
 |k,a,n=>if n<0 then none else some (iU k (bH k a*2^min n.toNat k.bits))
def dW:(k:IntKind)→aQ k→Int→Option (aQ k)
 | .i64,a,n=>Gk.shr a n
 | .u64,a,n=>we a n
 | .u8,a,n=>if n<0 then none else some (aj ((UInt8.toNat a:Int)/2^min n.toNat 8))
 | .u32,a,n=>if n<0 then none else some (lk ((UInt32.toNat a:Int)/2^min n.toNat 32))
 | .i32,a,n=>if n<0 then none else some (Int.ediv a (2^min n.toNat 32))
 | .i16,a,n=>if n<0 then none else some (Int.ediv a (2^min n.toNat 16))
 | .i8,a,n=>if n<0 then none else some (Int.ediv a (2^min n.toNat 8))
 | .u16,a,n=>if n<0 then none else some (Int.ediv a (2^min n.toNat 16))
theorem O9(a b:UInt8):(((a+b).toNat:Nat):Int)=IntKind.u8.wrap ((a.toNat:Int)+(b.toNat:Int)):=by
 rw[wrap_u8,show a+b=aj ((a.toNat:Int)+(b.toNat:Int))from ?_]
 apply UInt8.toNat_inj.1
 rw[UInt8.toNat_add]
 unfold aj
 simp;omega
theorem KE(a b:UInt32):(((a+b).toNat:Nat):Int)=IntKind.u32.wrap ((a.toNat:Int)+(b.toNat:Int)):=by
 rw[wrap_u32,show a+b=lk ((a.toNat:Int)+(b.toNat:Int))from ?_]
 apply UInt32.toNat_inj.1
 rw[UInt32.toNat_add]
 unfold lk
 simp;omega
theorem Kp(a b:UInt64):(((a+b).toNat:Nat):Int)=IntKind.u64.wrap ((a.toNat:Int)+(b.toNat:Int)):=by
 rw[lD,show a+b=ab ((a.toNat:Int)+(b.toNat:Int))from ?_]
 apply UInt64.toNat_inj.1
 rw[UInt64.toNat_add]
 unfold ab
 simp;omega
theorem Gy(k:IntKind)(a b:aQ k):bH k (Q3 k a b)=k.wrap (bH k a+bH k b):=by
 cases k with
 |u8=>exact O9 a b
 |u32=>exact KE a b
 |u64=>exact Kp a b
 |_=>rfl
theorem NN(a b:UInt8):(((a-b).toNat:Nat):Int)=IntKind.u8.wrap ((a.toNat:Int)-(b.toNat:Int)):=by
 rw[wrap_u8,show a-b=aj ((a.toNat:Int)-(b.toNat:Int))from ?_]
 apply UInt8.toNat_inj.1
 rw[UInt8.toNat_sub]
 unfold aj
 have:=UInt8.toNat_lt a;have:=UInt8.toNat_lt b;simp;omega
theorem La(a b:UInt32):(((a-b).toNat:Nat):Int)=IntKind.u32.wrap ((a.toNat:Int)-(b.toNat:Int)):=by
 rw[wrap_u32,show a-b=lk ((a.toNat:Int)-(b.toNat:Int))from ?_]
 apply UInt32.toNat_inj.1
 rw[UInt32.toNat_sub]
 unfold lk
 have:=UInt32.toNat_lt a;have:=UInt32.toNat_lt b;simp;omega
theorem LV(a b:UInt64):(((a-b).toNat:Nat):Int)=IntKind.u64.wrap ((a.toNat:Int)-(b.toNat:Int)):=by
 rw[lD,show a-b=ab ((a.toNat:Int)-(b.toNat:Int))from ?_]
 apply UInt64.toNat_inj.1
 rw[UInt64.toNat_sub]
 unfold ab
 have:=UInt64.toNat_lt a;have:=UInt64.toNat_lt b;simp;omega
theorem Bl(k:IntKind)(a b:aQ k):bH k (OX k a b)=k.wrap (bH k a-bH k b):=by
 cases k with
 |u8=>exact NN a b
 |u32=>exact La a b
 |u64=>exact LV a b
 |_=>rfl
theorem Oe(a b:UInt8):(((a*b).toNat:Nat):Int)=IntKind.u8.wrap ((a.toNat:Int)*(b.toNat:Int)):=by
 rw[wrap_u8,show a*b=aj ((a.toNat:Int)*(b.toNat:Int))from ?_]
 apply UInt8.toNat_inj.1
 rw[UInt8.toNat_mul]
 unfold aj
 simp only[←Int.natCast_mul];simp;omega
theorem KG(a b:UInt32):(((a*b).toNat:Nat):Int)=IntKind.u32.wrap ((a.toNat:Int)*(b.toNat:Int)):=by
 rw[wrap_u32,show a*b=lk ((a.toNat:Int)*(b.toNat:Int))from ?_]
 apply UInt32.toNat_inj.1
 rw[UInt32.toNat_mul]
 unfold lk
 simp only[←Int.natCast_mul];simp;omega
theorem KD(a b:UInt64):(((a*b).toNat:Nat):Int)=IntKind.u64.wrap ((a.toNat:Int)*(b.toNat:Int)):=by
 rw[lD,show a*b=ab ((a.toNat:Int)*(b.toNat:Int))from ?_]
 apply UInt64.toNat_inj.1
 rw[UInt64.toNat_mul]
 unfold ab
 simp only[←Int.natCast_mul];simp;omega
theorem I4(k:IntKind)(a b:aQ k):bH k (P9 k a b)=k.wrap (bH k a*bH k b):=by
 cases k with
 |u8=>exact Oe a b
 |u32=>exact KG a b
 |u64=>exact KD a b
 |_=>rfl
theorem FA(k:IntKind)(n:Int):k.wrap (k.wrap n)=k.wrap n:=by
 rw[←iW k n]
 cases k
 ·show IntKind.i8.wrap (IntKind.i8.wrap n)=IntKind.i8.wrap n;simp[IntKind.wrap,IntKind.bits,IntKind.signed];omega
 ·show IntKind.i16.wrap (IntKind.i16.wrap n)=IntKind.i16.wrap n;simp[IntKind.wrap,IntKind.bits,IntKind.signed];omega
 ·show IntKind.i32.wrap (IntKind.i32.wrap n)=IntKind.i32.wrap n;simp[IntKind.wrap,IntKind.bits,IntKind.signed];omega
 ·show IntKind.i64.wrap (IntKind.i64.wrap n)=IntKind.i64.wrap n;simp[IntKind.wrap,IntKind.bits,IntKind.signed];omega
 ·rw[iW];simp[IntKind.wrap,IntKind.bits,IntKind.signed]
 ·show IntKind.u16.wrap (IntKind.u16.wrap n)=IntKind.u16.wrap n;simp[IntKind.wrap,IntKind.bits,IntKind.signed]
 ·rw[iW];simp[IntKind.wrap,IntKind.bits,IntKind.signed]
 ·rw[iW];simp[IntKind.wrap,IntKind.bits,IntKind.signed]
theorem pc(o:BinOp)(k:IntKind)(a b:aQ k):bH k (bB o k a b)=bits o k (bH k a) (bH k b):=by
 have key : ∀q x y,IntKind.wrap q (bits o q x y)=bits o q x y:=fun q x y=>by unfold bits;rw[FA]
 cases k with
 |u8=>
  show((UInt8.toNat (aj (bits o .u8 (UInt8.toNat a) (UInt8.toNat b))):Nat):Int)=_
  rw[←wrap_u8];exact key .u8 _ _
 |u32=>
  show((UInt32.toNat (lk (bits o .u32 (UInt32.toNat a) (UInt32.toNat b))):Nat):Int)=_
  rw[←wrap_u32];exact key .u32 _ _
 |u64=>
  show((UInt64.toNat (ab (bits o .u64 (UInt64.toNat a) (UInt64.toNat b))):Nat):Int)=_
  rw[←lD];exact key .u64 _ _
 |_=>rfl
inductive aO:Type 1 where
 |ret (o:cL)
 |letm (τ:Type) (e:τ) (k:τ→aO)
 |bnd (τ:Type) (m:Option τ) (k:τ→aO)
 |cnd (b:Bool) (x y:aO)
 |stuck
def hi:Nat:=let _f:=@cW;0
noncomputable def aO.go {R:Type} (r:aO):(cL→Option R)→Option R:=
 (fun _=>aO.rec (motive:=fun _=>(cL→Option R)→Option R) (fun o K=>K o) (fun _ e _ ih K=>Gk.letm e fun x=>ih x K) (fun _ m _ ih K=>Gk.bnd m fun x=>ih x K) (fun b _ _ ih1 ih2 K=>cond b (ih1 K) (ih2 K)) (fun _=>none) r) hi
inductive ed:aO→cL→Prop where
 |ret {o}:ed (.ret o) o
 |letm {τ e k o}:ed (k e) o→ed (.letm τ e k) o
 |bnd {τ m k o x}:m=some x→ed (k x) o→ed (.bnd τ m k) o
 |t {x y o}:ed x o→ed (.cnd true x y) o
 |f {x y o}:ed y o→ed (.cnd false x y) o
theorem J8{R:Type}{q:R}: ∀{r:aO} {K:cL→Option R},r.go K=some q→∃o,ed r o∧K o=some q:=by
 intro r
 induction r with
 |ret o=>exact fun h=>⟨o,.ret,h⟩
 |letm τ e k ih=>intro K h;obtain⟨o,h1,h2⟩:=ih e h;exact⟨o,.letm h1,h2⟩
 |bnd τ m k ih=>intro K h;obtain⟨x,hx,h⟩:=dv h;obtain⟨o,h1,h2⟩:=ih x h;exact⟨o,.bnd hx h1,h2⟩
 |cnd b x y ihx ihy=>
  intro K h
  cases b with
  |true=>obtain⟨o,h1,h2⟩:=ihx h;exact⟨o,.t h1,h2⟩
  |false=>obtain⟨o,h1,h2⟩:=ihy h;exact⟨o,.f h1,h2⟩
 |stuck=>intro K h;cases h
theorem ed.ret_eq{o o':cL}(h:ed (.ret o) o'):o'=o:=by cases h;rfl
abbrev RA:=SV×Option dq
def N4:SV→Nat
 | .agh _ _ _ id=>id | .clb _ id=>id | .mp id=>id | .ptr id _=>id | .own id=>id | .eptr id _ _=>id | .rix id=>id | .rlen id=>id | .rsl id=>id | .rnx id=>id | .rcn id=>id |_=>0
def eu(e:f7)(lab:bf)(w:World)(a:RA)(v:Value):Prop:=RV e a.1 lab w v∧∀m,a.2=some m→bg e lab w (N4 a.1) m
def jw:RA→Option ((t:PT)×den t)
 | (.dat t x,_)=>some ⟨t,x⟩
 | (.agn t x _,_)=>some ⟨t,x⟩
 | (.rix _,some (.rgi _ _ _ k _))=>some ⟨.int .i64,(k:Int)⟩
 | (.rlen _,some (.rgh _ xs))=>some ⟨.int .i64,(xs.length:Int)⟩
 | (.rsl _,some (.rgh t xs))=>some ⟨.sl t,xs⟩
 | (.rnx _,some (.rgi _ _ _ k _))=>some ⟨.int .i64,((k+1:Nat):Int)⟩
 | (.rix _,some (.rgj _ _ k _))=>some ⟨.int .i64,(k:Int)⟩
 | (.rnx _,some (.rgj _ _ k _))=>some ⟨.int .i64,((k+1:Nat):Int)⟩
 | (.rcn _,some (.rgc n))=>some ⟨.int .i64,n⟩
 | (.fsl k x,_)=>some ⟨.sl (.int k),x⟩
 |_=>none
def Q_:(t:PT)→Option (den t)
 | .sl _=>some []
 |_=>none
def uN(t:PT)(a:RA):Option (den t):=
 match a.1 with
 | .nil=>Q_ t
 | .dptr t' x 0=>bh (.cp t') t (some x)
 |_=>match jw a with
  |some ⟨u,x⟩=>bh u t x
  |none=>none
def o1(sv:SV):cL:=⟨sv,[],[],[]⟩
section
variable {e : f7} {lab : bf} {w : World} {v : Value}
theorem uJ{a t:PT}{l:List (den a)}{xs:List (den t)}(h:(⟨a,l⟩:(t:PT)×List (den t))=⟨t,xs⟩):l.length=xs.length:=by cases h;rfl
theorem Hu{a t:PT}{l:List (den a)}{xs:List (den t)}{oa:Option Addr}{c:Nat}(h:(⟨a,l⟩:(t:PT)×List (den t))=⟨t,xs⟩)(s:SL (rep a) lab w oa c l):SL (rep t) lab w oa c xs:=by cases h;exact s
theorem bu{a:RA}{t:PT}{x:den t}(h:eu e lab w a v)(ha:jw a=some ⟨t,x⟩):aV t x lab w v:=by
 obtain⟨sv,m⟩:=a
 obtain⟨h1,h2⟩:=h
 unfold jw at ha
 split at ha
 ·rename_i heq
  injection heq with e1 e2;subst e1
  cases ha;exact h1
 ·rename_i heq
  injection heq with e1 e2;subst e1
  cases ha;exact h1.1
 ·rename_i id q t' xs k ox heq
  injection heq with e1 e2;subst e1 e2
  cases ha
  obtain⟨h3,_⟩:=h2 _ rfl
  have h1:v = .int .i64 ((e id).n:Int):=h1
  have h3:(e id).n=k:=h3
  subst h3 h1
  exact aV.ofInt (k:=.i64) _
 ·rename_i id t' xs heq
  injection heq with e1 e2;subst e1 e2
  cases ha
  obtain⟨h3,_⟩:=h2 _ rfl
  have h1:v = .int .i64 ((e id).ls.length:Int):=h1
  have h4:(e id).ls.length=xs.length:=uJ h3
  rw[h4]at h1
  subst h1
  exact aV.ofInt (k:=.i64) _
 ·rename_i id t' xs heq
  injection heq with e1 e2;subst e1 e2
  cases ha
  obtain⟨h3,_⟩:=h2 _ rfl
  obtain⟨oa,c,h1,h4⟩:=h1
  have h5:(e id).ls.length=xs.length:=uJ h3
  rw[h5]at h1
  subst h1
  exact aV.ofSl (Hu h3 h4)
 ·rename_i id q t' xs k ox heq
  injection heq with e1 e2;subst e1 e2
  cases ha
  obtain⟨h3,_⟩:=h2 _ rfl
  have h1:v = .int .i64 (((e id).n+1:Nat):Int):=h1
  have h3:(e id).n=k:=h3
  subst h3 h1
  exact aV.ofInt (k:=.i64) _
 ·rename_i id q n k more heq
  injection heq with e1 e2;subst e1 e2
  cases ha
  obtain⟨h3,_⟩:=h2 _ rfl
  have h1:v = .int .i64 ((e id).n:Int):=h1
  have h3:(e id).n=k:=h3
  subst h3 h1
  exact aV.ofInt (k:=.i64) _
 ·rename_i id q n k more heq
  injection heq with e1 e2;subst e1 e2
  cases ha
  obtain⟨h3,_⟩:=h2 _ rfl
  have h1:v = .int .i64 (((e id).n+1:Nat):Int):=h1
  have h3:(e id).n=k:=h3
  subst h3 h1
  exact aV.ofInt (k:=.i64) _
 ·rename_i id n heq
  injection heq with e1 e2;subst e1 e2
  cases ha
  have h3:(e id).z=_:=h2 _ rfl
  have h1:v = .int .i64 (e id).z:=h1
  rw[h3]at h1
  subst h1
  exact aV.ofInt (k:=.i64) _
 ·rename_i heq
  injection heq with e1 e2;subst e1
  cases ha
  obtain⟨p,h1,h3⟩:=h1
  subst h1
  exact aV.ofSl h3
 ·cases ha
theorem dt{a:RA}{t:PT}{x:den t}(h:eu e lab w a v)(ha:uN t a=some x):aV t x lab w v:=by
 unfold uN at ha
 split at ha
 ·rename_i heq
  have h1:=h.1
  rw[heq]at h1
  have h1:v = .slice none 0 0:=h1
  subst h1
  cases t<;>first | (simp[Q_]at ha;done) |skip
  cases ha
  exact aV.ofSl SL.nil
 ·rename_i t' y heq
  have h1:=h.1
  rw[heq]at h1
  obtain⟨p,cs,c1,c2,c3⟩:=h1
  obtain⟨rfl,rfl⟩:=ay ha
  exact⟨[_],⟨p,cs,by rw[c1];rfl,c2,c3⟩,rfl⟩
 ·split at ha
  ·rename_i u y heq
   obtain⟨rfl,rfl⟩:=ay ha
   exact bu h heq
  ·cases ha
end
def Fin(N:Nat)(F:List (Nat×Value))(e:f7)(nid:Nat)(lab:bf)(w:World)(d:Option Nat)(o:cL):eT:=
 fun ex a w'=>ex = .normal∧∃e' lab' v,pM (PC F d v) N a∧qU N F e nid lab w d o e' lab' w' v
section
variable {P : Program} {N : Nat} {ops : Array Oper} {F : List (Nat × Value)} {w w' : World} {e : f7} {lab lab' : bf} {nid : Nat} {d : Nat} {v : Value}
theorem ap{sv:SV}(t:cm lab w)(h:RV e sv lab w v):LW P N ops [] ((d,v)::F) w (Fin N F e nid lab w (some d) (o1 sv)):=
 LW.nil fun a ha=>⟨rfl,e,lab,v,ha,fun _ _=>rfl,gu.refl t,h,fun p hp=>by simp[o1]at hp,fun p hp=>by simp[o1]at hp⟩
theorem LB{sv:SV}(s:i7 lab 0 w lab' w')(h:RV e sv lab' w' v):LW P N ops [] ((d,v)::F) w' (Fin N F e nid lab w (some d) (o1 sv)):=
 LW.nil fun a ha=>⟨rfl,e,lab',v,ha,fun _ _=>rfl,s.stp (.inr rfl),h,fun p hp=>by simp[o1]at hp,fun p hp=>by simp[o1]at hp⟩
end
def SU(o:BinOp)(a b:Int):Option Bool:=
 match o with
 | .eql=>some (a==b) | .neq=>some (a != b) | .lss=>some (decide (a<b)) | .leq=>some (decide (a≤b)) | .gtr=>some (decide (b<a)) | .geq=>some (decide (b≤a)) |_=>none
def nW(k:IntKind)(x:aQ k):aO:=.ret (o1 (.dat (.int k) x))
def qV(b:Bool):aO:=.ret (o1 (.dat .bool b))
def Ld(o:BinOp)(k:IntKind)(a:aQ k)(k':IntKind)(b:aQ k'):aO:=
 match o with
 | .shl=>.bnd _ (gE k a (bH k' b)) (nW k)
 | .shr=>.bnd _ (dW k a (bH k' b)) (nW k)
 |_=>if h:IntKind.eqb k' k=true then
   let b:=IntKind.eqb_eq h▸b
   match o with
   | .add=>.letm _ (Q3 k a b) (nW k)
   | .sub=>.letm _ (OX k a b) (nW k)
   | .mul=>.letm _ (P9 k a b) (nW k)
   | .quo=>.bnd _ (H' k a b) (nW k)
   | .rem=>.bnd _ (Fr k a b) (nW k)
   | .and=>.letm _ (bB .and k a b) (nW k)
   | .or=>.letm _ (bB .or k a b) (nW k)
   | .xor=>.letm _ (bB .xor k a b) (nW k)
   | .andNot=>.letm _ (bB .andNot k a b) (nW k)
   |o=>match SU o (bH k a) (bH k b)with
    |some c=>.letm _ c qV
    |none=>.stuck
  else .stuck
theorem NO(a b:UInt8)(h:b.toNat≠0):(((a%b).toNat:Nat):Int)=((a.toNat:Int)).tmod (b.toNat:Int):=by
 rw[UInt8.toNat_mod,←Int.ofNat_tmod]
theorem LG(a b:UInt64)(h:b.toNat≠0):(((a%b).toNat:Nat):Int)=((a.toNat:Int)).tmod (b.toNat:Int):=by
 rw[UInt64.toNat_mod,←Int.ofNat_tmod]
theorem Ku(a b:UInt32)(h:b.toNat≠0):(((a%b).toNat:Nat):Int)=((a.toNat:Int)).tmod (b.toNat:Int):=by
 rw[UInt32.toNat_mod,←Int.ofNat_tmod]
theorem G5(k:IntKind)(a b:aQ k){q:aQ k}(h:H' k a b=some q):bH k b≠0∧bH k q=k.wrap ((bH k a).tdiv (bH k b)):=by
 cases k with
 |i64=>
  have h:quo a b=some q:=h
  unfold quo at h
  split at h
  ·cases h
  ·rename_i hb;cases h;exact⟨hb,rfl⟩
 |_=>
  unfold H' at h
  simp only at h
  split at h
  ·cases h
  ·rename_i hb;cases h;exact⟨hb,iW _ _⟩
theorem HV(k:IntKind)(a b:aQ k){q:aQ k}(h:Fr k a b=some q):bH k b≠0∧bH k q=(bH k a).tmod (bH k b):=by
 have key : ∀{x y z:Int},Gk.rem x y=some z→y≠0∧z=x.tmod y:=fun h=>by
  unfold Gk.rem at h
  split at h
  ·cases h
  ·rename_i hb;cases h;exact⟨hb,rfl⟩
 cases k with
 |u8=>
  unfold Fr at h;simp only at h
  split at h
  ·cases h
  ·rename_i hb;cases h
   exact⟨fun h=>hb (by have h:((UInt8.toNat b:Nat):Int)=0:=h;omega),NO a b hb⟩
 |u64=>
  unfold Fr at h;simp only at h
  split at h
  ·cases h
  ·rename_i hb;cases h
   exact⟨fun h=>hb (by have h:((UInt64.toNat b:Nat):Int)=0:=h;omega),LG a b hb⟩
 |u32=>
  unfold Fr at h;simp only at h
  split at h
  ·cases h
  ·rename_i hb;cases h
   exact⟨fun h=>hb (by have h:((UInt32.toNat b:Nat):Int)=0:=h;omega),Ku a b hb⟩
 |_=>exact key h
theorem Gj(k:IntKind)(a:aQ k){n:Int}{q:aQ k}(h:gE k a n=some q):0≤n∧bH k q=k.wrap (bH k a*2^min n.toNat k.bits):=by
 cases k with
 |i64=>
  have h:Gk.shl a n=some q:=h
  unfold Gk.shl at h
  split at h
  ·cases h
  ·rename_i hb;cases h;exact⟨by omega,rfl⟩
 |_=>
  unfold gE at h
  simp only at h
  split at h
  ·cases h
  ·rename_i hb;cases h;exact⟨by omega,iW _ _⟩
theorem EB{n m:Nat}{x:Int}(h0:0≤x)(hx:x<m):0≤x/2^n∧x/2^n<m:=by
 have hp:(0:Int)<2^n:=Int.pow_pos (by decide)
 have h1:=Int.ediv_nonneg h0 (Int.le_of_lt hp)
 have h2:=Int.ediv_le_self (2^n) h0
 omega
theorem Ls(k:IntKind)(a:aQ k){n:Int}{q:aQ k}(h:dW k a n=some q):0≤n∧bH k q=bH k a/2^min n.toNat k.bits:=by
 cases k with
 |i64=>
  have h:Gk.shr a n=some q:=h
  unfold Gk.shr at h
  split at h
  ·cases h
  ·rename_i hb;cases h;exact⟨by omega,rfl⟩
 |u64=>
  have h:we a n=some q:=h
  unfold we at h
  split at h
  ·cases h
  ·rename_i hb
   cases h
   refine⟨by omega,?_⟩
   show(((UInt64.ofNat (UInt64.toNat a/2^min n.toNat 64)).toNat:Nat):Int)=((UInt64.toNat a:Nat):Int)/2^min n.toNat 64
   have hle:=Nat.div_le_self (UInt64.toNat a) (2^min n.toNat 64)
   have hlt:=UInt64.toNat_lt a
   rw[UInt64.toNat_ofNat_of_lt' (by show _<2^64;omega)]
   simp
 |u8=>
  unfold dW at h;simp only at h
  split at h
  ·cases h
  ·rename_i hb;cases h
   refine⟨by omega,?_⟩
   show(((aj ((UInt8.toNat a:Int)/2^min n.toNat 8)).toNat:Nat):Int)=_
   have hlt:=UInt8.toNat_lt a
   obtain⟨h1,h2⟩:=EB (n:=min n.toNat 8) (m:=256) (x:=(UInt8.toNat a:Int)) (by omega) (by omega)
   rw[←wrap_u8,IntWalk.u8_in _ ⟨h1,by omega⟩];rfl
 |u32=>
  unfold dW at h;simp only at h
  split at h
  ·cases h
  ·rename_i hb;cases h
   refine⟨by omega,?_⟩
   show(((lk ((UInt32.toNat a:Int)/2^min n.toNat 32)).toNat:Nat):Int)=_
   have hlt:=UInt32.toNat_lt a
   obtain⟨h1,h2⟩:=EB (n:=min n.toNat 32) (m:=4294967296) (x:=(UInt32.toNat a:Int)) (by omega) (by omega)
   rw[←wrap_u32,IntWalk.u32_in _ ⟨h1,by omega⟩];rfl
 |_=>
  unfold dW at h;simp only at h
  split at h
  ·cases h
  ·rename_i hb;cases h;exact⟨by omega,rfl⟩
theorem KZ{P:Program}{e:f7}{lab:bf}{w:World}{o:BinOp}{t:TypeId}{k k':IntKind}{a:aQ k}{b:aQ k'}{out:cL}(h:ed (Ld o k a k' b) out):
  ∃v sv,out=o1 sv∧RV e sv lab w v∧(binOp o t (.int k (bH k a)) (.int k' (bH k' b))).run P w = .ok v w:=by
 have rI : ∀{x:aQ k},ed (nW k x) out→out=o1 (.dat (.int k) x):=fun h=>ed.ret_eq h
 have rB : ∀{x:Bool},ed (qV x) out→out=o1 (.dat .bool x):=fun h=>ed.ret_eq h
 by_cases hs:o = .shl
 ·subst hs
  cases h with
  |bnd hx h=>
   obtain⟨h1,h2⟩:=Gj k a hx
   exact⟨_,_,rI h,aV.ofInt _,by rw[binOp_shl,shift_shl_any _ _ _ _ h1,h2];rfl⟩
 by_cases hr:o = .shr
 ·subst hr
  cases h with
  |bnd hx h=>
   obtain⟨h1,h2⟩:=Ls k a hx
   exact⟨_,_,rI h,aV.ofInt _,by rw[binOp_shr,shift_shr_any _ _ _ _ h1,h2];rfl⟩
 have h' : ∃hk:IntKind.eqb k' k=true,True:=by
  unfold Ld at h
  cases o<;>first |exact absurd rfl hs |exact absurd rfl hr | (simp only at h;split at h;(exact⟨by assumption,trivial⟩);cases h)
 obtain⟨hk,_⟩:=h'
 have:=IntKind.eqb_eq hk
 subst this
 unfold Ld at h
 simp only[hk,dite_true]at h
 cases o with
 |shl=>exact absurd rfl hs
 |shr=>exact absurd rfl hr
 |add=>cases h with |letm h=>exact⟨_,_,rI h,aV.ofInt _,by rw[Gy];simp[binOp,Op.intArith]⟩
 |sub=>cases h with |letm h=>exact⟨_,_,rI h,aV.ofInt _,by rw[Bl];simp[binOp,Op.intArith]⟩
 |mul=>cases h with |letm h=>exact⟨_,_,rI h,aV.ofInt _,by rw[I4];simp[binOp,Op.intArith]⟩
 |quo=>cases h with |bnd hx h=>obtain⟨h1,h2⟩:=G5 _ _ _ hx;exact⟨_,_,rI h,aV.ofInt _,by rw[h2];simp[binOp,Op.intDiv,h1]⟩
 |rem=>cases h with |bnd hx h=>obtain⟨h1,h2⟩:=HV _ _ _ hx;exact⟨_,_,rI h,aV.ofInt _,by rw[h2];simp[binOp,Op.intDiv,h1]⟩
 |and=>cases h with |letm h=>exact⟨_,_,rI h,aV.ofInt _,by rw[pc,binOp_and,intBits_and];rfl⟩
 |or=>cases h with |letm h=>exact⟨_,_,rI h,aV.ofInt _,by rw[pc,binOp_or,intBits_or];rfl⟩
 |xor=>cases h with |letm h=>exact⟨_,_,rI h,aV.ofInt _,by rw[pc,binOp_xor,intBits_xor];rfl⟩
 |andNot=>cases h with |letm h=>exact⟨_,_,rI h,aV.ofInt _,by rw[pc,binOp_andNot,intBits_andNot];rfl⟩
 |eql=>cases h with |letm h=>exact⟨_,_,rB h,aV.ofBool _,by rw[binOp_eql];rfl⟩
 |neq=>cases h with |letm h=>exact⟨_,_,rB h,aV.ofBool _,by rw[binOp_neq];rfl⟩
 |lss=>cases h with |letm h=>exact⟨_,_,rB h,aV.ofBool _,by rw[binOp_lss];rfl⟩
 |leq=>cases h with |letm h=>exact⟨_,_,rB h,aV.ofBool _,by rw[binOp_leq];rfl⟩
 |gtr=>cases h with |letm h=>exact⟨_,_,rB h,aV.ofBool _,by rw[binOp_gtr];rfl⟩
 |geq=>cases h with |letm h=>exact⟨_,_,rB h,aV.ofBool _,by rw[binOp_geq];rfl⟩
def zv:PT→Value
 | .int k=>.int k 0 | .bool=>.bool false | .str=>dG [] | .sl _=>.slice none 0 0 | .cp _=>.pointer none | .clo _ _=>.nilFunc | .err=>.nilIface | .fl=>.float .f64 0 | .f4=>.float .f32 0 |t=>.agg (zc t).toArray
theorem sf(t:PT):(zv t).cells=(zc t).toArray:=by cases t<;>rfl
theorem MZ(t:PT):uS t (zc t) (zv t):=by cases t<;>rfl
structure zk(P:Program)(T:TypeId)(t:PT):Prop where
 one:ja t=false→iS P T
 agg:ja t=true→AA P T (bZ t)
 zero:mD P T (zv t)
 und:match t with | .int k=>P.underlying T=some (.int k) | .bool=>P.underlying T=some .bool | .str=>P.underlying T=some .string | .err=>∃ms,P.underlying T=some (.interface ms) | .fl=>P.underlying T=some (.float .f64) | .f4=>P.underlying T=some (.float .f32) | .ar n _=>∃E,P.underlying T=some (.array n E)∧iS P E |_=>True
structure TE(P:Program) where
 id:TypeId
 pt:PT
 ok:zk P id pt
structure SE(P:Program) where
 id:TypeId
 el:TypeId
 pt:PT
 nb:Nat
 ok:gv P id el (bZ pt) nb (zv pt)
 zok:mD P el (zv pt)
 hb:Nat.ble nb 32768=true
structure FE(P:Program) where
 id:TypeId
 f:Nat
 off:Nat
 ok:vI P id f off
theorem yL{f g:Nat→Option (Nat×Nat)}(hf : ∀i p,f i=some p→g i=some p): ∀{ps:List (Nat×Value)} {cs r:Array Value},Instr.fill f cs ps=some r→Instr.fill g cs ps=some r
 | [],_,_,h=>h
 | (i,v)::ps,cs,r,h=>by
  unfold Instr.fill at h⊢
  cases hp:f i with
  |none=>rw[hp]at h;simp at h
  |some p=>
   rw[hp]at h
   rw[hf i p hp]
   revert h
   simp only[Option.bind_some]
   split
   ·intro h;exact h
   ·intro h;exact yL hf h
def wi(k:IntKind):Nat→Nat→List (Nat×PT)
 |0,_=>[]
 |n+1,o=>(o,.int k)::wi k n (o+1)
theorem Bv{k:IntKind}: ∀{n o i:Nat} {p:Nat×Nat},((wi k n o).map fun p=>(p.1,bZ p.2))[i]?=some p→p=((o+i)*1,1)
 |0,_,_,_,h=>by simp[wi]at h
 |n+1,o,0,p,h=>by simp[wi,bZ]at h;rw[←h];simp
 |n+1,o,i+1,p,h=>by
  simp only[wi,List.map_cons,List.getElem?_cons_succ]at h
  rw[Bv h,show o+1+i=o+(i+1) by omega]
theorem rA{k:IntKind}{n:Nat}{ps:List (Nat×Value)}{cs r:Array Value}(h:Instr.fill (fun i=>((wi k n 0).map fun p=>(p.1,bZ p.2)).toArray[i]?) cs ps=some r):Instr.fill (fun i=>some (i*1,1)) cs ps=some r:=
 yL (fun i p hp=>by rw[List.getElem?_toArray]at hp;rw[Bv hp,Nat.zero_add]) h
structure BE(P:Program) where
 id:TypeId
 pt:PT
 fs:List (Nat×PT)
 ok : ∀parts r,Instr.fill (fun i=>(fs.map fun p=>(p.1,bZ p.2)).toArray[i]?) (zc pt).toArray parts=some r→P.built id parts=some r
def dC{P:Program}:List (TE P)→TypeId→Option (TE P)
 | [],_=>none
 |e::r,T=>match Nat.beq e.id T with
  |true=>some e
  |false=>dC r T
def fM{P:Program}:List (SE P)→TypeId→Option (SE P)
 | [],_=>none
 |e::r,T=>match Nat.beq e.id T with
  |true=>some e
  |false=>fM r T
def pp{P:Program}:List (FE P)→TypeId→Nat→Option (FE P)
 | [],_,_=>none
 |e::r,T,f=>match Nat.beq e.id T&&Nat.beq e.f f with
  |true=>some e
  |false=>pp r T f
def vX{P:Program}:List (BE P)→TypeId→Option (BE P)
 | [],_=>none
 |e::r,T=>match Nat.beq e.id T with
  |true=>some e
  |false=>vX r T
theorem aS{P:Program}: ∀{l:List (TE P)} {T:TypeId} {e:TE P},dC l T=some e→e.id=T
 | [],_,_,h=>by cases h
 |q::r,T,e,h=>by
  unfold dC at h
  split at h
  ·rename_i hb;cases h;exact Nat.eq_of_beq_eq_true hb
  ·exact aS h
theorem ce{P:Program}: ∀{l:List (SE P)} {T:TypeId} {e:SE P},fM l T=some e→e.id=T
 | [],_,_,h=>by cases h
 |q::r,T,e,h=>by
  unfold fM at h
  split at h
  ·rename_i hb;cases h;exact Nat.eq_of_beq_eq_true hb
  ·exact ce h
theorem pz{P:Program}: ∀{l:List (BE P)} {T:TypeId} {e:BE P},vX l T=some e→e.id=T
 | [],_,_,h=>by cases h
 |q::r,T,e,h=>by
  unfold vX at h
  split at h
  ·rename_i hb;cases h;exact Nat.eq_of_beq_eq_true hb
  ·exact pz h
theorem pI{P:Program}: ∀{l:List (FE P)} {T:TypeId} {f:Nat} {e:FE P},pp l T f=some e→e.id=T∧e.f=f
 | [],_,_,_,h=>by cases h
 |q::r,T,f,e,h=>by
  unfold pp at h
  split at h
  ·rename_i hb
   simp only[Bool.and_eq_true]at hb
   cases h;exact⟨Nat.eq_of_beq_eq_true hb.1,Nat.eq_of_beq_eq_true hb.2⟩
  ·exact pI h
def nj(e:f7)(i:Nat)(x:EI):f7:=fun j=>match Nat.beq j i with |true=>x |false=>e j
theorem bE{e:f7}{i:Nat}{x:EI}:nj e i x i=x:=by simp[nj]
theorem gh{e:f7}{i j:Nat}{x:EI}(h:j≠i):nj e i x j=e j:=by unfold nj;rw[jY h]
theorem fv{e:f7}{nid i:Nat}{x:EI}(h:i<nid∨nid+4≤i):nj e nid x i=e i:=gh (by omega)
def qF(k:Nat)(nid:Nat)(T:TypeId)(t:PT)(x:den t):cL:=⟨.ptr nid 0,[k],[(nid,.box k T t x)],[]⟩
section
variable {P : Program} {N : Nat} {ops : Array Oper} {F : List (Nat × Value)} {w w' : World} {e : f7} {lab lab' : bf} {nid : Nat} {d : Nat} {v : Value}
variable {ty : TypeId} {pos : String} {af : Array Edge} {g : Option (Nat × Bool)} {x y z : Operand} {T : TypeId} {a b : RA}
theorem Du{k:Nat}{t:PT}{u:den t}{G:Nat}{cs:List Value}(s:i7 lab 0 w lab' w')(bx:iI lab' w' k G T cs)(h:(rep t).rd lab' w' cs u):
  LW P N ops [] ((d,.pointer (some ⟨G,0,none⟩))::F) w' (Fin N F e nid lab w (some d) (qF k nid T t u)):=
 LW.nil fun a ha=>⟨rfl,nj e nid ⟨some ⟨G,0,none⟩,0,0,0,0,.un,[]⟩,lab',_,ha,fun _ hi=>fv hi,s.stp (.inr rfl),⟨G,by rw[bE],rfl⟩,
  fun p hp=>by
   simp[qF]at hp;subst hp
   exact⟨G,cs,by rw[bE],bx,h⟩,
  fun p hp=>by simp[qF]at hp⟩
theorem Fu{t:PT}(hT:zk P T t)(k:Nat)(tp:cm lab w)(hw:Wn ops F g)(hd:Nat.blt d N=true):
  LW P N ops [⟨some d,.alloc T,ty,pos,af,g⟩] F w (Fin N F e nid lab w (some d) (qF k nid T t (zt t))):=
 LW.alloc k (zc t) hT.zero (sf t) tp hw hd fun _ _ _ s bx=>Du s bx (fA _ _ t)
theorem Li{t:PT}{u:den t}(hx:ev F x=some v)(hv:aV t u lab w v)(k:Nat)(tp:cm lab w)(hw:Wn ops F g)(hd:Nat.blt d N=true):
  LW P N ops [⟨some d,.box T x,ty,pos,af,g⟩] F w (Fin N F e nid lab w (some d) (qF k nid T t u)):=by
 obtain⟨cs,h1,h2⟩:=hv
 exact LW.box k cs hx (h2.cells ((rep t).one h1)) tp hw hd fun _ _ _ s bx=>Du s bx ((rep t).keep s.keeps h1)
def Bt(off:Nat):SV→Option SV
 | .ptr id o=>some (.ptr id (o+off))
 | .eptr id i o=>some (.eptr id i (o+off))
 | .dptr t x o=>some (.dptr t x (o+off))
 |_=>none
theorem Ll{f off:Nat}{sv':SV}(hf:vI P T f off)(hx:ev F x=some v)(hv:RV e a.1 lab w v)(hs:Bt off a.1=some sv')(tp:cm lab w)(hw:Wn ops F g)(hd:Nat.blt d N=true):
  LW P N ops [⟨some d,.fieldAddr T x f,ty,pos,af,g⟩] F w (Fin N F e nid lab w (some d) (o1 sv')):=by
 obtain⟨sv,m⟩:=a
 cases sv<;>first | (cases hs;done) |skip
 ·cases hs
  obtain⟨G,h1,rfl⟩:=hv
  refine LW.fldA hf hw hd hx (ap tp ?_)
  exact⟨G,h1,by rw[bR]⟩
 ·cases hs
  obtain⟨p,h1,rfl,hb⟩:=hv
  refine LW.fldA hf hw hd hx (ap tp ?_)
  exact⟨p,h1,by rw[fH],hb⟩
 ·cases hs
  obtain⟨p,cs,rfl,h1,h2⟩:=hv
  refine LW.fldA hf hw hd hx (ap tp ?_)
  exact⟨p,cs,by rw[fH],h1,h2⟩
theorem yX{sv':SV}(hx:ev F x=some v)(hv:RV e a.1 lab w v)(hs:Bt 0 a.1=some sv')(tp:cm lab w)(hw:Wn ops F g)(hd:Nat.blt d N=true):
  LW P N ops [⟨some d,.nilCheck x,ty,pos,af,g⟩] F w (Fin N F e nid lab w (some d) (o1 a.1)):=by
 obtain⟨sv,m⟩:=a
 cases sv<;>first | (cases hs;done) |skip
 ·have hv':=hv
  obtain⟨G,h1,rfl⟩:=hv
  exact LW.nilCheck hw hd hx (ap tp hv')
 ·have hv':=hv
  obtain⟨p,h1,rfl,_⟩:=hv
  exact LW.nilCheck hw hd hx (ap tp hv')
 ·have hv':=hv
  obtain⟨p,cs,rfl,h1,h2⟩:=hv
  exact LW.nilCheck hw hd hx (ap tp hv')
theorem bi(p:Addr):p.add 0=p:=by simp[Addr.add]
theorem A8{t:PT}{u:den t}{q:Addr}{cs:List Value}(hT:zk P T t)(h:(rep t).rd lab w cs u)(hc : ∀j c,cs[j]?=some c→w.cell? (q.add j)=some c): ∃v,(Instr.loadAt T (.pointer (some q))).run P w = .ok v w∧aV t u lab w v:=by
 have hl:cs.length=bZ t:=by rw[(rep t).len h,a_]
 cases ha:ja t with
 |true=>exact⟨_,pV (hT.agg ha) cs hl hc,cs,h,by unfold uS;rw[ha]⟩
 |false=>
  have h1:bZ t=1:=by cases t<;>first |rfl |cases ha
  obtain⟨c,rfl⟩:=List.length_eq_one_iff.1 (hl.trans h1)
  have:=hc 0 c rfl
  rw[bi]at this
  exact⟨c,pD (hT.one ha) this,[c],h,by unfold uS;rw[ha]⟩
theorem Fl{cs:List Value}{q:Addr}{o n:Nat}(hc : ∀j c,cs[j]?=some c→w.cell? (q.add j)=some c): ∀j c,((cs.drop o).take n)[j]?=some c→w.cell? ((q.add o).add j)=some c:=by
 intro j c hj
 rw[fH]
 have hlt:j<n:=by
  rcases Nat.lt_or_ge j n with h |h
  ·exact h
  ·rw[List.getElem?_eq_none (by simp;omega)]at hj;cases hj
 rw[List.getElem?_take_of_lt hlt,List.getElem?_drop]at hj
 exact hc _ _ hj
theorem lC{t u:PT}{q:Addr}{cs:List Value}{o:Nat}{X:den t}{Y:den u}(hT:zk P T u)(hx:ev F x=some (.pointer (some (q.add o))))(h:(rep t).rd lab w cs X)(hc : ∀j c,cs[j]?=some c→w.cell? (q.add j)=some c)(hg:eb t o u X=some Y)(tp:cm lab w)
  (hw:Wn ops F g) (hd:Nat.blt d N=true):LW P N ops [⟨some d,.load T x,ty,pos,af,g⟩] F w (Fin N F e nid lab w (some d) (o1 (.dat u Y))):=by
 obtain⟨v,h1,h2⟩:=A8 (P:=P) hT (wo h hg) (Fl hc)
 exact LW.val rfl hw rfl hd (fun a ha=>by simp[execOp,ha.eval hx,h1]) (ap tp h2)
theorem cY.elem{t:PT}{k E:Nat}{oa:Option Addr}{c i:Nat}{xs:List (den t)}{X:den t}{p:Addr}(o:cY (rep t) lab w k E oa c xs)(hp:Mb oa (bZ t) i p)(hX:xs[i]?=some X): ∃cs,(rep t).rd lab w cs X∧∀j c,cs[j]?=some c→w.cell? (p.add j)=some c:=by
 obtain⟨ad,h1,rfl⟩:=hp
 obtain⟨_,ad',cs,h2,h3,h4⟩ : ∃_:True,∃ad' cs,oa=some ad'∧(rep t).rd (Gk.mask lab k) w cs X∧At (Gk.mask lab k) w (ad'.add (i*(rep t).sz)) cs:=by
  obtain⟨ad',cs,a1,a2,a3⟩:=o.view.at_ hX
  exact⟨trivial,ad',cs,a1,a2,a3⟩
 rw[h1]at h2;cases h2
 obtain⟨css,b1,b2⟩:=o
 obtain⟨cs0,hc0,hrd0⟩:=b1.get hX
 have l0:=(rep t).len hrd0
 have l1:=(rep t).len h3
 refine⟨cs0,hrd0,?_⟩
 rcases b2 with⟨hh,_⟩ | ⟨g',du,ha,hg,c3,c4,c5,c6,c7⟩
 ·rw[h1]at hh;cases hh
 ·rw[h1]at ha;cases ha
  intro j c hj
  have hlt:i<xs.length:=(List.getElem?_eq_some_iff.1 hX).1
  have hjs:j<(rep t).sz:=by
   rw[←l0];exact(List.getElem?_eq_some_iff.1 hj).1
  have e1:=gP css (fun cs h=>(b1.each cs h).1) i j cs0 hc0 hjs
  rw[←c6,List.getElem?_take_of_lt (by
   have:(i+1)*(rep t).sz≤xs.length*(rep t).sz:=Nat.mul_le_mul_right _ hlt
   rw[Nat.add_mul]at this;omega),hj]at e1
  rw[fH,bR,Nat.zero_add,cell_of_row w g' _ du E (0,0) hg,←a_]
  simpa using e1
def Hj:List (Nat×Nat)→Nat→Nat→Bool
 | [],_,_=>true
 | (off,_)::r,o,n=>(Nat.blt off o||Nat.ble (o+n) off)&&Hj r o n
theorem yY : ∀{hs:List (Nat×Nat)} {o n:Nat},Hj hs o n=true→∀j,j<n→∀h∈hs,h.1≠o+j
 | [],_,_,_,_,_,_,h=>by cases h
 | (off,r)::l,o,n,hf,j,hj,h,hm=>by
  unfold Hj at hf
  simp only[Bool.and_eq_true,Bool.or_eq_true]at hf
  rcases List.mem_cons.1 hm with rfl |hm
  ·show off≠o+j
   rcases hf.1 with h |h
   ·have:=jX h;omega
   ·have:=Nat.le_of_ble_eq_true h;omega
  ·exact yY hf.2 j hj h hm
def CN(hs:List (Nat×Nat))(o:Nat)(t:PT):Option (Nat×Nat):=
 match hs with
 | [(off,rid)]=>match Nat.beq o 0&&(ja t&&Nat.blt off (bZ t))with
  |true=>some (off,rid)
  |false=>none
 |_=>none
theorem E9{hs:List (Nat×Nat)}{o off rid:Nat}{t:PT}(h:CN hs o t=some (off,rid)):hs = [(off,rid)]∧o=0∧ja t=true:=by
 unfold CN at h
 split at h
 ·split at h
  ·rename_i hb
   cases h
   simp only[Bool.and_eq_true]at hb
   exact⟨rfl,Nat.eq_of_beq_eq_true hb.1,hb.2.1⟩
  ·cases h
 ·cases h
def Cg{P:Program}(e:TE P)(a:RA):aO:=
 match a with
 | (.ptr _ o,some (.box _ _ t X))=>match eb t o e.pt X with
  |some Y=>.ret (o1 (.dat e.pt Y))
  |none=>.stuck
 | (.ptr _ o,some (.boxh _ _ t X hs))=>match CN hs o e.pt,bh t e.pt X with
  |some (off,rid),some Y=>.ret (o1 (.agh e.pt Y off rid))
  |_,_=>match ll hs o with
   |some rid=>match ja e.pt with
    |false=>.ret (o1 (.own rid))
    |true=>.stuck
   |none=>match Hj hs o (bZ e.pt),eb t o e.pt X with
    |true,some Y=>.ret (o1 (.dat e.pt Y))
    |_,_=>.stuck
 | (.dptr t X o,_)=>match eb t o e.pt X with
  |some Y=>.ret (o1 (.dat e.pt Y))
  |none=>.stuck
 | (.dat (.cp t) y,_)=>.bnd (den t) y fun X=>match eb t 0 e.pt X with
  |some Y=>.ret (o1 (.dat e.pt Y))
  |none=>.stuck
 | (.eptr _ i o,some (.row _ _ t xs))=>.bnd (den t) (az xs (i:Int)) fun X=>match eb t o e.pt X with
  |some Y=>.ret (o1 (.dat e.pt Y))
  |none=>.stuck
 |_=>.stuck
theorem uR{α:Type}{xs:List α}{i:Nat}{X:α}(h:az xs (i:Int)=some X):xs[i]?=some X:=by
 unfold az at h
 rw[if_pos (by omega)]at h
 simpa using h
theorem GH{te:TE P}{out:cL}(hT:te.id=T)(hx:ev F x=some v)(hv:eu e lab w a v)(hr:ed (Cg te a) out)(tp:cm lab w)(hw:Wn ops F g)(hd:Nat.blt d N=true):
  LW P N ops [⟨some d,.load T x,ty,pos,af,g⟩] F w (Fin N F e nid lab w (some d) out):=by
 subst hT
 obtain⟨h1,h2⟩:=hv
 unfold Cg at hr
 split at hr
 ·split at hr
  ·rename_i id o k T' t X _ Y hg
   obtain rfl:=hr.ret_eq
   obtain⟨G,cs,b1,b2,b3⟩:=h2 _ rfl
   obtain⟨G',b4,rfl⟩:=h1
   have b1:(e id).oa=some ⟨G,0,none⟩:=b1
   rw[b1]at b4;cases b4
   refine lC (q:=⟨G,0,none⟩) te.ok (by rw[hx,bR,Nat.zero_add]) b3 (fun j c hj=>?_) hg tp hw hd
   rw[bR,Nat.zero_add,b2.cell];exact hj
  ·cases hr
 ·rename_i id o k T' t X hs
  obtain⟨G,cs,b1,b2,b3,b4,_⟩:=h2 _ rfl
  obtain⟨G',b5,rfl⟩:=h1
  have b1:(e id).oa=some ⟨G,0,none⟩:=b1
  rw[b1]at b5;cases b5
  split at hr
  ·rename_i off rid Y hone hcast
   obtain rfl:=hr.ret_eq
   obtain⟨rfl,rfl,hag⟩:=E9 hone
   obtain⟨rfl,rfl⟩:=ay hcast
   have hl:cs.length=bZ te.pt:=by
    have:=(rep te.pt).len b3
    rw[pA]at this;rw[this,a_]
   have hrun:=pV (P:=P) (te.ok.agg hag) (p:=(⟨G,0,none⟩:Addr)) cs hl fun j c hj=>by
    rw[bR,Nat.zero_add,b2.cell];exact hj
   exact LW.val rfl hw rfl hd (fun a ha=>by simp[execOp,ha.eval hx,hrun]) (ap tp ⟨cs,rfl,b3,b4 (off,rid) (by simp)⟩)
  split at hr
  ·rename_i rid hb
   have b4:=b4 _ (iF hb)
   split at hr
   ·rename_i ha
    obtain rfl:=hr.ret_eq
    refine LW.loadB1 b2 (te.ok.one ha) b4 hw hd hx (ap tp ?_)
    exact rfl
   ·cases hr
  ·split at hr
   ·rename_i Y hrange hg
    obtain rfl:=hr.ret_eq
    have hne:=yY hrange
    obtain⟨v,e1,e2⟩:=A8 (P:=P) (w:=w) (q:=(⟨G,o,none⟩:Addr)) te.ok (wo b3 hg) (fun j c hj=>by
     have hlt:j<bZ te.pt:=by
      rcases Nat.lt_or_ge j (bZ te.pt)with h |h
      ·exact h
      ·rw[List.getElem?_eq_none (by simp;omega)]at hj;cases hj
     rw[List.getElem?_take_of_lt hlt,List.getElem?_drop,BY (hne j hlt)]at hj
     rw[bR,b2.cell];exact hj)
    exact LW.val rfl hw rfl hd (fun a ha=>by simp[execOp,ha.eval hx,e1]) (ap tp e2)
   ·cases hr
 ·split at hr
  ·rename_i t X o _ Y hg
   obtain rfl:=hr.ret_eq
   obtain⟨p,cs,rfl,h3,h4⟩:=h1
   exact lC te.ok hx h4 (fun j c hj=>(h3 j c hj).2) hg tp hw hd
  ·cases hr
 ·rename_i t y _
  cases hr with
  |bnd hX hr=>
   dsimp only at hr
   split at hr
   ·rename_i X Y hg
    obtain rfl:=hr.ret_eq
    obtain⟨cs,c1,c2⟩:=h1
    have c2:cs = [v]:=c2
    subst hX
    obtain⟨q,ds,c3,c4,c5⟩:=c1
    rw[c2]at c3
    have c3:v = .pointer (some q):=by simpa using c3
    subst c3
    exact lC (o:=0) te.ok (by rw[hx,bi]) c5 (fun j c hj=>(c4 j c hj).2) hg tp hw hd
   ·cases hr
 ·rename_i id i o k E t xs
  cases hr with
  |bnd hX hr=>
   dsimp only at hr
   split at hr
   ·rename_i Y hg
    obtain rfl:=hr.ret_eq
    obtain⟨b1,b2,b3⟩:=h2 _ rfl
    obtain⟨p,b4,rfl,_⟩:=h1
    have b2:(e id).sz=bZ t:=b2
    rw[b2]at b4
    obtain⟨cs,c1,c2⟩:=b3.elem b4 (uR hX)
    exact lC te.ok hx c1 c2 hg tp hw hd
   ·cases hr
 ·cases hr
theorem xZ{t u:PT}{k G o:Nat}{T':TypeId}{cs:List Value}{X X':den t}{Y:den u}(hk:Nat.beq k 0=false)(hT:zk P T u)(b:iI lab w k G T' cs)(h:(rep t).rd lab w cs X)(hv:aV u Y lab w v)(hs:cW t o u X Y=some X')(tp:cm lab w):
  ∃w' cs',(Instr.storeAt T (.pointer (some ⟨G,o,none⟩)) v).run P w = .ok () w'∧i7 lab k w lab w'∧iI lab w' k G T' cs'∧(rep t).rd lab w' cs' X':=by
 obtain⟨vs,h1,h2⟩:=hv
 obtain⟨hle,hrd⟩:=gL h h1 hs
 have hl:vs.length=bZ u:=by rw[(rep u).len h1,a_]
 have hone:=(rep u).one h1
 cases ha:ja u with
 |true=>
  have hv:v = .agg vs.toArray:=by unfold uS at h2;rw[ha]at h2;exact h2
  subst hv
  obtain⟨w',hr,b',hst⟩:=er (P:=P) vs o cs w b (by omega) hone 0 o rfl
  refine⟨w',_,?_,hst tp hk,b',?_⟩
  ·simp only[Instr.storeAt,Instr.sureAddr,storeVar,Sem.run_bind,Sem.run_pure,Result.andThen_ok,(hT.agg ha).size w,Value.cells,List.size_toArray,hl,ne_eq,not_true_eq_false,if_false,hr]
  ·rw[hl];exact(rep t).keep (hst tp hk).keeps hrd
 |false=>
  have hv:vs = [v]:=by unfold uS at h2;rw[ha]at h2;exact h2
  subst hv
  have hc1:bZ u=1:=by rw[←hl];rfl
  have hlt:o<cs.length:=by omega
  have hcell:w.cell? ⟨G,o,none⟩=some cs[o]:=(b.cell o).trans (List.getElem?_eq_getElem hlt)
  have hr:=nR (P:=P) (hT.one ha) (uS.cells h2 hone) (hone v (by simp)) hcell (b.frozen o)
  refine⟨_,_,hr,i7.setCell tp hk b.2 v,b.set v,?_⟩
  have e:cs.set o v=cs.take o ++ [v]++cs.drop (o+bZ u):=by
   rw[hc1,List.set_eq_take_append_cons_drop,if_pos hlt];simp
  rw[e]
  exact(rep t).keep (i7.setCell tp hk b.2 v).keeps hrd
theorem EY{t u:PT}{k E c o i:Nat}{oa:Option Addr}{xs:List (den t)}{X X':den t}{Y:den u}{p:Addr}(hk:Nat.beq k 0=false)(hT:zk P T u)(b:cY (rep t) lab w k E oa c xs)(hp:Mb oa (bZ t) i p)(hX:xs[i]?=some X)(hv:aV u Y lab w v)(hs:cW t o u X Y=some X')
  (ho:(Nat.beq o 0&&Nat.beq (bZ u) (bZ t)||!ja u)=true) (tp:cm lab w) :
  ∃w',(Instr.storeAt T (.pointer (some (p.add o))) v).run P w = .ok () w'∧i7 lab k w lab w'∧cY (rep t) lab w' k E oa c (xs.set i X'):=by
 obtain⟨vs,h1,h2⟩:=hv
 obtain⟨cs,hcs,hat⟩:=b.elem hp hX
 obtain⟨hle,hrd⟩:=gL hcs h1 hs
 have hl:vs.length=bZ u:=by rw[(rep u).len h1,a_]
 have hlc:cs.length=bZ t:=by rw[(rep t).len hcs,a_]
 have hone:=(rep u).one h1
 rw[←a_]at hp
 cases ha:ja u with
 |true=>
  have hv:v = .agg vs.toArray:=by unfold uS at h2;rw[ha]at h2;exact h2
  subst hv
  rw[ha]at ho
  simp only[Bool.not_true,Bool.or_false,Bool.and_eq_true]at ho
  have ho1:=Nat.eq_of_beq_eq_true ho.1
  have ho2:=Nat.eq_of_beq_eq_true ho.2
  subst ho1
  have hrd':(rep t).rd lab w vs X':=by
   have:cs.take 0++vs++cs.drop (0+bZ u)=vs:=by
    rw[List.take_zero,List.nil_append,List.drop_of_length_le (by omega),List.append_nil]
   rw[this]at hrd;exact hrd
  obtain⟨w',hr,hst,ho'⟩:=B9 (P:=P) tp hk b hp hX (by rw[hl,ho2,a_]) hone hrd'
  refine⟨w',?_,hst,ho'⟩
  rw[bi]
  simp only[Instr.storeAt,Instr.sureAddr,storeVar,Sem.run_bind,Sem.run_pure,Result.andThen_ok,(hT.agg ha).size w,Value.cells,List.size_toArray,hl,ne_eq,not_true_eq_false,if_false,hr]
 |false=>
  have hv:vs = [v]:=by unfold uS at h2;rw[ha]at h2;exact h2
  subst hv
  have hc1:bZ u=1:=by rw[←hl];rfl
  have hlt:o<cs.length:=by omega
  have e:cs.set o v=cs.take o ++ [v]++cs.drop (o+bZ u):=by
   rw[hc1,List.set_eq_take_append_cons_drop,if_pos hlt];simp
  -- where it lies counts as data under the mask
  have hatm:At (Gk.mask lab k) w p cs:=by
   obtain⟨ad,q1,q2⟩:=hp
   obtain⟨css,b1,b2⟩:=b
   rcases b2 with⟨hh,_⟩ | ⟨g',du,hq,hg,c3,c4,c5,c6,c7⟩
   ·rw[q1]at hh;cases hh
   ·rw[q1]at hq;cases hq
    subst q2
    intro j c hj
    refine⟨by rw[ej];show Gk.mask lab k g'=0;unfold Gk.mask;rw[if_pos c7],hat j c hj⟩
  obtain⟨⟨cu,hcu⟩,hf,hst,ho'⟩:=yD (off:=o) (v:=v) tp hk b hp hatm hX (by rw[hlc,a_]) (by rw[a_];omega) (by rw[e];exact hrd)
  exact⟨_,nR (P:=P) (hT.one ha) (uS.cells h2 hone) (hone v (by simp)) hcu hf,hst,ho'⟩
def zQ{P:Program}(e:TE P)(a b:RA):aO:=
 match uN e.pt b with
 |none=>.stuck
 |some Y=>match a with
  | (.ptr id o,some (.box k T t X))=>match Nat.beq k 0,cW t o e.pt X Y with
   |false,some X'=>.ret ⟨.und,[k],[(id,.box k T t X')],[]⟩
   |_,_=>.stuck
  | (.eptr id i o,some (.row k E t xs))=>match Nat.beq k 0,Nat.beq o 0&&Nat.beq (bZ e.pt) (bZ t)||!ja e.pt with
   |false,true=>.bnd (den t) (az xs (i:Int)) fun X=>match cW t o e.pt X Y with
    |some X'=>.letm (List (den t)) (xs.set i X') fun zs=>.ret ⟨.und,[k],[(id,.row k E t zs)],[]⟩
    |none=>.stuck
   |_,_=>.stuck
  |_=>.stuck
theorem F7{te:TE P}{out:cL}{u:Value}(hT:te.id=T)(hx:ev F x=some v)(hy:ev F y=some u)(hv:eu e lab w a v)(hu:eu e lab w b u)(hr:ed (zQ te a b) out)(tp:cm lab w)(hw:Wn ops F g):
  LW P N ops [⟨none,.store T x y,ty,pos,af,g⟩] F w (Fin N F e nid lab w none out):=by
 subst hT
 unfold zQ at hr
 split at hr
 ·cases hr
 rename_i Y hY
 have hd:=dt hu hY
 obtain⟨h1,h2⟩:=hv
 split at hr
 ·split at hr
  ·rename_i id o k T' t X _ _ X' hk hs
   obtain rfl:=hr.ret_eq
   obtain⟨G,cs,b1,b2,b3⟩:=h2 _ rfl
   obtain⟨G',b4,rfl⟩:=h1
   have b1:(e id).oa=some ⟨G,0,none⟩:=b1
   rw[b1]at b4;cases b4
   obtain⟨w',cs',r1,r2,r3,r4⟩:=xZ (P:=P) hk te.ok b2 b3 hd hs tp
   refine LW.gen rfl hw fun q hq=>?_
   unfold Oper.wp
   simp only[execOp,hq.eval hx,hq.eval hy,Sem.run_bind,r1,Result.andThen_ok,Sem.run_pure,Oper.upon_skip]
   refine wpList_nil ⟨rfl,e,lab,undef,hq.none_ undef,fun _ _=>rfl,r2.stp (.inl (by simp)),rfl,fun p hp=>?_,fun p hp=>by simp at hp⟩
   simp at hp;subst hp
   exact⟨G,cs',b1,r3,r4⟩
  ·cases hr
 ·split at hr
  ·rename_i id i o k E t xs _ _ hk ho
   cases hr with
   |bnd hX hr=>
    dsimp only at hr
    split at hr
    ·rename_i X _ X' hs
     cases hr with
     |letm hr=>
      obtain rfl:=hr.ret_eq
      obtain⟨b1,b2,b3⟩:=h2 _ rfl
      obtain⟨p,b4,rfl,_⟩:=h1
      have b2:(e id).sz=bZ t:=b2
      have b1:(e id).n=xs.length:=b1
      rw[b2]at b4
      obtain⟨w',r1,r2,r3⟩:=EY (P:=P) hk te.ok b3 b4 (uR hX) hd hs ho tp
      refine LW.gen rfl hw fun q hq=>?_
      unfold Oper.wp
      simp only[execOp,hq.eval hx,hq.eval hy,Sem.run_bind,r1,Result.andThen_ok,Sem.run_pure,Oper.upon_skip]
      refine wpList_nil ⟨rfl,e,lab,undef,hq.none_ undef,fun _ _=>rfl,r2.stp (.inl (by simp)),rfl,fun p hp=>?_,fun p hp=>by simp at hp⟩
      simp at hp;subst hp
      exact⟨by rw[b1];simp,b2,r3⟩
    ·cases hr
  ·cases hr
 ·cases hr
def yj(nid:Nat):List (Nat×TypeId×PT)→List (Nat×Nat)
 | []=>[]
 | (off,_)::r=>(off,nid)::yj (nid+1) r
def uM(nid kh:Nat):List (Nat×TypeId×PT)→List (Nat×dq)
 | []=>[]
 | (off,el,u)::r=>(nid,.row (128*kh+off) el u [])::uM (nid+1) kh r
def AO(e:f7)(nid:Nat):List (Nat×TypeId×PT)→f7
 | []=>e
 | (_,_,u)::r=>nj (AO e (nid+1) r) nid ⟨none,0,0,bZ u,0,.un,[]⟩
def zO:List (Nat×TypeId×PT)→Bool
 | []=>true
 | (off,_)::r=>r.all (fun x=>!Nat.beq x.1 off)&&zO r
theorem wY : ∀{e:f7} {l:List (Nat×TypeId×PT)} {nid i:Nat},i<nid∨nid+l.length≤i→AO e nid l i=e i
 |_,[],_,_,_=>rfl
 |e,(_,_,u)::r,nid,i,h=>by
  show nj _ nid _ i=_
  rw[List.length_cons]at h
  rw[gh (by omega),wY (by omega)]
theorem yq : ∀{l:List (Nat×TypeId×PT)} {nid:Nat},(yj nid l).map (·.1)=l.map (·.1)
 | [],_=>rfl
 | (_,_)::r,nid=>by
  show _::(yj (nid+1) r).map _=_
  rw[yq];rfl
theorem xO : ∀{l:List (Nat×TypeId×PT)},zO l=true→(l.map (·.1)).Nodup
 | [],_=>List.nodup_nil
 | (off,q)::r,h=>by
  unfold zO at h
  rw[Bool.and_eq_true,List.all_eq_true]at h
  refine List.nodup_cons.2 ⟨fun hm=>?_,xO h.2⟩
  obtain⟨x,hx,he⟩:=List.mem_map.1 hm
  have:=h.1 x hx
  have he:x.1=off:=he
  rw[he]at this;simp at this
theorem wC : ∀{e:f7} {l:List (Nat×TypeId×PT)} {nid:Nat},∀h∈yj nid l,(∃x∈l,x.1=h.1)∧nid≤h.2∧(AO e nid l h.2).oa=none∧(AO e nid l h.2).n=0∧(AO e nid l h.2).c=0
 |_,[],_,_,h=>by cases h
 |e,(off,el,u)::r,nid,h,hm=>by
  rcases List.mem_cons.1 hm with rfl |hm
  ·refine⟨⟨_,List.mem_cons_self,rfl⟩,Nat.le_refl _,?_⟩
   show(nj _ nid _ nid).oa=_∧(nj _ nid _ nid).n=_∧(nj _ nid _ nid).c=_
   rw[bE];exact⟨rfl,rfl,rfl⟩
  ·obtain⟨⟨x,h1,h1'⟩,h2,h3⟩:=wC (e:=e) h hm
   refine⟨⟨x,List.mem_cons_of_mem _ h1,h1'⟩,by omega,?_⟩
   show(nj _ nid _ h.2).oa=_∧(nj _ nid _ h.2).n=_∧(nj _ nid _ h.2).c=_
   rw[gh (by omega)];exact h3
theorem vT{lab:bf}{w:World}: ∀{e:f7} {l:List (Nat×TypeId×PT)} {nid kh:Nat},∀p∈uM nid kh l,nid≤p.1∧bg (AO e nid l) lab w p.1 p.2
 |_,[],_,_,_,h=>by cases h
 |e,(off,el,u)::r,nid,kh,p,hp=>by
  rcases List.mem_cons.1 hp with rfl |hp
  ·refine⟨Nat.le_refl _,?_⟩
   show bg _ _ _ nid (.row _ _ _ _)
   simp only[bg,AO,bE]
   exact⟨rfl,trivial,cY.nil⟩
  ·obtain⟨h1,h2⟩:=vT (e:=e) p hp
   refine⟨by omega,h2.env ?_ ?_⟩
   ·show nj _ nid _ p.1=_
    rw[gh (by omega)]
   ·intro i hi
    have:fi p.2 = []:=by
     clear h2 hi h1
     have key : ∀{l:List (Nat×TypeId×PT)} {nid:Nat},p∈uM nid kh l→fi p.2 = []:=by
      intro l
      induction l with
      |nil=>intro nid h;cases h
      |cons x r ih=>
       intro nid h
       rcases List.mem_cons.1 h with rfl |h
       ·rfl
       ·exact ih h
     exact key hp
    rw[this]at hi;cases hi
def vQ(nid kh:Nat)(a:RA)(t2:PT)(X2:den t2)(l:List (Nat×TypeId×PT)):aO:=
 match a with
 | (.ptr id 0,some (.box k T t _))=>match Nat.beq k 0,Nat.beq kh 0||!(zO l&&Nat.ble l.length 4),ja t,bh t2 t X2 with
  |false,false,true,some X'=>.ret ⟨.und,[k,kh],(id,.boxh k T t X' (yj nid l))::uM nid kh l,[]⟩
  |_,_,_,_=>.stuck
 |_=>.stuck
theorem Ch{te:TE P}{t2:PT}{X2:den t2}{l:List (Nat×TypeId×PT)}{kh:Nat}{out:cL}{u:Value}(hT:te.id=T)(hpt:PT.eqb te.pt t2=true)(hx:ev F x=some v)(hy:ev F y=some u)(hv:eu e lab w a v)(hu:aV t2 X2 lab w u∧∃cs,u = .agg cs∧∀h∈l,cs[h.1]?=some (.slice none 0 0))(hr:ed (vQ nid kh a t2 X2 l) out)(hlt : ∀i∈gZ a.1,i<nid)(tp:cm lab w)(hw:Wn ops F g):
  LW P N ops [⟨none,.store T x y,ty,pos,af,g⟩] F w (Fin N F e nid lab w none out):=by
 subst hT
 obtain⟨h1,h2⟩:=hv
 unfold vQ at hr
 split at hr
 ·rename_i id k T' t X
  split at hr
  ·rename_i X' hk hkh hag hs
   obtain rfl:=hr.ret_eq
   obtain⟨G,cs,b1,b2,b3⟩:=h2 _ rfl
   obtain⟨G',b4,rfl⟩:=h1
   have b1:(e id).oa=some ⟨G,0,none⟩:=b1
   rw[b1]at b4;cases b4
   obtain⟨rfl,rfl⟩:=ay hs
   have hte:te.pt=t2:=PT.eqb_eq hpt
   obtain⟨hd,cs2,hu2,hoff⟩:=hu
   obtain⟨vs,c1,c2⟩:=hd
   have hv2:u = .agg vs.toArray:=by unfold uS at c2;rw[hag]at c2;exact c2
   have e1:cs2=vs.toArray:=by rw[hu2]at hv2;injection hv2
   have hoff : ∀h∈l,vs[h.1]?=some (.slice none 0 0):=fun h hm=>by have:=hoff h hm;rw[e1]at this;simpa using this
   subst hv2
   have hl:vs.length=bZ t2:=by rw[(rep t2).len c1,a_]
   have hl2:cs.length=bZ t2:=by rw[(rep t2).len b3,a_]
   obtain⟨w',hr,b',hst⟩:=er (P:=P) vs 0 cs w b2 (by omega) ((rep t2).one c1) 0 0 rfl
   rw[List.take_zero,List.nil_append,List.drop_of_length_le (by omega),List.append_nil]at b'
   have hid:id<nid:=hlt id (List.mem_singleton.2 rfl)
   have hrun:(Instr.storeAt te.id (.pointer (some ⟨G,0,none⟩)) (.agg vs.toArray)).run P w = .ok () w':=by
    have hA:=te.ok.agg (by rw[hte];exact hag)
    have:bZ te.pt=vs.length:=by rw[hte,hl]
    simp only[Instr.storeAt,Instr.sureAddr,storeVar,Sem.run_bind,Sem.run_pure,Result.andThen_ok,hA.size w,Value.cells,List.size_toArray,this,ne_eq,not_true_eq_false,if_false,hr]
   refine LW.gen rfl hw fun q hq=>?_
   unfold Oper.wp
   simp only[execOp,hq.eval hx,hq.eval hy,Sem.run_bind,hrun,Result.andThen_ok,Sem.run_pure,Oper.upon_skip]
   rw[Bool.or_eq_false_iff]at hkh
   have hnd:=hkh.2
   rw[Bool.not_eq_false',Bool.and_eq_true]at hnd
   have hlen:l.length≤4:=Nat.le_of_ble_eq_true hnd.2
   refine wpList_nil ⟨rfl,AO e nid l,lab,undef,hq.none_ undef,fun _ hi=>wY (by omega),(hst tp hk).stp (.inl (by simp)),rfl,fun p hp=>?_,fun p hp=>by simp at hp⟩
   have hnil : ∀h∈yj nid l,vs[h.1]?=some (.slice none 0 0):=fun h hm=>by
    obtain⟨⟨x,hx,he⟩,_⟩:=wC (e:=e) h hm
    rw[←he];exact hoff x hx
   rcases List.mem_cons.1 hp with rfl |hp
   ·refine⟨G,vs,by rw[wY (.inl hid)];exact b1,b',?_,fun h hm=>?_,by rw[yq];exact xO hnd.1⟩
    ·rw[D' hnil];exact(rep _).keep (hst tp hk).keeps c1
    ·obtain⟨_,_,q1,q2,q3⟩:=wC (e:=e) h hm
     rw[q1,q2,q3];exact hnil h hm
   ·exact(vT p hp).2
  ·cases hr
 ·cases hr
def v_(a:RA)(t2:PT)(X2:den t2)(off rid:Nat):aO:=
 match a with
 | (.ptr id 0,some (.box k T t _))=>match Nat.beq k 0,ja t,bh t2 t X2 with
  |false,true,some X'=>.ret ⟨.und,[k],[(id,.boxh k T t X' [(off,rid)])],[]⟩
  |_,_,_=>.stuck
 |_=>.stuck
theorem CT{te:TE P}{t2:PT}{X2:den t2}{off rid:Nat}{out:cL}{u:Value}(hT:te.id=T)(hpt:PT.eqb te.pt t2=true)(hx:ev F x=some v)(hy:ev F y=some u)(hv:eu e lab w a v)(hu : ∃cs:List Value,u = .agg cs.toArray∧(rep t2).rd lab w (cs.set off (.slice none 0 0)) X2∧cs[off]?=some (.slice (e rid).oa (e rid).n (e rid).c))(hr:ed (v_ a t2 X2 off rid) out)(tp:cm lab w)(hw:Wn ops F g):
  LW P N ops [⟨none,.store T x y,ty,pos,af,g⟩] F w (Fin N F e nid lab w none out):=by
 subst hT
 obtain⟨h1,h2⟩:=hv
 unfold v_ at hr
 split at hr
 ·rename_i id k T' t X
  split at hr
  ·rename_i X' hk hag hs
   obtain rfl:=hr.ret_eq
   obtain⟨G,cs,b1,b2,b3⟩:=h2 _ rfl
   obtain⟨G',b4,rfl⟩:=h1
   have b1:(e id).oa=some ⟨G,0,none⟩:=b1
   rw[b1]at b4;cases b4
   obtain⟨rfl,rfl⟩:=ay hs
   have hte:te.pt=t2:=PT.eqb_eq hpt
   obtain⟨vs,rfl,c1,hoff⟩:=hu
   have hl:vs.length=bZ t2:=by
    have:=(rep t2).len c1
    rw[List.length_set]at this;rw[this,a_]
   have hl2:cs.length=bZ t2:=by rw[(rep t2).len b3,a_]
   have hone : ∀u∈vs,u.oneCell'=true:=fun u hm=>by
    obtain⟨i,hi⟩:=List.getElem?_of_mem hm
    by_cases hio:i=off
    ·subst hio
     rw[hoff]at hi;cases hi;rfl
    ·exact(rep t2).one c1 u (List.mem_of_getElem? (i:=i) (by rw[List.getElem?_set_ne (Ne.symm hio)];exact hi))
   obtain⟨w',hr,b',hst⟩:=er (P:=P) vs 0 cs w b2 (by omega) hone 0 0 rfl
   rw[List.take_zero,List.nil_append,List.drop_of_length_le (by omega),List.append_nil]at b'
   have hrun:(Instr.storeAt te.id (.pointer (some ⟨G,0,none⟩)) (.agg vs.toArray)).run P w = .ok () w':=by
    have hA:=te.ok.agg (by rw[hte];exact hag)
    have:bZ te.pt=vs.length:=by rw[hte,hl]
    simp only[Instr.storeAt,Instr.sureAddr,storeVar,Sem.run_bind,Sem.run_pure,Result.andThen_ok,hA.size w,Value.cells,List.size_toArray,this,ne_eq,not_true_eq_false,if_false,hr]
   refine LW.gen rfl hw fun q hq=>?_
   unfold Oper.wp
   simp only[execOp,hq.eval hx,hq.eval hy,Sem.run_bind,hrun,Result.andThen_ok,Sem.run_pure,Oper.upon_skip]
   refine wpList_nil ⟨rfl,e,lab,undef,hq.none_ undef,fun _ _=>rfl,(hst tp hk).stp (.inl (by simp)),rfl,fun p hp=>?_,fun p hp=>by simp at hp⟩
   simp at hp;subst hp
   refine⟨G,vs,b1,b',(rep _).keep (hst tp hk).keeps c1,fun h hm=>?_,by simp⟩
   simp at hm;subst hm
   exact hoff
  ·cases hr
 ·cases hr
def ry{P:Program}(e:TE P)(el:TypeId)(nid kh:Nat)(a:RA)(b:SV):aO:=
 match e.pt,a,b with
 | .sl pt,(.ptr id o,some (.box k T t X)),.nil=>match Nat.beq k 0,Nat.beq kh 0,cW t o (.sl pt) X []with
  |false,false,some X'=>.ret ⟨.und,[k,kh],[(id,.boxh k T t X' [(o,nid)]),(nid,.row kh el pt [])],[]⟩
  |_,_,_=>.stuck
 | .sl pt,(.ptr id o,some (.boxh k T t X hs)),.nil=>match Nat.beq k 0,Nat.beq kh 0,ll hs o with
  |false,false,some _=>.ret ⟨.und,[k,kh],[(id,.boxh k T t X (oH hs o nid)),(nid,.row kh el pt [])],[]⟩
  |_,_,_=>.stuck
 | .sl pt,(.ptr id o,some (.box k T t X)),.own rid=>match Nat.beq k 0,cW t o (.sl pt) X []with
  |false,some X'=>.ret ⟨.und,[k],[(id,.boxh k T t X' [(o,rid)])],[]⟩
  |_,_=>.stuck
 | .sl pt,(.ptr id o,some (.boxh k T t X hs)),.own rid=>match Nat.beq k 0,ll hs o with
  |false,some _=>.ret ⟨.und,[k],[(id,.boxh k T t X (oH hs o rid))],[]⟩
  |false,none=>match cW t o (.sl pt) X []with
   |some X'=>.ret ⟨.und,[k],[(id,.boxh k T t X' ((o,rid)::hs))],[]⟩
   |none=>.stuck
  |_,_=>.stuck
 |_,_,_=>.stuck
theorem jQ{k G o:Nat}{T':TypeId}{cs:List Value}{u c:Value}(hk:Nat.beq k 0=false)(hT:iS P T)(b:iI lab w k G T' cs)(hv:u.oneCell'=true)(hcs:u.cells = #[u])(hc:cs[o]?=some c)(tp:cm lab w):
  ∃w',(Instr.storeAt T (.pointer (some ⟨G,o,none⟩)) u).run P w = .ok () w'∧i7 lab k w lab w'∧iI lab w' k G T' (cs.set o u):=
 ⟨_,nR (P:=P) hT hcs hv ((b.cell o).trans hc) (b.frozen o),i7.setCell tp hk b.2 u,b.set u⟩
theorem zE{t pt:PT}{o:Nat}{cs:List Value}{X X':den t}(h:(rep t).rd lab w cs X)(hs:cW t o (.sl pt) X ([]:List (den pt))=some X'):o<cs.length∧(rep t).rd lab w (cs.set o (.slice none 0 0)) X':=by
 obtain⟨hle,hrd⟩:=gL (u:=.sl pt) (y:=([]:List (den pt))) (vs:=[.slice none 0 0]) h ⟨none,0,rfl,SL.nil⟩ hs
 have hle:o+1≤cs.length:=hle
 refine⟨by omega,?_⟩
 have e:cs.set o (.slice none 0 0)=cs.take o ++ [.slice none 0 0]++cs.drop (o+bZ (.sl pt)):=by
  rw[List.set_eq_take_append_cons_drop,if_pos (by omega)];simp[bZ]
 rw[e];exact hrd
theorem Er{e e':f7}{lab:bf}{w':World}{id k T G o rid r0:Nat}{t:PT}{X:den t}{hs:List (Nat×Nat)}{cs:List Value}{u:Value}(he : ∀h∈hs,e' h.2=e h.2)(b1:(e' id).oa=some ⟨G,0,none⟩)(r3:iI lab w' k G T (cs.set o u))(hu:u = .slice (e' rid).oa (e' rid).n (e' rid).c)(b3:(rep t).rd lab w' (oz cs hs) X)(b4 : ∀h∈hs,cs[h.1]?=some (.slice (e h.2).oa (e h.2).n (e h.2).c))(b5:(hs.map (·.1)).Nodup)(ho:ll hs o=some r0):bg e' lab w' id (.boxh k T t X (oH hs o rid)):=by
 have hm0:=iF ho
 have hlo:o<cs.length:=(List.getElem?_eq_some_iff.1 (b4 _ hm0)).1
 refine⟨G,cs.set o u,b1,r3,?_,fun h hm=>?_,by rw[ly];exact b5⟩
 ·rw[uT ly,Ep ⟨_,hm0,rfl⟩];exact b3
 ·rcases mY hm with rfl | ⟨h1,h2⟩
  ·show(cs.set o u)[o]?=_
   rw[List.getElem?_set_self hlo,hu]
  ·rw[List.getElem?_set_ne h2.symm,b4 h h1,he h h1]
theorem vV{e e':f7}{lab:bf}{w':World}{id k T G o rid:Nat}{t:PT}{X:den t}{hs:List (Nat×Nat)}{cs:List Value}{u:Value}(he : ∀h∈hs,e' h.2=e h.2)(b1:(e' id).oa=some ⟨G,0,none⟩)(r3:iI lab w' k G T (cs.set o u))(hu:u = .slice (e' rid).oa (e' rid).n (e' rid).c)(hlo:o<cs.length)(b3:(rep t).rd lab w' ((oz cs hs).set o (.slice none 0 0)) X)(b4 : ∀h∈hs,cs[h.1]?=some (.slice (e h.2).oa (e h.2).n (e h.2).c))(b5:(hs.map (·.1)).Nodup)(ho : ∀h∈hs,h.1≠o):bg e' lab w' id (.boxh k T t X ((o,rid)::hs)):=by
 refine⟨G,cs.set o u,b1,r3,?_,fun h hm=>?_,?_⟩
 ·show(rep t).rd lab w' ((oz (cs.set o u) hs).set o _) X
  rw[nO ho,List.set_set];exact b3
 ·rcases List.mem_cons.1 hm with rfl |hm
  ·show(cs.set o u)[o]?=_
   rw[List.getElem?_set_self hlo,hu]
  ·rw[List.getElem?_set_ne (ho h hm).symm,b4 h hm,he h hm]
 ·rw[List.map_cons]
  refine List.nodup_cons.2 ⟨fun hm=>?_,b5⟩
  obtain⟨x,hx,hxe⟩:=List.mem_map.1 hm
  exact ho x hx hxe
theorem De{te:TE P}{el:TypeId}{kh:Nat}{out:cL}{u:Value}(hT:te.id=T)(hx:ev F x=some v)(hy:ev F y=some u)(hv:eu e lab w a v)(hu:eu e lab w b u)(hr:ed (ry te el nid kh a b.1) out)(hlt : ∀i∈gZ a.1++gZ b.1,i<nid)(hmr : ∀m,a.2=some m→∀j∈fi m,j<nid)(tp:cm lab w)(hw:Wn ops F g):
  LW P N ops [⟨none,.store T x y,ty,pos,af,g⟩] F w (Fin N F e nid lab w none out):=by
 subst hT
 obtain⟨h1,h2⟩:=hv
 obtain⟨b0,bm⟩:=b
 have h3:RV e b0 lab w u:=hu.1
 clear hu
 replace hlt : ∀i∈gZ a.1++gZ b0,i<nid:=hlt
 replace hr:ed (ry te el nid kh a b0) out:=hr
 have one : ∀pt,te.pt = .sl pt→iS P te.id:=fun pt h=>te.ok.one (by rw[h];rfl)
 unfold ry at hr
 split at hr
 ·rename_i pt id o k T' t X hpt
  split at hr
  ·rename_i X' hk hkh hs
   obtain rfl:=hr.ret_eq
   obtain⟨G,cs,b1,b2,b3⟩:=h2 _ rfl
   obtain⟨G',b4,rfl⟩:=h1
   have b1:(e id).oa=some ⟨G,0,none⟩:=b1
   rw[b1]at b4;cases b4
   have h3:u = .slice none 0 0:=h3
   subst h3
   obtain⟨hlo,hrd⟩:=zE b3 hs
   obtain⟨w',r1,r2,r3⟩:=jQ (P:=P) (u:=.slice none 0 0) hk (one _ hpt) b2 rfl rfl (List.getElem?_eq_getElem hlo) tp
   have hid:id<nid:=hlt id (List.mem_append_left _ (List.mem_singleton.2 rfl))
   refine LW.gen rfl hw fun q hq=>?_
   unfold Oper.wp
   simp only[execOp,hq.eval hx,hq.eval hy,Sem.run_bind,r1,Result.andThen_ok,Sem.run_pure,Oper.upon_skip]
   refine wpList_nil ⟨rfl,nj e nid ⟨none,0,0,bZ pt,0,.un,[]⟩,lab,undef,hq.none_ undef,fun _ hi=>fv hi,r2.stp (.inl (by simp)),rfl,fun p hp=>?_,fun p hp=>by simp at hp⟩
   simp at hp
   rcases hp with rfl |rfl
   ·exact vV (e:=e) (hs:=[]) (fun _ h=>by cases h) (by rw[gh (by omega)];exact b1) r3 (by rw[bE]) hlo ((rep t).keep r2.keeps hrd) (fun _ h=>by cases h) List.nodup_nil (fun _ h=>by cases h)
   ·show bg _ _ _ _ (.row _ _ _ _)
    simp only[bg,bE]
    exact⟨rfl,trivial,cY.nil⟩
  ·cases hr
 ·rename_i pt id o k T' t X hs hpt
  split at hr
  ·rename_i r0 hk hkh ho
   obtain rfl:=hr.ret_eq
   obtain⟨G,cs,b1,b2,b3,b5,b6⟩:=h2 _ rfl
   obtain⟨G',b4,rfl⟩:=h1
   have b1:(e id).oa=some ⟨G,0,none⟩:=b1
   rw[b1]at b4;cases b4
   have h3:u = .slice none 0 0:=h3
   subst h3
   obtain⟨w',r1,r2,r3⟩:=jQ (P:=P) (u:=.slice none 0 0) hk (one _ hpt) b2 rfl rfl (b5 _ (iF ho)) tp
   have hid:id<nid:=hlt id (List.mem_append_left _ (List.mem_singleton.2 rfl))
   refine LW.gen rfl hw fun q hq=>?_
   unfold Oper.wp
   simp only[execOp,hq.eval hx,hq.eval hy,Sem.run_bind,r1,Result.andThen_ok,Sem.run_pure,Oper.upon_skip]
   refine wpList_nil ⟨rfl,nj e nid ⟨none,0,0,bZ pt,0,.un,[]⟩,lab,undef,hq.none_ undef,fun _ hi=>fv hi,r2.stp (.inl (by simp)),rfl,fun p hp=>?_,fun p hp=>by simp at hp⟩
   simp at hp
   rcases hp with rfl |rfl
   ·exact Er (e:=e) (fun h hm=>gh (by have:=hmr _ rfl h.2 (List.mem_map.2 ⟨h,hm,rfl⟩);omega)) (by rw[gh (by omega)];exact b1) r3 (by rw[bE]) ((rep t).keep r2.keeps b3) b5 b6 ho
   ·show bg _ _ _ _ (.row _ _ _ _)
    simp only[bg,bE]
    exact⟨rfl,trivial,cY.nil⟩
  ·cases hr
 ·rename_i pt id o k T' t X rid hpt
  split at hr
  ·rename_i X' hk hs
   obtain rfl:=hr.ret_eq
   obtain⟨G,cs,b1,b2,b3⟩:=h2 _ rfl
   obtain⟨G',b4,rfl⟩:=h1
   have b1:(e id).oa=some ⟨G,0,none⟩:=b1
   rw[b1]at b4;cases b4
   have h3:u = .slice (e rid).oa (e rid).n (e rid).c:=h3
   subst h3
   obtain⟨hlo,hrd⟩:=zE b3 hs
   obtain⟨w',r1,r2,r3⟩:=jQ (P:=P) (u:=.slice (e rid).oa (e rid).n (e rid).c) hk (one _ hpt) b2 rfl rfl (List.getElem?_eq_getElem hlo) tp
   refine LW.gen rfl hw fun q hq=>?_
   unfold Oper.wp
   simp only[execOp,hq.eval hx,hq.eval hy,Sem.run_bind,r1,Result.andThen_ok,Sem.run_pure,Oper.upon_skip]
   refine wpList_nil ⟨rfl,e,lab,undef,hq.none_ undef,fun _ _=>rfl,r2.stp (.inl (by simp)),rfl,fun p hp=>?_,fun p hp=>by simp at hp⟩
   simp at hp;subst hp
   exact vV (e:=e) (hs:=[]) (fun _ h=>by cases h) b1 r3 rfl hlo ((rep t).keep r2.keeps hrd) (fun _ h=>by cases h) List.nodup_nil (fun _ h=>by cases h)
  ·cases hr
 ·rename_i pt id o k T' t X hs rid hpt
  split at hr
  ·rename_i r0 hk ho
   obtain rfl:=hr.ret_eq
   obtain⟨G,cs,b1,b2,b3,b5,b6⟩:=h2 _ rfl
   obtain⟨G',b4,rfl⟩:=h1
   have b1:(e id).oa=some ⟨G,0,none⟩:=b1
   rw[b1]at b4;cases b4
   have h3:u = .slice (e rid).oa (e rid).n (e rid).c:=h3
   subst h3
   obtain⟨w',r1,r2,r3⟩:=jQ (P:=P) (u:=.slice (e rid).oa (e rid).n (e rid).c) hk (one _ hpt) b2 rfl rfl (b5 _ (iF ho)) tp
   refine LW.gen rfl hw fun q hq=>?_
   unfold Oper.wp
   simp only[execOp,hq.eval hx,hq.eval hy,Sem.run_bind,r1,Result.andThen_ok,Sem.run_pure,Oper.upon_skip]
   refine wpList_nil ⟨rfl,e,lab,undef,hq.none_ undef,fun _ _=>rfl,r2.stp (.inl (by simp)),rfl,fun p hp=>?_,fun p hp=>by simp at hp⟩
   simp at hp;subst hp
   exact Er (e:=e) (fun _ _=>rfl) b1 r3 rfl ((rep t).keep r2.keeps b3) b5 b6 ho
  ·rename_i hk ho
   split at hr
   ·rename_i X' hs'
    obtain rfl:=hr.ret_eq
    obtain⟨G,cs,b1,b2,b3,b5,b6⟩:=h2 _ rfl
    obtain⟨G',b4,rfl⟩:=h1
    have b1:(e id).oa=some ⟨G,0,none⟩:=b1
    rw[b1]at b4;cases b4
    have h3:u = .slice (e rid).oa (e rid).n (e rid).c:=h3
    subst h3
    obtain⟨hlo,hrd⟩:=zE b3 hs'
    rw[pA]at hlo
    obtain⟨w',r1,r2,r3⟩:=jQ (P:=P) (u:=.slice (e rid).oa (e rid).n (e rid).c) hk (one _ hpt) b2 rfl rfl (List.getElem?_eq_getElem hlo) tp
    refine LW.gen rfl hw fun q hq=>?_
    unfold Oper.wp
    simp only[execOp,hq.eval hx,hq.eval hy,Sem.run_bind,r1,Result.andThen_ok,Sem.run_pure,Oper.upon_skip]
    refine wpList_nil ⟨rfl,e,lab,undef,hq.none_ undef,fun _ _=>rfl,r2.stp (.inl (by simp)),rfl,fun p hp=>?_,fun p hp=>by simp at hp⟩
    simp at hp;subst hp
    exact vV (e:=e) (fun _ _=>rfl) b1 r3 rfl hlo ((rep t).keep r2.keeps hrd) b5 b6 (tW ho)
   ·cases hr
  ·cases hr
 ·cases hr
def CD:List (Nat×Nat)→Nat→Nat→Bool
 | [(off,_)],o,n=>Nat.ble o off&&Nat.blt off (o+n)
 |_,_,_=>false
theorem ES{hs:List (Nat×Nat)}{o n:Nat}(h:CD hs o n=true): ∃off rid,hs = [(off,rid)]∧o≤off∧off<o+n:=by
 unfold CD at h
 split at h
 ·rw[Bool.and_eq_true]at h
  exact⟨_,_,rfl,Nat.le_of_ble_eq_true h.1,Nat.blt_eq.mp h.2⟩
 ·cases h
theorem AZ{t u:PT}{k G o off rid:Nat}{T':TypeId}{cs:List Value}{X X':den t}{Y:den u}(hk:Nat.beq k 0=false)(hT:zk P T u)(b:iI lab w k G T' cs)(h:(rep t).rd lab w (oz cs [(off,rid)]) X)(hv:aV u Y lab w v)(hs:cW t o u X Y=some X')(ho:o≤off)(ho2:off<o+bZ u)(ha:ja u=true)(tp:cm lab w):
  ∃w' cs',(Instr.storeAt T (.pointer (some ⟨G,o,none⟩)) v).run P w = .ok () w'∧i7 lab k w lab w'∧iI lab w' k G T' cs'∧(rep t).rd lab w' cs' X':=by
 obtain⟨vs,h1,h2⟩:=hv
 obtain⟨hle,hrd⟩:=gL h h1 hs
 rw[pA]at hle
 have hl:vs.length=bZ u:=by rw[(rep u).len h1,a_]
 have hone:=(rep u).one h1
 have hv:v = .agg vs.toArray:=by unfold uS at h2;rw[ha]at h2;exact h2
 subst hv
 obtain⟨w',hr,b',hst⟩:=er (P:=P) vs o cs w b (by omega) hone 0 o rfl
 refine⟨w',_,?_,hst tp hk,b',?_⟩
 ·simp only[Instr.storeAt,Instr.sureAddr,storeVar,Sem.run_bind,Sem.run_pure,Result.andThen_ok,(hT.agg ha).size w,Value.cells,List.size_toArray,hl,ne_eq,not_true_eq_false,if_false,hr]
 ·have e1:oz cs [(off,rid)]=cs.set off (.slice none 0 0):=rfl
  rw[e1,List.take_set_of_le ho,List.drop_set_of_lt ho2]at hrd
  rw[hl];exact(rep t).keep (hst tp hk).keeps hrd
def tO{P:Program}(e:TE P)(a b:RA):aO:=
 match uN e.pt b with
 |none=>.stuck
 |some Y=>match a with
  | (.ptr id o,some (.boxh k T t X hs))=>match CD hs o (bZ e.pt)&&ja e.pt with
   |true=>match Nat.beq k 0,cW t o e.pt X Y with
    |false,some X'=>.ret ⟨.und,[k],[(id,.box k T t X')],[]⟩
    |_,_=>.stuck
   |false=>match Nat.beq k 0||ja e.pt,Hj hs o (bZ e.pt),cW t o e.pt X Y with
    |false,true,some X'=>.ret ⟨.und,[k],[(id,.boxh k T t X' hs)],[]⟩
    |_,_,_=>.stuck
  |_=>.stuck
theorem AF{te:TE P}{out:cL}{u:Value}(hT:te.id=T)(hx:ev F x=some v)(hy:ev F y=some u)(hv:eu e lab w a v)(hu:eu e lab w b u)(hr:ed (tO te a b) out)(tp:cm lab w)(hw:Wn ops F g):
  LW P N ops [⟨none,.store T x y,ty,pos,af,g⟩] F w (Fin N F e nid lab w none out):=by
 subst hT
 unfold tO at hr
 split at hr
 ·cases hr
 rename_i Y hY
 have hdat:=dt hu hY
 obtain⟨vs,c1,c2⟩:=dt hu hY
 obtain⟨h1,h2⟩:=hv
 split at hr
 ·split at hr
  ·rename_i id o k T' t X hs _ hcov
   rw[Bool.and_eq_true]at hcov
   obtain⟨off,rid,rfl,ho1,ho2⟩:=ES hcov.1
   split at hr
   ·rename_i X' hk hset
    obtain rfl:=hr.ret_eq
    obtain⟨G,cs,b1,b2,b3,b5,b6⟩:=h2 _ rfl
    obtain⟨G',b4,rfl⟩:=h1
    have b1:(e id).oa=some ⟨G,0,none⟩:=b1
    rw[b1]at b4;cases b4
    obtain⟨w',cs',r1,r2,r3,r4⟩:=AZ (P:=P) hk te.ok b2 b3 hdat hset ho1 ho2 hcov.2 tp
    refine LW.gen rfl hw fun q hq=>?_
    unfold Oper.wp
    simp only[execOp,hq.eval hx,hq.eval hy,Sem.run_bind,r1,Result.andThen_ok,Sem.run_pure,Oper.upon_skip]
    refine wpList_nil ⟨rfl,e,lab,undef,hq.none_ undef,fun _ _=>rfl,r2.stp (.inl (by simp)),rfl,fun p hp=>?_,fun p hp=>by simp at hp⟩
    simp at hp;subst hp
    exact⟨G,cs',b1,r3,r4⟩
   ·cases hr
  split at hr
  ·rename_i id o k T' t X hs _ _ _ _ _ X' hk hfar hset
   obtain rfl:=hr.ret_eq
   rw[Bool.or_eq_false_iff]at hk
   obtain⟨G,cs,b1,b2,b3,b5,b6⟩:=h2 _ rfl
   obtain⟨G',b4,rfl⟩:=h1
   have b1:(e id).oa=some ⟨G,0,none⟩:=b1
   rw[b1]at b4;cases b4
   have hcells:=c2.cells ((rep te.pt).one c1)
   have hvs:vs = [u]:=by unfold uS at c2;rw[hk.2]at c2;exact c2
   subst hvs
   have hsz:bZ te.pt=1:=by rw[←a_,←(rep te.pt).len c1];rfl
   obtain⟨hle,hrd⟩:=gL b3 c1 hset
   rw[hsz]at hle hrd
   rw[pA]at hle
   have hlo:o<cs.length:=by omega
   have hne : ∀h∈hs,h.1≠o:=fun h hm=>by have:=yY hfar 0 (by omega) h hm;simpa using this
   obtain⟨w',r1,r2,r3⟩:=jQ (P:=P) (u:=u) hk.1 (te.ok.one hk.2) b2 ((rep te.pt).one c1 u (by simp)) hcells (List.getElem?_eq_getElem hlo) tp
   refine LW.gen rfl hw fun q hq=>?_
   unfold Oper.wp
   simp only[execOp,hq.eval hx,hq.eval hy,Sem.run_bind,r1,Result.andThen_ok,Sem.run_pure,Oper.upon_skip]
   refine wpList_nil ⟨rfl,e,lab,undef,hq.none_ undef,fun _ _=>rfl,r2.stp (.inl (by simp)),rfl,fun p hp=>?_,fun p hp=>by simp at hp⟩
   simp at hp;subst hp
   refine⟨G,_,b1,r3,?_,fun h hm=>?_,b6⟩
   ·rw[nO hne]
    have e1:(oz cs hs).set o u=(oz cs hs).take o ++ [u]++(oz cs hs).drop (o+1):=by
     rw[List.set_eq_take_append_cons_drop,if_pos (by rw[pA];exact hlo)];simp
    rw[e1]
    exact(rep t).keep r2.keeps hrd
   ·rw[List.getElem?_set_ne (hne h hm).symm];exact b5 h hm
  ·cases hr
 ·cases hr
def NR:Option dq→Bool
 |some (.boxh _ _ _ _ _)=>true
 |_=>false
end
end Go.Gk
