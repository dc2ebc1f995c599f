/- A part of the proof of TopChain. No condition. -/
import Derived.WalkKit
import Derived.Below
import Derived.Laws.OwnMore
import Derived.Laws.Rows
import Derived.RegionTactic
import Derived.Maps.AppendAt
import Derived.WalkLawsBesides
import Derived.IntWalk
import Derived.Laws.Unary
import Derived.Laws.BytesArg
import Derived.StillTail
namespace Go.Gk
open Go.RowKit
def cN:List (Nat×Value)→Nat→Option Value
 | [],_=>none
 | (k,v)::r,t=>match Nat.beq k t with
  |true=>some v
  |false=>cN r t
structure pM(F:List (Nat×Value))(N:Nat)(a:Act):Prop where
 size:a.tmps.size=N
 defers:a.defers = []
 get : ∀t v,cN F t=some v→a.tmps[t]?=some v
def ev(F:List (Nat×Value)):Operand→Option Value
 | .tmp t=>cN F t
 | .const v=>some v
 | .global g=>some (.pointer (some ⟨g,0,none⟩))
 | .func f=>some (.func (.func f) #[] #[])
theorem pM.eval{F:List (Nat×Value)}{N:Nat}{a:Act}(h:pM F N a){x:Operand}{v:Value}(hx:ev F x=some v):a.eval x=v:=by
 cases x with
 |tmp t=>
  have:=h.get t v hx
  simp[Act.eval,Array.getD_eq_getD_getElem?,this]
 |const u=>simpa [ev,Act.eval]using hx
 |global g=>simpa [ev,Act.eval]using hx
 |func f=>simpa [ev,Act.eval]using hx
theorem pM.put{F:List (Nat×Value)}{N:Nat}{a:Act}(h:pM F N a){d:Nat}(hd:Nat.blt d N=true)(v:Value):pM ((d,v)::F) N (a.put (some d) v):=by
 have hd':d<N:=by simpa using hd
 refine⟨by simp[Act.put,h.size],by simpa [Act.put]using h.defers,fun t u hu=>?_⟩
 unfold cN at hu
 split at hu
 ·rename_i hb
  have:d=t:=Nat.eq_of_beq_eq_true hb
  subst this
  simp at hu
  subst hu
  simp[Act.put,Array.getElem?_setIfInBounds,h.size,hd']
 ·rename_i hb
  have hne:d≠t:=fun e=>by subst e;simp at hb
  simp only[Act.put,Array.getElem?_setIfInBounds,hne,if_false]
  exact h.get t u hu
theorem pM.none_{F:List (Nat×Value)}{N:Nat}{a:Act}(h:pM F N a)(v:Value):pM F N (a.put none v):=by simpa [Act.put]using h
def sub:List (Nat×Value)→List (Nat×Value)→Prop
 | [],_=>True
 |p::r,F=>cN F p.1=some p.2∧sub r F
theorem tT{F:List (Nat×Value)}: ∀{G:List (Nat×Value)},sub G F→∀t v,cN G t=some v→cN F t=some v
 | [],_,_,_,h=>by simp[cN]at h
 |p::r,hs,t,v,h=>by
  unfold cN at h
  split at h
  ·rename_i hb
   have:p.1=t:=Nat.eq_of_beq_eq_true hb
   subst this
   simp at h
   subst h
   exact hs.1
  ·exact tT hs.2 t v h
theorem pM.sub{F G:List (Nat×Value)}{N:Nat}{a:Act}(h:pM F N a)(hs:sub G F):pM G N a:=
 ⟨h.size,h.defers,fun t v hv=>h.get t v (tT hs t v hv)⟩
abbrev eT:=Exit→Act→World→Prop
def CW(P:Program)(N:Nat)(c:Code)(F:List (Nat×Value))(w:World)(K:eT):Prop:=∀a,pM F N a→c.wp P K a w
def LW(P:Program)(N:Nat)(ops:Array Oper)(l:List Oper)(F:List (Nat×Value))(w:World)(K:eT):Prop:=∀a,pM F N a→wpList P ops K l a w
def EW(N:Nat)(e:Exit)(F:List (Nat×Value))(w:World)(K:eT):Prop:=∀a,pM F N a→K e a w
section control
variable {P : Program} {N : Nat} {F G : List (Nat × Value)} {w : World} {K : eT} {c : Code}
def J0(P:Program)(c:Code)(K:eT):eT:=Exit.then (c.wp P K) K
def qM(id:Nat)(K:eT):eT:=Exit.inBlock id K
def El(N:Nat)(J:List (Nat×Value)→World→Prop)(K:eT):eT:=Exit.then (fun a w=>∃F,pM F N a∧J F w) K
theorem CW.seq{x y:Code}(h:CW P N x F w (J0 P y K)):CW P N (.seq x y) F w K:=fun a ha=>wp_seq (h a ha)
theorem CW.block{id:Nat}{c:Code}(h:CW P N c F w (qM id K)):CW P N (.block id c) F w K:=fun a ha=>wp_block (h a ha)
theorem CW.skip(h:EW N .normal F w K):CW P N .skip F w K:=fun a ha=>wp_skip (h a ha)
theorem CW.exit{id:Nat}(h:EW N (.exit id) F w K):CW P N (.exit id) F w K:=fun a ha=>wp_exit (h a ha)
theorem CW.ret(h:EW N .ret F w K):CW P N .ret F w K:=fun a ha=>wp_ret (h a ha)
theorem CW.region{id:Nat}{l:List Oper}(h:LW P N l.toArray l F w K):CW P N (.region id l.toArray false) F w K:=fun a ha=>wp_region_lit (h a ha)
theorem CW.sub(hs:sub G F)(h:CW P N c G w K):CW P N c F w K:=fun a ha=>h a (ha.sub hs)
theorem LW.nil{ops:Array Oper}(h:EW N .normal F w K):LW P N ops [] F w K:=fun a ha=>wpList_nil (h a ha)
theorem EW.seq_n{c:Code}(h:CW P N c F w K):EW N .normal F w (J0 P c K):=h
theorem EW.seq_x{c:Code}{id:Nat}(h:EW N (.exit id) F w K):EW N (.exit id) F w (J0 P c K):=h
theorem EW.seq_r{c:Code}(h:EW N .ret F w K):EW N .ret F w (J0 P c K):=h
theorem EW.block_n{id:Nat}(h:EW N .normal F w K):EW N .normal F w (qM id K):=h
theorem EW.block_r{id:Nat}(h:EW N .ret F w K):EW N .ret F w (qM id K):=h
theorem EW.block_x{id:Nat}(h:EW N .normal F w K):EW N (.exit id) F w (qM id K):=fun a ha=>by
 simp only[qM,Exit.inBlock,if_true];exact h a ha
theorem EW.block_y{id id':Nat}(hne:Nat.beq id' id=false)(h:EW N (.exit id') F w K):EW N (.exit id') F w (qM id K):=fun a ha=>by
 have:id'≠id:=fun e=>by subst e;simp at hne
 simp only[qM,Exit.inBlock,this,if_false];exact h a ha
theorem EW.join_n{J:List (Nat×Value)→World→Prop}(h:J F w):EW N .normal F w (El N J K):=fun _ ha=>⟨F,ha,h⟩
theorem EW.join_x{J:List (Nat×Value)→World→Prop}{id:Nat}(h:EW N (.exit id) F w K):EW N (.exit id) F w (El N J K):=h
theorem EW.join_r{J:List (Nat×Value)→World→Prop}(h:EW N .ret F w K):EW N .ret F w (El N J K):=h
theorem Exit.then_mono{A B:Act→World→Prop}(h : ∀a w,A a w→B a w): ∀e a w,Exit.then A K e a w→Exit.then B K e a w:=fun e a w q=>by
 cases e<;>first |exact h _ _ q |exact q
theorem CW.cond{c:Operand}{x y:Code}{b:Bool}(hx:ev F c=some (.bool b))(ht:b=true→CW P N x F w K)(hf:b=false→CW P N y F w K):CW P N (.cond c x y) F w K:=
 fun a ha=>wp_cond_split (ha.eval hx) (fun e=>ht e a ha) (fun e=>hf e a ha)
theorem EG{p:Nat→Prop}: ∀n,p n→∃k,p k∧∀m,p m→k≤m:=by
 intro n
 induction n using Nat.strongRecOn with
 |_ n ih=>
  intro hn
  by_cases hlt : ∃k,k<n∧p k
  ·obtain⟨k,hk,h2⟩:=hlt
   exact ih k hk h2
  ·exact⟨n,hn,fun m hm=>Nat.le_of_not_lt fun hmn=>hlt ⟨m,hmn,hm⟩⟩
theorem CW.loop(J:Nat→List (Nat×Value)→World→Prop)(n:Nat)(h0:J n F w)
  (h : ∀n F' w',J n F' w'→CW P N c F' w' (El N (fun F'' w''=>∃m,m<n∧J m F'' w'') K)):CW P N (.loop c) F w K:=fun a ha=>by
 classical
 let q:Act→World→Nat→Prop:=fun a w m=>∃F',pM F' N a∧J m F' w
 let I:Act→World→Prop:=fun a w=>∃m,q a w m
 let μ:Act→World→Nat:=fun a w=>if h:I a w then Classical.choose (EG h.choose h.choose_spec)else 0
 have hμ : ∀a w,I a w→q a w (μ a w)∧∀m,q a w m→μ a w≤m:=fun a w hI=>by
  have e:μ a w=Classical.choose (EG hI.choose hI.choose_spec):=dif_pos hI
  rw[e]
  exact Classical.choose_spec (EG hI.choose hI.choose_spec)
 refine wp_loop I μ ⟨n,F,ha,h0⟩ fun a w hI=>?_
 obtain⟨⟨F',hs,hJ⟩,_⟩:=hμ a w hI
 refine wp_mono (h _ _ _ hJ a hs) (Exit.then_mono fun a' w' ⟨F'',hs',m,hm,hJ'⟩=>?_)
 have hI':I a' w':=⟨m,F'',hs',hJ'⟩
 exact⟨hI',Nat.lt_of_le_of_lt ((hμ a' w' hI').2 m ⟨F'',hs',hJ'⟩) hm⟩
end control
def letm{α β:Type}(e:β)(k:β→Option α):Option α:=k e
def bnd{α β:Type}(m:Option β)(k:β→Option α):Option α:=m.bind k
theorem dv{α β:Type}{m:Option β}{k:β→Option α}{r:α}(h:bnd m k=some r): ∃y,m=some y∧k y=some r:=by
 cases m with
 |none=>simp[bnd]at h
 |some y=>exact⟨y,rfl,h⟩
theorem cond_t{α:Type}{b:Bool}{x y:Option α}{r:α}(h:(bif b then x else y)=some r)(hb:b=true):x=some r:=by subst hb;exact h
def aP(x:Int):Int:=IntKind.i64.wrap x
def az{α:Type}(xs:List α)(i:Int):Option α:=if 0≤i then xs[i.toNat]? else none
def wZ:Nat:=4294967296
def app{α:Type}(xs ys:List α):Option (List α):=if xs.length+ys.length≤wZ then some (xs++ys)else none
abbrev bf:=Nat→Nat
structure i7(lab:bf)(k:Nat)(w:World)(lab':bf)(w':World):Prop where
 os:w'.os=w.os
 tape:w'.tape=w.tape
 output:w'.output=w.output
 size:w.heap.size≤w'.heap.size
 block : ∀b,b<w.heap.size→(k=0∨lab b≠k)→w'.heap[b]?=w.heap[b]?
 same : ∀b,b<w.heap.size→lab' b=lab b
 top : ∀b,w'.heap.size≤b→lab' b=0
def cm(lab:bf)(w:World):Prop:=∀b,w.heap.size≤b→lab b=0
def bd(lab:bf)(w:World)(lab':bf)(w':World):Prop:=
 w.heap.size≤w'.heap.size∧∀b,b<w.heap.size→lab b=0→lab' b=0∧w'.heap[b]?=w.heap[b]?
theorem i7.keeps{lab lab':bf}{k:Nat}{w w':World}(h:i7 lab k w lab' w'):bd lab w lab' w':=
 ⟨h.size,fun b hb h0=>⟨(h.same b hb).trans h0,h.block b hb (by by_cases hk:k=0<;>simp_all<;>omega)⟩⟩
structure bF(α:Type) where
 sz:Nat
 rd:bf→World→List Value→α→Prop
 len : ∀{lab w cs x},rd lab w cs x→cs.length=sz
 one : ∀{lab w cs x},rd lab w cs x→∀u∈cs,u.oneCell'=true
 keep : ∀{lab w lab' w' cs x},bd lab w lab' w'→rd lab w cs x→rd lab' w' cs x
def At(lab:bf)(w:World)(p:Addr)(cs:List Value):Prop:=∀j u,cs[j]?=some u→lab p.block=0∧w.cell? (p.add j)=some u
theorem ej(a:Addr)(n:Nat):(a.add n).block=a.block:=by unfold Addr.add;split<;>rfl
theorem fH(a:Addr)(i j:Nat):(a.add i).add j=a.add (i+j):=by
 unfold Addr.add
 by_cases hi:i=0<;>by_cases hj:j=0<;>simp[hi,hj,Nat.add_assoc]
theorem LY{w:World}{p:Addr}{u:Value}(h:w.cell? p=some u):p.block<w.heap.size:=block_lt_of_cell h
theorem At.keep{lab lab':bf}{w w':World}{p:Addr}{cs:List Value}(hk:bd lab w lab' w')(h:At lab w p cs):At lab' w' p cs:=fun j u hu=>by
 obtain⟨h0,hc⟩:=h j u hu
 have hlt:=LY hc
 rw[ej]at hlt
 obtain⟨h1,h2⟩:=hk.2 _ hlt h0
 exact⟨h1,by rw[World.cell?_of_block (w:=w) (by rw[ej];exact h2)];exact hc⟩
def SL{α:Type}(ρ:bF α)(lab:bf)(w:World)(oa:Option Addr)(c:Nat)(xs:List α):Prop:=
 xs.length≤c∧c≤maxLen∧∀i x,xs[i]?=some x→∃ad cs,oa=some ad∧ρ.rd lab w cs x∧At lab w (ad.add (i*ρ.sz)) cs
section
variable {α : Type} {ρ : bF α} {lab lab' : bf} {w w' : World} {oa : Option Addr} {c k : Nat} {xs : List α}
theorem SL.keep(hk:bd lab w lab' w')(h:SL ρ lab w oa c xs):SL ρ lab' w' oa c xs:=
 ⟨h.1,h.2.1,fun i x hx=>by obtain⟨ad,cs,h1,h2,h3⟩:=h.2.2 i x hx;exact⟨ad,cs,h1,ρ.keep hk h2,h3.keep hk⟩⟩
theorem SL.step(h:SL ρ lab w oa c xs)(e:i7 lab k w lab' w'):SL ρ lab' w' oa c xs:=h.keep e.keeps
theorem SL.le(h:SL ρ lab w oa c xs):xs.length≤maxLen:=Nat.le_trans h.1 h.2.1
theorem SL.nil:SL ρ lab w none 0 []:=⟨Nat.le_refl _,by decide,fun i x hx=>by simp at hx⟩
theorem SL.at_(h:SL ρ lab w oa c xs){i:Nat}{x:α}(hx:xs[i]?=some x): ∃ad cs,oa=some ad∧ρ.rd lab w cs x∧At lab w (ad.add (i*ρ.sz)) cs:=h.2.2 i x hx
end
def bF.i64:bF Int where
 sz:=1
 rd:=fun _ _ cs x=>cs = [.int .i64 x]
 len:=fun h=>by rw[h];rfl
 one:=fun h u hu=>by rw[h]at hu;simp at hu;rw[hu];rfl
 keep:=fun _ h=>h
def bF.u8:bF UInt8 where
 sz:=1
 rd:=fun _ _ cs x=>cs = [.int .u8 (x.toNat:Int)]
 len:=fun h=>by rw[h];rfl
 one:=fun h u hu=>by rw[h]at hu;simp at hu;rw[hu];rfl
 keep:=fun _ h=>h
def bF.bool:bF Bool where
 sz:=1
 rd:=fun _ _ cs x=>cs = [.bool x]
 len:=fun h=>by rw[h];rfl
 one:=fun h u hu=>by rw[h]at hu;simp at hu;rw[hu];rfl
 keep:=fun _ h=>h
def dG(l:List UInt8):Value:=.string ⟨l.toArray⟩
def bF.str:bF (List UInt8) where
 sz:=1
 rd:=fun _ _ cs x=>cs = [dG x]
 len:=fun h=>by rw[h];rfl
 one:=fun h u hu=>by rw[h]at hu;simp at hu;rw[hu];rfl
 keep:=fun _ h=>h
def bF.sl{α:Type}(ρ:bF α):bF (List α) where
 sz:=1
 rd:=fun lab w cs x=>∃oa c,cs = [.slice oa x.length c]∧SL ρ lab w oa c x
 len:=fun⟨_,_,h,_⟩=>by rw[h];rfl
 one:=fun⟨_,_,h,_⟩ u hu=>by rw[h]at hu;simp at hu;rw[hu];rfl
 keep:=fun hk ⟨oa,c,h,hs⟩=>⟨oa,c,h,hs.keep hk⟩
def iI(lab:bf)(w:World)(k:Nat)(g:Nat)(T:TypeId)(cs:List Value):Prop:=w.heap[g]?=some (.cells cs.toArray T (0,0))∧lab g=k
section
variable {lab lab' : bf} {w w' : World} {k k' g : Nat} {T : TypeId} {cs : List Value}
theorem iI.lt(h:iI lab w k g T cs):g<w.heap.size:=(Array.getElem?_eq_some_iff.1 h.1).1
theorem iI.cell(h:iI lab w k g T cs)(i:Nat):w.cell? ⟨g,i,none⟩=cs[i]?:=by
 rw[cell_of_row w g i cs.toArray T (0,0) h.1];simp
theorem iI.frozen(h:iI lab w k g T cs)(i:Nat):w.frozen? ⟨g,i,none⟩=false:=frozen_of_row w g i cs.toArray T h.1
end
def relab(lab:bf)(g k:Nat):bf:=fun b=>if b=g then k else lab b
theorem i7.alloc{lab:bf}{w:World}(t:cm lab w)(k:Nat)(o:Obj):i7 lab 0 w (relab lab w.heap.size k) (w.alloc o):=by
 refine⟨rfl,rfl,rfl,by simp,fun b hb _=>Below.heap_alloc w o b hb,fun b hb=>by simp[relab];omega,fun b hb=>?_⟩
 simp at hb
 simp only[relab]
 rw[if_neg (by omega)]
 exact t b (by omega)
theorem iI.alloc{lab:bf}{w:World}(k:Nat)(T:TypeId)(cs:List Value):iI (relab lab w.heap.size k) (w.alloc (.cells cs.toArray T)) k w.heap.size T cs:=
 ⟨heap_alloc_new w _,by simp[relab]⟩
theorem i7.setCell{lab:bf}{w:World}(t:cm lab w){k g i:Nat}(hk0:Nat.beq k 0=false)(hk:lab g=k)(v:Value):i7 lab k w lab (w.setCell ⟨g,i,none⟩ v):=by
 refine⟨rfl,rfl,rfl,by simp[World.setCell],fun b hb h=>?_,fun _ _=>rfl,fun b hb=>t b (by simpa [World.setCell]using hb)⟩
 by_cases hbg:b=g
 ·subst hbg
  rcases h with h |h
  ·subst h;simp at hk0
  ·exact absurd hk h
 ·exact heap_setCell_other w _ b v (by simpa using hbg)
section
variable {P : Program} {N : Nat} {ops : Array Oper} {rest : List Oper} {F : List (Nat × Value)} {w : World} {K : eT}
def Wn(ops:Array Oper)(F:List (Nat×Value))(g:Option (Nat×Bool)):Prop:=
 match g with
 |none=>True
 |some (j,b)=>∃dj,(ops[j]?).bind (·.dst)=some dj∧cN F dj=some (.bool b)
theorem wn:Wn ops F none:=trivial
theorem Wn.wanted{g:Option (Nat×Bool)}{o:Oper}(hg:o.guard=g)(h:Wn ops F g){a:Act}(ha:pM F N a):Region.wanted o (yielded ops a.tmps)=true:=by
 unfold Region.wanted
 rw[hg]
 cases g with
 |none=>rfl
 |some p=>
  obtain⟨j,b⟩:=p
  obtain⟨dj,h1,h2⟩:=h
  have h3:=ha.get dj _ h2
  simp[yielded,h1,h3]
theorem LW.gen{o:Oper}{g:Option (Nat×Bool)}(hg:o.guard=g)(hw:Wn ops F g)(h : ∀a,pM F N a→o.wp P a w (wpList P ops K rest) K):LW P N ops (o::rest) F w K:=fun a ha=>by
 unfold wpList
 rw[if_pos (hw.wanted hg ha)]
 exact .inl (h a ha)
theorem LW.val{o:Oper}{d:Nat}{v:Value}{w':World}{g:Option (Nat×Bool)}(hg:o.guard=g)(hw:Wn ops F g)(hd:o.dst=some d)(hdN:Nat.blt d N=true)
  (hrun : ∀a,pM F N a→(execOp a.eval o).run P w = .ok (.value v) w') (h:LW P N ops rest ((d,v)::F) w' K):LW P N ops (o::rest) F w K:=
 LW.gen hg hw fun a ha=>by
  unfold Oper.wp
  rw[hrun a ha,Oper.upon_value,hd]
  exact h _ (ha.put hdN v)
theorem LW.skip{op:Op}{ty:TypeId}{pos:String}{af:Array Edge}{j:Nat}{b b':Bool}{d:Nat}(dj:Nat)(hj:(ops[j]?).bind (·.dst)=some dj)(hb:cN F dj=some (.bool b'))(hne:(b==b')=false)(hdN:Nat.blt d N=true)
  (h:LW P N ops rest ((d,undef)::F) w K):LW P N ops (⟨some d,op,ty,pos,af,some (j,b)⟩::rest) F w K:=fun a ha=>by
 unfold wpList
 have h3:=ha.get dj _ hb
 have hn:b'≠b:=fun e=>by subst e;simp at hne
 rw[if_neg (by simp[Region.wanted,yielded,hj,h3,hn])]
 exact h _ (ha.put hdN undef)
theorem LW.skipU{op:Op}{ty:TypeId}{pos:String}{af:Array Edge}{j:Nat}{b:Bool}{d:Nat}(dj:Nat)(hj:(ops[j]?).bind (·.dst)=some dj)(hb:cN F dj=some undef)(hdN:Nat.blt d N=true)
  (h:LW P N ops rest ((d,undef)::F) w K):LW P N ops (⟨some d,op,ty,pos,af,some (j,b)⟩::rest) F w K:=fun a ha=>by
 unfold wpList
 have h3:=ha.get dj _ hb
 rw[if_neg (by simp[Region.wanted,yielded,hj,h3,undef])]
 exact h _ (ha.put hdN undef)
theorem LW.skip0{op:Op}{ty:TypeId}{pos:String}{af:Array Edge}{j:Nat}{b b':Bool}(dj:Nat)(hj:(ops[j]?).bind (·.dst)=some dj)(hb:cN F dj=some (.bool b'))(hne:(b==b')=false)
  (h:LW P N ops rest F w K):LW P N ops (⟨none,op,ty,pos,af,some (j,b)⟩::rest) F w K:=fun a ha=>by
 unfold wpList
 have h3:=ha.get dj _ hb
 have hn:b'≠b:=fun e=>by subst e;simp at hne
 rw[if_neg (by simp[Region.wanted,yielded,hj,h3,hn])]
 exact h _ (ha.none_ undef)
section
variable {ty : TypeId} {pos : String} {af : Array Edge} {g : Option (Nat × Bool)} {d : Nat} {x y z : Operand} {v u : Value} {α : Type} {r : α} {t t' : TypeId}
theorem LW.move(hw:Wn ops F g)(hdN:Nat.blt d N=true)(hx:ev F x=some v)(h:LW P N ops rest ((d,v)::F) w K):LW P N ops (⟨some d,.move x,ty,pos,af,g⟩::rest) F w K:=
 LW.val rfl hw rfl hdN (fun a ha=>by simp[execOp,ha.eval hx]) h
theorem LW.assign(hw:Wn ops F g)(hdN:Nat.blt d N=true)(hx:ev F x=some v)(h:LW P N ops rest ((d,v)::F) w K):LW P N ops (⟨some d,.assign x,ty,pos,af,g⟩::rest) F w K:=
 LW.val rfl hw rfl hdN (fun a ha=>by simp[execOp,ha.eval hx]) h
theorem LW.pick_t(hw:Wn ops F g)(hdN:Nat.blt d N=true)(hx:ev F x=some (.bool true))(hy:ev F y=some v)(h:LW P N ops rest ((d,v)::F) w K):LW P N ops (⟨some d,.pick x y z,ty,pos,af,g⟩::rest) F w K:=
 LW.val rfl hw rfl hdN (fun a ha=>by simp[execOp,ha.eval hx,ha.eval hy,asBool]) h
theorem LW.pick_f(hw:Wn ops F g)(hdN:Nat.blt d N=true)(hx:ev F x=some (.bool false))(hz:ev F z=some v)(h:LW P N ops rest ((d,v)::F) w K):LW P N ops (⟨some d,.pick x y z,ty,pos,af,g⟩::rest) F w K:=
 LW.val rfl hw rfl hdN (fun a ha=>by simp[execOp,ha.eval hx,ha.eval hz,asBool]) h
theorem LW.not{b:Bool}{k:Bool→Option α}(hm:letm (!b) k=some r)(hw:Wn ops F g)(hdN:Nat.blt d N=true)(hx:ev F x=some (.bool b))
  (h : ∀c,k c=some r→LW P N ops rest ((d,.bool c)::F) w K):LW P N ops (⟨some d,.unOp .not t x,ty,pos,af,g⟩::rest) F w K:=
 LW.val rfl hw rfl hdN (fun a ha=>by simp only[execOp,ha.eval hx];simp[unary_not]) (h _ hm)
theorem dg(op:BinOp)(xt yt:TypeId){a:Act}{u v q:Value}(hu:a.eval x=u)(hv:a.eval y=v)(hg:eqGuard op xt x y u v=pure ())(hb:(binOp op xt u v).run P w = .ok q w):
  (execOp a.eval ⟨some d,.binOp op xt x y yt,ty,pos,af,g⟩).run P w = .ok (.value q) w:=by
 simp[execOp,hu,hv,hg,hb]
section
variable {a b : Int} {k : Int → Option α} {kb : Bool → Option α}
theorem LW.add(hm:letm (aP (a+b)) k=some r)(hw:Wn ops F g)(hdN:Nat.blt d N=true)(hx:ev F x=some (.int .i64 a))(hy:ev F y=some (.int .i64 b))
  (h : ∀c,k c=some r→LW P N ops rest ((d,.int .i64 c)::F) w K):LW P N ops (⟨some d,.binOp .add t x y t',ty,pos,af,g⟩::rest) F w K:=
 LW.val rfl hw rfl hdN (fun a ha=>dg _ _ _ (ha.eval hx) (ha.eval hy) rfl (by simp[binOp,Op.intArith,aP])) (h _ hm)
def quo(a b:Int):Option Int:=if b=0 then none else some (aP (a.tdiv b))
def rem(a b:Int):Option Int:=if b=0 then none else some (a.tmod b)
def shl(a b:Int):Option Int:=if b<0 then none else some (aP (a*2^min b.toNat 64))
def shr(a b:Int):Option Int:=if b<0 then none else some (a/2^min b.toNat 64)
def TK(o:BinOp)(a b:Int):Int:=bits o .i64 a b
variable {ik : IntKind}
theorem LW.eql(hm:letm (a==b) kb=some r)(hw:Wn ops F g)(hdN:Nat.blt d N=true)(hx:ev F x=some (.int ik a))(hy:ev F y=some (.int ik b))
  (h : ∀c,kb c=some r→LW P N ops rest ((d,.bool c)::F) w K):LW P N ops (⟨some d,.binOp .eql t x y t',ty,pos,af,g⟩::rest) F w K:=
 LW.val rfl hw rfl hdN (fun a ha=>dg _ _ _ (ha.eval hx) (ha.eval hy) rfl (by simp[binOp_eql])) (h _ hm)
theorem LW.lss(hm:letm (decide (a<b)) kb=some r)(hw:Wn ops F g)(hdN:Nat.blt d N=true)(hx:ev F x=some (.int ik a))(hy:ev F y=some (.int ik b))
  (h : ∀c,kb c=some r→LW P N ops rest ((d,.bool c)::F) w K):LW P N ops (⟨some d,.binOp .lss t x y t',ty,pos,af,g⟩::rest) F w K:=
 LW.val rfl hw rfl hdN (fun a ha=>dg _ _ _ (ha.eval hx) (ha.eval hy) rfl (by simp[binOp_lss])) (h _ hm)
end
end
end
structure iS(P:Program)(T:TypeId):Prop where
 agg : ∀w,(isAgg T).run P w = .ok false w
 size : ∀w,(sizeOf T).run P w = .ok 1 w
structure AA(P:Program)(T:TypeId)(n:Nat):Prop where
 agg : ∀w,(isAgg T).run P w = .ok true w
 size : ∀w,(sizeOf T).run P w = .ok n w
def mD(P:Program)(T:TypeId)(z:Value):Prop:=∀w,(zeroValue T).run P w = .ok z w
def vI(P:Program)(T f off:Nat):Prop:=∀w a,(Instr.fieldAt T (.pointer (some a)) f).run P w = .ok (.pointer (some (a.add off))) w
structure gv(P:Program)(T E:TypeId)(n bytes:Nat)(z:Value):Prop where
 und:P.underlying T=some (.slice E)
 info : ∃i,P.info? E=some i∧i.zero=some z∧i.size=n∧i.bytes=bytes
 zn:z.cells.size=n
 pos:0<n
section
variable {P : Program} {N : Nat} {ops : Array Oper} {rest : List Oper} {F : List (Nat × Value)} {w : World} {K : eT} {lab : bf}
variable {ty : TypeId} {pos : String} {af : Array Edge} {g : Option (Nat × Bool)} {d : Nat} {x y z : Operand} {v u : Value} {α : Type} {r : α} {T : TypeId}
theorem World.alloc_eq'(w:World)(o:Obj):({ w with heap:=w.heap.push o }:World)=w.alloc o:=rfl
theorem LW.alloc(k:Nat)(cs:List Value)(hz:mD P T v)(hcs:v.cells=cs.toArray)(t:cm lab w)(hw:Wn ops F g)(hdN:Nat.blt d N=true)
  (h : ∀G lab' w',i7 lab 0 w lab' w'→iI lab' w' k G T cs→LW P N ops rest ((d,.pointer (some ⟨G,0,none⟩))::F) w' K):LW P N ops (⟨some d,.alloc T,ty,pos,af,g⟩::rest) F w K:=
 LW.val rfl hw rfl hdN (w':=w.alloc (.cells cs.toArray T)) (fun a ha=>by simp[execOp,Instr.alloc,hz w,newVar,newRow,hcs,World.alloc_eq']) (h _ _ _ (i7.alloc t k _) (iI.alloc k T cs))
theorem LW.box(k:Nat)(cs:List Value)(hx:ev F x=some v)(hcs:v.cells=cs.toArray)(t:cm lab w)(hw:Wn ops F g)(hdN:Nat.blt d N=true)
  (h : ∀G lab' w',i7 lab 0 w lab' w'→iI lab' w' k G T cs→LW P N ops rest ((d,.pointer (some ⟨G,0,none⟩))::F) w' K):LW P N ops (⟨some d,.box T x,ty,pos,af,g⟩::rest) F w K:=
 LW.val rfl hw rfl hdN (w':=w.alloc (.cells cs.toArray T)) (fun a ha=>by simp[execOp,ha.eval hx,Instr.box,newVar,newRow,hcs,World.alloc_eq']) (h _ _ _ (i7.alloc t k _) (iI.alloc k T cs))
theorem bR(G o n:Nat):Addr.add ⟨G,o,none⟩ n=⟨G,o+n,none⟩:=by unfold Addr.add;split<;>simp_all
theorem LW.fldB{f off G o:Nat}(o':Nat)(hf:vI P T f off)(ho:Nat.beq (o+off) o'=true)(hw:Wn ops F g)(hdN:Nat.blt d N=true)(hx:ev F x=some (.pointer (some ⟨G,o,none⟩)))
  (h:LW P N ops rest ((d,.pointer (some ⟨G,o',none⟩))::F) w K):LW P N ops (⟨some d,.fieldAddr T x f,ty,pos,af,g⟩::rest) F w K:=by
 have:=Nat.eq_of_beq_eq_true ho
 subst this
 exact LW.val rfl hw rfl hdN (fun a ha=>by simp[execOp,ha.eval hx,hf w,bR]) h
theorem LW.fldA{f off:Nat}{p:Addr}(hf:vI P T f off)(hw:Wn ops F g)(hdN:Nat.blt d N=true)(hx:ev F x=some (.pointer (some p)))
  (h:LW P N ops rest ((d,.pointer (some (p.add off)))::F) w K):LW P N ops (⟨some d,.fieldAddr T x f,ty,pos,af,g⟩::rest) F w K:=
 LW.val rfl hw rfl hdN (fun a ha=>by simp[execOp,ha.eval hx,hf w]) h
theorem pD(hT:iS P T){p:Addr}(hc:w.cell? p=some v):(Instr.loadAt T (.pointer (some p))).run P w = .ok v w:=by
 simp[Instr.loadAt,Instr.sureAddr,loadVar,hT.agg w,hc]
theorem pV{n:Nat}(hT:AA P T n){p:Addr}(cs:List Value)(hn:cs.length=n)(hc : ∀j u,cs[j]?=some u→w.cell? (p.add j)=some u):(Instr.loadAt T (.pointer (some p))).run P w = .ok (.agg cs.toArray) w:=by
 subst hn
 simp[Instr.loadAt,Instr.sureAddr,loadVar,hT.agg w,hT.size w,run_loadCells_list w p cs hc]
theorem LW.loadB1{k G o:Nat}{T':TypeId}{cs:List Value}(b:iI lab w k G T' cs)(hT:iS P T)(hc:cs[o]?=some v)(hw:Wn ops F g)(hdN:Nat.blt d N=true)(hx:ev F x=some (.pointer (some ⟨G,o,none⟩)))
  (h:LW P N ops rest ((d,v)::F) w K):LW P N ops (⟨some d,.load T x,ty,pos,af,g⟩::rest) F w K:=
 LW.val rfl hw rfl hdN (fun a ha=>by simp[execOp,ha.eval hx,pD hT ((b.cell o).trans hc)]) h
theorem LW.loadAn{n:Nat}{p:Addr}{cs:List Value}(b:At lab w p cs)(hT:AA P T n)(hn:Nat.beq cs.length n=true)(hw:Wn ops F g)(hdN:Nat.blt d N=true)
  (hx:ev F x=some (.pointer (some p))) (h:LW P N ops rest ((d,.agg cs.toArray)::F) w K):LW P N ops (⟨some d,.load T x,ty,pos,af,g⟩::rest) F w K:=
 LW.val rfl hw rfl hdN (fun a ha=>by simp[execOp,ha.eval hx,pV (w:=w) hT cs (Nat.eq_of_beq_eq_true hn) (fun j u hj=>(b j u hj).2)]) h
theorem nR(hT:iS P T){p:Addr}(h1:v.cells = #[v])(ho:v.oneCell'=true)(hc:w.cell? p=some u)(hf:w.frozen? p=false):(Instr.storeAt T (.pointer (some p)) v).run P w = .ok () (w.setCell p v):=by
 simp[Instr.storeAt,Instr.sureAddr,storeVar,h1,hT.size w,storeCells,run_store _ _ _ _ _ ho,hc,hf,Addr.add]
theorem iI.set{k G o:Nat}{T':TypeId}{cs:List Value}(b:iI lab w k G T' cs)(v:Value):iI lab (w.setCell ⟨G,o,none⟩ v) k G T' (cs.set o v):=by
 refine⟨?_,b.2⟩
 rw[heap_setCell_same w G o _ _ v b.1]
 simp
theorem er{k G:Nat}{T':TypeId}: ∀(vs:List Value) (o:Nat) (cs:List Value) (w:World),iI lab w k G T' cs→o+vs.length≤cs.length→(∀u∈vs,u.oneCell'=true)→∀(i o0:Nat),o=o0+i→
  ∃w',(storeCells ⟨G,o0,none⟩ vs i).run P w = .ok () w'∧iI lab w' k G T' (cs.take o++vs++cs.drop (o+vs.length))∧(cm lab w→Nat.beq k 0=false→i7 lab k w lab w')
 | [],o,cs,w,b,_,_,i,o0,_=>⟨w,by simp[storeCells],by simpa using b,fun t _=>⟨rfl,rfl,rfl,Nat.le_refl _,fun _ _ _=>rfl,fun _ _=>rfl,t⟩⟩
 |v::vs,o,cs,w,b,hl,h1,i,o0,ho=>by
  simp only[List.length_cons]at hl
  have hlt:o<cs.length:=by omega
  have hc:w.cell? ⟨G,o,none⟩=some cs[o]:=(b.cell o).trans (List.getElem?_eq_getElem hlt)
  obtain⟨w',hr,b',hs⟩:=er vs (o+1) (cs.set o v) (w.setCell ⟨G,o,none⟩ v) (b.set v) (by simp;omega) (fun u hu=>h1 u (by simp[hu])) (i+1) o0 (by omega)
  refine⟨w',?_,?_,fun t hk=>?_⟩
  ·simp only[storeCells,Sem.run_bind,bR,←ho,run_store _ _ _ _ _ (h1 v (by simp)),hc,b.frozen o,Bool.false_eq_true,if_false,Result.andThen_ok]
   exact hr
  ·have e:cs.take o++v::vs++cs.drop (o+(v::vs).length)=(cs.set o v).take (o+1)++vs++(cs.set o v).drop (o+1+vs.length):=by
    rw[List.take_set,List.drop_set_of_lt (by omega),List.take_succ_eq_append_getElem hlt,List.set_append_right _ _ (by simp;omega)]
    simp[Nat.min_eq_left (Nat.le_of_lt hlt),Nat.add_assoc,Nat.add_comm 1]
   rw[e];exact b'
  ·have s1:=i7.setCell (w:=w) (i:=o) t hk b.2 v
   have s2:=hs (fun b hb=>t b (by simpa [World.setCell]using hb)) hk
   exact⟨s2.os.trans s1.os,s2.tape.trans s1.tape,s2.output.trans s1.output,Nat.le_trans s1.size s2.size,fun b hb hh=>(s2.block b (Nat.lt_of_lt_of_le hb s1.size) hh).trans (s1.block b hb hh),fun _ _=>rfl,s2.top⟩
theorem LW.len{oa:Option Addr}{n c:Nat}{E:TypeId}(hT:P.underlying T=some (.slice E))(hw:Wn ops F g)(hdN:Nat.blt d N=true)(hx:ev F x=some (.slice oa n c))
  (h:LW P N ops rest ((d,.int .i64 (n:Int))::F) w K):LW P N ops (⟨some d,.call { callee:=.builtin .len,args:=#[x],argTypes:=#[T] },ty,pos,af,g⟩::rest) F w K:=
 LW.val rfl hw rfl hdN (fun a ha=>by simp[execOp,resolve,invoke,builtin,ha.eval hx,Builtin.len_,goInt,run_underlying hT]) h
theorem LW.lenS{l:List UInt8}(hT:P.underlying T=some .string)(hw:Wn ops F g)(hdN:Nat.blt d N=true)(hx:ev F x=some (dG l))
  (h:LW P N ops rest ((d,.int .i64 (l.length:Int))::F) w K):LW P N ops (⟨some d,.call { callee:=.builtin .len,args:=#[x],argTypes:=#[T] },ty,pos,af,g⟩::rest) F w K:=
 LW.val rfl hw rfl hdN (fun a ha=>by simp[execOp,resolve,invoke,builtin,ha.eval hx,dG,Builtin.len_,goInt,run_underlying hT,-ByteArray.size_data];rfl) h
theorem LW.index{E:TypeId}{β:Type}{ρ:bF β}{oa:Option Addr}{c:Nat}{xs:List β}{i:Int}{k:β→Option α}{nb:Nat}{zv:Value}{yk:IntKind}(hm:bnd (az xs i) k=some r)(s:SL ρ lab w oa c xs)(hT:gv P T E ρ.sz nb zv)
  (hw:Wn ops F g) (hdN:Nat.blt d N=true) (hx:ev F x=some (.slice oa xs.length c)) (hy:ev F y=some (.int yk i))
  (h : ∀e p cs,k e=some r→ρ.rd lab w cs e→At lab w p cs→LW P N ops rest ((d,.pointer (some p))::F) w K):LW P N ops (⟨some d,.indexAddr T x y,ty,pos,af,g⟩::rest) F w K:=by
 obtain⟨e,he,hk⟩:=dv hm
 unfold az at he
 split at he
 ·rename_i h0
  obtain⟨ad,cs,rfl,hrd,hat⟩:=s.at_ he
  have hlt:i.toNat<xs.length:=(List.getElem?_eq_some_iff.1 he).1
  obtain⟨inf,hi,_,hsz,_⟩:=hT.info
  refine LW.val rfl hw rfl hdN (fun a ha=>?_) (h e _ cs hk hrd hat)
  have hlt':i<(xs.length:Int):=by omega
  simp[execOp,ha.eval hx,ha.eval hy,Instr.indexAt,asIntOf,run_underlying hT.und,h0,hlt',sizeOf,typeInfo,hi,hsz]
 ·cases he
structure OJ(P:Program)(f:FuncId):Prop where
 fn : ∃ fn, P.funcs[f]? = some fn ∧ (fn.name == "runtime.NumGoroutine") = false ∧ fn.body.isNone = false
def evs(F:List (Nat×Value)):List Operand→Option (List Value)
 | []=>some []
 |x::r=>match ev F x with
  |some v=>match evs F r with
   |some l=>some (v::l)
   |none=>none
  |none=>none
theorem pM.evals{a:Act}(ha:pM F N a): ∀{xs:List Operand} {vs:List Value},evs F xs=some vs→xs.map a.eval=vs
 | [],vs,h=>by simp[evs]at h;simp[h]
 |x::r,vs,h=>by
  unfold evs at h
  split at h
  ·rename_i v hv
   split at h
   ·rename_i l hl
    simp at h
    subst h
    simp[ha.eval hv,pM.evals ha hl]
   ·cases h
  ·cases h
theorem LW.call{f:FuncId}{xs:List Operand}{vs:List Value}{ts:Array TypeId}{R:Ending→World→Prop}(hf:OJ P f)(hc:Calls P f vs.toArray w R)(hw:Wn ops F g)(hdN:Nat.blt d N=true)(hx:evs F xs=some vs)
  (h : ∀e w',R e w'→∃v,e = .returned v∧LW P N ops rest ((d,v)::F) w' K):LW P N ops (⟨some d,.call { callee:=.value (.func f),args:=xs.toArray,argTypes:=ts },ty,pos,af,g⟩::rest) F w K:=
 LW.gen rfl hw fun a ha=>by
  obtain⟨fn,h1,h2,h3⟩:=hf.fn
  unfold Oper.wp
  have hr:(execOp a.eval ⟨some d,.call { callee:=.value (.func f),args:=xs.toArray,argTypes:=ts },ty,pos,af,g⟩).run P w = .ok (.enter f vs.toArray) w:=by
   have e:(xs.toArray.map a.eval)=vs.toArray:=by rw[List.map_toArray,ha.evals hx]
   simp only[execOp,resolve,e,Act.eval,Deferred.ofValue,invoke,callFunc,Sem.run_bind,Sem.run_pure,Result.andThen_ok,run_program,h1,h2,h3,Bool.false_eq_true,if_false];simp
  rw[hr,Oper.upon_enter]
  refine hc.mono fun e w' hR=>?_
  obtain⟨v,rfl,hl⟩:=h e w' hR
  exact hl _ (ha.put hdN v)
theorem LW.extract{i:Nat}{vs:List Value}(hw:Wn ops F g)(hdN:Nat.blt d N=true)(hx:ev F x=some (.tuple vs.toArray))(hi:vs[i]?=some v)
  (h:LW P N ops rest ((d,v)::F) w K):LW P N ops (⟨some d,.extract x i,ty,pos,af,g⟩::rest) F w K:=
 LW.val rfl hw rfl hdN (fun a ha=>by simp[execOp,ha.eval hx,Instr.extract,hi]) h
theorem enter{f:FuncId}{fn:Func}{c:Code}{args:List Value}{R:Ending→World→Prop}(hf:P.funcs[f]?=some fn)(hb:fn.body=some c)(N:Nat)(hN:Nat.beq fn.ntmps N=true)(hle:Nat.ble args.length N=true)
  (h:CW P N c (args.zipIdx.map fun p=>(p.2,p.1)) w (bodyPost P fn R)):Calls P f args.toArray w R:=by
 have hN':=Nat.eq_of_beq_eq_true hN
 subst hN'
 refine calls_of_wp hf hb (h _ ⟨?_,rfl,?_⟩)
 ·have:args.length≤fn.ntmps:=by simpa using hle
  simp;omega
 ·have key : ∀(l:List Value) (n t:Nat) (v:Value),cN ((l.zipIdx n).map fun p=>(p.2,p.1)) t=some v→n≤t∧l[t-n]?=some v:=by
   intro l
   induction l with
   |nil=>intro n t v h;simp[cN]at h
   |cons u l ih=>
    intro n t v h
    simp only[List.zipIdx_cons,List.map_cons]at h
    unfold cN at h
    split at h
    ·rename_i hb
     have e:n=t:=Nat.eq_of_beq_eq_true hb
     subst e
     simp at h
     exact⟨Nat.le_refl _,by simp[h]⟩
    ·obtain⟨h1,h2⟩:=ih (n+1) t v h
     refine⟨by omega,?_⟩
     rw[show t-n=(t-(n+1))+1 by omega,List.getElem?_cons_succ]
     exact h2
  intro t v hv
  obtain⟨_,h2⟩:=key args 0 t v hv
  simp only[Nat.sub_zero]at h2
  have hlt:t<args.length:=(List.getElem?_eq_some_iff.1 h2).1
  rw[Array.getElem?_append_left (by simpa using hlt)]
  simpa using h2
theorem EW.ret1{fn:Func}{R:Ending→World→Prop}{t:Nat}(hr:fn.results = #[.tmp t])(hv:cN F t=some v)(h:R (.returned v) w):EW N .ret F w (bodyPost P fn R):=fun a ha=>
 bodyPost_ret (v:=v) (by rw[results_tmp hr];simp[Array.getD_eq_getD_getElem?,ha.get _ _ hv]) ha.defers h
def RN(F:List (Nat×Value)):List Nat→Option (List Value)
 | []=>some []
 |t::r=>match cN F t with
  |some v=>match RN F r with
   |some l=>some (v::l)
   |none=>none
  |none=>none
end
def lin(lab:bf):bf:=fun b=>if lab b=0 then 0 else 1
structure Cx(pts:List Nat)(w0:World)(aU:bf)(w:World)(lab:bf):Prop where
 os:w.os=w0.os
 tape:w.tape=w0.tape
 output:w.output=w0.output
 size:w0.heap.size≤w.heap.size
 block : ∀b,b<w0.heap.size→b∉pts→w.heap[b]?=w0.heap[b]?
 low : ∀b,b<w0.heap.size→b∉pts→lab b=lin aU b
 top:cm lab w
section
variable {pts : List Nat} {w0 w w' : World} {aU lab lab' : bf} {k : Nat}
theorem zd(lab:bf)(b:Nat):lin lab b≤1:=by unfold lin;split<;>omega
theorem Cx.start(t:cm lab w):Cx [] w lab w (lin lab):=
 ⟨rfl,rfl,rfl,Nat.le_refl _,fun _ _ _=>rfl,fun _ _ _=>rfl,fun b hb=>by simp[lin,t b hb]⟩
theorem bd.lin:bd lab w (lin lab) w:=⟨Nat.le_refl _,fun b _ h=>⟨by simp[Gk.lin,h],rfl⟩⟩
theorem Cx.step(h:Cx pts w0 aU w lab)(e:i7 lab k w lab' w')(hk:Nat.beq k 1=false):Cx pts w0 aU w' lab':=by
 have hk1:k≠1:=fun e=>by subst e;simp at hk
 refine⟨e.os.trans h.os,e.tape.trans h.tape,e.output.trans h.output,Nat.le_trans h.size e.size,fun b hb hp=>?_,fun b hb hp=>?_,e.top⟩
 ·refine(e.block b (Nat.lt_of_lt_of_le hb h.size) ?_).trans (h.block b hb hp)
  by_cases hk0:k=0
  ·exact .inl hk0
  ·refine .inr ?_
   rw[h.low b hb hp]
   have:=zd aU b
   omega
 ·exact(e.same b (Nat.lt_of_lt_of_le hb h.size)).trans (h.low b hb hp)
theorem Cx.ste(h:Cx [] w0 aU w lab)(t:cm aU w0):i7 aU 0 w0 aU w:=
 ⟨h.os,h.tape,h.output,h.size,fun b hb _=>h.block b hb (by simp),fun _ _=>rfl,fun b hb=>t b (Nat.le_trans h.size hb)⟩
theorem Cx.keeps(h:Cx [] w0 aU w lab)(t:cm aU w0):bd lab w aU w:=
 ⟨Nat.le_refl _,fun b _ h0=>⟨by
  rcases Nat.lt_or_ge b w0.heap.size with hb |hb
  ·have:=h.low b hb (by simp)
   rw[h0]at this
   unfold lin at this
   split at this
   ·assumption
   ·cases this
  ·exact t b hb,rfl⟩⟩
end
theorem gP{sz:Nat}: ∀(css:List (List Value)),(∀cs∈css,cs.length=sz)→∀(i j:Nat) (cs:List Value),css[i]?=some cs→j<sz→css.flatten[i*sz+j]?=cs[j]?
 | [],_,i,j,cs,h,_=>by simp at h
 |c::r,hl,0,j,cs,h,hj=>by
  simp at h
  subst h
  simp only[List.flatten_cons,Nat.zero_mul,Nat.zero_add]
  exact List.getElem?_append_left (by rw[hl c (by simp)];exact hj)
 |c::r,hl,i+1,j,cs,h,hj=>by
  have hc:c.length=sz:=hl c (by simp)
  simp only[List.flatten_cons]
  rw[List.getElem?_append_right (by rw[hc,Nat.add_mul];omega),hc,show(i+1)*sz+j-sz=i*sz+j by rw[Nat.add_mul];omega]
  exact gP r (fun cs h=>hl cs (by simp[h])) i j cs (by simpa using h) hj
theorem eY{sz:Nat}: ∀(css:List (List Value)),(∀cs∈css,cs.length=sz)→css.flatten.length=css.length*sz
 | [],_=>by simp
 |c::r,hl=>by
  simp only[List.flatten_cons,List.length_append,List.length_cons,hl c (by simp),eY r (fun cs h=>hl cs (by simp[h])),Nat.add_mul]
  omega
section
variable {α : Type} {ρ : bF α} {lab lab' : bf} {w w' : World} {oa : Option Addr} {c k k' E : Nat} {xs : List α}
def cT(ρ:bF α)(lab:bf)(w:World):List (List Value)→List α→Prop
 | [],[]=>True
 |cs::css,x::xs=>ρ.rd lab w cs x∧cT ρ lab w css xs
 |_,_=>False
theorem cT.keep(hk:bd lab w lab' w'): ∀{css:List (List Value)} {xs:List α},cT ρ lab w css xs→cT ρ lab' w' css xs
 | [],[],_=>trivial
 |_::_,_::_,⟨h1,h2⟩=>⟨ρ.keep hk h1,cT.keep hk h2⟩
theorem cT.len : ∀{css:List (List Value)} {xs:List α},cT ρ lab w css xs→css.length=xs.length
 | [],[],_=>rfl
 |_::_,_::_,⟨_,h2⟩=>by simp[cT.len h2]
theorem cT.each : ∀{css:List (List Value)} {xs:List α},cT ρ lab w css xs→∀cs∈css,cs.length=ρ.sz∧∀u∈cs,u.oneCell'=true
 | [],[],_,cs,h=>by simp at h
 |_::_,_::_,⟨h1,h2⟩,cs,h=>by
  rcases List.mem_cons.1 h with rfl |h
  ·exact⟨ρ.len h1,ρ.one h1⟩
  ·exact cT.each h2 cs h
theorem cT.get : ∀{css:List (List Value)} {xs:List α},cT ρ lab w css xs→∀{i:Nat} {x:α},xs[i]?=some x→∃cs,css[i]?=some cs∧ρ.rd lab w cs x
 | [],[],_,i,x,h=>by simp at h
 |_::_,_::_,⟨h1,_⟩,0,x,h=>by simp at h;subst h;exact⟨_,rfl,h1⟩
 |_::_,_::_,⟨_,h2⟩,i+1,x,h=>by simpa using cT.get h2 (by simpa using h)
theorem cT.append : ∀{css:List (List Value)} {xs:List α} {ds:List (List Value)} {ys:List α},cT ρ lab w css xs→cT ρ lab w ds ys→cT ρ lab w (css++ds) (xs++ys)
 | [],[],_,_,_,h=>h
 |_::_,_::_,_,_,⟨h1,h2⟩,h=>⟨h1,cT.append h2 h⟩
def cY(ρ:bF α)(lab:bf)(w:World)(k:Nat)(E:TypeId)(oa:Option Addr)(c:Nat)(xs:List α):Prop:=
 ∃css,cT ρ lab w css xs∧((oa=none∧c=0∧xs = [])∨
  ∃g du,oa=some ⟨g,0,none⟩∧w.heap[g]?=some (.cells du E (0,0))∧xs.length≤c∧c≤maxLen∧du.size=c*ρ.sz∧du.toList.take (xs.length*ρ.sz)=css.flatten∧lab g=k)
theorem cY.nil:cY ρ lab w k E none 0 []:=⟨[],trivial,.inl ⟨rfl,rfl,rfl⟩⟩
theorem cY.step(h:cY ρ lab w k E oa c xs)(e:i7 lab k' w lab' w')(hne:Nat.beq k k'=false):cY ρ lab' w' k E oa c xs:=by
 have hk:k≠k':=fun e=>by subst e;simp at hne
 obtain⟨css,h1,h2⟩:=h
 refine⟨css,h1.keep e.keeps,?_⟩
 rcases h2 with h2 | ⟨g,du,ha,hg,h3,h4,h5,h6,h7⟩
 ·exact .inl h2
 ·have hlt:g<w.heap.size:=(Array.getElem?_eq_some_iff.1 hg).1
  exact .inr ⟨g,du,ha,(e.block g hlt (.inr (by rw[h7];exact hk))).trans hg,h3,h4,h5,h6,(e.same g hlt).trans h7⟩
theorem cY.ownsRow{css:List (List Value)}(h2:(oa=none∧c=0∧xs = [])∨
  ∃g du,oa=some ⟨g,0,none⟩∧w.heap[g]?=some (.cells du E (0,0))∧xs.length≤c∧c≤maxLen∧du.size=c*ρ.sz∧du.toList.take (xs.length*ρ.sz)=css.flatten∧lab g=k) (h1:cT ρ lab w css xs) :
  w.ownsRow 0 E ρ.sz (.slice oa xs.length c) xs.length css.flatten:=by
 refine⟨?_,?_⟩
 ·rw[eY css (fun cs h=>(h1.each cs h).1),h1.len]
 ·rcases h2 with⟨rfl,rfl,rfl⟩ | ⟨g,du,rfl,hg,h3,h4,h5,h6,_⟩
  ·exact .inl ⟨rfl,rfl⟩
  ·exact .inr ⟨g,c,du,rfl,Nat.zero_le _,hg,h3,h4,h5,h6⟩
theorem cY.sl(h:cY ρ lab w k E oa c xs)(hk:bd lab w lab' w)(h0 : ∀b,b<w.heap.size→lab b=k→lab' b=0):SL ρ lab' w oa c xs:=by
 obtain⟨css,h1,h2⟩:=h
 rcases h2 with⟨rfl,rfl,rfl⟩ | ⟨g,du,rfl,hg,h3,h4,h5,h6,h7⟩
 ·exact SL.nil
 ·refine⟨h3,h4,fun i x hx=>?_⟩
  obtain⟨cs,hc,hrd⟩:=h1.get hx
  have hlt:i<xs.length:=(List.getElem?_eq_some_iff.1 hx).1
  refine⟨_,cs,rfl,ρ.keep hk hrd,fun j u hu=>?_⟩
  have hgl:g<w.heap.size:=(Array.getElem?_eq_some_iff.1 hg).1
  refine⟨by rw[ej];exact h0 g hgl h7,?_⟩
  have hj:j<ρ.sz:=by
   have:=ρ.len hrd
   rcases Nat.lt_or_ge j cs.length with h |h
   ·omega
   ·rw[List.getElem?_eq_none h]at hu;cases hu
  rw[fH,bR,Nat.zero_add,cell_of_row w g _ du E (0,0) hg]
  have e:=gP css (fun cs h=>(h1.each cs h).1) i j cs hc hj
  rw[←h6,hu,List.getElem?_take_of_lt (by
   have:(i+1)*ρ.sz≤xs.length*ρ.sz:=Nat.mul_le_mul_right _ hlt
   rw[Nat.add_mul]at this;omega)]at e
  simpa using e
def zz(ρ:bF α)(lab:bf)(w:World)(oa:Option Addr)(xs:List α):Prop:=
 (oa=none→xs = [])∧∃css,cT ρ lab w css xs∧∀ad,oa=some ad→∀j u,css.flatten[j]?=some u→w.cell? (ad.add j)=some u
theorem cY.flat(h:cY ρ lab w k E oa c xs):zz ρ lab w oa xs:=by
 obtain⟨css,h1,h2⟩:=h
 rcases h2 with⟨rfl,rfl,rfl⟩ | ⟨g,du,rfl,hg,h3,h4,h5,h6,h7⟩
 ·exact⟨fun _=>rfl,css,h1,fun _ h=>by cases h⟩
 ·refine⟨fun h=>(by cases h),css,h1,fun ad e j u hu=>?_⟩
  cases e
  rw[bR,Nat.zero_add,cell_of_row w g _ du E (0,0) hg]
  rw[←h6]at hu
  have hlt:j<xs.length*ρ.sz:=by
   rcases Nat.lt_or_ge j (xs.length*ρ.sz)with h |h
   ·exact h
   ·rw[List.getElem?_eq_none (by simp;omega)]at hu;cases hu
  rw[List.getElem?_take_of_lt hlt]at hu
  simpa using hu
theorem SL.flat(s:SL ρ lab w oa c xs): ∃css,cT ρ lab w css xs∧∀ad,oa=some ad→∀j u,css.flatten[j]?=some u→w.cell? (ad.add j)=some u:=by
 obtain⟨_,_,h⟩:=s
 rcases Option.eq_none_or_eq_some oa with rfl | ⟨ad,rfl⟩
 ·match xs,h with
  | [],_=>exact⟨[],trivial,fun _ h=>by cases h⟩
  |x::_,h=>obtain⟨_,_,h,_⟩:=h 0 x rfl;cases h
 ·have key : ∀(ys:List α) (n:Nat),(∀i x,ys[i]?=some x→xs[n+i]?=some x)→∃css,cT ρ lab w css ys∧∀j u,css.flatten[j]?=some u→w.cell? (ad.add (n*ρ.sz+j))=some u:=by
   intro ys
   induction ys with
   |nil=>exact fun n _=>⟨[],trivial,fun j u hu=>by simp at hu⟩
   |cons y ys ih=>
    intro n hn
    obtain⟨css,h1,h2⟩:=ih (n+1) (fun i x hx=>by have:=hn (i+1) x (by simpa using hx);rwa [show n+(i+1)=n+1+i by omega]at this)
    obtain⟨ad',cs,hA,hrd,hat⟩:=h n y (by simpa using hn 0 y rfl)
    cases hA
    have hl:=ρ.len hrd
    refine⟨cs::css,⟨hrd,h1⟩,fun j u hu=>?_⟩
    simp only[List.flatten_cons]at hu
    rcases Nat.lt_or_ge j cs.length with hj |hj
    ·rw[List.getElem?_append_left hj]at hu
     have:=(hat j u hu).2
     rwa [fH]at this
    ·rw[List.getElem?_append_right hj]at hu
     have:=h2 _ _ hu
     rwa [show(n+1)*ρ.sz+(j-cs.length)=n*ρ.sz+j by rw[Nat.add_mul];omega]at this
  obtain⟨css,h1,h2⟩:=key xs 0 (fun i x hx=>by simpa using hx)
  exact⟨css,h1,fun ad' e j u hu=>by cases e;simpa using h2 j u hu⟩
end
section
variable {α : Type} {ρ : bF α} {lab : bf} {w : World} {oa : Option Addr} {c : Nat} {xs : List α}
theorem SL.flat'(s:SL ρ lab w oa c xs):zz ρ lab w oa xs:=by
 refine⟨fun h=>?_,s.flat⟩
 subst h
 match xs,s with
 | [],_=>rfl
 |x::_,s=>obtain⟨_,_,h,_⟩:=s.at_ (i:=0) (x:=x) rfl;cases h
end
section
variable {P : Program} {N : Nat} {ops : Array Oper} {rest : List Oper} {F : List (Nat × Value)} {w : World} {K : eT} {lab : bf}
variable {ty : TypeId} {pos : String} {af : Array Edge} {g : Option (Nat × Bool)} {d : Nat} {x y z : Operand} {v u : Value} {α β : Type} {r : α} {T E : TypeId}
theorem rK(base:Nat)(t ty e:TypeId)(i:TypeInfo)(size:Nat)(ht:P.underlying t=some (.slice e))(hi:P.info? e=some i)
  (v:Value) (n:Nat) (xs:List Value) (hown:w.ownsRow base e size v n xs) (c:Nat):(Builtin.append_ #[t,t] ty #[v,.slice none 0 c]).run P w = .ok v w:=by
 rcases hown.2 with⟨rfl,rfl⟩ | ⟨g,cap,du,rfl,_,_,hnc,_⟩
 ·simp[Builtin.append_,run_underlying ht,sizeOf,typeInfo,hi,Builtin.lenOf,Builtin.firstCells]
 ·simp[Builtin.append_,run_underlying ht,sizeOf,typeInfo,hi,Builtin.lenOf,Builtin.firstCells,hnc,storeCells]
theorem lL{xs ys zs:List β}(h:app xs ys=some zs):xs.length+ys.length≤wZ∧zs=xs++ys:=by
 unfold app at h
 split at h
 ·exact⟨by assumption,by simpa using h.symm⟩
 ·cases h
theorem n9{ρ:bF β}{oa oa':Option Addr}{c c' k nb:Nat}{xs ys:List β}{zv:Value}(t:cm lab w)(hk0:Nat.beq k 0=false)(o:cY ρ lab w k E oa c xs)(s:zz ρ lab w oa' ys)(hT:gv P T E ρ.sz nb zv)(hb:Nat.ble nb 32768=true)(hl:xs.length+ys.length≤wZ)(ty:TypeId):
  ∃oa2 c2 lab2 w2,(Builtin.append_ #[T,T] ty #[.slice oa xs.length c,.slice oa' ys.length c']).run P w = .ok (.slice oa2 (xs++ys).length c2) w2∧i7 lab k w lab2 w2∧cY ρ lab2 w2 k E oa2 c2 (xs++ys):=by
 obtain⟨css,h1,h2⟩:=o
 have hown:=cY.ownsRow h2 h1
 obtain⟨i,hi,hz,hsz,hby⟩:=hT.info
 obtain⟨hnil,ds,d1,d2⟩:=s
 rcases Option.eq_none_or_eq_some oa' with rfl | ⟨ad,rfl⟩
 ·match ys,hnil rfl with
  | [],_=>
   refine⟨oa,c,lab,w,?_,⟨rfl,rfl,rfl,Nat.le_refl _,fun _ _ _=>rfl,fun _ _=>rfl,t⟩,by simpa using⟨css,h1,h2⟩⟩
   have:=rK (P:=P) (w:=w) 0 T ty E i ρ.sz hT.und hi _ _ _ hown c'
   simpa using this
 ·have hb':nb≤32768:=by simpa using hb
  have hlen:ds.flatten.length=ys.length*ρ.sz:=by rw[eY ds (fun cs h=>(d1.each cs h).1),d1.len]
  have hone : ∀u∈ds.flatten,u.oneCell'=true:=fun u hu=>by
   obtain⟨cs,hcs,hu⟩:=List.mem_flatten.1 hu
   exact(d1.each cs hcs).2 u hu
  unfold wZ at hl
  obtain⟨v',w',hrun,hown',hg,_,hblk⟩:=run_append_own_at (P:=P) w 0 T ty E i zv ρ.sz nb hT.und hi hz hsz hby hT.zn hT.pos _ _ _ hown ad ys.length c' ds.flatten hlen (d2 ad rfl) hone
   (by unfold maxLen;omega) (Nat.le_trans (Nat.mul_le_mul hl hb') (by decide)) (Nat.zero_le _)
  -- the labels behind it
  let lab2:bf:=fun b=>if b=w.heap.size∧w.heap.size<w'.heap.size∧v'.ownBlock=some b then k else lab b
  have hrow : ∀b,b<w.heap.size→lab b≠k→some b≠(Value.slice oa xs.length c).ownBlock:=fun b hb hne e=>by
   rcases h2 with⟨rfl,_⟩ | ⟨g,du,rfl,_,_,_,_,_,h7⟩
   ·simp[Value.ownBlock]at e
   ·simp[Value.ownBlock]at e;subst e;exact hne h7
  have ste:i7 lab k w lab2 w':=by
   refine⟨hg.os,hg.tape,hg.output,hg.size,fun b hb h=>?_,fun b hb=>?_,fun b hb=>?_⟩
   ·refine hg.block b hb ?_
    rcases h with h |h
    ·subst h;simp at hk0
    ·exact hrow b hb h
   ·simp only[lab2];rw[if_neg (by omega)]
   ·simp only[lab2];rw[if_neg (by omega)];exact t b (Nat.le_trans hg.size hb)
  have hform : ∃oa2 c2,v' = .slice oa2 (xs++ys).length c2:=by
   rcases hown'.2 with⟨rfl,h0⟩ | ⟨g,cap,du,rfl,_⟩
   ·exact⟨none,0,by rw[List.length_append,h0]⟩
   ·exact⟨_,cap,by rw[List.length_append]⟩
  obtain⟨oa2,c2,rfl⟩:=hform
  refine⟨oa2,c2,lab2,w',hrun,ste,css++ds,(h1.append d1).keep ste.keeps,?_⟩
  rcases hown'.2 with⟨hv,h0⟩ | ⟨g,cap,du,hv,_,hcur,hle,hmx,hsize,htake⟩
  ·injection hv with e1 e2 e3
   exact .inl ⟨e1,e3,List.eq_nil_of_length_eq_zero (by rw[List.length_append];exact h0)⟩
  ·injection hv with e1 e2 e3
   subst e1;subst e3
   refine .inr ⟨g,du,rfl,hcur,by rw[List.length_append];exact hle,hmx,hsize,by rw[List.length_append,htake,List.flatten_append],?_⟩
   simp only[Value.ownBlock]at hblk
   have hgl:g<w'.heap.size:=(Array.getElem?_eq_some_iff.1 hcur).1
   simp only[lab2,Value.ownBlock]
   rcases Nat.lt_or_ge g w.heap.size with hlt |hge
   ·rw[if_neg (by omega)]
    rcases hblk with hblk |hblk
    ·rcases h2 with⟨rfl,_⟩ | ⟨g',cur',rfl,_,_,_,_,_,h7⟩
     ·simp at hblk
     ·simp at hblk;subst hblk;exact h7
    ·simp at hblk;omega
   ·have:g=w.heap.size:=by
     rcases hblk with hblk |hblk
     ·rcases h2 with⟨rfl,_⟩ | ⟨g',cur',rfl,hg',_,_,_,_,h7⟩
      ·simp at hblk
      ·simp at hblk;subst hblk
       have:=(Array.getElem?_eq_some_iff.1 hg').1;omega
     ·simpa using hblk
    rw[if_pos ⟨this,by omega,by simp⟩]
theorem LW.append{ρ:bF β}{oa oa':Option Addr}{c c' k nb:Nat}{xs ys:List β}{zv:Value}{kk:List β→Option α}(hm:bnd (app xs ys) kk=some r)(o:cY ρ lab w k E oa c xs)(s:zz ρ lab w oa' ys)
  (t:cm lab w) (hk0:Nat.beq k 0=false) (hT:gv P T E ρ.sz nb zv) (hb:Nat.ble nb 32768=true)
  (hw:Wn ops F g) (hdN:Nat.blt d N=true) (hx:ev F x=some (.slice oa xs.length c)) (hy:ev F y=some (.slice oa' ys.length c'))
  (h : ∀zs oa2 c2 lab2 w2,kk zs=some r→i7 lab k w lab2 w2→cY ρ lab2 w2 k E oa2 c2 zs→LW P N ops rest ((d,.slice oa2 zs.length c2)::F) w2 K) :
  LW P N ops (⟨some d,.call { callee:=.builtin .append,args:=#[x,y],argTypes:=#[T,T] },ty,pos,af,g⟩::rest) F w K:=by
 obtain⟨zs,hz,hk⟩:=dv hm
 obtain⟨hl,rfl⟩:=lL hz
 obtain⟨oa2,c2,lab2,w2,hrun,hs,ho⟩:=n9 (P:=P) (c':=c') t hk0 o s hT hb hl ty
 exact LW.val rfl hw rfl hdN (fun a ha=>by simp[execOp,resolve,invoke,builtin,ha.eval hx,ha.eval hy,hrun]) (h _ _ _ _ _ hk hs ho)
theorem LW.build{parts:List (Nat×Operand)}{vs:List (Nat×Value)}{cs:List Value}(he:parts.map (fun p=>(p.1,ev F p.2))=vs.map (fun p=>(p.1,some p.2)))(hb:P.built T vs=some cs.toArray)
  (hw:Wn ops F g) (hdN:Nat.blt d N=true) (h:LW P N ops rest ((d,.agg cs.toArray)::F) w K):LW P N ops (⟨some d,.build T parts.toArray,ty,pos,af,g⟩::rest) F w K:=
 LW.val rfl hw rfl hdN (fun a ha=>by
  have e:parts.map (fun p=>(p.1,a.eval p.2))=vs:=by
   clear hb
   induction parts generalizing vs with
   |nil=>cases vs<;>simp_all
   |cons p r ih=>
    cases vs with
    |nil=>simp at he
    |cons q vs=>
     simp only[List.map_cons,List.cons.injEq,Prod.mk.injEq]at he
     obtain⟨⟨h1,h2⟩,h3⟩:=he
     simp only[List.map_cons,List.cons.injEq]
     exact⟨by rw[ha.eval h2,h1],ih h3⟩
  have hr:=run_build (P:=P) w T (parts.map fun p=>(p.1,a.eval p.2)).toArray cs.toArray (by rw[e];exact hb)
  simp only[execOp,Sem.run_bind,List.map_toArray]
  rw[hr];simp) h
def pw(z:Value)(n:Nat):Array Value:=(Array.range n).map fun i=>z.cells[i%z.cells.size]!
theorem LW.buildSlice{ρ:bF β}{parts:List (Nat×Operand)}{vs:List (Nat×Value)}{css:List (List Value)}{xs:List β}{n nb:Nat}{zv:Value}(he:parts.map (fun p=>(p.1,ev F p.2))=vs.map (fun p=>(p.1,some p.2)))
  (hT:gv P T E ρ.sz nb zv) (hE:mD P E zv) (hf:Instr.fill (fun i=>some (i*ρ.sz,ρ.sz)) (pw zv (n*ρ.sz)) vs=some css.flatten.toArray) (hbig:Nat.ble (n*ρ.sz) 16777216=true) (hn:Nat.beq n xs.length=true) (hrd:cT ρ lab w css xs) (t:cm lab w)
  (hw:Wn ops F g) (hdN:Nat.blt d N=true)
  (h : ∀oa c lab' w',i7 lab 0 w lab' w'→SL ρ lab' w' oa c xs→LW P N ops rest ((d,.slice oa xs.length c)::F) w' K):LW P N ops (⟨some d,.buildSlice T n parts.toArray,ty,pos,af,g⟩::rest) F w K:=by
 have hn':=Nat.eq_of_beq_eq_true hn
 have hbig':n*ρ.sz≤16777216:=by simpa using hbig
 subst hn'
 obtain⟨i,hi,hz,hsz,hby⟩:=hT.info
 have ste:=i7.alloc t 0 (.cells css.flatten.toArray E)
 have sS:relab lab w.heap.size 0=lab:=by
  funext b
  simp only[relab]
  split
  ·rename_i e;subst e;exact(t _ (Nat.le_refl _)).symm
  ·rfl
 rw[sS]at ste
 have hpos:=hT.pos
 have hxl:xs.length≤16777216:=Nat.le_trans (Nat.le_mul_of_pos_right _ hpos) hbig'
 refine LW.val rfl hw rfl hdN (w':=w.alloc (.cells css.flatten.toArray E)) (v:=.slice (some ⟨w.heap.size,0,none⟩) xs.length xs.length) (fun a ha=>?_) (h _ _ _ _ ste ?_)
 ·have e:parts.map (fun p=>(p.1,a.eval p.2))=vs:=by
   clear hf
   induction parts generalizing vs with
   |nil=>cases vs<;>simp_all
   |cons p r ih=>
    cases vs with
    |nil=>simp at he
    |cons q vs=>
     simp only[List.map_cons,List.cons.injEq,Prod.mk.injEq]at he
     obtain⟨⟨h1,h2⟩,h3⟩:=he
     simp only[List.map_cons,List.cons.injEq]
     exact⟨by rw[ha.eval h2,h1],ih h3⟩
  have hle : ¬(xs.length*ρ.sz>2^24):=by omega
  have hr0:Array.range 0 = #[]:=rfl
  unfold pw at hf
  by_cases h0:xs.length*ρ.sz=0
  ·rw[h0,hr0]at hf
   simp only[Array.map_empty]at hf
   simp only[execOp,Instr.buildSlice,Sem.run_bind,List.map_toArray,run_underlying hT.und,Result.andThen_ok,sizeOf,typeInfo,run_program,hi,Sem.run_pure,hsz,e]
   simp[h0,hr0,hf,newRow,World.alloc_eq']
  ·simp only[execOp,Instr.buildSlice,Sem.run_bind,List.map_toArray,run_underlying hT.und,Result.andThen_ok,sizeOf,typeInfo,run_program,hi,Sem.run_pure,hsz,e,hle,h0,if_false,hE w,hf]
   simp[newRow,World.alloc_eq']
 ·refine⟨Nat.le_refl _,by unfold maxLen;omega,fun j q hq=>?_⟩
  obtain⟨cs,hc,hr⟩:=hrd.get hq
  refine⟨_,cs,rfl,ρ.keep ste.keeps hr,fun m u hu=>⟨by rw[ej];exact t _ (Nat.le_refl _),?_⟩⟩
  have hm:m<ρ.sz:=by
   have:=ρ.len hr
   rcases Nat.lt_or_ge m cs.length with h |h
   ·omega
   ·rw[List.getElem?_eq_none h]at hu;cases hu
  rw[fH,bR,Nat.zero_add,cell_of_row _ w.heap.size _ _ E (0,0) (heap_alloc_new w _)]
  have:=gP css (fun cs h=>(hrd.each cs h).1) j m cs hc hm
  simpa [hu]using this
theorem LW.buildOwn{ρ:bF β}{parts:List (Nat×Operand)}{vs:List (Nat×Value)}{css:List (List Value)}{xs:List β}{n nb:Nat}(k:Nat){zv:Value}(he:parts.map (fun p=>(p.1,ev F p.2))=vs.map (fun p=>(p.1,some p.2)))
  (hT:gv P T E ρ.sz nb zv) (hE:mD P E zv) (hf:Instr.fill (fun i=>some (i*ρ.sz,ρ.sz)) (pw zv (n*ρ.sz)) vs=some css.flatten.toArray) (hbig:Nat.ble (n*ρ.sz) 16777216=true) (hn:Nat.beq n xs.length=true) (hrd:cT ρ lab w css xs) (t:cm lab w)
  (hw:Wn ops F g) (hdN:Nat.blt d N=true)
  (h : ∀oa c lab' w',i7 lab 0 w lab' w'→cY ρ lab' w' k E oa c xs→LW P N ops rest ((d,.slice oa xs.length c)::F) w' K):LW P N ops (⟨some d,.buildSlice T n parts.toArray,ty,pos,af,g⟩::rest) F w K:=by
 have hn':=Nat.eq_of_beq_eq_true hn
 have hbig':n*ρ.sz≤16777216:=by simpa using hbig
 subst hn'
 obtain⟨i,hi,hz,hsz,hby⟩:=hT.info
 have ste:=i7.alloc t k (.cells css.flatten.toArray E)
 have hpos:=hT.pos
 have hxl:xs.length≤16777216:=Nat.le_trans (Nat.le_mul_of_pos_right _ hpos) hbig'
 refine LW.val rfl hw rfl hdN (w':=w.alloc (.cells css.flatten.toArray E)) (v:=.slice (some ⟨w.heap.size,0,none⟩) xs.length xs.length) (fun a ha=>?_) (h _ _ _ _ ste ?_)
 ·have e:parts.map (fun p=>(p.1,a.eval p.2))=vs:=by
   clear hf
   induction parts generalizing vs with
   |nil=>cases vs<;>simp_all
   |cons p r ih=>
    cases vs with
    |nil=>simp at he
    |cons q vs=>
     simp only[List.map_cons,List.cons.injEq,Prod.mk.injEq]at he
     obtain⟨⟨h1,h2⟩,h3⟩:=he
     simp only[List.map_cons,List.cons.injEq]
     exact⟨by rw[ha.eval h2,h1],ih h3⟩
  have hle : ¬(xs.length*ρ.sz>2^24):=by omega
  have hr0:Array.range 0 = #[]:=rfl
  unfold pw at hf
  by_cases h0:xs.length*ρ.sz=0
  ·rw[h0,hr0]at hf
   simp only[Array.map_empty]at hf
   simp only[execOp,Instr.buildSlice,Sem.run_bind,List.map_toArray,run_underlying hT.und,Result.andThen_ok,sizeOf,typeInfo,run_program,hi,Sem.run_pure,hsz,e]
   simp[h0,hr0,hf,newRow,World.alloc_eq']
  ·simp only[execOp,Instr.buildSlice,Sem.run_bind,List.map_toArray,run_underlying hT.und,Result.andThen_ok,sizeOf,typeInfo,run_program,hi,Sem.run_pure,hsz,e,hle,h0,if_false,hE w,hf]
   simp[newRow,World.alloc_eq']
 ·refine⟨css,hrd.keep ste.keeps,.inr ⟨w.heap.size,css.flatten.toArray,rfl,heap_alloc_new w _,Nat.le_refl _,by unfold maxLen;omega,?_,?_,by simp[relab]⟩⟩
  ·rw[List.size_toArray,eY css (fun cs h=>(hrd.each cs h).1),hrd.len]
  ·have:=eY css (fun cs h=>(hrd.each cs h).1)
   rw[hrd.len]at this
   rw[←this]
   exact List.take_length
theorem SL.bytes{oa:Option Addr}{c:Nat}{xs:List UInt8}(s:SL bF.u8 lab w oa c xs):(Conv.bytesToString (.slice oa xs.length c)).run P w = .ok (dG xs) w:=by
 obtain⟨css,h1,h2⟩:=s.flat
 have hcss:css.flatten=xs.map fun x=>Value.int .u8 (x.toNat:Int):=by
  clear h2 s
  induction css generalizing xs with
  |nil=>cases xs with
   |nil=>rfl
   |cons _ _=>exact h1.elim
  |cons cs css ih=>cases xs with
   |nil=>exact h1.elim
   |cons x xs=>
    obtain⟨e,h1⟩:=h1
    have e':cs = [.int .u8 (x.toNat:Int)]:=e
    rw[List.flatten_cons,e',ih h1];rfl
 rcases Option.eq_none_or_eq_some oa with rfl | ⟨ad,rfl⟩
 ·match xs,s with
  | [],_=>rfl
  |x::_,s=>obtain⟨_,_,h,_⟩:=s.at_ (i:=0) (x:=x) rfl;cases h
 ·have hl:=run_loadCells_list (P:=P) w ad css.flatten (h2 ad rfl)
  rw[hcss,List.length_map]at hl
  have hm:(xs.map fun x=>Value.int .u8 (x.toNat:Int))=(xs.map fun x=>(x.toNat:Int)).map (Value.int .u8):=by simp
  rw[hm]at hl
  rw[run_bytesToString w ad xs.length c _ hl,foldl_push_bytes]
  simp[dG,ByteArray.empty,ByteArray.emptyWithCapacity,Function.comp_def]
  rfl
end
def aj(n:Int):UInt8:=UInt8.ofNat (n%256).toNat
def ab(n:Int):UInt64:=UInt64.ofNat (n%18446744073709551616).toNat
def lk(n:Int):UInt32:=UInt32.ofNat (n%4294967296).toNat
theorem wrap_u8(n:Int):IntKind.u8.wrap n=((aj n).toNat:Int):=by
 rw[IntKind.wrap_u8];unfold aj;simp;omega
theorem wrap_u32(n:Int):IntKind.u32.wrap n=((lk n).toNat:Int):=by
 rw[IntKind.wrap_u32];unfold lk;simp;omega
theorem lD(n:Int):IntKind.u64.wrap n=((ab n).toNat:Int):=by
 simp[IntKind.wrap,IntKind.bits,IntKind.signed,ab];omega
section
variable {P : Program} {N : Nat} {ops : Array Oper} {rest : List Oper} {F : List (Nat × Value)} {w : World} {K : eT} {lab : bf}
variable {ty : TypeId} {pos : String} {af : Array Edge} {g : Option (Nat × Bool)} {d : Nat} {x y z : Operand} {v u : Value} {α β : Type} {r : α} {T E S t t' : TypeId}
def Is(P:Program)(T:TypeId)(k:IntKind):Prop:=P.underlying T=some (.int k)
theorem ED{sk k:IntKind}{n:Int}(hs:(P.underlying S).isSome=true)(hT:Is P T k):(convert S T (.int sk n)).run P w = .ok (.int k (k.wrap n)) w:=by
 obtain⟨q,hq⟩:=Option.isSome_iff_exists.1 hs
 unfold Is at hT
 simp[convert,run_underlying hq,run_underlying hT,Conv.intToInt]
theorem LW.cvt_i64{sk:IntKind}{n:Int}{k:Int→Option α}(hm:letm (aP n) k=some r)(hs:(P.underlying S).isSome=true)(hT:Is P T .i64)(hw:Wn ops F g)(hdN:Nat.blt d N=true)(hx:ev F x=some (.int sk n))
  (h : ∀c,k c=some r→LW P N ops rest ((d,.int .i64 c)::F) w K):LW P N ops (⟨some d,.convert S T x,ty,pos,af,g⟩::rest) F w K:=
 LW.val rfl hw rfl hdN (fun a ha=>by simp[execOp,ha.eval hx,ED hs hT,aP]) (h _ hm)
theorem B8{n:Int}(h : -9223372036854775808≤n∧n≤9223372036854775807):aP n=n:=IntWalk.i64_in n h
section
variable {a b : UInt8} {k : UInt8 → Option α}
end
section
variable {a b : UInt64} {k : UInt64 → Option α}
def we(a:UInt64)(n:Int):Option UInt64:=if n<0 then none else some (UInt64.ofNat (a.toNat/2^min n.toNat 64))
end
theorem LW.eqb{a b:Bool}{k:Bool→Option α}(hm:letm (a==b) k=some r)(hT:P.underlying t=some .bool)(hw:Wn ops F g)(hdN:Nat.blt d N=true)(hx:ev F x=some (.bool a))(hy:ev F y=some (.bool b))
  (h : ∀c,k c=some r→LW P N ops rest ((d,.bool c)::F) w K):LW P N ops (⟨some d,.binOp .eql t x y t',ty,pos,af,g⟩::rest) F w K:=
 LW.val rfl hw rfl hdN (fun _ ha=>dg _ _ _ (ha.eval hx) (ha.eval hy) (by simp[eqGuard_at_bool]) (run_eql_bool w t a b hT)) (h _ hm)
theorem LW.neb{a b:Bool}{k:Bool→Option α}(hm:letm (a != b) k=some r)(hT:P.underlying t=some .bool)(hw:Wn ops F g)(hdN:Nat.blt d N=true)(hx:ev F x=some (.bool a))(hy:ev F y=some (.bool b))
  (h : ∀c,k c=some r→LW P N ops rest ((d,.bool c)::F) w K):LW P N ops (⟨some d,.binOp .neq t x y t',ty,pos,af,g⟩::rest) F w K:=
 LW.val rfl hw rfl hdN (fun _ ha=>dg _ _ _ (ha.eval hx) (ha.eval hy) (by simp[eqGuard_at_bool]) (run_neq_bool w t a b hT)) (h _ hm)
theorem nK(l:List UInt8):(ByteArray.mk l.toArray).toList=l:=by
 simp
theorem LW.b2s{oa:Option Addr}{c:Nat}{xs:List UInt8}(s:SL bF.u8 lab w oa c xs)(hS:P.underlying S=some (.slice E))(hE:P.underlying E=some (.int .u8))(hT:P.underlying T=some .string)(hw:Wn ops F g)(hdN:Nat.blt d N=true)
  (hx:ev F x=some (.slice oa xs.length c)) (h:LW P N ops rest ((d,dG xs)::F) w K):LW P N ops (⟨some d,.convert S T x,ty,pos,af,g⟩::rest) F w K:=
 LW.val rfl hw rfl hdN (fun _ ha=>by simp[execOp,ha.eval hx,run_convert_bytes_string w S T E oa _ _ hS hE hT,s.bytes]) h
def cut{β:Type}(xs:List β)(lo hi:Int):Option (List β):=if 0≤lo∧lo≤hi∧hi≤xs.length then some ((xs.take hi.toNat).drop lo.toNat)else none
theorem SL.cut{ρ:bF β}{oa:Option Addr}{c l h:Nat}{xs:List β}(s:SL ρ lab w oa c xs)(hl:l≤h)(hh:h≤xs.length):
  ∃oa' c',sliced oa l h c ρ.sz = .slice oa' ((xs.take h).drop l).length c'∧SL ρ lab w oa' c' ((xs.take h).drop l):=by
 have hc:=s.1
 refine⟨_,_,by unfold sliced;rw[List.length_drop,List.length_take,Nat.min_eq_left hh],?_⟩
 refine⟨by simp;omega,by have:=s.2.1;omega,fun i e he=>?_⟩
 rw[List.getElem?_drop]at he
 have hlt:l+i<h:=by
  rcases Nat.lt_or_ge (l+i) h with hh' |hh'
  ·exact hh'
  ·rw[List.getElem?_eq_none (by simp;omega)]at he;cases he
 rw[List.getElem?_take_of_lt hlt]at he
 obtain⟨ad,cs,rfl,hr,hat⟩:=s.at_ he
 refine⟨ad.add (l*ρ.sz),cs,?_,hr,?_⟩
 ·rw[if_neg (by omega)];rfl
 ·rw[fH,←Nat.add_mul];exact hat
theorem ig{xs zs:List β}{lo hi:Int}(h:Gk.cut xs lo hi=some zs):(0≤lo∧lo≤hi∧hi≤xs.length)∧zs=(xs.take hi.toNat).drop lo.toNat:=by
 unfold Gk.cut at h
 split at h
 ·exact⟨by assumption,by simpa using h.symm⟩
 ·cases h
section
variable {ρ : bF β} {oa : Option Addr} {c nb : Nat} {xs : List β} {k : List β → Option α} {zv : Value} {lo hi : Int} {kl kh : IntKind}
theorem gv.elem{n:Nat}(hT:gv P T E n nb zv):P.underlying T=some (.slice (P.elem T))∧P.elem T=E:=by
 have h:=hT.und
 have:P.elem T=E:=by unfold Program.elem;rw[h]
 rw[this];exact⟨h,rfl⟩
theorem gv.sizeOf{n:Nat}(hT:gv P T E n nb zv)(w:World):(Go.sizeOf E).run P w = .ok n w:=by
 obtain⟨i,hi,_,hs,_⟩:=hT.info
 simp[Go.sizeOf,typeInfo,hi,hs]
theorem LW.slice_lh(hm:bnd (cut xs lo hi) k=some r)(s:SL ρ lab w oa c xs)(hT:gv P T E ρ.sz nb zv)(hw:Wn ops F g)(hdN:Nat.blt d N=true)(hx:ev F x=some (.slice oa xs.length c))(hy:ev F y=some (.int kl lo))(hz:ev F z=some (.int kh hi))
  (h : ∀zs oa' c',k zs=some r→SL ρ lab w oa' c' zs→LW P N ops rest ((d,.slice oa' zs.length c')::F) w K):LW P N ops (⟨some d,.slice T x (some y) (some z) none,ty,pos,af,g⟩::rest) F w K:=by
 obtain⟨zs,hz',hk⟩:=dv hm
 obtain⟨⟨h1,h2,h3⟩,rfl⟩:=ig hz'
 have hc:=s.1
 obtain⟨oa',c',he,hs⟩:=s.cut (l:=lo.toNat) (h:=hi.toNat) (by omega) (by omega)
 have hE:=hT.elem
 refine LW.val rfl hw rfl hdN (fun a ha=>?_) (h _ _ _ hk hs)
 have:=run_slice_lh (P:=P) w T oa xs.length c hE.1 kl kh lo hi h1 h2 (by omega)
 simp only[execOp,ha.eval hx,Option.map_some,Option.map_none,ha.eval hy,ha.eval hz,run_sliceAt_slice w T _ _ _ _ hE.1,this,hE.2,hT.sizeOf,Sem.run_bind,Result.andThen_ok,he,Sem.run_pure]
theorem LW.slice_h(hm:bnd (cut xs 0 hi) k=some r)(s:SL ρ lab w oa c xs)(hT:gv P T E ρ.sz nb zv)(hw:Wn ops F g)(hdN:Nat.blt d N=true)(hx:ev F x=some (.slice oa xs.length c))(hz:ev F z=some (.int kh hi))
  (h : ∀zs oa' c',k zs=some r→SL ρ lab w oa' c' zs→LW P N ops rest ((d,.slice oa' zs.length c')::F) w K):LW P N ops (⟨some d,.slice T x none (some z) none,ty,pos,af,g⟩::rest) F w K:=by
 obtain⟨zs,hz',hk⟩:=dv hm
 obtain⟨⟨h1,h2,h3⟩,rfl⟩:=ig hz'
 have hc:=s.1
 obtain⟨oa',c',he,hs⟩:=s.cut (l:=0) (h:=hi.toNat) (by omega) (by omega)
 have hE:=hT.elem
 refine LW.val rfl hw rfl hdN (fun a ha=>?_) (h _ _ _ hk hs)
 have:=run_slice_h (P:=P) w T oa xs.length c hE.1 kh hi h2 (by omega)
 simp only[execOp,ha.eval hx,Option.map_some,Option.map_none,ha.eval hz,run_sliceAt_slice w T _ _ _ _ hE.1,this,hE.2,hT.sizeOf,Sem.run_bind,Result.andThen_ok,he,Sem.run_pure,Int.toNat_zero]
theorem LW.slice_l(hm:bnd (cut xs lo xs.length) k=some r)(s:SL ρ lab w oa c xs)(hT:gv P T E ρ.sz nb zv)(hw:Wn ops F g)(hdN:Nat.blt d N=true)(hx:ev F x=some (.slice oa xs.length c))(hy:ev F y=some (.int kl lo))
  (h : ∀zs oa' c',k zs=some r→SL ρ lab w oa' c' zs→LW P N ops rest ((d,.slice oa' zs.length c')::F) w K):LW P N ops (⟨some d,.slice T x (some y) none none,ty,pos,af,g⟩::rest) F w K:=by
 obtain⟨zs,hz',hk⟩:=dv hm
 obtain⟨⟨h1,h2,h3⟩,rfl⟩:=ig hz'
 obtain⟨oa',c',he,hs⟩:=s.cut (l:=lo.toNat) (h:=xs.length) (by omega) (by omega)
 have hE:=hT.elem
 refine LW.val rfl hw rfl hdN (fun a ha=>?_) (h _ _ _ hk hs)
 have:=run_slice_l (P:=P) w T oa xs.length c hE.1 kl lo h1 (by omega)
 simp only[execOp,ha.eval hx,Option.map_some,Option.map_none,ha.eval hy,run_sliceAt_slice w T _ _ _ _ hE.1,this,hE.2,hT.sizeOf,Sem.run_bind,Result.andThen_ok,Sem.run_pure]
 simp only[Int.toNat_natCast]at he⊢
 rw[he]
end
def Rv(P:Program)(F:List (Nat×Value))(w:World):ResultVar→Value→Prop
 | .tmp t,v=>cN F t=some v
 | .cell t T,v=>∃p,cN F t=some (.pointer (some p))∧(loadVar T p).run P w = .ok v w
def KH(P:Program)(F:List (Nat×Value))(w:World):List ResultVar→List Value→Prop
 | [],[]=>True
 |q::qs,v::vs=>Rv P F w q v∧KH P F w qs vs
 |_,_=>False
def Qs(tmps:Array Value)(q:ResultVar):Sem Value:=
 match q with
 | .tmp t=>pure (tmps.getD t undef)
 | .cell p T=>do loadVar T (←asAddr (tmps.getD p undef))
theorem wV(fn:Func)(tmps:Array Value):results fn tmps=(do let vs ←fn.results.mapM (Qs tmps);pure (if h:vs.size=1 then vs[0]else .tuple vs)):=by
 unfold results
 congr 1
theorem KH.run{a:Act}(ha:pM F N a): ∀{qs:List ResultVar} {vs:List Value},KH P F w qs vs→(qs.mapM (Qs a.tmps)).run P w = .ok vs w
 | [],[],_=>by simp
 |q::qs,v::vs,⟨h1,h2⟩=>by
  have ih:=KH.run ha h2
  have h0:(Qs a.tmps q).run P w = .ok v w:=by
   cases q with
   |tmp t=>
    have:=ha.get _ _ h1
    simp[Qs,Array.getD_eq_getD_getElem?,this]
   |cell t T=>
    obtain⟨p,h3,h4⟩:=h1
    have:=ha.get _ _ h3
    have e:a.tmps.getD t undef = .pointer (some p):=by simp[Array.getD_eq_getD_getElem?,this]
    simp[Qs,e,asAddr,h4]
  rw[List.mapM_cons]
  simp only[Sem.run_bind,h0,Result.andThen_ok,ih,Sem.run_pure]
theorem EW.rets{fn:Func}{R:Ending→World→Prop}{qs:List ResultVar}{vs:List Value}(hr:fn.results=qs.toArray)(hv:KH P F w qs vs)(hn:(vs.length==1)=false)(h:R (.returned (.tuple vs.toArray)) w):EW N .ret F w (bodyPost P fn R):=fun a ha=>by
 refine bodyPost_ret (v:=.tuple vs.toArray) ?_ ha.defers h
 have:=hv.run ha
 have hne : ¬vs.length=1:=by simpa using hn
 rw[wV,hr,Array.mapM_eq_mapM_toList]
 simp only[Sem.run_bind,Sem.run_map,this,Result.andThen_ok]
 simp[hne]
theorem EW.retc{fn:Func}{R:Ending→World→Prop}{q:ResultVar}(hr:fn.results = #[q])(hv:Rv P F w q v)(h:R (.returned v) w):EW N .ret F w (bodyPost P fn R):=fun a ha=>by
 refine bodyPost_ret (v:=v) ?_ ha.defers h
 have:=KH.run (P:=P) (w:=w) (qs:=[q]) (vs:=[v]) ha ⟨hv,trivial⟩
 rw[wV,hr,Array.mapM_eq_mapM_toList]
 simp only[Sem.run_bind,Sem.run_map,this,Result.andThen_ok]
 simp
theorem iI.rv{k G n:Nat}{T T':TypeId}{cs:List Value}{s:Nat}(b:iI lab w k G T' cs)(hT:AA P T n)(hn:Nat.beq cs.length n=true)(hs:cN F s=some (.pointer (some ⟨G,0,none⟩))):Rv P F w (.cell s T) (.agg cs.toArray):=by
 refine⟨_,hs,?_⟩
 have:=pV (w:=w) hT (p:=⟨G,0,none⟩) cs (Nat.eq_of_beq_eq_true hn) (fun j u hj=>by rw[bR,Nat.zero_add,b.cell];exact hj)
 simpa [Instr.loadAt,Instr.sureAddr]using this
end
def mG{ρ ρ' Y:Type}(m:Option (ρ⊕Y))(w:ρ→ρ')(k:Y→Option ρ'):Option ρ':=
 match m with
 |none=>none
 |some (.inl q)=>some (w q)
 |some (.inr y)=>k y
theorem EU{ρ ρ' Y:Type}{m:Option (ρ⊕Y)}{w:ρ→ρ'}{k:Y→Option ρ'}{r:ρ'}(h:mG m w k=some r):
  ∃s,m=some s∧(∀q,s = .inl q→some (w q)=some r)∧∀y,s = .inr y→k y=some r:=by
 unfold mG at h
 split at h
 ·cases h
 ·rename_i q;exact⟨_,rfl,fun q' e=>by cases e;exact h,fun y e=>by cases e⟩
 ·rename_i y;exact⟨_,rfl,fun q' e=>(by cases e),fun y e=>by cases e;exact h⟩
def rng(n:Int):Option Nat:=if n≤9223372036854775807 then some n.toNat else none
theorem Je{n:Int}{j:Nat}(h:rng n=some j):n≤9223372036854775807∧j=n.toNat:=by
 unfold rng at h
 split at h
 ·exact⟨by assumption,by simpa using h.symm⟩
 ·cases h
theorem GZ{k n:Nat}(h:k<n)(hn:n≤maxLen):aP ((k:Int)+1)=((k+1:Nat):Int):=by
 unfold maxLen at hn
 rw[B8 (by omega)];omega
theorem Fn{k:Nat}{n:Int}(h:(k:Int)<n)(hn:n≤9223372036854775807):aP ((k:Int)+1)=((k+1:Nat):Int):=by
 rw[B8 (by omega)];omega
def mask(lab:bf)(k:Nat):bf:=fun b=>if lab b=k then 0 else lab b
theorem bd.mask{lab:bf}{k:Nat}{w:World}:bd lab w (mask lab k) w:=⟨Nat.le_refl _,fun b _ h=>⟨by unfold Gk.mask;split<;>simp_all,rfl⟩⟩
theorem cm.mask{lab:bf}{k:Nat}{w:World}(t:cm lab w):cm (mask lab k) w:=fun b hb=>by unfold Gk.mask;split<;>simp[t b hb]
section
variable {P : Program} {N : Nat} {ops : Array Oper} {rest : List Oper} {F : List (Nat × Value)} {w : World} {K : eT} {lab : bf}
variable {ty : TypeId} {pos : String} {af : Array Edge} {g : Option (Nat × Bool)} {d : Nat} {x y z : Operand} {v u : Value} {α β : Type} {r : α} {T E S t t' : TypeId}
theorem CW.cond_t{c:Operand}{p q:Code}(hx:ev F c=some (.bool true))(h:CW P N p F w K):CW P N (.cond c p q) F w K:=CW.cond hx (fun _=>h) (fun e=>by cases e)
theorem j1{E n nb:Nat}{zv:Value}(h:(P.info? E).map (fun i=>(i.zero,i.size,i.bytes))=some (some zv,n,nb)): ∃i,P.info? E=some i∧i.zero=some zv∧i.size=n∧i.bytes=nb:=by
 cases hi:P.info? E with
 |none=>rw[hi]at h;cases h
 |some i=>rw[hi]at h;simp at h;exact⟨i,rfl,h.1,h.2.1,h.2.2⟩
theorem cY.view{ρ:bF β}{oa:Option Addr}{c k:Nat}{xs:List β}(o:cY ρ lab w k E oa c xs):SL ρ (mask lab k) w oa c xs:=
 o.sl bd.mask (fun b _ h=>by simp[mask,h])
theorem Cx.own0{w0:World}{aU:bf}{k:Nat}(h:Cx [] w0 aU w lab)(t:cm aU w0)(hk:Nat.ble 2 k=true): ∀b,b<w.heap.size→lab b=k→aU b=0:=fun b _ hb=>by
 have hk':2≤k:=by simpa using hk
 rcases Nat.lt_or_ge b w0.heap.size with hl |hl
 ·have:=h.low b hl (by simp)
  have:=zd aU b
  omega
 ·exact t b hl
theorem LW.lss_lit{a b:Int}{ik:IntKind}{tv:Bool}(he:decide (a<b)=tv)(hw:Wn ops F g)(hdN:Nat.blt d N=true)(hx:ev F x=some (.int ik a))(hy:ev F y=some (.int ik b))
  (h:LW P N ops rest ((d,.bool tv)::F) w K):LW P N ops (⟨some d,.binOp .lss t x y t',ty,pos,af,g⟩::rest) F w K:=
 LW.lss (kb:=some) (r:=tv) (by rw[he];rfl) hw hdN hx hy (fun c hc=>by cases hc;exact h)
theorem LW.add_lit{a b c:Int}(he:aP (a+b)=c)(hw:Wn ops F g)(hdN:Nat.blt d N=true)(hx:ev F x=some (.int .i64 a))(hy:ev F y=some (.int .i64 b))
  (h:LW P N ops rest ((d,.int .i64 c)::F) w K):LW P N ops (⟨some d,.binOp .add t x y t',ty,pos,af,g⟩::rest) F w K:=
 LW.add (k:=some) (r:=c) (by rw[he];rfl) hw hdN hx hy (fun c hc=>by cases hc;exact h)
def Mb(oa:Option Addr)(sz n:Nat)(p:Addr):Prop:=∃ad,oa=some ad∧p=ad.add (n*sz)
theorem LW.indexO{ρ:bF β}{oa:Option Addr}{c q:Nat}{xs:List β}{i:Int}{k:β→Option α}{nb:Nat}{zv:Value}{yk:IntKind}(hm:bnd (az xs i) k=some r)(o:cY ρ lab w q E oa c xs)(hT:gv P T E ρ.sz nb zv)
  (hw:Wn ops F g) (hdN:Nat.blt d N=true) (hx:ev F x=some (.slice oa xs.length c)) (hy:ev F y=some (.int yk i))
  (h : ∀e p cs,k e=some r→ρ.rd lab w cs e→At (mask lab q) w p cs→xs[i.toNat]?=some e→Mb oa ρ.sz i.toNat p→LW P N ops rest ((d,.pointer (some p))::F) w K):LW P N ops (⟨some d,.indexAddr T x y,ty,pos,af,g⟩::rest) F w K:=by
 obtain⟨e,he,hk⟩:=dv hm
 have he':=he
 unfold az at he'
 split at he'
 ·rename_i h0
  obtain⟨css,h1,h2⟩:=o
  obtain⟨cs,hc,hrd⟩:=h1.get he'
  have hlt:i.toNat<xs.length:=(List.getElem?_eq_some_iff.1 he').1
  have o':cY ρ lab w q E oa c xs:=⟨css,h1,h2⟩
  have s:=o'.view
  obtain⟨ad,cs2,rfl,hrd2,hat⟩:=s.at_ he'
  rcases h2 with⟨h,_⟩ | ⟨g',du,ha,hg,h3,h4,h5,h6,h7⟩
  ·cases h
  ·cases ha
   have hcs:cs2=cs:=by
    apply List.ext_getElem?
    intro j
    have l1:=ρ.len hrd
    have l2:=ρ.len hrd2
    by_cases hj:j<ρ.sz
    ·have e1:=gP css (fun cs h=>(h1.each cs h).1) i.toNat j cs hc hj
     have e2:=(hat j cs2[j] (List.getElem?_eq_getElem (by omega))).2
     rw[fH,bR,Nat.zero_add,cell_of_row w g' _ du E (0,0) hg]at e2
     rw[←h6,List.getElem?_take_of_lt (by
      have:(i.toNat+1)*ρ.sz≤xs.length*ρ.sz:=Nat.mul_le_mul_right _ hlt
      rw[Nat.add_mul]at this;omega)]at e1
     rw[←e1,List.getElem?_eq_getElem (by omega),←e2]
     simp
    ·rw[List.getElem?_eq_none (by omega),List.getElem?_eq_none (by omega)]
   subst hcs
   obtain⟨inf,hi,_,hsz,_⟩:=hT.info
   refine LW.val rfl hw rfl hdN (fun a ha=>?_) (h e _ cs2 hk hrd hat he' ⟨_,rfl,rfl⟩)
   have hlt':i<(xs.length:Int):=by omega
   simp[execOp,ha.eval hx,ha.eval hy,Instr.indexAt,asIntOf,run_underlying hT.und,h0,hlt',sizeOf,typeInfo,hi,hsz]
 ·cases he'
theorem yi{oa:Option Addr}{n c n' c':Nat}(hT:P.underlying T=some (.slice E)):(binOp .eql T (.slice oa n c) (.slice none n' c')).run P w = .ok (.bool oa.isNone) w:=by
 have h : ∀d:Nat,(Op.equalIn (d+1) T (.slice oa n c) (.slice none n' c')).run P w = .ok oa.isNone w:=fun d=>by
  cases oa<;>simp[Op.equalIn,run_underlying hT]
 simp only[binOp]
 have:=h 9999
 simp only[Op.equal,Op.maxDepth,Sem.run_bind,this,Result.andThen_ok,Sem.run_pure]
theorem LW.eqnil{oa:Option Addr}{n c n' c':Nat}(hT:P.underlying T=some (.slice E))(hw:Wn ops F g)(hdN:Nat.blt d N=true)(hx:ev F x=some (.slice oa n c))(hy:ev F y=some (.slice none n' c'))(h:LW P N ops rest ((d,.bool oa.isNone)::F) w K):
  LW P N ops (⟨some d,.binOp .eql T x y t',ty,pos,af,g⟩::rest) F w K:=
 LW.val rfl hw rfl hdN (fun _ ha=>dg _ _ _ (ha.eval hx) (ha.eval hy) rfl (yi hT)) h
theorem LW.nilCheck{p:Addr}(hw:Wn ops F g)(hdN:Nat.blt d N=true)(hx:ev F x=some (.pointer (some p)))(h:LW P N ops rest ((d,.pointer (some p))::F) w K):LW P N ops (⟨some d,.nilCheck x,ty,pos,af,g⟩::rest) F w K:=
 LW.val rfl hw rfl hdN (fun a ha=>by simp[execOp,ha.eval hx]) h
theorem LW.min2{a b:Int}{k:Int→Option α}{ts:Array TypeId}(hm:letm (min a b) k=some r)(hw:Wn ops F g)(hdN:Nat.blt d N=true)(hx:ev F x=some (.int .i64 a))(hy:ev F y=some (.int .i64 b))
  (h : ∀c,k c=some r→LW P N ops rest ((d,.int .i64 c)::F) w K):LW P N ops (⟨some d,.call { callee:=.builtin .min,args:=#[x,y],argTypes:=ts },ty,pos,af,g⟩::rest) F w K:=
 LW.val rfl hw rfl hdN (fun q ha=>by
  have e:(if b<a then b else a)=min a b:=by split<;>omega
  simp only[execOp,resolve,invoke,builtin,Sem.run_bind,Sem.run_pure,Result.andThen_ok,List.map_toArray,List.map_cons,List.map_nil,ha.eval hx,ha.eval hy,run_min_int2,e]) (h _ hm)
theorem LW.max2{a b:Int}{k:Int→Option α}{ts:Array TypeId}(hm:letm (max a b) k=some r)(hw:Wn ops F g)(hdN:Nat.blt d N=true)(hx:ev F x=some (.int .i64 a))(hy:ev F y=some (.int .i64 b))
  (h : ∀c,k c=some r→LW P N ops rest ((d,.int .i64 c)::F) w K):LW P N ops (⟨some d,.call { callee:=.builtin .max,args:=#[x,y],argTypes:=ts },ty,pos,af,g⟩::rest) F w K:=
 LW.val rfl hw rfl hdN (fun q ha=>by
  have e:(if b>a then b else a)=max a b:=by split<;>omega
  simp only[execOp,resolve,invoke,builtin,Sem.run_bind,Sem.run_pure,Result.andThen_ok,List.map_toArray,List.map_cons,List.map_nil,ha.eval hx,ha.eval hy,run_max_int2,e]) (h _ hm)
end
def L7(l:List Oper)(n:Nat):Bool:=(List.range l.length).all fun t=>decide (t<n)||(List.range t).all (fun j=>Region.waitsFor .any l.toArray t j)
def va(l:List Oper)(n:Nat):Array Bool:=((List.range l.length).map fun i=>decide (i<n)).toArray
def yv(L:Nat→Bool)(i:Nat):Nat→Bool:=fun j=>if j=i then true else L j
def Ke(ks:List Nat)(lab:bf)(w:World)(lab':bf)(w':World):Prop:=
 w.heap.size≤w'.heap.size∧∀b,b<w.heap.size→ks.contains (lab b)=false→lab' b=lab b∧w'.heap[b]?=w.heap[b]?
theorem Ke.keeps{ks:List Nat}{lab lab':bf}{w w':World}(h:Ke ks lab w lab' w')(h0:ks.contains 0=false):bd lab w lab' w':=
 ⟨h.1,fun b hb hl=>by obtain⟨h1,h2⟩:=h.2 b hb (by rw[hl];exact h0);exact⟨h1.trans hl,h2⟩⟩
theorem cY.ke{α:Type}{ρ:bF α}{ks:List Nat}{lab lab':bf}{w w':World}{k E c:Nat}{oa:Option Addr}{xs:List α}(o:cY ρ lab w k E oa c xs)(h:Ke ks lab w lab' w')(h0:ks.contains 0=false)(hk:ks.contains k=false):cY ρ lab' w' k E oa c xs:=by
 obtain⟨css,h1,h2⟩:=o
 refine⟨css,h1.keep (h.keeps h0),?_⟩
 rcases h2 with h2 | ⟨g,du,ha,hg,h3,h4,h5,h6,h7⟩
 ·exact .inl h2
 ·have hlt:g<w.heap.size:=(Array.getElem?_eq_some_iff.1 hg).1
  obtain⟨e1,e2⟩:=h.2 g hlt (by rw[h7];exact hk)
  exact .inr ⟨g,du,ha,e2.trans hg,h3,h4,h5,h6,e1.trans h7⟩
theorem i7.draw{lab:bf}{w:World}(t:cm lab w)(m:Nat):i7 lab 0 w lab { w with drawn:=m }:=⟨rfl,rfl,rfl,Nat.le_refl _,fun _ _ _=>rfl,fun _ _=>rfl,t⟩
section
variable {P : Program} {N : Nat} {F0 : List (Nat × Value)} {w : World} {K : eT} {lab : bf}
theorem Ge(L:Array Bool)(i j:Nat)(b:Bool)(hi:i<L.size):(L.setIfInBounds i true).getD j b=if j=i then true else L.getD j b:=by
 by_cases h:j=i
 ·subst h;simp[hi]
 ·have:i≠j:=fun e=>h e.symm
  simp[h,this,Array.getElem?_setIfInBounds]
def Lf(listed:Array Bool):Nat→Bool:=fun i=>listed.getD i false
theorem Ci{l:List Oper}{i:Nat}{o:Oper}{F:List (Nat×Value)}{a:Act}{K':Act→World→Prop}{kk:eT}(ho:l[i]?=some o)(ha:pM F N a)(h:LW P N l.toArray [o] F w kk)
  (hk : ∀e a' w',kk e a' w'→e = .normal∧K' a' w'):wpOp P l.toArray K i K' a w:=by
 have hw:=h a ha
 unfold wpList at hw
 unfold wpOp
 simp only[List.getElem?_toArray,ho]
 split
 ·rename_i hwant
  rw[if_pos hwant]at hw
  rcases hw with hw | ⟨_,a',w',hq⟩
  ·refine .inl ?_
   unfold Oper.wp at hw⊢
   generalize (execOp a.eval o).run P w=q at hw⊢
   have nx : ∀a' w',wpList P l.toArray kk [] a' w'→K' a' w':=fun a' w' hh=>(hk _ _ _ hh).2
   cases q with
   |ok nxt w'=>
    cases nxt<;>simp only[Oper.upon]at hw⊢<;>first |exact nx _ _ hw | (refine hw.mono fun e w'' he=>?_;cases e with |returned v=>exact nx _ _ he |panicked c=>exact absurd (hk _ _ _ he).1 (by simp) |outgrown=>exact(let⟨a',w',hq⟩:=(show LetsOut kk from he);absurd (hk _ _ _ hq).1 (by simp))) |exact hw.mono fun _ _ he=>nx _ _ he |exact hw
   |halt x w'=>
    cases x<;>simp only[Oper.upon]at hw⊢<;>first |exact hw | (obtain⟨h0,_⟩:=hk _ _ _ hw;cases h0)
  ·obtain⟨h0,_⟩:=hk _ _ _ hq;cases h0
 ·rename_i hwant
  rw[if_neg hwant]at hw
  exact(hk _ _ _ hw).2
theorem jY{a b:Nat}(h:a≠b):Nat.beq a b=false:=by
 cases hb:Nat.beq a b with
 |false=>rfl
 |true=>exact absurd (Nat.eq_of_beq_eq_true hb) h
structure HI(l:List Oper)(n:Nat)(listed:Array Bool):Prop where
 size:listed.size=l.length
 closed : ∀j j',Region.waitsFor .any l.toArray j j'=true→Lf listed j=true→Lf listed j'=true
 tail : ∀j,n≤j→Lf listed j=false
def K5(n:Nat)(L:Nat→Bool):Nat:=((List.range n).filter fun i=>!L i).length
theorem Kw{n i:Nat}{L:Nat→Bool}(hi:i<n)(h:L i=false):K5 n (yv L i)+1=K5 n L:=by
 unfold K5
 induction n with
 |zero=>omega
 |succ n ih=>
  rw[List.range_succ,List.filter_append,List.filter_append,List.length_append,List.length_append]
  by_cases hin:i=n
  ·subst hin
   have e:(List.range i).filter (fun j=>!yv L i j)=(List.range i).filter fun j=>!L j:=by
    apply List.filter_congr
    intro j hj
    have:j≠i:=by have:=List.mem_range.1 hj;omega
    simp[yv,this]
   rw[e]
   simp[yv,h]
  ·have:=ih (by omega)
   have e:yv L i n=L n:=by unfold yv;rw[if_neg (fun e=>hin e.symm)]
   simp only[List.filter_cons,List.filter_nil,e]
   omega
theorem Gl{n:Nat}{L:Nat→Bool}(h:K5 n L=0): ∀i,i<n→L i=true:=fun i hi=>by
 unfold K5 at h
 have:=List.eq_nil_of_length_eq_zero h
 have h2:=List.filter_eq_nil_iff.1 this i (List.mem_range.2 hi)
 simpa using h2
theorem wB{F:List (Nat×Value)}{x:Operand}{xs:List Operand}{v:Value}{vs:List Value}(h:ev F x=some v)(hs:evs F xs=some vs):evs F (x::xs)=some (v::vs):=by
 simp[evs,h,hs]
theorem bd.rfl'{lab:bf}{w:World}:bd lab w lab w:=⟨Nat.le_refl _,fun _ _ h=>⟨h,rfl⟩⟩
theorem cY.mask{α:Type}{ρ:bF α}{k k' E c:Nat}{oa:Option Addr}{xs:List α}(o:cY ρ lab w k E oa c xs)(h:Nat.beq k k'=false):cY ρ (Gk.mask lab k') w k E oa c xs:=by
 have hne:k≠k':=fun e=>by subst e;simp at h
 obtain⟨css,h1,h2⟩:=o
 refine⟨css,h1.keep bd.mask,?_⟩
 rcases h2 with h2 | ⟨g,du,ha,hg,h3,h4,h5,h6,h7⟩
 ·exact .inl h2
 ·exact .inr ⟨g,du,ha,hg,h3,h4,h5,h6,by unfold Gk.mask;rw[if_neg (by omega)];exact h7⟩
def linp(lab:bf)(g:Nat):bf:=fun b=>if b=g then 2 else lin lab b
theorem Cx.startP{kp g:Nat}{T:TypeId}{cs:List Value}(t:cm lab w)(b:iI lab w kp g T cs):Cx [g] w lab w (linp lab g):=
 ⟨rfl,rfl,rfl,Nat.le_refl _,fun _ _ _=>rfl,fun b _ hp=>by simp at hp;simp[linp,hp],fun c hc=>by
  have:=b.lt
  have hne:c≠g:=by omega
  simp[linp,hne,lin,t c hc]⟩
theorem iI.inP{kp g:Nat}{T:TypeId}{cs:List Value}(b:iI lab w kp g T cs):iI (linp lab g) w 2 g T cs:=⟨b.1,by simp[linp]⟩
theorem bd.linp{kp g:Nat}{T:TypeId}{cs:List Value}(b:iI lab w kp g T cs)(hk:Nat.beq kp 0=false):bd lab w (linp lab g) w:=by
 refine⟨Nat.le_refl _,fun c _ h=>⟨?_,rfl⟩⟩
 have hne:c≠g:=fun e=>by subst e;have:=b.2;rw[h]at this;subst this;simp at hk
 simp[Gk.linp,hne,Gk.lin,h]
section
variable {w0 w' : World} {aU : bf} {kp g : Nat} {T T' : TypeId} {cs cs' : List Value}
end
end
section
variable {P : Program} {N : Nat} {ops : Array Oper} {rest : List Oper} {F : List (Nat × Value)} {w : World} {K : eT} {lab : bf}
variable {ty : TypeId} {pos : String} {af : Array Edge} {g : Option (Nat × Bool)} {d : Nat} {x y z : Operand} {v u : Value} {α β : Type} {r : α} {T E S t t' : TypeId}
variable {ρ : bF β} {oa : Option Addr} {c k nb : Nat} {xs : List β} {zv : Value}
def vA(ρ:bF β)(lab:bf)(w:World)(k:Nat)(oa:Option Addr)(xs:List β):Prop:=
 (oa=none→xs = [])∧(∀ad,oa=some ad→lab ad.block=k∧ad.block<w.heap.size)∧∃css,cT ρ lab w css xs∧∀ad,oa=some ad→∀j u,css.flatten[j]?=some u→w.cell? (ad.add j)=some u
theorem vA.flat(h:vA ρ lab w k oa xs):zz ρ lab w oa xs:=⟨h.1,h.2.2⟩
theorem vA.ke{ks:List Nat}{lab':bf}{w':World}(f:vA ρ lab w k oa xs)(h:Ke ks lab w lab' w')(h0:ks.contains 0=false)(hk:ks.contains k=false):vA ρ lab' w' k oa xs:=by
 obtain⟨h1,h2,css,h3,h4⟩:=f
 refine⟨h1,fun ad ha=>?_,css,h3.keep (h.keeps h0),fun ad ha j u hu=>?_⟩
 ·obtain⟨hl,hb⟩:=h2 ad ha
  obtain⟨e1,_⟩:=h.2 _ hb (by rw[hl];exact hk)
  exact⟨e1.trans hl,Nat.lt_of_lt_of_le hb h.1⟩
 ·obtain⟨hl,hb⟩:=h2 ad ha
  obtain⟨_,e2⟩:=h.2 _ hb (by rw[hl];exact hk)
  rw[World.cell?_of_block (w:=w) (by rw[ej];exact e2)]
  exact h4 ad ha j u hu
theorem cT.take{css:List (List Value)}: ∀(n:Nat) {css:List (List Value)} {xs:List β},cT ρ lab w css xs→cT ρ lab w (css.take n) (xs.take n)
 |0,_,_,_=>by simp[cT]
 |n+1,[],[],_=>trivial
 |n+1,_::_,_::_,⟨h1,h2⟩=>⟨h1,cT.take (css:=[]) n h2⟩
theorem cT.drop : ∀(n:Nat) {css:List (List Value)} {xs:List β},cT ρ lab w css xs→cT ρ lab w (css.drop n) (xs.drop n)
 |0,_,_,h=>by simpa using h
 |n+1,[],[],_=>trivial
 |n+1,_::_,_::_,⟨_,h2⟩=>by simpa using cT.drop n h2
theorem rr{sz:Nat}: ∀(n:Nat) (css:List (List Value)),(∀cs∈css,cs.length=sz)→n≤css.length→css.flatten.take (n*sz)=(css.take n).flatten
 |0,_,_,_=>by simp
 |n+1,[],_,h=>by simp at h
 |n+1,cs::css,hl,h=>by
  have hc:=hl cs (by simp)
  simp only[List.flatten_cons,List.take_succ_cons]
  rw[List.take_append,List.take_of_length_le (by rw[hc,Nat.add_mul];omega),hc,show(n+1)*sz-sz=n*sz by rw[Nat.add_mul];omega,rr n css (fun cs h=>hl cs (by simp[h])) (by simpa using h)]
theorem rT{sz:Nat}: ∀(n:Nat) (css:List (List Value)),(∀cs∈css,cs.length=sz)→n≤css.length→css.flatten.drop (n*sz)=(css.drop n).flatten
 |0,_,_,_=>by simp
 |n+1,[],_,h=>by simp at h
 |n+1,cs::css,hl,h=>by
  have hc:=hl cs (by simp)
  simp only[List.flatten_cons,List.drop_succ_cons]
  rw[List.drop_append,List.drop_of_length_le (by rw[hc,Nat.add_mul];omega),hc,show(n+1)*sz-sz=n*sz by rw[Nat.add_mul];omega,rT n css (fun cs h=>hl cs (by simp[h])) (by simpa using h)]
  simp
theorem cY.take(o:cY ρ lab w k E oa c xs)(n:Nat)(hn:n≤xs.length):cY ρ lab w k E oa c (xs.take n):=by
 obtain⟨css,h1,h2⟩:=o
 refine⟨css.take n,cT.take (css:=[]) n h1,?_⟩
 rcases h2 with⟨h,h',rfl⟩ | ⟨g,du,ha,hg,h3,h4,h5,h6,h7⟩
 ·exact .inl ⟨h,h',by simp⟩
 ·refine .inr ⟨g,du,ha,hg,by simp;omega,h4,h5,?_,h7⟩
  rw[List.length_take,Nat.min_eq_left hn,←rr n css (fun cs h=>(h1.each cs h).1) (by rw[h1.len];exact hn),←h6,List.take_take,Nat.min_eq_left (Nat.mul_le_mul_right _ hn)]
theorem LW.slice_hO{hi:Int}{kh:IntKind}{kk:List β→Option α}(hm:bnd (cut xs 0 hi) kk=some r)(o:cY ρ lab w k E oa c xs)(hT:gv P T E ρ.sz nb zv)(hw:Wn ops F g)(hdN:Nat.blt d N=true)(hx:ev F x=some (.slice oa xs.length c))(hz:ev F z=some (.int kh hi))
  (h : ∀zs,kk zs=some r→cY ρ lab w k E oa c zs→LW P N ops rest ((d,.slice oa zs.length c)::F) w K):LW P N ops (⟨some d,.slice T x none (some z) none,ty,pos,af,g⟩::rest) F w K:=by
 obtain⟨zs,hz',hk⟩:=dv hm
 obtain⟨⟨h1,h2,h3⟩,rfl⟩:=ig hz'
 have hle:xs.length≤c:=by
  obtain⟨_,_,⟨_,rfl,rfl⟩ | ⟨_,_,_,_,h3,_⟩⟩:=o
  ·simp
  ·exact h3
 have ho:=o.take hi.toNat (by omega)
 have hE:=hT.elem
 have hoa:(if c=0 then oa else oa.map (·.add (0*ρ.sz)))=oa:=by
  split
  ·rfl
  ·cases oa<;>simp[Addr.add]
 refine LW.val rfl hw rfl hdN (w':=w) (v:=.slice oa (xs.take hi.toNat).length c) (fun a ha=>?_) ?_
 ·have:=run_slice_h (P:=P) w T oa xs.length c hE.1 kh hi h2 (by omega)
  simp only[execOp,ha.eval hx,Option.map_some,Option.map_none,ha.eval hz,run_sliceAt_slice w T _ _ _ _ hE.1,this,hE.2,hT.sizeOf,Sem.run_bind,Result.andThen_ok,Sem.run_pure,sliced,hoa,List.length_take]
  rw[Nat.min_eq_left (by omega)];rfl
 ·have:=h _ hk (by simpa using ho)
  simpa using this
theorem LW.slice_lO{lo:Int}{kl:IntKind}{kk:List β→Option α}(hm:bnd (cut xs lo xs.length) kk=some r)(o:cY ρ lab w k E oa c xs)(hT:gv P T E ρ.sz nb zv)(hw:Wn ops F g)(hdN:Nat.blt d N=true)(hx:ev F x=some (.slice oa xs.length c))(hy:ev F y=some (.int kl lo))
  (h : ∀zs oa' c',kk zs=some r→vA ρ lab w k oa' zs→LW P N ops rest ((d,.slice oa' zs.length c')::F) w K):LW P N ops (⟨some d,.slice T x (some y) none none,ty,pos,af,g⟩::rest) F w K:=by
 obtain⟨zs,hz',hk⟩:=dv hm
 obtain⟨⟨h1,h2,h3⟩,rfl⟩:=ig hz'
 have hE:=hT.elem
 have hls:lo.toNat≤xs.length:=by omega
 have hlen:xs.length-lo.toNat=((xs.take (xs.length:Int).toNat).drop lo.toNat).length:=by simp
 refine LW.val rfl hw rfl hdN (w':=w) (v:=sliced oa lo.toNat xs.length c ρ.sz) (fun a ha=>?_) ?_
 ·have:=run_slice_l (P:=P) w T oa xs.length c hE.1 kl lo h1 (by omega)
  simp only[execOp,ha.eval hx,Option.map_some,Option.map_none,ha.eval hy,run_sliceAt_slice w T _ _ _ _ hE.1,this,hE.2,hT.sizeOf,Sem.run_bind,Result.andThen_ok,Sem.run_pure]
 ·have e:(xs.take (xs.length:Int).toNat).drop lo.toNat=xs.drop lo.toNat:=by simp
  unfold sliced
  rw[hlen]
  refine h _ _ _ hk ?_
  rw[e]
  obtain⟨css,a1,a2⟩:=o
  rcases a2 with⟨rfl,rfl,rfl⟩ | ⟨g',du,rfl,hg,h3,h4,h5,h6,h7⟩
  ·exact⟨fun _=>by simp,fun ad h=>(by simp at h),[],(by simp[cT]),fun ad h=>(by simp at h)⟩
  ·have hgl:g'<w.heap.size:=(Array.getElem?_eq_some_iff.1 hg).1
   refine⟨fun h=>?_,fun ad h=>?_,css.drop lo.toNat,a1.drop _,fun ad h j u hu=>?_⟩
   ·split at h<;>simp at h
   ·split at h
    ·simp at h;subst h;exact⟨h7,hgl⟩
    ·simp at h;subst h;rw[ej];exact⟨h7,hgl⟩
   ·rw[←rT _ css (fun cs h=>(a1.each cs h).1) (by rw[a1.len];exact hls),←h6,List.getElem?_drop]at hu
    have hlt:lo.toNat*ρ.sz+j<xs.length*ρ.sz:=by
     rcases Nat.lt_or_ge (lo.toNat*ρ.sz+j) (xs.length*ρ.sz)with h |h
     ·exact h
     ·rw[List.getElem?_eq_none (by simp;omega)]at hu;cases hu
    rw[List.getElem?_take_of_lt hlt]at hu
    have hc:c≠lo.toNat:=fun e=>by
     subst e
     have:xs.length=lo.toNat:=by omega
     rw[this]at hlt;omega
    rw[if_neg hc]at h
    simp at h;subst h
    rw[fH,bR,Nat.zero_add,cell_of_row w g' _ du E (0,0) hg]
    simpa using hu
theorem cT.set : ∀{css:List (List Value)} {xs:List β} (n:Nat) {cs:List Value} {e:β},cT ρ lab w css xs→ρ.rd lab w cs e→cT ρ lab w (css.set n cs) (xs.set n e)
 | [],[],_,_,_,_,_=>trivial
 |_::_,_::_,0,_,_,⟨_,h2⟩,h=>⟨h,h2⟩
 |_::_,_::_,n+1,_,_,⟨h1,h2⟩,h=>⟨h1,cT.set n h2 h⟩
theorem tY{sz:Nat}: ∀(n:Nat) (css:List (List Value)) (cs:List Value) (j:Nat) (v:Value),(∀cs∈css,cs.length=sz)→css[n]?=some cs→j<sz→(css.set n (cs.set j v)).flatten=css.flatten.set (n*sz+j) v
 |_,[],_,_,_,_,h,_=>by simp at h
 |0,c::css,cs,j,v,hl,h,hj=>by
  simp at h;subst h
  have:=hl c (by simp)
  simp only[List.set_cons_zero,List.flatten_cons,Nat.zero_mul,Nat.zero_add]
  rw[List.set_append_left _ _ (by omega)]
 |n+1,c::css,cs,j,v,hl,h,hj=>by
  have hc:=hl c (by simp)
  simp only[List.set_cons_succ,List.flatten_cons]
  rw[tY n css cs j v (fun cs h=>hl cs (by simp[h])) (by simpa using h) hj,List.set_append_right _ _ (by rw[hc,Nat.add_mul];omega),hc,show(n+1)*sz+j-sz=n*sz+j by rw[Nat.add_mul];omega]
theorem yD{n off:Nat}{e e':β}{cs:List Value}{p:Addr}(t:cm lab w)(hk:Nat.beq k 0=false)(o:cY ρ lab w k E oa c xs)(hp:Mb oa ρ.sz n p)(hat:At (mask lab k) w p cs)(he:xs[n]?=some e)(hl:cs.length=ρ.sz)(ho:off<ρ.sz)
  (hy:ρ.rd lab w (cs.set off v) e'):(∃u,w.cell? (p.add off)=some u)∧w.frozen? (p.add off)=false∧i7 lab k w lab (w.setCell (p.add off) v)∧cY ρ lab (w.setCell (p.add off) v) k E oa c (xs.set n e'):=by
 obtain⟨css,a1,a2⟩:=o
 obtain⟨ad,hoa,rfl⟩:=hp
 have hn:n<xs.length:=(List.getElem?_eq_some_iff.1 he).1
 rcases a2 with⟨h,_⟩ | ⟨g',du,ha,hg,h3,h4,h5,h6,h7⟩
 ·rw[hoa]at h;cases h
 ·rw[hoa]at ha;cases ha
  obtain⟨cs0,hc0,_⟩:=a1.get he
  have hlen:=fun cs h=>(a1.each cs h).1
  have hb:(n+1)*ρ.sz≤xs.length*ρ.sz:=Nat.mul_le_mul_right _ hn
  rw[Nat.add_mul]at hb
  have hcap:xs.length*ρ.sz≤c*ρ.sz:=Nat.mul_le_mul_right _ h3
  have key : ∀j,j<ρ.sz→du[n*ρ.sz+j]?=cs0[j]?:=fun j hj=>by
   have e1:=gP css hlen n j cs0 hc0 hj
   rw[←h6,List.getElem?_take_of_lt (by omega)]at e1
   simpa using e1
  have hcs:cs=cs0:=by
   apply List.ext_getElem?
   intro j
   have l0:cs0.length=ρ.sz:=hlen cs0 (List.mem_of_getElem? hc0)
   by_cases hj:j<ρ.sz
   ·have e2:=(hat j cs[j] (List.getElem?_eq_getElem (by omega))).2
    rw[fH,bR,Nat.zero_add,cell_of_row w g' _ du E (0,0) hg,key j hj]at e2
    rw[e2,List.getElem?_eq_getElem (by omega)]
   ·rw[List.getElem?_eq_none (by omega),List.getElem?_eq_none (by omega)]
  subst hcs
  have hadd:(Addr.add ⟨g',0,none⟩ (n*ρ.sz)).add off=⟨g',n*ρ.sz+off,none⟩:=by rw[fH,bR,Nat.zero_add]
  rw[hadd]
  have hst:=i7.setCell (w:=w) (i:=n*ρ.sz+off) t hk h7 v
  refine⟨?_,frozen_of_row w g' _ du E hg,hst,css.set n (cs.set off v),(a1.keep hst.keeps).set n (ρ.keep hst.keeps hy),.inr ⟨g',du.setIfInBounds (n*ρ.sz+off) v,hoa,?_,by simpa using h3,h4,by simpa using h5,?_,h7⟩⟩
  ·rw[cell_of_row w g' _ du E (0,0) hg]
   exact⟨_,Array.getElem?_eq_getElem (by omega)⟩
  ·exact heap_setCell_same w g' _ _ _ v hg
  ·rw[tY n css cs off v hlen hc0 ho,←h6]
   simp only[Array.toList_setIfInBounds,List.length_set]
   rw[List.take_set]
theorem lp{sz:Nat}: ∀(n:Nat) (css:List (List Value)) (vs:List Value),(∀cs∈css,cs.length=sz)→n<css.length→(css.set n vs).flatten=css.flatten.take (n*sz)++vs++css.flatten.drop (n*sz+sz)
 |_,[],_,_,h=>by simp at h
 |0,c::css,vs,hl,h=>by
  have:=hl c (by simp)
  simp only[List.set_cons_zero,List.flatten_cons,Nat.zero_mul,Nat.zero_add,List.take_zero,List.nil_append]
  rw[List.drop_append,List.drop_of_length_le (by omega)]
  simp[this]
 |n+1,c::css,vs,hl,h=>by
  have hc:=hl c (by simp)
  have e1:(n+1)*sz=n*sz+sz:=by rw[Nat.add_mul];omega
  simp only[List.set_cons_succ,List.flatten_cons]
  rw[lp n css vs (fun cs h=>hl cs (by simp[h])) (by simpa using h),List.take_append,List.drop_append,List.take_of_length_le (l:=c) (by omega),List.drop_of_length_le (l:=c) (by omega),hc,e1,show n*sz+sz-sz=n*sz by omega,show n*sz+sz+sz-sz=n*sz+sz by omega]
  simp
theorem B9{n:Nat}{e e':β}{vs:List Value}{p:Addr}(t:cm lab w)(hk:Nat.beq k 0=false)(o:cY ρ lab w k E oa c xs)(hp:Mb oa ρ.sz n p)(he:xs[n]?=some e)(hl:vs.length=ρ.sz)(h1 : ∀u∈vs,u.oneCell'=true)
  (hy:ρ.rd lab w vs e') : ∃w',(storeCells p vs 0).run P w = .ok () w'∧i7 lab k w lab w'∧cY ρ lab w' k E oa c (xs.set n e'):=by
 obtain⟨css,a1,a2⟩:=o
 obtain⟨ad,hoa,rfl⟩:=hp
 have hn:n<xs.length:=(List.getElem?_eq_some_iff.1 he).1
 rcases a2 with⟨h,_⟩ | ⟨g',du,ha,hg,h3,h4,h5,h6,h7⟩
 ·rw[hoa]at h;cases h
 ·rw[hoa]at ha;cases ha
  have hlen:=fun cs h=>(a1.each cs h).1
  have hb:(n+1)*ρ.sz≤xs.length*ρ.sz:=Nat.mul_le_mul_right _ hn
  rw[Nat.add_mul]at hb
  have hcap:xs.length*ρ.sz≤c*ρ.sz:=Nat.mul_le_mul_right _ h3
  have b:iI lab w k g' E du.toList:=⟨hg,h7⟩
  obtain⟨w',hr,b',hs⟩:=er (P:=P) vs (n*ρ.sz) du.toList w b (by simp;omega) h1 0 (n*ρ.sz) rfl
  have hst:=hs t hk
  have hadd:(Addr.add ⟨g',0,none⟩ (n*ρ.sz))=⟨g',n*ρ.sz,none⟩:=by rw[bR,Nat.zero_add]
  rw[hadd]
  refine⟨w',hr,hst,css.set n vs,(a1.keep hst.keeps).set n (ρ.keep hst.keeps hy),.inr ⟨g',_,hoa,b'.1,by simpa using h3,h4,?_,?_,b'.2⟩⟩
  ·simp;omega
  ·rw[lp n css vs hlen (by rw[a1.len];exact hn),←h6,hl]
   simp only[List.length_set]
   have hsz:(du.toList.take (n*ρ.sz)).length=n*ρ.sz:=by simp;omega
   have e1:du.toList.take (n*ρ.sz)=(du.toList.take (xs.length*ρ.sz)).take (n*ρ.sz):=by rw[List.take_take,Nat.min_eq_left (by omega)]
   have e2:xs.length*ρ.sz-(n*ρ.sz+ρ.sz)+(n*ρ.sz+ρ.sz)=xs.length*ρ.sz:=by omega
   rw[List.take_append,List.take_of_length_le (l:=du.toList.take (n*ρ.sz)++vs) (by simp only[List.length_append,hsz,hl];omega),List.length_append,hsz,hl,List.take_drop,Nat.add_comm (n*ρ.sz+ρ.sz),e2,←e1]
def PF{β:Type}(n:Int)(z:β):Option (List β):=bif decide (0≤n)&&decide (n≤65536)then some (List.replicate n.toNat z)else none
theorem HB{n:Int}{z:β}{zs:List β}(h:PF n z=some zs):0≤n∧n≤65536∧zs=List.replicate n.toNat z:=by
 unfold PF at h
 by_cases h1:0≤n<;>by_cases h2:n≤65536<;>simp_all
theorem cT.replicate{cs:List Value}{z:β}(h:ρ.rd lab w cs z): ∀n,cT ρ lab w (List.replicate n cs) (List.replicate n z)
 |0=>trivial
 |n+1=>⟨h,cT.replicate h n⟩
theorem eH{l:List Value}: ∀(n i:Nat),i<n*l.length→(List.replicate n l).flatten[i]?=l[i%l.length]?
 |0,i,h=>by simp at h
 |n+1,i,h=>by
  rw[List.replicate_succ,List.flatten_cons]
  by_cases hi:i<l.length
  ·rw[List.getElem?_append_left hi,Nat.mod_eq_of_lt hi]
  ·rw[List.getElem?_append_right (by omega),eH n (i-l.length) (by rw[Nat.add_mul]at h;omega),←Nat.mod_eq_sub_mod (by omega)]
theorem LW.make{n:Int}{kn kc:IntKind}{z:β}{zc:List Value}{nb:Nat}{zv:Value}(k:Nat){kk:List β→Option α}(hm:bnd (PF n z) kk=some r)(hT:gv P T E ρ.sz nb zv)(hE:mD P E zv)(hz:zv.cells=zc.toArray)(hrd : ∀lab w,ρ.rd lab w zc z)(hzl:Nat.beq zc.length ρ.sz=true)(hb:Nat.ble nb 32768=true)(t:cm lab w)
  (hw:Wn ops F g) (hdN:Nat.blt d N=true) (hx:ev F x=some (.int kn n)) (hy:ev F y=some (.int kc n))
  (h : ∀zs oa c lab' w',kk zs=some r→i7 lab 0 w lab' w'→cY ρ lab' w' k E oa c zs→LW P N ops rest ((d,.slice oa zs.length c)::F) w' K):LW P N ops (⟨some d,.makeSlice T x y,ty,pos,af,g⟩::rest) F w K:=by
 obtain⟨zs,hz',hk⟩:=dv hm
 obtain⟨h0,h1,rfl⟩:=HB hz'
 obtain⟨i,hi,hiz,hsz,hby⟩:=hT.info
 have hpos:=hT.pos
 have hzl':zc.length=ρ.sz:=Nat.eq_of_beq_eq_true hzl
 have hnb:nb≤32768:=by simpa using hb
 obtain⟨m,rfl⟩ : ∃m:Nat,n=(m:Int):=⟨n.toNat,by omega⟩
 simp only[Int.toNat_natCast]at hk h⊢
 have ste:=i7.alloc t k (.cells (List.replicate m zc).flatten.toArray E)
 have hcells:madeCells zv.cells (m*i.size)=(List.replicate m zc).flatten.toArray:=by
  unfold madeCells
  apply Array.ext_getElem?
  intro j
  rw[hz,hsz]
  by_cases hj:j<m*ρ.sz
  ·have:=eH (l:=zc) m j (by rw[hzl'];exact hj)
   have hjm:j%zc.length<zc.length:=Nat.mod_lt _ (by omega)
   simp[hj,this,List.getElem?_eq_getElem hjm]
  ·have hl:((List.replicate m zc).flatten).length=m*ρ.sz:=by simp[hzl']
   rw[Array.getElem?_eq_none (by simp;omega),Array.getElem?_eq_none (by simp[hzl'];omega)]
 have hbytes:(i.bytes:Int)*(m:Int)≤281474976710656:=by
  have a1:i.bytes*m≤32768*65536:=Nat.mul_le_mul (by omega) (by omega)
  have a2:((i.bytes*m:Nat):Int)=(i.bytes:Int)*(m:Int):=Int.natCast_mul _ _
  omega
 have hrun:=run_make (P:=P) w T E i zv hT.und hi hiz kn kc (m:Int) (m:Int) (by omega) (Int.le_refl _) hbytes (by omega)
 rw[Int.toNat_natCast,hcells]at hrun
 refine LW.val rfl hw rfl hdN (w':=w.alloc (.cells (List.replicate m zc).flatten.toArray E)) (v:=.slice (some ⟨w.heap.size,0,none⟩) m m) (fun a ha=>?_) ?_
 ·simp only[execOp,ha.eval hx,ha.eval hy,Sem.run_bind,hrun,Result.andThen_ok,Sem.run_pure]
 ·have:=h _ (some ⟨w.heap.size,0,none⟩) m _ _ hk ste ⟨List.replicate m zc,cT.replicate (hrd _ _) m,.inr ⟨w.heap.size,(List.replicate m zc).flatten.toArray,rfl,heap_alloc_new w _,by simp,by unfold maxLen;omega,by simp[hzl'],?_,by simp[relab]⟩⟩
  ·simpa using this
  ·simp[List.take_of_length_le,hzl']
def Pk(P:Program)(t:TypeId)(a b:Value):Option Bool:=
 match P.underlying t,a,b with
 |some (.int _),.int k x,.int k' y=>if k=k' then some (x==y)else none
 |some .bool,.bool x,.bool y=>some (x==y)
 |some .string,.string x,.string y=>some (x.toList==y.toList)
 |_,_,_=>none
def Mi(P:Program)(xs ys:List Value):List Field→Option Bool
 | []=>some true
 | f :: fs => bif f.name == "_" then none else
  match xs[f.offset]?,ys[f.offset]? with
  |some a,some b=>
   match Pk P f.type a b,Mi P xs ys fs with
   |some p,some q=>some (p&&q)
   |_,_=>none
  |_,_=>none
theorem JN{a b:Value}{q:Bool}(dd:Nat)(h:Pk P t a b=some q):(isAgg t).run P w = .ok false w∧(Op.equalIn (dd+1) t a b).run P w = .ok q w:=by
 unfold Pk at h
 split at h
 ·rename_i h1
  split at h
  ·rename_i hk;subst hk;cases h;exact⟨by simp[isAgg,run_underlying h1],run_equalIn_int w dd t _ _ _ _ h1⟩
  ·cases h
 ·rename_i h1;cases h;exact⟨by simp[isAgg,run_underlying h1],run_equalIn_bool' w dd t _ _ h1⟩
 ·rename_i h1;cases h;exact⟨by simp[isAgg,run_underlying h1],run_equalIn_string w dd t _ _ h1⟩
 ·cases h
theorem Eu{xs ys:List Value}(dd:Nat): ∀{fs:List Field} {q:Bool},Mi P xs ys fs=some q→(Op.eqFields (dd+1) xs.toArray ys.toArray fs).run P w = .ok q w
 | [],q,h=>by cases h;simp[Op.eqFields]
 |f::fs,q,h=>by
  unfold Mi at h
  cases hn : f.name == "_" with
  |true=>rw[hn]at h;cases h
  |false=>
   rw[hn]at h
   simp only[cond_false]at h
   split at h
   ·rename_i a b ha hb
    split at h
    ·rename_i p q' hp hq
     cases h
     obtain⟨h1,h2⟩:=JN (w:=w) dd hp
     have hne : f.name ≠ "_" := by simpa using hn
     have ih:=Eu dd hq
     simp only[Op.eqFields,if_pos hne,part,Sem.run_bind,h1,Result.andThen_ok,List.getElem?_toArray,ha,hb,Bool.false_eq_true,if_false,Sem.run_pure,h2]
     cases p
     ·simp
     ·simp[ih]
    ·cases h
   ·cases h
def Py(P:Program)(t:TypeId)(xs ys:List Value)(b:Bool):Prop:=P.eqGuardType P.depth t=false∧P.underlying t=some (.struct (P.fieldsOf t))∧P.stoodInHeld t=false∧Mi P xs ys (P.fieldsOf t).toList=some b
theorem Py.run{xs ys:List Value}{b:Bool}(h:Py P t xs ys b):(Op.equalIn 10000 t (.agg xs.toArray) (.agg ys.toArray)).run P w = .ok b w:=by
 rw[show(10000:Nat)=9999+1 from rfl,run_equalIn_agg w 9999 t _ _ h.2.1 h.2.2.1]
 exact Eu 9998 h.2.2.2
theorem rZ(op:BinOp)(xt yt:TypeId){a:Act}{u v q:Value}(hu:a.eval x=u)(hv:a.eval y=v)(hg:(eqGuard op xt x y u v).run P w = .ok () w)(hb:(binOp op xt u v).run P w = .ok q w):
  (execOp a.eval ⟨some d,.binOp op xt x y yt,ty,pos,af,g⟩).run P w = .ok (.value q) w:=by
 simp[execOp,hu,hv,hg,hb]
theorem LW.eqA{xs ys:List Value}{b:Bool}{k:Bool→Option α}(hm:letm b k=some r)(he:Py P t xs ys b)(hw:Wn ops F g)(hdN:Nat.blt d N=true)(hx:ev F x=some (.agg xs.toArray))(hy:ev F y=some (.agg ys.toArray))
  (h : ∀c,k c=some r→LW P N ops rest ((d,.bool c)::F) w K):LW P N ops (⟨some d,.binOp .eql t x y t',ty,pos,af,g⟩::rest) F w K:=
 LW.val rfl hw rfl hdN (fun _ ha=>rZ _ _ _ (ha.eval hx) (ha.eval hy) (run_eqGuard_agg w .eql t x y _ _ he.1) (by rw[run_eql_struct,he.run];rfl)) (h _ hm)
theorem LW.neA{xs ys:List Value}{b:Bool}{k:Bool→Option α}(hm:letm (!b) k=some r)(he:Py P t xs ys b)(hw:Wn ops F g)(hdN:Nat.blt d N=true)(hx:ev F x=some (.agg xs.toArray))(hy:ev F y=some (.agg ys.toArray))
  (h : ∀c,k c=some r→LW P N ops rest ((d,.bool c)::F) w K):LW P N ops (⟨some d,.binOp .neq t x y t',ty,pos,af,g⟩::rest) F w K:=
 LW.val rfl hw rfl hdN (fun _ ha=>rZ _ _ _ (ha.eval hx) (ha.eval hy) (run_eqGuard_agg w .neq t x y _ _ he.1) (by rw[run_neq_struct,he.run];rfl)) (h _ hm)
end
end Go.Gk
