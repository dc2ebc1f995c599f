/- A part of the proof of TopChain. No condition. -/
import Derived.ProofKit
import Derived.Deep.Slices
import Derived.Test.YtimjjookppejeaaGreatDoorZe
import Derived.HandedShaped
namespace Go.Gk
open Go.RowKit Go.ChangeShapes Go.WideShapes Go.WideElems
def aU:bf:=fun _=>0
theorem IB(w:World):cm aU w:=fun _ _=>rfl
def lW(P:Program)(t:TypeId){α:Type}(ρ:bF α)(I:α→Prop):Prop:=
 ∀{H:Type} {enc:TypeId×Value→H} {w:World} {base:Nat} {spare:Nat→Bool} {held:Bool} {fuel:Nat} {cs:List Value} {x:DataW H×List MemPlace},DataW.trod enc P w base spare held fuel t cs=some x→∃e,ρ.rd aU w cs e∧I e
section
variable {P : Program} {t e : TypeId} {α : Type} {ρ : bF α} {I : α → Prop}
theorem Mt{n:Int}(h:(Lit.int .i64 n).wf=true): -9223372036854775808≤n∧n<9223372036854775808:=by
 simp only[Lit.wf,Bool.and_eq_true,decide_eq_true_eq]at h
 have h1:IntKind.i64.min = -9223372036854775808:=rfl
 have h2:IntKind.i64.max=9223372036854775807:=rfl
 omega
theorem lW.i64(ht:P.underlying t=some (.int .i64)):lW P t bF.i64 (fun n=>-9223372036854775808≤n∧n<9223372036854775808):=fun h=>by
 obtain⟨n,rfl,_,hw⟩:=DataW.trod_int ht h
 exact⟨n,rfl,Mt hw⟩
theorem Ln{n:Nat}{Q:Nat→α→Prop}(h : ∀i,i<n→∃e,Q i e): ∃xs:List α,xs.length=n∧∀i x,xs[i]?=some x→Q i x:=by
 induction n with
 |zero=>exact⟨[],rfl,fun i x hx=>by simp at hx⟩
 |succ n ih=>
  obtain⟨xs,hl,hq⟩:=ih (fun i hi=>h i (by omega))
  obtain⟨e,he⟩:=h n (by omega)
  refine⟨xs ++ [e],by simp[hl],fun i x hx=>?_⟩
  by_cases hi:i<xs.length
  ·rw[List.getElem?_append_left hi]at hx;exact hq i x hx
  ·rw[List.getElem?_append_right (by omega)]at hx
   have:i=n:=by
    have:=(List.getElem?_eq_some_iff.1 hx).1
    simp at this;omega
   subst this
   rw[hl]at hx
   simp at hx;subst hx;exact he
theorem lW.sl(ht:P.underlying t=some (.slice e))(hC:P.cellsOf e=ρ.sz)(ho:lW P e ρ I):lW P t (bF.sl ρ) (fun xs=>xs.length≤maxLen∧∀x∈xs,I x):=fun{H enc w base spare held fuel cs x} h=>by
 rcases Go.Deep.open_slice ht h with⟨rfl,_⟩ | ⟨a,len,cap,m,n,D,Pl,rfl,_,hl,hm,hmm,_,hi⟩
 ·exact⟨[],⟨none,0,rfl,SL.nil⟩,by simp⟩
 ·have hlm:len≤m:=by rw[hmm];split<;>omega
  have hq : ∀i,i<len→∃y,(∃cs',ρ.rd aU w cs' y∧At aU w (a.add (i*ρ.sz)) cs')∧I y:=fun i hil=>by
   obtain⟨cs',hc,hx⟩:=hi i (by omega)
   rw[hC]at hc
   obtain⟨y,hy,hI⟩:=ho hx
   obtain⟨_,hcl,hat⟩:=World.cells?_some hc
   refine⟨y,⟨cs',hy,fun j u hu=>⟨rfl,?_⟩⟩,hI⟩
   have hj:j<cs'.length:=(List.getElem?_eq_some_iff.1 hu).1
   have:=hat j (by omega)
   rw[this,hu]
  obtain⟨xs,hxl,hxs⟩:=Ln hq
  refine⟨xs,⟨some a,cap,by rw[hxl],?_⟩,by omega,fun y hy=>?_⟩
  ·refine⟨by omega,hm,fun i y hy=>?_⟩
   obtain⟨⟨cs',h1,h2⟩,_⟩:=hxs i y hy
   exact⟨a,cs',rfl,h1,h2⟩
  ·obtain⟨i,hy⟩:=List.getElem?_of_mem hy
   exact(hxs i y hy).2
theorem lW.arg{H:Type}{enc:TypeId×Value→H}{w:World}{base:Nat}{spare:Nat→Bool}{held:Bool}{v:Value}{d:DataW H}{p:List MemPlace}(ho:lW P t ρ I)(h:DataW.Trod enc P w base spare held t v d p): ∃e,ρ.rd aU w v.cells.toList e∧I e:=by
 obtain⟨fuel,hf⟩:=h
 exact ho hf
end
def zf(P:Program)(ts:List TypeId):Bool:=ts.all fun t=>P.readableRec t&&decide (t<P.types.size)
theorem qC{H:Type}{enc:TypeId×Value→H}{P:Program}(hl:laidOutB P=true){W W':World}(hb:Below W.heap.size W W'){sp:Nat→Bool}:
  ∀{ts:List TypeId} {vs:List Value} {ds:List (DataW H)} {ps:List MemPlace},zf P ts=true→DataW.TrodAll enc P W 0 (fun _=>true) true ts vs ds ps→(∀x∈ps,x.block<W.heap.size)→(∀x∈ps,sp x.block=true)→DataW.TrodAll enc P W' 0 sp true ts vs ds ps
 | [],vs,ds,ps,_,h,_,_=>by
  obtain⟨rfl,rfl,rfl⟩:=trodAll_nil h
  exact trodAll_mk0
 |t::ts,vs,ds,ps,hr,h,hlt,hsp=>by
  simp only[zf,List.all_cons,Bool.and_eq_true,decide_eq_true_eq]at hr
  obtain⟨v,vs',d,ds',p,q,rfl,rfl,rfl,h1,h2⟩:=trodAll_cons h
  refine⟨p,q,Trod_stays hl hr.1.1 hr.1.2 h1 (fun x hx=>hb.same (hlt x (by simp[hx]))) (fun x hx=>hsp x (by simp[hx])),qC hl hb (by unfold zf;exact hr.2) h2 (fun x hx=>hlt x (by simp[hx])) (fun x hx=>hsp x (by simp[hx])),rfl⟩
theorem Ft{H:Type}{enc:TypeId×Value→H}{P:Program}{f:Func}{s:ChangeSpec}{W W':World}{args:Array Value}{ds gs:List (DataW H)}{before:List MemPlace}{tb:TypeId}(hl:laidOutB P=true)(hr:zf P f.params.toList=true)(hb:Below W.heap.size W W')
  (hW:DataW.Whole enc P f.params.toList s.vars false W args.toList ds gs before) (hv:s.vars = []) (hrt:f.resultTypes = #[tb]) (hbool:P.underlying tb=some .bool) (hfn:s.fn H (ds++gs) = { results:=[.lit (.bool true)],args:=ds }) :
  s.post enc P f false true false false W args (.bool true) W':=by
 have hlt : ∀x∈before,x.block<W.heap.size:=hW.lt
 have hWW:=hW
 obtain⟨p,q,hA,hV,hpq,hz,_⟩:=hWW
 rw[hv]at hV
 obtain⟨rfl,rfl⟩:=trodVars_none hV
 rw[List.append_nil]at hpq
 subst hpq
 have hres : ∀(b:Nat) (sp:Nat→Bool) (hd:Bool),DataW.TrodAll enc P W' b sp hd f.resultTypes.toList ((Value.bool true).resultList f.resultTypes.size) (s.fn H (ds ++ [])).results []:=fun b sp hd=>by
  rw[hfn,hrt]
  exact trodAll_mk1 (shut_bool hbool true)
 have hargs : ∀sp:Nat→Bool,(∀x∈before,sp x.block=true)→DataW.TrodAll enc P W' 0 sp true f.params.toList args.toList (s.fn H (ds ++ [])).args before:=fun sp hsp=>by
  rw[hfn]
  exact qC hl hb hr hA hlt hsp
 have hvars : ∀sp:Nat→Bool,DataW.TrodVars enc P W' sp s.vars (s.fn H (ds ++ [])).vars []:=fun sp=>by rw[hfn,hv];rfl
 have hold : ∀x∈before,(fun b=>decide (b<W.heap.size)) x.block=true:=fun x hx=>by simpa using hlt x hx
 refine⟨ds,[],before,[],before,[],hW,hres _ _ _,hargs _ hold,hvars _,hb.frame _,fun _=>?_⟩
 refine⟨ok_one hrt rfl (okWide_bool_mk hbool true),_,_,([]++before) ++ [],⟨[]++before,[],trodAll_append (hargs _ (fun _ _=>rfl)) (hres _ _ _),hvars _,rfl,?_,?_⟩,?_⟩
 ·intro b off hp
  have hp':MemPlace.cell b off∈before:=by simpa using hp
  rw[hb.frozen (p:=⟨b,off,none⟩) (hlt _ hp')]
  exact hz b off hp'
 ·intro ha;cases ha
 ·intro x hx _
  simpa using hx
def Le:(t:PT)→den t→Prop
 | .int .i64,n=>-9223372036854775808≤(show Int from n)∧(show Int from n)<9223372036854775808
 | .int _,_=>True
 | .bool,_=>True
 | .str,l=>List.length (α:=UInt8) l≤maxLen
 | .sl t,l=>List.length (α:=den t) l≤maxLen∧∀x∈(show List (den t)from l),Le t x
 | .pr a b,x=>Le a x.1∧Le b x.2
 | .st t,x=>Le t x
 | .un,_=>True
 | .cp _,_=>True
 | .clo _ _,_=>True
 | .tree,_=>True
 | .err,_=>True
 | .fl,_=>True
 | .f4,_=>True
 | .ar _ _,_=>True
section
variable {P : Program} {t e : TypeId}
theorem OpensT.i64(ht:P.underlying t=some (.int .i64)):lW P t (rep (.int .i64)) (Le (.int .i64)):=fun h=>by
 obtain⟨n,h1,h2⟩:=lW.i64 ht h
 exact⟨n,h1,h2⟩
theorem OpensT.sl{pt:PT}(ht:P.underlying t=some (.slice e))(hC:P.cellsOf e=bZ pt)(ho:lW P e (rep pt) (Le pt)):lW P t (rep (.sl pt)) (Le (.sl pt)):=fun h=>by
 obtain⟨b,h1,h2⟩:=lW.sl ht (hC.trans (a_ pt).symm) ho h
 exact⟨b,h1,h2⟩
def Shaped(pt:PT)(v:Value):Prop:=uS pt v.cells.toList v
theorem Shaped.int{w:World}{r:Reach}{base:Nat}{v:Value}{k:IntKind}(ht:P.underlying t=some (.int k))(h:Value.okWide P w r base t v):Shaped (.int k) v:=by
 obtain⟨n,rfl⟩:=okWide_int ht h;rfl
theorem Shaped.sl{w:World}{r:Reach}{base:Nat}{v:Value}{pt:PT}(ht:P.underlying t=some (.slice e))(h:Value.okWide P w r base t v):Shaped (.sl pt) v:=by
 obtain⟨a,l,c,rfl⟩:=okWide_slice ht h;rfl
theorem y_{H:Type}{enc:TypeId×Value→H}{w:World}{base:Nat}{spare:Nat→Bool}{held:Bool}{v:Value}{d:DataW H}{p:List MemPlace}{pt:PT}(ho:lW P t (rep pt) (Le pt))(h:DataW.Trod enc P w base spare held t v d p)(hs:Shaped pt v): ∃e,aV pt e aU w v∧Le pt e:=by
 obtain⟨e,h1,h2⟩:=lW.arg ho h
 exact⟨e,⟨_,h1,hs⟩,h2⟩
theorem jV{H:Type}{enc:TypeId×Value→H}{a:Assume}{C:Checked}{os:Os}{f:FuncId}{fn:Func}{s:ChangeSpec}{conds:List PathCond}{apart fresh handsOn again:Bool}{X:World→Array Value→Prop}
  (hX : ∀(w w':World) (args:Array Value),w.heap=w'.heap→X w args→X w' args)
  (own:ownKnob C.prog.godebug=none) (started:os.Started) (noInit:C.prog.inits.idxOf? f=none) (hfn:C.prog.funcs[f]?=some fn)
  (witness : ∃(w:World) (tape:Tape) (i:Input),w.os=os∧(w.forCall tape i).Shaped C.prog∧i.vars = []∧Input.okWide C.prog (w.forCall tape i) .any w.heap.size f i∧
   ((s.pre enc C.prog fn conds apart (w.forCall tape i).memory i.args∧X (w.forCall tape i).memory i.args)∧sizedMet enc C.prog fn (OpenSpec.ofChange s) apart (w.forCall tape i).memory i.args)∧a.holds C.prog (lone (Frame.enter C.prog f i.args .normal) [] (w.forCall tape i)))
  (contract : ∀(W:World) (base:Nat) (args:Array Value) (ds gs:List (DataW H)) (before:List MemPlace),
   (∀(j:Nat) t v,fn.params[j]?=some t→args[j]?=some v→Value.okWide C.prog W .any base t v)→
   DataW.Whole enc C.prog fn.params.toList s.vars apart W args.toList ds gs before→
   X W args→W.ShapedOpen C.prog→
   Calls C.prog f args W fun e W'=>∃v,e = .returned v∧s.post enc C.prog fn apart fresh handsOn again W args v W') :
  ReturnsInHanded a C os f .any (fun w args=>(s.pre enc C.prog fn conds apart w args∧X w args)∧sizedMet enc C.prog fn (OpenSpec.ofChange s) apart w args) (s.post enc C.prog fn apart fresh handsOn again):=by
 refine returnsInHanded_of_calls own started noInit witness ?_
 intro w tape i _ hsh _ hok hpre hholds
 obtain⟨_,_,_,fn',hfn',_,_,_,_,hval⟩:=hok
 have e:fn'=fn:=Option.some.inj (hfn'.symm.trans hfn)
 subst e
 obtain⟨⟨⟨ds,gs,before,hw,hc⟩,hx⟩,hz⟩:=hpre
 have hw':=DataW.Whole.of_heap (w':=w.forCall tape i) (by rfl) hw
 refine(contract (w.forCall tape i) w.heap.size i.args ds gs before hval hw' (hX _ _ _ (by rfl) hx) hsh).mono fun e W' ⟨v,he,hp⟩=>?_
 subst he
 exact ChangeSpec.post_blind hp
theorem gu.below{W W':World}{lab':bf}(h:gu [] aU W lab' W'):Below W.heap.size W W':=⟨h.os,h.tape,h.output,h.size,fun k hk=>h.block k hk (.inl rfl)⟩
end
end Go.Gk
