/- A part of the proof of TopChain. No condition. -/
import Derived.Test.YtimjjookppejeaaGreatDoorZe
import Derived.Laws.BitsAllLaws
namespace Go.Gk
open Go Go.RowKit
section
variable {P : Program} {N : Nat} {ops : Array Oper} {rest : List Oper} {F : List (Nat × Value)} {w : World} {K : eT} {lab : bf}
variable {ty : TypeId} {pos : String} {af : Array Edge} {d : Nat} {x y z : Operand} {v u q : Value} {T : TypeId}
def w_(P:Program)(N:Nat)(o:Oper)(F:List (Nat×Value))(w:World)(v:Value):Prop:=∀a,pM F N a→(execOp a.eval o).run P w = .ok (.value v) w
def LS(P:Program)(N:Nat)(ops:Array Oper)(l rest:List Oper)(F:List (Nat×Value))(w:World)(K:eT):Prop:=∀a,pM F N a→wpStill P ops w (fun a'=>wpList P ops K rest a' w) l a
theorem LS.nil(h:LW P N ops rest F w K):LS P N ops [] rest F w K:=fun a ha=>wpStill_nil (h a ha)
theorem LS.st{op:Op}{l:List Oper}(h1:w_ P N ⟨some d,op,ty,pos,af,none⟩ F w v)(hdN:Nat.blt d N=true)(h:LS P N ops l rest ((d,v)::F) w K):LS P N ops (⟨some d,op,ty,pos,af,none⟩::l) rest F w K:=fun a ha=>by
 refine wpStill_step fun k hk=>?_
 have hw:Region.wanted ⟨some d,op,ty,pos,af,none⟩ (yielded ops a.tmps)=true:=rfl
 rw[if_pos hw]
 unfold Oper.still
 rw[h1 a ha,Oper.stillUpon_value]
 exact hk _ (h _ (ha.put hdN v))
theorem LS.call{l:List Oper}{f:FuncId}{xs:List Operand}{vs:List Value}{ts:Array TypeId}(hf:OJ P f)(hc:Calls P f vs.toArray w fun e w'=>e = .returned v∧w'=w)(hdN:Nat.blt d N=true)(hx:evs F xs=some vs)
  (h:LS P N ops l rest ((d,v)::F) w K):LS P N ops (⟨some d,.call { callee:=.value (.func f),args:=xs.toArray,argTypes:=ts },ty,pos,af,none⟩::l) rest F w K:=fun a ha=>by
 obtain⟨fn,h1,h2,h3⟩:=hf.fn
 refine wpStill_step fun k hk=>?_
 have hw:Region.wanted ⟨some d,.call { callee:=.value (.func f),args:=xs.toArray,argTypes:=ts },ty,pos,af,none⟩ (yielded ops a.tmps)=true:=rfl
 rw[if_pos hw]
 unfold Oper.still
 have hr:(execOp a.eval ⟨some d,.call { callee:=.value (.func f),args:=xs.toArray,argTypes:=ts },ty,pos,af,none⟩).run P w = .ok (.enter f vs.toArray) w:=by
  have e:(xs.toArray.map a.eval)=vs.toArray:=by rw[List.map_toArray,ha.evals hx]
  simp only[execOp,resolve,e,Act.eval,Deferred.ofValue,invoke,callFunc,Sem.run_bind,Sem.run_pure,Result.andThen_ok,run_program,h1,h2,h3,Bool.false_eq_true,if_false];simp
 rw[hr]
 exact⟨rfl,v,hc,hk _ (h _ (ha.put hdN v))⟩
theorem CW.still{id:Nat}{l:List Oper}(n:Nat)(hm:P.follows .mixedOrders=true)(hB:Region.lexTailB .any l.toArray n=true)(h:LS P N l.toArray (l.take n) (l.drop n) F { w with drawn:=w.drawn+1 } K):CW P N (.region id l.toArray true) F w K:=
 fun a ha=>wp_region_still_tail n hm hB (h a ha)
theorem w_.move(hx:ev F x=some v):w_ P N ⟨some d,.move x,ty,pos,af,none⟩ F w v:=fun a ha=>by simp[execOp,ha.eval hx]
theorem w_.bin{o:BinOp}{t t':TypeId}(hb:(binOp o t u v).run P w = .ok q w)(hg:eqGuard o t x y u v=pure ())(hx:ev F x=some u)(hy:ev F y=some v):w_ P N ⟨some d,.binOp o t x y t',ty,pos,af,none⟩ F w q:=
 fun _ ha=>dg _ _ _ (ha.eval hx) (ha.eval hy) hg hb
theorem w_.load{p:Addr}(hT:iS P T)(hx:ev F x=some (.pointer (some p)))(hc:w.cell? p=some v):w_ P N ⟨some d,.load T x,ty,pos,af,none⟩ F w v:=fun a ha=>by simp[execOp,ha.eval hx,pD hT hc]
theorem w_.fld{f off:Nat}{p:Addr}(hf:vI P T f off)(hx:ev F x=some (.pointer (some p))):w_ P N ⟨some d,.fieldAddr T x f,ty,pos,af,none⟩ F w (.pointer (some (p.add off))):=fun a ha=>by simp[execOp,ha.eval hx,hf w]
section
variable {a b c : Int}
end
section
variable {a b : Nat}
end
section
variable {G o n : Nat} {T' : TypeId} {cs : List Value}
end
end
end Go.Gk
