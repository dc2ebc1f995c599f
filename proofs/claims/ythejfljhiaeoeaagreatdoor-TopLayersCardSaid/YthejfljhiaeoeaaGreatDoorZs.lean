import Derived.Test.YthejfljhiaeoeaaGreatDoorZe
import Derived.Laws.BitsAllLaws
namespace Go.Gk
open Go Go.RowKit
section
variable {P : Program} {N : Nat} {ops : Array Oper} {rest : List Oper} {F : List (Nat × Value)} {w : World} {K : gC} {lab : bg}
variable {ty : TypeId} {pos : String} {af : Array Edge} {d : Nat} {x y z : Operand} {v u q : Value} {T : TypeId}
def aG(P:Program)(N:Nat)(o:Oper)(F:List (Nat×Value))(w:World)(v:Value):Prop:=∀a,pU F N a→(execOp a.eval o).run P w = .ok (.value v) w
def LS(P:Program)(N:Nat)(ops:Array Oper)(l rest:List Oper)(F:List (Nat×Value))(w:World)(K:gC):Prop:=∀a,pU F N a→wpStill P ops w (fun a'=>wpList P ops K rest a' w) l a
theorem LS.nil(h:LW P N ops rest F w K):LS P N ops [] rest F w K:=fun a ha=>wpStill_nil (h a ha)
theorem LS.st{op:Op}{l:List Oper}(h1:aG P N ⟨some d,op,ty,pos,af,none⟩ F w v)(hdN:Nat.blt d N=true)(h:LS P N ops l rest ((d,v)::F) w K):LS P N ops (⟨some d,op,ty,pos,af,none⟩::l) rest F w K:=fun a ha=>by
 refine wpStill_step fun k hk=>?_
 have hw:Region.wanted ⟨some d,op,ty,pos,af,none⟩ (yielded ops a.tmps)=true:=rfl
 rw[if_pos hw]
 unfold Oper.still
 rw[h1 a ha,Oper.stillUpon_value]
 exact hk _ (h _ (ha.put hdN v))
theorem LS.call{l:List Oper}{f:FuncId}{xs:List Operand}{vs:List Value}{ts:Array TypeId}(hf:Pz P f)(hc:Calls P f vs.toArray w fun e w'=>e = .returned v∧w'=w)(hdN:Nat.blt d N=true)(hx:evs F xs=some vs)
  (h:LS P N ops l rest ((d,v)::F) w K):LS P N ops (⟨some d,.call { callee:=.value (.func f),args:=xs.toArray,argTypes:=ts },ty,pos,af,none⟩::l) rest F w K:=fun a ha=>by
 obtain⟨fn,h1,h2,h3⟩:=hf.fn
 refine wpStill_step fun k hk=>?_
 have hw:Region.wanted ⟨some d,.call { callee:=.value (.func f),args:=xs.toArray,argTypes:=ts },ty,pos,af,none⟩ (yielded ops a.tmps)=true:=rfl
 rw[if_pos hw]
 unfold Oper.still
 have hr:(execOp a.eval ⟨some d,.call { callee:=.value (.func f),args:=xs.toArray,argTypes:=ts },ty,pos,af,none⟩).run P w = .ok (.enter f vs.toArray) w:=by
  have e:(xs.toArray.map a.eval)=vs.toArray:=by rw[List.map_toArray,ha.evals hx]
  simp only[execOp,resolve,e,Act.eval,Deferred.ofValue,invoke,callFunc,Sem.run_bind,Sem.run_pure,Result.andThen_ok,run_program,h1,h2,h3,Bool.false_eq_true,if_false];simp
 rw[hr]
 exact⟨rfl,v,hc,hk _ (h _ (ha.put hdN v))⟩
theorem LW.st{op:Op}(h1:aG P N ⟨some d,op,ty,pos,af,none⟩ F w v)(hdN:Nat.blt d N=true)(h:LW P N ops rest ((d,v)::F) w K):LW P N ops (⟨some d,op,ty,pos,af,none⟩::rest) F w K:=LW.val rfl wn rfl hdN h1 h
theorem CW.still{id:Nat}{l:List Oper}(n:Nat)(hm:P.follows .mixedOrders=true)(hB:Region.lexTailB .any l.toArray n=true)(h:LS P N l.toArray (l.take n) (l.drop n) F { w with drawn:=w.drawn+1 } K):CW P N (.region id l.toArray true) F w K:=
 fun a ha=>wp_region_still_tail n hm hB (h a ha)
theorem aG.move(hx:ev F x=some v):aG P N ⟨some d,.move x,ty,pos,af,none⟩ F w v:=fun a ha=>by simp[execOp,ha.eval hx]
theorem aG.assign(hx:ev F x=some v):aG P N ⟨some d,.assign x,ty,pos,af,none⟩ F w v:=fun a ha=>by simp[execOp,ha.eval hx]
theorem aG.nilCheck{p:Addr}(hx:ev F x=some (.pointer (some p))):aG P N ⟨some d,.nilCheck x,ty,pos,af,none⟩ F w (.pointer (some p)):=fun a ha=>by simp[execOp,ha.eval hx]
theorem aG.bin{o:BinOp}{t t':TypeId}(hb:(binOp o t u v).run P w = .ok q w)(hg:eqGuard o t x y u v=pure ())(hx:ev F x=some u)(hy:ev F y=some v):aG P N ⟨some d,.binOp o t x y t',ty,pos,af,none⟩ F w q:=
 fun _ ha=>dm _ _ _ (ha.eval hx) (ha.eval hy) hg hb
theorem aG.load{p:Addr}(hT:lX P T)(hx:ev F x=some (.pointer (some p)))(hc:w.cell? p=some v):aG P N ⟨some d,.load T x,ty,pos,af,none⟩ F w v:=fun a ha=>by simp[execOp,ha.eval hx,tV hT hc]
theorem aG.loadn{n:Nat}{p:Addr}{cs:List Value}(hT:mP P T n)(hx:ev F x=some (.pointer (some p)))(hn:cs.length=n)(hc : ∀j u,cs[j]?=some u→w.cell? (p.add j)=some u):aG P N ⟨some d,.load T x,ty,pos,af,none⟩ F w (.agg cs.toArray):=fun a ha=>by simp[execOp,ha.eval hx,nu hT cs hn hc]
theorem aG.fld{f off:Nat}{p:Addr}(hf:rl P T f off)(hx:ev F x=some (.pointer (some p))):aG P N ⟨some d,.fieldAddr T x f,ty,pos,af,none⟩ F w (.pointer (some (p.add off))):=fun a ha=>by simp[execOp,ha.eval hx,hf w]
structure tx(P:Program)(T E:TypeId)(n m:Nat):Prop where
 und:P.underlying T=some (.array n E)
 size : ∀w,(sizeOf E).run P w = .ok m w
theorem aG.idxA{E n m i:Nat}{k:IntKind}{p:Addr}(hT:tx P T E n m)(hi:i<n)(hx:ev F x=some (.pointer (some p)))(hy:ev F y=some (.int k (i:Int))):aG P N ⟨some d,.indexAddr T x y,ty,pos,af,none⟩ F w (.pointer (some (p.add (i*m)))):=fun a ha=>by
 have h1:(i:Int)<(n:Int):=by omega
 simp[execOp,ha.eval hx,ha.eval hy,Instr.indexAt,asIntOf,run_underlying hT.und,Instr.sureAddr,h1,hi,Nat.not_le_of_lt hi,hT.size w]
theorem aG.idxS{E n c i:Nat}{k:IntKind}{p:Addr}(hT:P.underlying T=some (.slice E))(hE : ∀w,(sizeOf E).run P w = .ok 1 w)(hi:i<n)(hx:ev F x=some (.slice (some p) n c))(hy:ev F y=some (.int k (i:Int))):aG P N ⟨some d,.indexAddr T x y,ty,pos,af,none⟩ F w (.pointer (some (p.add i))):=fun a ha=>by
 have h1:(i:Int)<(n:Int):=by omega
 simp[execOp,ha.eval hx,ha.eval hy,Instr.indexAt,asIntOf,run_underlying hT,h1,hi,Nat.not_le_of_lt hi,hE w]
section
variable {a b c : Int}
theorem OC(h:aF (a+b)=c):(binOp .add T (.int .i64 a) (.int .i64 b)).run P w = .ok (.int .i64 c) w:=by subst h;simp[binOp,Op.intArith,aF]
theorem N1(h:aF (a-b)=c):(binOp .sub T (.int .i64 a) (.int .i64 b)).run P w = .ok (.int .i64 c) w:=by subst h;simp[binOp,Op.intArith,aF]
theorem OR(h:aF (a*b)=c):(binOp .mul T (.int .i64 a) (.int .i64 b)).run P w = .ok (.int .i64 c) w:=by subst h;simp[binOp,Op.intArith,aF]
theorem N6(hb:b≠0)(h:a.tmod b=c):(binOp .rem T (.int .i64 a) (.int .i64 b)).run P w = .ok (.int .i64 c) w:=by subst h;simp[binOp,Op.intDiv,hb]
theorem O'(hb:b≠0)(h:aF (a.tdiv b)=c):(binOp .quo T (.int .i64 a) (.int .i64 b)).run P w = .ok (.int .i64 c) w:=by subst h;simp[binOp,Op.intDiv,aF,hb]
theorem kZ(a b:UInt8):(binOp .xor T (.int .u8 (a.toNat:Int)) (.int .u8 (b.toNat:Int))).run P w = .ok (.int .u8 ((a ^^^ b).toNat:Int)) w:=by
 have:=u8_xor_nat a.toNat b.toNat a.toNat_lt b.toNat_lt
 rw[binOp_xor,intBits_xor,this]
 simp
end
theorem J8(a b:UInt8):(binOp .and T (.int .u8 (a.toNat:Int)) (.int .u8 (b.toNat:Int))).run P w = .ok (.int .u8 ((a &&& b).toNat:Int)) w:=by
 have:=u8_and_nat a.toNat b.toNat a.toNat_lt b.toNat_lt
 rw[binOp_and,intBits_and,this]
 simp
theorem Qw(a b:UInt8):(binOp .or T (.int .u8 (a.toNat:Int)) (.int .u8 (b.toNat:Int))).run P w = .ok (.int .u8 ((a ||| b).toNat:Int)) w:=by
 have:=u8_or_nat a.toNat b.toNat a.toNat_lt b.toNat_lt
 rw[binOp_or,intBits_or,this]
 simp
def Gy(a:UInt8)(n:Nat):UInt8:=UInt8.ofNat (a.toNat*2^min n 8%256)
def Du(a:UInt8)(n:Nat):UInt8:=UInt8.ofNat (a.toNat/2^min n 8)
theorem zZ(a:UInt8){n:Int}{k:IntKind}(hn:0≤n):(binOp .shl T (.int .u8 (a.toNat:Int)) (.int k n)).run P w = .ok (.int .u8 ((Gy a n.toNat).toNat:Int)) w:=by
 rw[binOp_shl,shift_shl_any _ _ _ _ (by omega)]
 simp[Gy,IntKind.bits,wrap_u8,ar]
 try omega
theorem AJ(a:UInt8){n:Int}{k:IntKind}(hn:0≤n):(binOp .shr T (.int .u8 (a.toNat:Int)) (.int k n)).run P w = .ok (.int .u8 ((Du a n.toNat).toNat:Int)) w:=by
 rw[binOp_shr,shift_shr_any _ _ _ _ (by omega)]
 have h:a.toNat/2^min n.toNat 8<256:=Nat.lt_of_le_of_lt (Nat.div_le_self _ _) a.toNat_lt
 have h2:(((a.toNat/2^min n.toNat 8:Nat)):Int)=(a.toNat:Int)/2^min n.toNat 8:=by rw[Int.natCast_ediv];congr 1
 have h3:(Du a n.toNat).toNat=a.toNat/2^min n.toNat 8:=by unfold Du;rw[UInt8.toNat_ofNat_of_lt' h]
 rw[h3,h2]
 rfl
theorem Jb{k:IntKind}{a b:Int}{c:Bool}(h:(a != b)=c):(binOp .neq T (.int k a) (.int k b)).run P w = .ok (.bool c) w:=by subst h;simp[binOp_neq]
theorem OG{k:IntKind}{a b:Int}{c:Bool}(h:(a==b)=c):(binOp .eql T (.int k a) (.int k b)).run P w = .ok (.bool c) w:=by subst h;simp[binOp_eql]
section
variable {a b : Nat}
theorem lB(h:a+b<9223372036854775808):(binOp .add T (.int .i64 (a:Int)) (.int .i64 (b:Int))).run P w = .ok (.int .i64 ((a+b:Nat):Int)) w:=OC (by rw[show aF ((a:Int)+(b:Int))=_ from IntKind.wrap_i64 _];omega)
theorem lF(h:b≤a)(h2:a<9223372036854775808):(binOp .sub T (.int .i64 (a:Int)) (.int .i64 (b:Int))).run P w = .ok (.int .i64 ((a-b:Nat):Int)) w:=N1 (by rw[show aF ((a:Int)-(b:Int))=_ from IntKind.wrap_i64 _];omega)
theorem vd(h:a*b<9223372036854775808):(binOp .mul T (.int .i64 (a:Int)) (.int .i64 (b:Int))).run P w = .ok (.int .i64 ((a*b:Nat):Int)) w:=OR (by rw[show aF ((a:Int)*(b:Int))=_ from IntKind.wrap_i64 _,←Int.natCast_mul];omega)
theorem og(hb:b≠0):(binOp .rem T (.int .i64 (a:Int)) (.int .i64 (b:Int))).run P w = .ok (.int .i64 ((a%b:Nat):Int)) w:=N6 (by omega) (Int.ofNat_tmod a b).symm
theorem vp(hb:b≠0)(h:a<9223372036854775808):(binOp .quo T (.int .i64 (a:Int)) (.int .i64 (b:Int))).run P w = .ok (.int .i64 ((a/b:Nat):Int)) w:=O' (by omega) (by
 rw[←Int.ofNat_tdiv]
 have:a/b≤a:=Nat.div_le_self a b
 generalize a/b=q at this⊢
 rw[show aF (q:Int)=_ from IntKind.wrap_i64 _];omega)
theorem gQ:(binOp .lss T (.int .i64 (a:Int)) (.int .i64 (b:Int))).run P w = .ok (.bool (decide (a<b))) w:=by
 have:decide ((a:Int)<(b:Int))=decide (a<b):=decide_eq_decide.2 (by omega)
 simp[binOp_lss,←this]
theorem Lp:(binOp .leq T (.int .i64 (a:Int)) (.int .i64 (b:Int))).run P w = .ok (.bool (decide (a≤b))) w:=by
 have:decide ((a:Int)≤(b:Int))=decide (a≤b):=decide_eq_decide.2 (by omega)
 simp[binOp_leq,←this]
theorem ly:(binOp .gtr T (.int .i64 (a:Int)) (.int .i64 (b:Int))).run P w = .ok (.bool (decide (b<a))) w:=by
 have:decide ((b:Int)<(a:Int))=decide (b<a):=decide_eq_decide.2 (by omega)
 simp[binOp_gtr,←this]
end
def bd(bs:List UInt8):List Value:=bs.map fun b=>.int .u8 (b.toNat:Int)
theorem an(bs:List UInt8):(bd bs).length=bs.length:=List.length_map ..
theorem r_{bs:List UInt8}{i:Nat}(h:i<bs.length):(bd bs)[i]?=some (.int .u8 (bs[i].toNat:Int)):=by simp[bd,h]
theorem iQ(bs:List UInt8)(i:Nat)(b:UInt8):(bd bs).set i (.int .u8 (b.toNat:Int))=bd (bs.set i b):=by simp[bd,List.map_set]
theorem dB(bs:List UInt8):(bd bs).all Value.oneCell'=true:=by
 rw[List.all_eq_true]
 intro v hv
 obtain⟨b,_,rfl⟩:=List.mem_map.1 hv
 rfl
structure Fr(bs:List Nat)(w w':World):Prop where
 os:w'.os=w.os
 tape:w'.tape=w.tape
 output:w'.output=w.output
 size:w.heap.size≤w'.heap.size
 block : ∀b,b<w.heap.size→b∉bs→w'.heap[b]?=w.heap[b]?
theorem Fr.refl{bs:List Nat}:Fr bs w w:=⟨rfl,rfl,rfl,Nat.le_refl _,fun _ _ _=>rfl⟩
theorem Fr.trans{bs bs1:List Nat}{w w1 w2:World}(h:Fr bs w w1)(h1:Fr bs1 w1 w2)(hb : ∀b∈bs1,b∈bs∨w.heap.size≤b):Fr bs w w2:=
 ⟨h1.os.trans h.os,h1.tape.trans h.tape,h1.output.trans h.output,Nat.le_trans h.size h1.size,fun b hl hn=>(h1.block b (Nat.lt_of_lt_of_le hl h.size) fun hm=>by rcases hb b hm with hb |hb;exact hn hb;omega).trans (h.block b hl hn)⟩
theorem Fr.draw(w:World)(m:Nat):Fr [] w { w with drawn:=m }:=⟨rfl,rfl,rfl,Nat.le_refl _,fun _ _ _=>rfl⟩
theorem Fr.weak{bs:List Nat}{w w':World}(h:Fr [] w w'):Fr bs w w':=⟨h.os,h.tape,h.output,h.size,fun b hb _=>h.block b hb (by simp)⟩
def ed(w:World)(G:Nat)(T:TypeId)(cs:List Value):Prop:=w.heap[G]?=some (.cells cs.toArray T (0,0))
section
variable {G o n : Nat} {T' : TypeId} {cs : List Value}
theorem ed.lt(h:ed w G T' cs):G<w.heap.size:=(Array.getElem?_eq_some_iff.1 h).1
theorem ed.fr{bs:List Nat}{w':World}(h:ed w G T' cs)(f:Fr bs w w')(hb:G∉bs):ed w' G T' cs:=(f.block G h.lt hb).trans h
theorem ed.box(h:ed w G T' cs):jx (fun b=>if b=G then 5 else 0) w 5 G T' cs:=⟨h,by simp⟩
theorem ed.top(h:ed w G T' cs):dv (fun b=>if b=G then 5 else 0) w:=fun b hb=>by have:=h.lt;exact if_neg (by omega)
theorem ed.cell(h:ed w G T' cs)(o:Nat):w.cell? ⟨G,o,none⟩=cs[o]?:=h.box.cell o
theorem iI.fr{w':World}(s:iI (fun b=>if b=G then 5 else 0) 5 w (fun b=>if b=G then 5 else 0) w'):Fr [G] w w':=
 ⟨s.os,s.tape,s.output,s.size,fun b hb hn=>s.block b hb (.inr (by have h1:b≠G:=(by simpa using hn);simp[h1]))⟩
theorem ed.drawn(h:ed w G T' cs)(m:Nat):ed { w with drawn:=m } G T' cs:=h
theorem LW.allocC(cs:List Value)(hz:gO P T v)(hcs:v.cells=cs.toArray)(hdN:Nat.blt d N=true)
  (h : ∀w',Fr [] w w'→ed w' w.heap.size T cs→w.heap.size<w'.heap.size→LW P N ops rest ((d,.pointer (some ⟨w.heap.size,0,none⟩))::F) w' K):LW P N ops (⟨some d,.alloc T,ty,pos,af,none⟩::rest) F w K:=
 LW.val rfl wn rfl hdN (w':=w.alloc (.cells cs.toArray T)) (fun a ha=>by simp[execOp,Instr.alloc,hz w,newVar,newRow,hcs,World.alloc_eq']) (h _ ⟨rfl,rfl,rfl,by simp,fun b hb _=>Below.heap_alloc w _ b hb⟩ (heap_alloc_new w _) (by simp))
theorem LW.boxC(cs:List Value)(hx:ev F x=some v)(hcs:v.cells=cs.toArray)(hdN:Nat.blt d N=true)
  (h : ∀w',Fr [] w w'→ed w' w.heap.size T cs→w.heap.size<w'.heap.size→LW P N ops rest ((d,.pointer (some ⟨w.heap.size,0,none⟩))::F) w' K):LW P N ops (⟨some d,.box T x,ty,pos,af,none⟩::rest) F w K:=
 LW.val rfl wn rfl hdN (w':=w.alloc (.cells cs.toArray T)) (fun a ha=>by simp[execOp,ha.eval hx,Instr.box,newVar,newRow,hcs,World.alloc_eq']) (h _ ⟨rfl,rfl,rfl,by simp,fun b hb _=>Below.heap_alloc w _ b hb⟩ (heap_alloc_new w _) (by simp))
theorem LW.store1(c:ed w G T' cs)(hT:lX P T)(ho:o<cs.length)(h1:v.cells = #[v])(h2:v.oneCell'=true)(hx:ev F x=some (.pointer (some ⟨G,o,none⟩)))(hy:ev F y=some v)
  (h : ∀w',Fr [G] w w'→ed w' G T' (cs.set o v)→LW P N ops rest F w' K):LW P N ops (⟨none,.store T x y,ty,pos,af,none⟩::rest) F w K:=
 LW.storeB1 _ c.box c.top rfl hT (List.getElem?_eq_getElem ho) rfl h1 h2 wn hx hy fun w' s b=>h w' (iI.fr s) b.1
theorem LW.storeN{vs:List Value}(c:ed w G T' cs)(hT:mP P T n)(hn:vs.length=n)(ho:o+n≤cs.length)(h2:vs.all Value.oneCell'=true)(hx:ev F x=some (.pointer (some ⟨G,o,none⟩)))(hy:ev F y=some (.agg vs.toArray))
  (h : ∀w',Fr [G] w w'→ed w' G T' (cs.take o++vs++cs.drop (o+n))→LW P N ops rest F w' K):LW P N ops (⟨none,.store T x y,ty,pos,af,none⟩::rest) F w K:=
 LW.storeBn vs _ c.box c.top rfl hT (by simp[hn]) (by simpa using ho) rfl h2 wn hx hy fun w' s b=>h w' (iI.fr s) b.1
theorem aG.loadC{o:Nat}(c:ed w G T' cs)(hT:lX P T)(hc:cs[o]?=some v)(hx:ev F x=some (.pointer (some ⟨G,o,none⟩))):aG P N ⟨some d,.load T x,ty,pos,af,none⟩ F w v:=aG.load hT hx ((c.cell o).trans hc)
theorem aG.loadCn{vs:List Value}(c:ed w G T' cs)(hT:mP P T n)(hn:vs.length=n)(hc:(cs.drop o).take n=vs)(hx:ev F x=some (.pointer (some ⟨G,o,none⟩))):aG P N ⟨some d,.load T x,ty,pos,af,none⟩ F w (.agg vs.toArray):=
 aG.loadn hT hx hn fun j u hj=>by
  rw[bL,c.cell]
  subst hc
  rw[List.getElem?_take]at hj
  split at hj
  ·rw[List.getElem?_drop]at hj;exact hj
  ·cases hj
end
theorem aG.idxC{E n i G o:Nat}{k:IntKind}(hT:tx P T E n 1)(hi:i<n)(hx:ev F x=some (.pointer (some ⟨G,o,none⟩)))(hy:ev F y=some (.int k (i:Int))):aG P N ⟨some d,.indexAddr T x y,ty,pos,af,none⟩ F w (.pointer (some ⟨G,o+i,none⟩)):=by
 have:=aG.idxA (P:=P) (N:=N) (F:=F) (w:=w) (ty:=ty) (pos:=pos) (af:=af) (d:=d) hT hi hx hy
 rwa [Nat.mul_one,bL]at this
theorem aG.idx0{E n i G:Nat}{k:IntKind}(hT:tx P T E n 1)(hi:i<n)(hx:ev F x=some (.pointer (some ⟨G,0,none⟩)))(hy:ev F y=some (.int k (i:Int))):aG P N ⟨some d,.indexAddr T x y,ty,pos,af,none⟩ F w (.pointer (some ⟨G,i,none⟩)):=by
 have:=aG.idxC (P:=P) (N:=N) (F:=F) (w:=w) (ty:=ty) (pos:=pos) (af:=af) (d:=d) hT hi hx hy
 rwa [Nat.zero_add]at this
theorem aG.idxM{E n m i G o:Nat}{k:IntKind}(hT:tx P T E n m)(hi:i<n)(hx:ev F x=some (.pointer (some ⟨G,o,none⟩)))(hy:ev F y=some (.int k (i:Int))):aG P N ⟨some d,.indexAddr T x y,ty,pos,af,none⟩ F w (.pointer (some ⟨G,o+i*m,none⟩)):=by
 have:=aG.idxA (P:=P) (N:=N) (F:=F) (w:=w) (ty:=ty) (pos:=pos) (af:=af) (d:=d) hT hi hx hy
 rwa [bL]at this
theorem aG.fldC{f off G o:Nat}(hf:rl P T f off)(hx:ev F x=some (.pointer (some ⟨G,o,none⟩))):aG P N ⟨some d,.fieldAddr T x f,ty,pos,af,none⟩ F w (.pointer (some ⟨G,o+off,none⟩)):=by
 have:=aG.fld (P:=P) (N:=N) (F:=F) (w:=w) (ty:=ty) (pos:=pos) (af:=af) (d:=d) hf hx
 rwa [bL]at this
theorem tX(bs:List UInt8)(o n:Nat):((bd bs).drop o).take n=bd ((bs.drop o).take n):=by simp[bd,List.map_drop,List.map_take]
theorem MV(a b:List UInt8):bd (a++b)=bd a++bd b:=by simp[bd]
theorem aG.build{parts:List (Nat×Operand)}{vs:List (Nat×Value)}{cs:List Value}(he:parts.map (fun p=>(p.1,ev F p.2))=vs.map (fun p=>(p.1,some p.2)))(hb:P.built T vs=some cs.toArray):aG P N ⟨some d,.build T parts.toArray,ty,pos,af,none⟩ F w (.agg cs.toArray):=fun a ha=>by
 have e:parts.map (fun p=>(p.1,a.eval p.2))=vs:=by
  clear hb
  induction parts generalizing vs with
  |nil=>cases vs<;>simp_all
  |cons p r ih=>
   cases vs with
   |nil=>simp at he
   |cons q vs=>
    simp only[List.map_cons,List.cons.injEq,Prod.mk.injEq]at he
    obtain⟨⟨h1,h2⟩,h3⟩:=he
    simp only[List.map_cons,List.cons.injEq]
    exact⟨by rw[ha.eval h2,h1],ih h3⟩
 have hr:=run_build (P:=P) w T (parts.map fun p=>(p.1,a.eval p.2)).toArray cs.toArray (by rw[e];exact hb)
 simp only[execOp,Sem.run_bind,List.map_toArray]
 rw[hr];simp
theorem yI : ∀(cs:List Value) (off k:Nat) (z:List Value),off+k+cs.length≤z.length→(cs.zipIdx k).foldl (fun(a:Array Value) p=>a.setIfInBounds (off+p.2) p.1) z.toArray=(z.take (off+k)++cs++z.drop (off+k+cs.length)).toArray
 | [],off,k,z,_=>by simp
 |c::cs,off,k,z,h=>by
  simp only[List.length_cons]at h
  have hlt:off+k<z.length:=by omega
  rw[List.zipIdx_cons,List.foldl_cons,List.setIfInBounds_toArray,yI cs off (k+1) (z.set (off+k) c) (by simp;omega)]
  congr 1
  rw[List.take_set,List.drop_set_of_lt (by omega),←Nat.add_assoc,List.take_succ_eq_append_getElem hlt,List.set_append_right _ _ (by simp;omega)]
  simp[Nat.min_eq_left (Nat.le_of_lt hlt),Nat.add_assoc,Nat.add_comm 1]
theorem I7{place:Nat→Option (Nat×Nat)}{z cs:List Value}{n i off:Nat}(hp:place i=some (off,n))(hn:cs.length=n)(hz:off+n≤z.length):Instr.fill place z.toArray [(i,.agg cs.toArray)]=some (z.take off++cs++z.drop (off+n)).toArray:=by
 have h1:(Value.agg cs.toArray).cells=cs.toArray:=rfl
 have:=yI cs off 0 z (by omega)
 simp only[Nat.add_zero,hn]at this
 simp only[Instr.fill,hp,h1,List.size_toArray,hn,ne_eq,not_true_eq_false,false_or,decide_false,Bool.false_or]
 rw[if_neg (by simp;omega)]
 rw[←this]
 simp
theorem aG.sliceAll{n G o:Nat}(hT:P.underlying T=some (.array (P.arrayLen T) (P.elem T)))(hn:P.arrayLen T=n)(hpos:n≠0)(hE : ∀w,(sizeOf (P.elem T)).run P w = .ok 1 w)(hx:ev F x=some (.pointer (some ⟨G,o,none⟩))):aG P N ⟨some d,.slice T x none none none,ty,pos,af,none⟩ F w (.slice (some ⟨G,o,none⟩) n n):=fun a ha=>by
 simp[execOp,ha.eval hx,run_sliceAt_array_all w T _ hT,hE w,slicedAt,hn,hpos,bL]
theorem aG.sliceLow{n G o l:Nat}{k:IntKind}(hT:P.underlying T=some (.array (P.arrayLen T) (P.elem T)))(hn:P.arrayLen T=n)(hl:l<n)(hE : ∀w,(sizeOf (P.elem T)).run P w = .ok 1 w)(hx:ev F x=some (.pointer (some ⟨G,o,none⟩)))(hy:ev F y=some (.int k (l:Int))):aG P N ⟨some d,.slice T x (some y) none none,ty,pos,af,none⟩ F w (.slice (some ⟨G,o+l,none⟩) (n-l) (n-l)):=fun a ha=>by
 have h1:=run_sliceAt_array_l (P:=P) w T ⟨G,o,none⟩ hT k (l:Int) (by omega) (by omega)
 have h2 : ¬n=l:=by omega
 simp only[execOp,ha.eval hx,Option.map_some,Option.map_none,ha.eval hy,h1,hE w,Sem.run_bind,Result.andThen_ok,Sem.run_pure,slicedAt,hn,Int.toNat_natCast,Nat.mul_one,bL,if_neg h2]
theorem aG.sliceHigh{n G o h:Nat}{k:IntKind}(hT:P.underlying T=some (.array (P.arrayLen T) (P.elem T)))(hn:P.arrayLen T=n)(hl:h≤n)(hpos:n≠0)(hE : ∀w,(sizeOf (P.elem T)).run P w = .ok 1 w)(hx:ev F x=some (.pointer (some ⟨G,o,none⟩)))(hy:ev F y=some (.int k (h:Int))):aG P N ⟨some d,.slice T x none (some y) none,ty,pos,af,none⟩ F w (.slice (some ⟨G,o,none⟩) h n):=fun a ha=>by
 have h1:=run_sliceAt_array_h (P:=P) w T ⟨G,o,none⟩ hT k (h:Int) (by omega) (by omega)
 simp only[execOp,ha.eval hx,Option.map_some,Option.map_none,ha.eval hy,h1,hE w,Sem.run_bind,Result.andThen_ok,Sem.run_pure,slicedAt,hn,Int.toNat_natCast,Nat.zero_mul,bL,if_neg hpos,Nat.sub_zero,Nat.add_zero]
theorem LW.copyA{G o n dl dc sl sc:Nat}{T':TypeId}{cs vs:List Value}{ad:Addr}{S:TypeId}{E:TypeId}(c:ed w G T' cs)(hu:P.underlying T=some (.slice E))(hs:(P.info? E).map (·.size)=some 1)(hn:vs.length=n)(hm:n=min sl dl)(hsrc : ∀j v,vs[j]?=some v→w.cell? (ad.add j)=some v)(hfit:o+n≤cs.length)(h1:vs.all Value.oneCell'=true)
  (hdN:Nat.blt d N=true) (hx:ev F x=some (.slice (some ⟨G,o,none⟩) dl dc)) (hy:ev F y=some (.slice (some ad) sl sc)) (h : ∀w',Fr [G] w w'→ed w' G T' (cs.take o++vs++cs.drop (o+n))→LW P N ops rest ((d,.int .i64 (n:Int))::F) w' K) :
  LW P N ops (⟨some d,.call { callee:=.builtin .copy,args:=#[x,y],argTypes:=#[T,S] },ty,pos,af,none⟩::rest) F w K:=by
 have hr:=run_copy_row (P:=P) w T S ty E G o dl dc ad sl sc cs.toArray T' vs hu hs c (by rw[hn,hm]) hsrc (by simpa [hn]using hfit) (fun v hv=>List.all_eq_true.1 h1 v hv)
 subst hn
 refine LW.val rfl wn rfl hdN (w':=w.setRow G (cs.take o++vs++cs.drop (o+vs.length)).toArray) (fun a ha=>by simp[execOp,resolve,invoke,builtin,ha.eval hx,ha.eval hy,hr,goInt]) (h _ ?_ ?_)
 ·refine⟨rfl,rfl,rfl,by simp[World.setRow],fun b hb hn=>?_⟩
  have hne:b≠G:=by simpa using hn
  exact setRow_other w G b _ hne
 ·exact setRow_heap w G cs.toArray _ T' _ c
def SD(P:Program)(N:Nat)(l:List Oper)(n a:Nat)(F0:List (Nat×Value))(V:List Value)(w1 wA:World)(i:Nat):Prop:=
 i≠a→∃o d v,l[i]?=some o∧o.dst=some d∧o.guard=none∧Nat.blt d N=true∧V[i]?=some v∧
  ∀F w2,(w2=w1∨w2=wA)→(∀t v,bN F0 t=some v→bN F t=some v)→(∀j,j<n→j≠a→Region.waitsFor .any l.toArray i j=true→bN F (it l j)=V[j]?)→aG P N o F w2 v
theorem CW.drawV{l:List Oper}{id:Nat}{F0:List (Nat×Value)}{zc:List Value}{T:TypeId}{v:Value}{ty:TypeId}{pos:String}{af:Array Edge}(n a da:Nat)(V:List Value)(hm:P.follows .mixedOrders=true)(hchk:zG l n F0=true)
  (ha:l[a]?=some ⟨some da,.alloc T,ty,pos,af,none⟩) (han:a<n) (hz:gO P T v) (hzc:v.cells=zc.toArray) (hda:Nat.blt da N=true)
  (h : ∀w1,Fr [] w w1→(∀i,i<n→SD P N l n a F0 V w1 (w1.alloc (.cells zc.toArray T)) i)∧
   ∀F,(∀t v,bN F0 t=some v→bN F t=some v)→(∀i,i<n→i≠a→bN F (it l i)=V[i]?)→bN F da=some (.pointer (some ⟨w1.heap.size,0,none⟩))→LW P N l.toArray (l.drop n) F (w1.alloc (.cells zc.toArray T)) K) :
  CW P N (.region id l.toArray true) F0 w K:=by
 refine CW.draw (lab:=fun _=>0) (ks:=fun _=>[]) hm n hchk (fun _ _=>rfl) fun w1 s=>?_
 have fr:Fr [] w w1:=⟨s.os,s.tape,s.output,s.size,fun b hb _=>s.block b hb (.inl rfl)⟩
 obtain⟨hob,htl⟩:=h w1 fr
 refine⟨fun j _ _ _ u=>(j=a→u = .pointer (some ⟨w1.heap.size,0,none⟩))∧(j≠a→V[j]?=some u),fun L _ w2=>(L a=true→w2=w1.alloc (.cells zc.toArray T))∧(L a=false→w2=w1),fun _ _ _ _ _ _ _ _ _ _ _ hr=>hr,⟨fun h=>(by cases h),fun _=>rfl⟩,fun i hi=>?_,?_⟩
 ·intro o L F lab w2 ho hL hwait hcl hb hr hq
  by_cases hia:i=a
  ·subst hia
   rw[ha]at ho
   obtain rfl:=Option.some.inj ho
   obtain rfl:=hq.2 hL
   have hdi:it l i=da:=by unfold it;rw[ha];rfl
   rw[hdi]
   exact LW.val (v:=.pointer (some ⟨w2.heap.size,0,none⟩)) rfl wn rfl hda (w':=w2.alloc (.cells zc.toArray T)) (fun a ha=>by simp[execOp,Instr.alloc,hz w2,newVar,newRow,hzc,World.alloc_eq']) (LW.nil fun a' ha'=>⟨rfl,lab,_,ha',⟨fun _=>rfl,fun h=>absurd rfl h⟩,⟨by simp,fun b hb _=>⟨rfl,Below.heap_alloc w2 _ b hb⟩⟩,⟨fun _=>rfl,fun h=>by rw[It]at h;cases h⟩⟩)
  ·obtain⟨o',d,v',h1,h2,h3,h4,h5,h6⟩:=hob i hi hia
   rw[h1]at ho
   obtain rfl:=Option.some.inj ho
   have hdi:it l i=d:=by unfold it;rw[h1];simp[h2]
   rw[hdi]
   have hw2:w2=w1∨w2=w1.alloc (.cells zc.toArray T):=by
    cases hLa:L a with
    |true=>exact .inr (hq.1 hLa)
    |false=>exact .inl (hq.2 hLa)
   have hst:=h6 F w2 hw2 hb (fun j hj hja hwj=>by
    obtain⟨u,hu,hR⟩:=hr j hj (hwait j hwj)
    rw[hu,hR.2 hja])
   refine LW.val h3 wn h2 h4 hst (LW.nil fun a' ha'=>⟨rfl,lab,v',ha',⟨fun h=>absurd h hia,fun _=>h5⟩,Ke.refl,?_⟩)
   have hua:qU L i a=L a:=by unfold qU;rw[if_neg (fun h=>hia h.symm)]
   exact⟨fun h=>hq.1 (hua▸h),fun h=>hq.2 (hua▸h)⟩
 ·intro F lab2 w2 hb hr hq
  have hw2:=hq.1 (by simp[han])
  subst hw2
  refine htl F hb (fun i hi hia=>?_) ?_
  ·obtain⟨u,hu,hR⟩:=hr i hi
   rw[hu,hR.2 hia]
  ·obtain⟨u,hu,hR⟩:=hr a han
   have hdi:it l a=da:=by unfold it;rw[ha];rfl
   rw[hdi]at hu
   rw[hu,hR.1 rfl]
theorem aG.idxSC{E n c i G o:Nat}{k:IntKind}(hT:P.underlying T=some (.slice E))(hE : ∀w,(sizeOf E).run P w = .ok 1 w)(hi:i<n)(hx:ev F x=some (.slice (some ⟨G,o,none⟩) n c))(hy:ev F y=some (.int k (i:Int))):aG P N ⟨some d,.indexAddr T x y,ty,pos,af,none⟩ F w (.pointer (some ⟨G,o+i,none⟩)):=by
 have:=aG.idxS (P:=P) (N:=N) (F:=F) (w:=w) (ty:=ty) (pos:=pos) (af:=af) (d:=d) hT hE hi hx hy
 rwa [bL]at this
theorem Fr.alloc(w:World)(ob:Obj):Fr [] w (w.alloc ob):=⟨rfl,rfl,rfl,by simp,fun b hb _=>Below.heap_alloc w ob b hb⟩
theorem ed.both{G:Nat}{T':TypeId}{cs:List Value}{bs:List Nat}{w w1:World}{ob:Obj}(c:ed w G T' cs)(f:Fr bs w w1)(hb:G∉bs): ∀w2,(w2=w1∨w2=w1.alloc ob)→ed w2 G T' cs:=by
 rintro _ (rfl |rfl)
 ·exact c.fr f hb
 ·exact(c.fr f hb).fr (Fr.alloc _ _) (by simp)
structure DS(w:World)(v:Value)(bs:List UInt8):Prop where
 ex : ∃oa c,v = .slice oa bs.length c∧(bs.length≤c∧c≤maxLen)∧∀j u,(bd bs)[j]?=some u→∃ad,oa=some ad∧ad.block<w.heap.size∧w.cell? (ad.add j)=some u
theorem jA(p:Addr)(n:Nat):(p.add n).block=p.block:=by unfold Addr.add;split<;>rfl
theorem DS.fr{w w':World}{v:Value}{bs:List UInt8}(h:DS w v bs)(f:Fr [] w w'):DS w' v bs:=by
 obtain⟨oa,c,hv,hc,hh⟩:=h.ex
 refine⟨oa,c,hv,hc,fun j u hu=>?_⟩
 obtain⟨ad,h1,h2,h3⟩:=hh j u hu
 exact⟨ad,h1,Nat.lt_of_lt_of_le h2 f.size,by rw[World.cell?_of_block (w:=w) (by rw[jA];exact f.block _ h2 (by simp))];exact h3⟩
theorem CW.viaR(G:List (Nat×Value)){id:Nat}{l:List Oper}(h:LW P N l.toArray l F w fun e a w'=>e = .normal∧w'=w∧pU G N a)(hk:EW N .normal G w K):CW P N (.region id l.toArray false) F w K:=fun a ha=>
 wp_mono (wp_region_lit (h a ha)) fun e a' w' ⟨h1,h2,h3⟩=>by subst h1 h2;exact hk a' h3
theorem LW.viaNil{G:List (Nat×Value)}(hs:Gk.sub G F):LW P N ops [] F w fun e a w'=>e = .normal∧w'=w∧pU G N a:=LW.nil fun _ ha=>⟨rfl,rfl,ha.sub hs⟩
theorem DS.take{w:World}{oa:Option Addr}{n c m:Nat}{bs:List UInt8}(h:DS w (.slice oa n c) bs)(hm:m≤bs.length):DS w (.slice oa m c) (bs.take m):=by
 obtain⟨oa',c',hv,hc,hh⟩:=h.ex
 cases hv
 refine⟨oa,c,by rw[List.length_take,Nat.min_eq_left hm],⟨by rw[List.length_take,Nat.min_eq_left hm];have:=hc.1;omega,hc.2⟩,fun j u hu=>hh j u ?_⟩
 rw[bd,List.map_take]at hu
 rw[List.getElem?_take]at hu
 split at hu
 ·exact hu
 ·cases hu
theorem DS.drop{w:World}{oa:Option Addr}{n c m:Nat}{bs:List UInt8}(h:DS w (.slice oa n c) bs)(hm:m≤bs.length):DS w (.slice (if c=m then oa else oa.map (·.add (m*1))) (n-m) (c-m)) (bs.drop m):=by
 obtain⟨oa',c',hv,hc,hh⟩:=h.ex
 cases hv
 refine⟨_,_,by rw[List.length_drop],⟨by rw[List.length_drop];have:=hc.1;omega,Nat.le_trans (Nat.sub_le _ _) hc.2⟩,fun j u hu=>?_⟩
 rw[bd,List.map_drop,List.getElem?_drop]at hu
 obtain⟨ad,h1,h2,h3⟩:=hh (m+j) u hu
 have hlt:m+j<bs.length:=by
  have:=(List.getElem?_eq_some_iff.1 hu).1
  simpa using this
 have hc1:=hc.1
 rw[if_neg (by omega),h1]
 exact⟨ad.add (m*1),rfl,by rw[jA];exact h2,by rw[Addr.add_add,Nat.mul_one];exact h3⟩
theorem DS.len{w:World}{oa:Option Addr}{n c:Nat}{bs:List UInt8}(h:DS w (.slice oa n c) bs):n=bs.length∧bs.length≤c:=by
 obtain⟨oa',c',hv,hc,_⟩:=h.ex
 cases hv
 exact⟨rfl,hc.1⟩
theorem aG.cutH{n c h:Nat}{k:IntKind}{oa:Option Addr}(hT:P.underlying T=some (.slice (P.elem T)))(hE : ∀w,(sizeOf (P.elem T)).run P w = .ok 1 w)(hh:h≤c)(hx:ev F x=some (.slice oa n c))(hy:ev F y=some (.int k (h:Int))):aG P N ⟨some d,.slice T x none (some y) none,ty,pos,af,none⟩ F w (.slice oa h c):=fun a ha=>by
 have h1:=run_slice_h (P:=P) w T oa n c hT k (h:Int) (by omega) (by omega)
 simp only[execOp,ha.eval hx,Option.map_some,Option.map_none,ha.eval hy,run_sliceAt_slice w T _ _ _ _ hT,h1,hE w,Sem.run_bind,Result.andThen_ok,Sem.run_pure,sliced,Int.toNat_natCast,Nat.zero_mul,Nat.sub_zero]
 by_cases hc:c=0
 ·simp[hc]
 ·have:oa.map (fun p=>p.add 0)=oa:=by
   cases oa with
   |none=>rfl
   |some p=>simp only[Option.map_some];congr 1
  rw[if_neg hc,this]
theorem aG.cutL{n c l:Nat}{k:IntKind}{oa:Option Addr}(hT:P.underlying T=some (.slice (P.elem T)))(hE : ∀w,(sizeOf (P.elem T)).run P w = .ok 1 w)(hl:l≤n)(hx:ev F x=some (.slice oa n c))(hy:ev F y=some (.int k (l:Int))):aG P N ⟨some d,.slice T x (some y) none none,ty,pos,af,none⟩ F w (.slice (if c=l then oa else oa.map (·.add (l*1))) (n-l) (c-l)):=fun a ha=>by
 have h1:=run_slice_l (P:=P) w T oa n c hT k (l:Int) (by omega) (by omega)
 simp only[execOp,ha.eval hx,Option.map_some,Option.map_none,ha.eval hy,run_sliceAt_slice w T _ _ _ _ hT,h1,hE w,Sem.run_bind,Result.andThen_ok,Sem.run_pure,sliced,Int.toNat_natCast]
theorem LW.minN{a b:Nat}{ts:Array TypeId}(hdN:Nat.blt d N=true)(hx:ev F x=some (.int .i64 (a:Int)))(hy:ev F y=some (.int .i64 (b:Int)))(h:LW P N ops rest ((d,.int .i64 ((min a b:Nat):Int))::F) w K):LW P N ops (⟨some d,.call { callee:=.builtin .min,args:=#[x,y],argTypes:=ts },ty,pos,af,none⟩::rest) F w K:=
 LW.val rfl wn rfl hdN (fun q ha=>by
  have e:(if(b:Int)<(a:Int)then(b:Int)else(a:Int))=((min a b:Nat):Int):=by split<;>omega
  simp only[execOp,resolve,invoke,builtin,Sem.run_bind,Sem.run_pure,Result.andThen_ok,List.map_toArray,List.map_cons,List.map_nil,ha.eval hx,ha.eval hy,run_min_int2,e]) h
def yc(X:Nat):Option Addr→Prop
 |none=>True
 |some p=>p.block≠X
theorem DS.frX{X:Nat}{w w':World}{oa:Option Addr}{n c:Nat}{bs:List UInt8}(h:DS w (.slice oa n c) bs)(f:Fr [X] w w')(ho:yc X oa):DS w' (.slice oa n c) bs:=by
 obtain⟨oa',c',hv,hc,hh⟩:=h.ex
 cases hv
 refine⟨oa,c,rfl,hc,fun j u hu=>?_⟩
 obtain⟨ad,rfl,h2,h3⟩:=hh j u hu
 have hne:ad.block≠X:=ho
 exact⟨ad,rfl,Nat.lt_of_lt_of_le h2 f.size,by rw[World.cell?_of_block (w:=w) (by rw[jA];exact f.block _ h2 (by simpa using hne))];exact h3⟩
theorem yc.drop{X c m k:Nat}{oa:Option Addr}(h:yc X oa):yc X (if c=m then oa else oa.map (·.add k)):=by
 split
 ·exact h
 ·cases oa with
  |none=>trivial
  |some p=>show(p.add k).block≠X;rw[jA];exact h
theorem Rk(i n:Nat):decide ((i:Int)<(n:Int))=decide (i<n):=decide_eq_decide.2 (by omega)
theorem b_{bs:List UInt8}{i:Nat}(h:i<bs.length):(bd bs)[i]?=some (.int .u8 ((bs.getD i 0).toNat:Int)):=by rw[r_ h];simp[List.getD,h]
theorem sD{i:Nat}(h:i<9223372036854775807):aF ((i:Int)+1)=((i+1:Nat):Int):=by rw[show aF ((i:Int)+1)=_ from IntKind.wrap_i64 _];omega
theorem Fr.tr{bs:List Nat}{w w1 w2:World}(h:Fr bs w w1)(h1:Fr bs w1 w2):Fr bs w w2:=h.trans h1 fun _ hb=>.inl hb
theorem Fr.ofDraw{bs:List Nat}{w w':World}{m:Nat}(h:Fr bs { w with drawn:=m } w'):Fr bs w w':=⟨h.os,h.tape,h.output,h.size,h.block⟩
theorem EW.end_nil{fn:Func}{R:Ending→World→Prop}(hr:fn.results = #[])(h:R (.returned (.tuple #[])) w):EW N .normal F w (bodyPost P fn R):=fun a ha=>
 bodyPost_end (results_none hr _ _ _) ha.defers h
theorem DS.get{w:World}{oa:Option Addr}{n c i:Nat}{bs:List UInt8}(h:DS w (.slice oa n c) bs)(hi:i<bs.length): ∃ad,oa=some ad∧w.cell? (ad.add i)=some (.int .u8 ((bs.getD i 0).toNat:Int)):=by
 obtain⟨oa',c',hv,hc,hh⟩:=h.ex
 cases hv
 obtain⟨ad,h1,_,h3⟩:=hh i _ (b_ hi)
 exact⟨ad,h1,h3⟩
theorem DS.sl{lab:bg}{w:World}{oa:Option Addr}{n c:Nat}{bs:List UInt8}(h:DS w (.slice oa n c) bs)(hl : ∀p,oa=some p→lab p.block=0):SL bV.u8 lab w oa c bs:=by
 obtain⟨oa',c',hv,hc,hh⟩:=h.ex
 cases hv
 refine⟨hc.1,hc.2,fun i b hb=>?_⟩
 obtain⟨ad,h1,h2,h3⟩:=hh i (.int .u8 (b.toNat:Int)) (by rw[bd,List.getElem?_map,hb];rfl)
 refine⟨ad,[.int .u8 (b.toNat:Int)],h1,rfl,fun j u hj=>?_⟩
 match j,hj with
 |0,hj=>
  cases hj
  refine⟨?_,?_⟩
  ·simp only[jA];exact hl ad h1
  ·rw[show((ad.add (i*bV.u8.sz)).add 0)=ad.add i by rw[Addr.add_add];congr 1;show i*1+0=i;omega];exact h3
theorem DS.ofSL{lab:bg}{w:World}{oa:Option Addr}{c:Nat}{bs:List UInt8}(h:SL bV.u8 lab w oa c bs):DS w (.slice oa bs.length c) bs:=by
 refine⟨oa,c,rfl,⟨h.1,h.2.1⟩,fun j u hu=>?_⟩
 rw[bd,List.getElem?_map]at hu
 cases hb:bs[j]? with
 |none=>rw[hb]at hu;cases hu
 |some b=>
  rw[hb]at hu
  cases hu
  obtain⟨ad,cs,h1,h2,h3⟩:=h.2.2 j b hb
  have h2:cs = [.int .u8 (b.toNat:Int)]:=h2
  subst h2
  have h4:=h3 0 _ rfl
  have e:((ad.add (j*bV.u8.sz)).add 0)=ad.add j:=by rw[Addr.add_add];congr 1;show j*1+0=j;omega
  rw[e]at h4
  exact⟨ad,h1,by have:=block_lt_of_cell h4.2;rwa [jA]at this,h4.2⟩
theorem DS.ofOwn{lab:bg}{w:World}{k E:Nat}{oa:Option Addr}{c:Nat}{bs:List UInt8}(h:ee bV.u8 lab w k E oa c bs):DS w (.slice oa bs.length c) bs:=DS.ofSL h.view
theorem DS.ofCel{w:World}{G T' n c:Nat}{cs bs:List UInt8}(h:ed w G T' (bd cs))(hn:n=bs.length)(hb:cs.take n=bs)(hc:n≤c)(hm:c≤maxLen):DS w (.slice (some ⟨G,0,none⟩) n c) bs:=by
 refine⟨some ⟨G,0,none⟩,c,by rw[hn],⟨by omega,hm⟩,fun j u hu=>⟨_,rfl,h.lt,?_⟩⟩
 rw[bL,Nat.zero_add,h.cell]
 rw[←hb,bd,List.map_take,List.getElem?_take]at hu
 split at hu
 ·exact hu
 ·cases hu
theorem Fr.of0{w w1 w2:World}{lab1 lab2:bg}{k:Nat}(s1:iI (fun _=>0) 0 w lab1 w1)(s2:iI lab1 k w1 lab2 w2)(hk:k≠0):Fr [] w w2:=
 ⟨s2.os.trans s1.os,s2.tape.trans s1.tape,s2.output.trans s1.output,Nat.le_trans s1.size s2.size,fun b hb _=>(s2.block b (Nat.lt_of_lt_of_le hb s1.size) (.inr (by rw[s1.same b hb];exact fun e=>hk e.symm))).trans (s1.block b hb (.inl rfl))⟩
theorem MP(a b:UInt8):(binOp .add T (.int .u8 (a.toNat:Int)) (.int .u8 (b.toNat:Int))).run P w = .ok (.int .u8 ((a+b).toNat:Int)) w:=by
 have:IntKind.u8.wrap ((a.toNat:Int)+b.toNat)=((a+b).toNat:Int):=by rw[IntKind.wrap_u8];simp
 simp[binOp,Op.intArith,this]
theorem aG.idxS0{E n c i G:Nat}{k:IntKind}(hT:P.underlying T=some (.slice E))(hE : ∀w,(sizeOf E).run P w = .ok 1 w)(hi:i<n)(hx:ev F x=some (.slice (some ⟨G,0,none⟩) n c))(hy:ev F y=some (.int k (i:Int))):aG P N ⟨some d,.indexAddr T x y,ty,pos,af,none⟩ F w (.pointer (some ⟨G,i,none⟩)):=by
 have:=aG.idxSC (P:=P) (N:=N) (F:=F) (w:=w) (ty:=ty) (pos:=pos) (af:=af) (d:=d) hT hE hi hx hy
 rwa [Nat.zero_add]at this
def OB(E:TypeId)(lo:Nat)(w:World)(oa:Option Addr)(c:Nat)(bs:List UInt8):Prop:=
 (oa=none∧c=0∧bs = [])∨∃g rest,oa=some ⟨g,0,none⟩∧lo≤g∧ed w g E (bd bs++rest)∧bs.length+rest.length=c∧c≤maxLen
theorem OB.fr{E lo:Nat}{w w':World}{oa:Option Addr}{c:Nat}{bs:List UInt8}(h:OB E lo w oa c bs)(f:Fr [] w w'):OB E lo w' oa c bs:=by
 rcases h with h | ⟨g,rest,h1,h2,h3,h4⟩
 ·exact .inl h
 ·exact .inr ⟨g,rest,h1,h2,h3.fr f (by simp),h4⟩
theorem OB.frX{E lo X:Nat}{w w':World}{oa:Option Addr}{c:Nat}{bs:List UInt8}(h:OB E lo w oa c bs)(f:Fr [X] w w')(hX:yc X oa):OB E lo w' oa c bs:=by
 rcases h with h | ⟨g,rest,h1,h2,h3,h4⟩
 ·exact .inl h
 ·subst h1
  have:g≠X:=hX
  exact .inr ⟨g,rest,rfl,h2,h3.fr f (by simpa using this),h4⟩
theorem OB.off{E lo X:Nat}{w:World}{oa:Option Addr}{c:Nat}{bs:List UInt8}(h:OB E lo w oa c bs)(hX:w.heap.size≤X):yc X oa:=by
 rcases h with⟨rfl,_⟩ | ⟨g,rest,rfl,_,h3,_⟩
 ·trivial
 ·show g≠X
  have:=h3.lt
  omega
theorem OB.ds{E lo:Nat}{w:World}{oa:Option Addr}{c:Nat}{bs:List UInt8}(h:OB E lo w oa c bs):DS w (.slice oa bs.length c) bs:=by
 rcases h with⟨rfl,rfl,rfl⟩ | ⟨g,rest,rfl,_,h3,h4,h5⟩
 ·exact⟨none,0,rfl,⟨Nat.le_refl _,by decide⟩,fun j u hu=>by simp[bd]at hu⟩
 ·refine⟨_,_,rfl,⟨by omega,h5⟩,fun j u hu=>⟨_,rfl,h3.lt,?_⟩⟩
  rw[bL,Nat.zero_add,h3.cell,List.getElem?_append_left (List.getElem?_eq_some_iff.1 hu).1]
  exact hu
theorem OB.ofOwn{E:Nat}{w w':World}{lab':bg}{oa:Option Addr}{c:Nat}{bs:List UInt8}(s:iI (fun _=>0) 0 w lab' w')(h:ee bV.u8 lab' w' 1 E oa c bs):OB E w.heap.size w' oa c bs:=by
 obtain⟨css,h1,h2⟩:=h
 rcases h2 with h2 | ⟨g,dS,rfl,hg,h3,h4,h5,h6,h7⟩
 ·exact .inl h2
 ·have e1:css.flatten=bd bs:=by
   have : ∀(css:List (List Value)) (bs:List UInt8),dh bV.u8 lab' w' css bs→css.flatten=bd bs:=by
    intro css bs h
    induction css generalizing bs with
    |nil=>cases bs with
     |nil=>rfl
     |cons b bs=>exact h.elim
    |cons cs css ih=>cases bs with
     |nil=>exact h.elim
     |cons b bs=>
      have hh:cs = [.int .u8 (b.toNat:Int)]:=h.1
      rw[List.flatten_cons,hh,ih bs h.2];rfl
   exact this _ _ h1
  have hsz:bV.u8.sz=1:=rfl
  rw[hsz,Nat.mul_one]at h5 h6
  refine .inr ⟨g,dS.toList.drop bs.length,rfl,?_,?_,?_,h4⟩
  ·rcases Nat.lt_or_ge g w.heap.size with hlt |hge
   ·have:=s.same g hlt
    rw[h7]at this;cases this
   ·exact hge
  ·show w'.heap[g]?=_
   rw[hg,←e1,←h6,List.take_append_drop]
  ·have hl:(dS.toList.drop bs.length).length=dS.size-bs.length:=by simp
   rw[hl];omega
theorem Eg(lab:bg)(w:World): ∀bs:List UInt8,dh bV.u8 lab w (bs.map fun b=>[Value.int .u8 (b.toNat:Int)]) bs
 | []=>trivial
 |_::bs=>⟨rfl,Eg lab w bs⟩
theorem ES : ∀bs:List UInt8,(bs.map fun b=>[Value.int .u8 (b.toNat:Int)]).flatten=bd bs
 | []=>rfl
 |_::bs=>by rw[List.map_cons,List.flatten_cons,ES bs];rfl
theorem LW.appendOB{E lo n2 c c2 nb:Nat}{w0:World}{oa o2:Option Addr}{xs ys:List UInt8}{zv:Value}(f0:Fr [] w0 w)(hlo:w0.heap.size≤lo)(hlw:lo≤w.heap.size)(ob:OB E lo w oa c xs)(ds:DS w (.slice o2 n2 c2) ys)(hoff : ∀g,oa=some ⟨g,0,none⟩→yc g o2)(hl:xs.length+ys.length≤4294967296)(hT:iZ P T E 1 nb zv)(hb:Nat.ble nb 32768=true)
  (hdN:Nat.blt d N=true) (hx:ev F x=some (.slice oa xs.length c)) (hy:ev F y=some (.slice o2 ys.length c2))
  (h : ∀w2 oa2 c3,Fr [] w0 w2→OB E lo w2 oa2 c3 (xs++ys)→LW P N ops rest ((d,.slice oa2 (xs++ys).length c3)::F) w2 K) :
  LW P N ops (⟨some d,.call { callee:=.builtin .append,args:=#[x,y],argTypes:=#[T,T] },ty,pos,af,none⟩::rest) F w K:=by
 have happ:bnd (cO xs ys) some=some (xs++ys):=by unfold cO;rw[if_pos (by simpa [xR]using hl)];rfl
 have hn2:n2=ys.length:=ds.len.1
 subst hn2
 obtain⟨lab,ho,tp,hs0,nQ⟩ : ∃lab:bg,ee bV.u8 lab w 1 E oa c xs∧dv lab w∧(∀p,o2=some p→lab p.block=0)∧∀b,lab b=1→lo≤b:=by
  rcases ob with⟨rfl,rfl,rfl⟩ | ⟨g,rst,rfl,hg,hc,h4,h5⟩
  ·exact⟨fun _=>0,ee.nil,fun _ _=>rfl,fun _ _=>rfl,fun b hb=>by cases hb⟩
  ·refine⟨fun b=>if b=g then 1 else 0,⟨_,Eg _ _ xs,.inr ⟨g,_,rfl,hc,by omega,h5,?_,?_,by simp⟩⟩,fun b hb=>?_,fun p hp=>?_,fun b hb=>?_⟩
   ·have hsz:bV.u8.sz=1:=rfl
    simp[an,hsz,h4]
   ·have hsz:bV.u8.sz=1:=rfl
    rw[hsz,Nat.mul_one,ES]
    simp[List.take_append,an]
   ·have:=hc.lt
    exact if_neg (by omega)
   ·have:=hoff g rfl
    subst hp
    exact if_neg this
   ·by_cases hbg:b=g
    ·omega
    ·simp[hbg]at hb
 refine LW.append (kk:=some) (r:=xs++ys) happ ho ((ds.sl hs0).flat') tp rfl hT hb wn hdN hx hy fun zs oa2 c3 lab2 w2 hz s own=>?_
 obtain rfl:=Option.some.inj hz
 refine h w2 oa2 c3 ⟨s.os.trans f0.os,s.tape.trans f0.tape,s.output.trans f0.output,Nat.le_trans f0.size s.size,fun b hb hn=>(s.block b (Nat.lt_of_lt_of_le hb f0.size) (.inr fun e=>?_)).trans (f0.block b hb hn)⟩ ?_
 ·have:=nQ b e;omega
 ·obtain⟨css,h1,h2⟩:=own
  rcases h2 with h2 | ⟨g,dS,rfl,hg,h3,h4,h5,h6,h7⟩
  ·exact .inl h2
  ·have hsz:bV.u8.sz=1:=rfl
   have e1:css.flatten=bd (xs++ys):=by
    have : ∀(css:List (List Value)) (bs:List UInt8),dh bV.u8 lab2 w2 css bs→css.flatten=bd bs:=by
     intro css bs h
     induction css generalizing bs with
     |nil=>cases bs with
      |nil=>rfl
      |cons b bs=>exact h.elim
     |cons cs css ih=>cases bs with
      |nil=>exact h.elim
      |cons b bs=>
       have hh:cs = [.int .u8 (b.toNat:Int)]:=h.1
       rw[List.flatten_cons,hh,ih bs h.2];rfl
    exact this _ _ h1
   rw[hsz,Nat.mul_one]at h5 h6
   refine .inr ⟨g,dS.toList.drop (xs++ys).length,rfl,?_,?_,?_,h4⟩
   ·rcases Nat.lt_or_ge g w.heap.size with hlt |hge
    ·exact nQ g (by rw[←s.same g hlt];exact h7)
    ·omega
   ·show w2.heap[g]?=_
    rw[hg,←e1,←h6,List.take_append_drop]
   ·have hl:(dS.toList.drop (xs++ys).length).length=dS.size-(xs++ys).length:=by simp
    rw[hl];omega
theorem DS.frO{X:Nat}{w w':World}{oa:Option Addr}{n c:Nat}{bs:List UInt8}(h:DS w (.slice oa n c) bs)(f:Fr [X] w w')(ho:bs = []∨yc X oa):DS w' (.slice oa n c) bs:=by
 rcases ho with rfl |ho
 ·obtain⟨oa',c',hv,hc,_⟩:=h.ex
  exact⟨oa',c',hv,hc,fun j u hu=>by simp[bd]at hu⟩
 ·exact h.frX f ho
theorem Oe{X n:Nat}{oa:Option Addr}{w:World}{c:Nat}{bs:List UInt8}(h:DS w (.slice oa n c) bs)(hX:w.heap.size≤X):bs = []∨yc X oa:=by
 cases bs with
 |nil=>exact .inl rfl
 |cons b bs=>
  obtain⟨oa',c',hv,_,hh⟩:=h.ex
  cases hv
  obtain⟨ad,rfl,h2,_⟩:=hh 0 _ rfl
  refine .inr ?_
  show ad.block≠X
  omega
def SS(P:Program)(N:Nat)(l:List Oper)(n:Nat)(F0:List (Nat×Value))(RW:Nat→World→Value→Prop)(QW:World→Prop)(i:Nat):Prop:=
 ∃o d,l[i]?=some o∧o.dst=some d∧∀F (lab:bg) w,(∀t v,bN F0 t=some v→bN F t=some v)→(∀j,j<n→Region.waitsFor .any l.toArray i j=true→∃v,bN F (it l j)=some v∧RW j w v)→QW w→
  LW P N l.toArray [o] F w fun e a' w'=>e = .normal∧∃lab' v,pU ((d,v)::F) N a'∧RW i w' v∧Ke [] lab w lab' w'∧QW w'
theorem CW.drawW{l:List Oper}{id:Nat}{F0:List (Nat×Value)}(n:Nat)(RW:Nat→World→Value→Prop)(QW:World→Prop)(hm:P.follows .mixedOrders=true)(hchk:zG l n F0=true)
  (hst : ∀j w w' v,w.heap.size≤w'.heap.size→(∀b,b<w.heap.size→w'.heap[b]?=w.heap[b]?)→RW j w v→RW j w' v) (hq0 : ∀w1,Fr [] w w1→QW w1) (hob : ∀i,i<n→SS P N l n F0 RW QW i)
  (htl : ∀F w2,(∀t v,bN F0 t=some v→bN F t=some v)→(∀i,i<n→∃v,bN F (it l i)=some v∧RW i w2 v)→QW w2→LW P N l.toArray (l.drop n) F w2 K):CW P N (.region id l.toArray true) F0 w K:=by
 refine CW.draw (lab:=fun _=>0) (ks:=fun _=>[]) hm n hchk (fun _ _=>rfl) fun w1 s=>?_
 refine⟨fun j _ _ w v=>RW j w v,fun _ _ w=>QW w,fun j i L lab w lab' w' v _ _ hk hr=>hst j w w' v hk.1 (fun b hb=>(hk.2 b hb rfl).2) hr,hq0 w1 ⟨s.os,s.tape,s.output,s.size,fun b hb _=>s.block b hb (.inl rfl)⟩,fun i hi=>?_,fun F lab2 w2 hb hr hq=>htl F w2 hb hr hq⟩
 intro o L F lab w2 ho hL hwait hcl hb hr hq
 obtain⟨o',d,h1,h2,h3⟩:=hob i hi
 rw[h1]at ho
 obtain rfl:=Option.some.inj ho
 have hdi:it l i=d:=by unfold it;rw[h1];simp[h2]
 rw[hdi]
 exact h3 F lab w2 hb (fun j hj hw=>hr j hj (hwait j hw)) hq
theorem Fr.ke{w w':World}{lab:bg}(h:Fr [] w w'):Ke [] lab w lab w':=⟨h.size,fun b hb _=>⟨rfl,h.block b hb (by simp)⟩⟩
end
end Go.Gk
