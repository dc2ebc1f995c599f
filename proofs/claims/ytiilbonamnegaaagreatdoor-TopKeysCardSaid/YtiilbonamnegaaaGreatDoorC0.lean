/- A part of the proof of TopKeys. No condition. -/
import Derived.Test.YtiilbonamnegaaaGreatDoorZv
namespace Go.Proofs.YtiilbonamnegaaaGreatDoor
open Go.Gk Go.RowKit
noncomputable section
set_option maxRecDepth 100000
def tb(cs:List (bI Tryz.prog))(hold:List Nat:=[])(ni:List (Nat×Nat×TypeId):=[])(so:List (Sp Tryz.prog):=[])(ch:List (yY Tryz.prog):=[]):kC Tryz.prog:=⟨tes,A',TU,TT,cs,hold,TZ,ni,T9,TY,TQ,so,TP,TS,ch,TV⟩
abbrev MF(ps:List PK)(rs:List RK):=eb ps (Option (n_ (rs++ia ps)))
abbrev OF(fid:Nat)(ps:List PK)(rs:List RK)(m:MF ps rs):Prop:=∀a r,rO ps m a=some r→Sm Tryz.prog fid ps rs a (fk _ r)
def P1 (fn : Func) : Bool := !(fn.name == "runtime.NumGoroutine") && !fn.body.isNone
def Tw(fn:Func)(ps:List PK)(N:Nat):Bool:=P1 fn&&(Nat.beq fn.ntmps N&&(Nat.ble ps.length N&&Es ps))
theorem S2{fid:Nat}{fn:Func}(hf:Tryz.prog.funcs[fid]?=some fn)(e:P1 fn=true):Pg Tryz.prog fid:=by
 unfold P1 at e
 obtain⟨a,b⟩:=iE e
 exact ⟨fn, hf, by revert a; cases (fn.name == "runtime.NumGoroutine") <;> simp, by revert b; cases fn.body.isNone <;> simp⟩
theorem DM{fid:Nat}{ps:List PK}{rs:List RK}{fn:Func}(hf:Tryz.prog.funcs[fid]?=some fn){m:MF ps rs}(T:kC Tryz.prog)(N:Nat)(own rng:List Nat)(h:tR)(e:Tw fn ps N=true)(em:(fun a=>Tk T N own rng (sU fn) h fn.results.toList ps rs a)=fun a=>rO ps m a):OF fid ps rs m:=fun a r hm=>by
 unfold Tw at e
 obtain⟨a0,b⟩:=iE e
 obtain⟨b1,b2⟩:=iE b
 unfold P1 at a0
 obtain⟨_,a2⟩:=iE a0
 have hb:fn.body=some (sU fn):=by
  unfold sU
  cases h:fn.body with
  |some c=>rfl
  |none=>rw[h]at a2;cases a2
 exact O_ (qs:=fn.results.toList) RF hf hb b1 (by simp) b2 a r ((congrFun em a).trans hm)
def cJ(fid:Nat)(ps:List PK)(rs:List RK){fn:Func}(hf:Tryz.prog.funcs[fid]?=some fn)(m:MF ps rs)(T:kC Tryz.prog)(N:Nat)(own rng:List Nat)(h:tR)(e:Tw fn ps N=true)(em:(fun a=>Tk T N own rng (sU fn) h fn.results.toList ps rs a)=fun a=>rO ps m a):bI Tryz.prog:=⟨fid,ps,rs,S2 hf (iE e).1,m,DM hf T N own rng h e em⟩
def tA(fid:Nat)(ps:List PK)(rs:List RK){fn:Func}(hf:Tryz.prog.funcs[fid]?=some fn)(m:MF ps rs)(e:P1 fn=true)(ok:OF fid ps rs m):bI Tryz.prog:=⟨fid,ps,rs,S2 hf e,m,ok⟩
def Rj(fn:Func)(ps:List PT)(N:Nat):Bool:=P1 fn&&(Nat.beq fn.ntmps N&&Nat.blt ps.length N)
def QO(fid:Nat)(ps rs:List PT)(B:Nat)(t0:PT)(off E:Nat)(t:PT){fn:Func}(hf:Tryz.prog.funcs[fid]?=some fn)(m:eb (ps.map PK.d) (den t0→List (den t)→Option (den t0×(List (den t)×n_ (rs.map RK.d)))))(T:kC Tryz.prog)(N:Nat)(own rng:List Nat)(h:tR)(e:Rj fn ps N=true)(em:(fun a X xs=>TK T N own rng (sU fn) h fn.results.toList ps rs B t0 off E t a X xs)=fun a X xs=>rO (ps.map PK.d) m a X xs):yY Tryz.prog:=
 ⟨fid,ps,rs,B,t0,off,E,t,S2 hf (iE e).1,m,fun a X xs X' ys r hm=>by
  unfold Rj at e
  obtain⟨a0,b⟩:=iE e
  obtain⟨b1,b3⟩:=iE b
  unfold P1 at a0
  obtain⟨_,a2⟩:=iE a0
  have hb:fn.body=some (sU fn):=by
   unfold sU
   cases h:fn.body with
   |some c=>rfl
   |none=>rw[h]at a2;cases a2
  exact PL (qs:=fn.results.toList) RF hf hb b1 (by simp) b3 a X xs X' ys r ((congrFun (congrFun (congrFun em a) X) xs).trans hm)⟩
def pM:bI Tryz.prog:=cJ 4 [.d (.sl (.int .u8))] [.d .bool] Tryz.func4 jD (tb []) 6 [] [] (.s .n (.s .n .n)) (by kernel_rfl) (by kernel_rfl)
def yS:bI Tryz.prog:=cJ 58 [.d (.int .u64)] [.d .tree] Tryz.func58 vt (tb []) 5 [] [] (.s .n (.s .n .n)) (by kernel_rfl) (by kernel_rfl)
def ko:bI Tryz.prog:=cJ 21 [.d (.int .i64)] [.d .tree] Tryz.func21 cy (tb [yS]) 12 [] [] (.s .n (.s (.s .n (.c (.s .n .n) .n)) (.s .n .n))) (by kernel_rfl) (by kernel_rfl)
def mC:bI Tryz.prog:=cJ 225 [.d (.sl (.int .u8))] [.d (.int .u64)] Tryz.func225 au (tb []) 71 [] [] (.s .n (.s (.c (.s .n .n) .n) (.s .n .n))) (by kernel_rfl) (by kernel_rfl)
def e_:bI Tryz.prog:=cJ 156 [.d (.sl (.int .u8))] [.d .bool] Tryz.func156 bw (tb [mC]) 188 [] [] (.s .n (.s .n (.j ⟨[],[]⟩ true (.b (.l .g ⟨[.d 0 (.sl (.int .u8))],[]⟩ (.s (.s .n (.c .n .n)) (.b (.s .n (.s (.s .n (.c (.s .n (.s (.j ⟨[.d 31 .bool],[0]⟩ false .n (.c (.s .n (.j ⟨[.d 46 .bool],[0]⟩ false .n (.c (.s .n (.b (.l .g ⟨[.d 0 (.sl (.int .u8))],[]⟩ (.s (.j ⟨[.d 69 .bool],[0]⟩ false .n (.c .n .n)) (.b .n))))) .n))) .n)) .n)) .n)) (.s .n (.s .n (.s .n (.s .n (.b (.s .n (.c (.s (.j ⟨[.d 103 .bool],[0]⟩ false .n (.c (.s .n .n) .n)) .n) (.s .n (.c (.s (.j ⟨[.d 138 .bool],[0]⟩ false .n (.c (.s .n .n) .n)) .n) (.s .n (.c (.s (.j ⟨[.d 185 .bool],[0]⟩ false .n (.c (.s .n .n) .n)) .n) (.s .n .n)))))))))))))))))) (.s .n .n)))) (by kernel_rfl) (by kernel_rfl)
def wX:bI Tryz.prog:=cJ 133 [.d .tree] [.d .bool,.d .bool] Tryz.func133 lX (tb [e_]) 99 [] [] (.s .n (.s (.s .n (.b (.j ⟨[.d 7 .bool],[1,6]⟩ false (.s .n (.c .n .n)) (.c (.j ⟨[.d 2 .bool,.d 3 .bool],[]⟩ false .n .n) (.s .n (.c (.j ⟨[.d 2 .bool,.d 3 .bool],[]⟩ false .n .n) (.s .n (.c (.j ⟨[.d 2 .bool,.d 3 .bool],[]⟩ false .n .n) (.s .n (.c (.j ⟨[.d 2 .bool,.d 3 .bool],[]⟩ false .n .n) (.s .n (.c (.s .n (.j ⟨[.d 2 .bool,.d 3 .bool],[]⟩ false .n .n)) .n)))))))))))) (.s .n .n))) (by kernel_rfl) (by kernel_rfl)
def za:bI Tryz.prog:=cJ 153 [.d (.int .u64)] [.d (.sl (.int .u8))] Tryz.func153 nC (tb []) 17 [15] [] (.s .n (.s .n (.s (.s .n (.b (.l .g ⟨[.o 3 5 (.int .u8),.d 4 (.int .i64)],[0]⟩ (.s (.s .n (.c .n .n)) (.s (.b .n) .n))))) (.s .n .n)))) (by kernel_rfl) (by kernel_rfl)
def y6:bI Tryz.prog:=cJ 155 [.d (.int .u32)] [.d (.int .u16),.d .bool] Tryz.func155 lm (tb []) 73 [] [] (.s .n (.s .n (.s .n (.s (.b (.s .n (.c (.s .n .n) (.s .n (.c (.s .n .n) (.j ⟨[.d 29 .bool],[4,5,6]⟩ false .n (.c (.s .n .n) (.j ⟨[.d 49 .bool],[4,5,6]⟩ false .n (.c (.s .n (.s .n (.s .n .n))) .n))))))))) (.s .n .n))))) (by kernel_rfl) (by kernel_rfl)
theorem AP:m8 Tryz.prog 5 (.int .u8 0):=fun w=>by kernel_rfl
section
variable {P : Program} {N : Nat} {ops : Array Oper} {F : List (Nat × Value)} {w : World} {rest : List Oper} {K : fN}
variable {ty : TypeId} {pos : String} {af : Array Edge} {g : Option (Nat × Bool)} {d : Nat} {x y : Operand} {t t' : TypeId}
theorem LW.shrC{ik yk:IntKind}{a n c:Int}(h0 : ¬n<0)(hc:a/2^min n.toNat ik.bits=c)(hw:Wn ops F g)(hdN:Nat.blt d N=true)(hx:ev F x=some (.int ik a))(hy:ev F y=some (.int yk n))
  (h:LW P N ops rest ((d,.int ik c)::F) w K):LW P N ops (⟨some d,.binOp .shr t x y t',ty,pos,af,g⟩::rest) F w K:=
 LW.val rfl hw rfl hdN (fun _ ha=>dy _ _ _ (ha.eval hx) (ha.eval hy) rfl (by rw[binOp_shr,shift_shr_any _ _ _ _ (by omega),hc];rfl)) h
theorem LW.one{f:FuncId}{u v:Value}{ts:Array TypeId}(hr : ∀w,(callFunc f #[u]).run P w = .ok (.value v) w)(hw:Wn ops F g)(hdN:Nat.blt d N=true)(hx:ev F x=some u)
  (h:LW P N ops rest ((d,v)::F) w K):LW P N ops (⟨some d,.call { callee:=.value (.func f),args:=#[x],argTypes:=ts },ty,pos,af,g⟩::rest) F w K:=
 LW.val rfl hw rfl hdN (fun q hq=>by
  have e:(#[x].map q.eval) = #[u]:=by simp[hq.eval hx]
  simp only[execOp,resolve,e,Act.eval,Deferred.ofValue,invoke,Sem.run_bind,Sem.run_pure,Result.andThen_ok]
  have e2:(#[] ++ #[u] ++ #[]:Array Value) = #[u]:=by simp
  rw[e2,hr]) h
theorem LW.neqF{a b:Int}{ik:IntKind}{tv:Bool}(he:(a != b)=tv)(hw:Wn ops F g)(hdN:Nat.blt d N=true)(hx:ev F x=some (.int ik a))(hy:ev F y=some (.int ik b))
  (h:LW P N ops rest ((d,.bool tv)::F) w K):LW P N ops (⟨some d,.binOp .neq t x y t',ty,pos,af,g⟩::rest) F w K:=
 LW.neq (kb:=some) (r:=tv) (by rw[he];rfl) hw hdN hx hy (fun c hc=>by cases hc;exact h)
theorem LW.cv{u v:Value}{S T:TypeId}{w':World}(hr:(convert S T u).run P w = .ok v w')(hw:Wn ops F g)(hdN:Nat.blt d N=true)(hx:ev F x=some u)
  (h:LW P N ops rest ((d,v)::F) w' K):LW P N ops (⟨some d,.convert S T x,ty,pos,af,g⟩::rest) F w K:=
 LW.val rfl hw rfl hdN (fun q hq=>by simp only[execOp,hq.eval hx,Sem.run_bind,hr,Result.andThen_ok,Sem.run_pure]) h
end
theorem ut{lab:bN}{w w':World}(t:c_ lab w)(h:w'=w∨w'=w.drew):j4 lab 0 w lab w':=by
 rcases h with rfl |rfl
 ·exact⟨rfl,rfl,rfl,Nat.le_refl _,fun _ _ _=>rfl,fun _ _=>rfl,t⟩
 ·exact⟨rfl,rfl,rfl,Nat.le_refl _,fun _ _ _=>rfl,fun _ _=>rfl,t⟩
theorem AU{lab:bN}{w:World}(n:UInt64)(r:List UInt8)(hm:ef n=some r)(t:c_ lab w)(gl:GL lab w):
  Calls Tryz.prog 112 [.int .u64 (n.toNat:Int)].toArray w fun e w'=>∃oa c,e = .returned (.slice oa r.length c)∧j4 lab 0 w lab w'∧SL (rep (.int .u8)) lab w' oa c r:=by
 have hT:iK Tryz.prog 23 5 1 1 (.int .u8 0):=Pj.ok
 have hZ:m8 Tryz.prog 5 (.int .u8 0):=AP
 have h75 : ∀(z:Int) w,(callFunc 151 #[.int .u64 z]).run Tryz.prog w = .ok (.value (.float .f64 z.toNat)) w:=fun z w=>by kernel_rfl
 have h102 : ∀(z:Nat) w,(callFunc 152 #[.float .f64 z]).run Tryz.prog w = .ok (.value (.int .u64 (z:Int))) w:=fun z w=>by kernel_rfl
 have h104 : ∀(z:Nat) w,(callFunc 154 #[.float .f32 z]).run Tryz.prog w = .ok (.value (.int .u32 (z:Int))) w:=fun z w=>by kernel_rfl
 have cx:=Cx.start t
 have gl0:=gl.keep bQ.lin
 have hn64:n.toNat<18446744073709551616:=n.toNat_lt
 refine enter Tryz.func112 rfl 51 rfl rfl ?_
 repeat refine CW.seq ?_
 refine CW.region ?_
 refine LW.assign wn rfl rfl ?_
 refine LW.nil ?_
 refine EW.seq_n ?_
 repeat refine CW.seq ?_
 refine CW.region ?_
 refine LW.move wn rfl rfl ?_
 refine LW.one (v:=.float .f64 n.toNat) (h75 _) wn rfl rfl ?_
 refine LW.assign wn rfl rfl ?_
 refine LW.nil ?_
 refine EW.seq_n ?_
 repeat refine CW.seq ?_
 refine CW.region ?_
 refine LW.move wn rfl rfl ?_
 refine LW.move wn rfl rfl ?_
 refine LW.val (v:=.bool (!(feq n n))) (w':=w) rfl wn rfl rfl (fun a ha=>?_) ?_
 ·exact dy _ _ _ (ha.eval (x:=.tmp 10) (v:=.float .f64 n.toNat) rfl) (ha.eval (x:=.tmp 11) (v:=.float .f64 n.toNat) rfl) rfl (Dp n n)
 refine LW.nil ?_
 refine EW.seq_n ?_
 repeat refine CW.seq ?_
 unfold ef at hm
 cases hq:feq n n with
 |false=>
  rw[hq]at hm
  cases hm
  refine CW.cond_t rfl ?_
  repeat refine CW.seq ?_
  refine CW.region ?_
  refine LW.buildOwn (k:=2) (ρ:=rep (.int .u8)) (vs:=[(0,.int .u8 249),(1,.int .u8 126),(2,.int .u8 0)]) (css:=[[.int .u8 249],[.int .u8 126],[.int .u8 0]]) (xs:=([249,126,0]:List UInt8)) rfl hT hZ (by kernel_rfl) rfl rfl (n9 _ _ [249,126,0]) cx.top wn rfl ?_
  intro oa1 c1 lab1 w1 e1 o1
  replace cx:=cx.step e1 rfl
  refine LW.assign wn rfl rfl ?_
  refine LW.nil ?_
  refine EW.seq_n ?_
  refine CW.ret ?_
  repeat refine EW.seq_r ?_
  exact EW.ret1 rfl rfl ⟨_,_,rfl,cx.ste t,o1.sl (cx.keeps t) (cx.own0 t rfl)⟩
 |true=>
  rw[hq]at hm
  refine CW.cond_f rfl ?_
  refine CW.skip ?_
  refine EW.seq_n ?_
  have hr:n.toNat%9223372036854775808≤9218868437227405312:=by
   have h:=ue n
   unfold feq at hq
   rw[hq]at h
   exact of_decide_eq_true h.symm
  obtain⟨s,w1,d,w2,r1,r2,hs,hd,d1,d2,hc⟩:=Lw (P:=Tryz.prog) (w:=w) 230 232 232 230 n.toNat hn64 hr (by kernel_rfl) (by kernel_rfl) (by kernel_rfl) (by kernel_rfl)
  repeat refine CW.seq ?_
  refine CW.region ?_
  refine LW.move wn rfl rfl ?_
  refine LW.cv r1 wn rfl rfl ?_
  replace cx:=cx.step (ut cx.top d1) rfl
  refine LW.assign wn rfl rfl ?_
  refine LW.nil ?_
  refine EW.seq_n ?_
  repeat refine CW.seq ?_
  refine CW.region ?_
  refine LW.move wn rfl rfl ?_
  refine LW.cv r2 wn rfl rfl ?_
  have gl1:=gl0.keep (ut (Cx.start t).top d1).keeps
  have gl2:=gl1.keep (ut cx.top d2).keeps
  replace cx:=cx.step (ut cx.top d2) rfl
  refine LW.one (v:=.int .u64 (d:Int)) (h102 _) wn rfl rfl ?_
  refine LW.move wn rfl rfl ?_
  clear r1 r2 gl1 gl0 gl
  rcases hc with⟨rfl,hc⟩ | ⟨hne,hc⟩
  ·rw[hc]at hm
   refine LW.neqF (tv:=false) (by simp) wn rfl rfl rfl ?_
   refine LW.nil ?_
   refine EW.seq_n ?_
   repeat refine CW.seq ?_
   refine CW.cond_f rfl ?_
   refine CW.skip ?_
   refine EW.seq_n ?_
   repeat refine CW.seq ?_
   refine CW.region ?_
   refine LW.move wn rfl rfl ?_
   refine LW.one (v:=.int .u32 (s:Int)) (h104 _) wn rfl rfl ?_
   refine LW.assign wn rfl rfl ?_
   refine LW.nil ?_
   refine EW.seq_n ?_
   repeat refine CW.seq ?_
   refine CW.region ?_
   refine LW.move wn rfl rfl ?_
   obtain⟨x,hx,hm⟩:=dC (show bnd (lm (UInt32.ofNat s)) (fun x=>some (bif x.2 then [249,av (x.1/256),av x.1]else [250,av ((s:Int)/16777216),av ((s:Int)/65536),av ((s:Int)/256),av (s:Int)]))=some r from hm)
   have es:(UInt32.ofNat s).toNat=s:=by
    rw[UInt32.toNat_ofNat_of_lt' hs]
   have hcall:=y6.ok (UInt32.ofNat s,()) x hx 3 3 0 _ _ [.int .u32 (s:Int)] cx.top gl2 (fun h=>by cases h) (by decide) ⟨by
    have h9:br (.int .u32) (UInt32.ofNat s) (lin lab) w2 (.int .u32 ((UInt32.ofNat s).toNat:Int)):=br.ofInt (k:=.u32) _
    rw[es]at h9
    exact h9,trivial⟩
   refine LW.call ⟨Tryz.f155,Tryz.func155,by kernel_rfl,by kernel_rfl⟩ (vs:=[.int .u32 (s:Int)]) hcall wn rfl rfl ?_
   rintro e w3 ⟨lab3,us,rfl,hst,hres⟩
   match us,hres with
   | [u1,u2],⟨q1,q2,_⟩=>
   obtain rfl:=br.int (k:=.u16) q1
   obtain rfl:=br.bool q2
   replace cx:=cx.stp hst rfl
   refine⟨_,rfl,?_⟩
   refine LW.move wn rfl rfl ?_
   refine LW.extract (vs:=[.int .u16 x.1,.bool x.2]) (i:=0) wn rfl rfl rfl ?_
   refine LW.extract (vs:=[.int .u16 x.1,.bool x.2]) (i:=1) wn rfl rfl rfl ?_
   refine LW.assign wn rfl rfl ?_
   refine LW.assign wn rfl rfl ?_
   refine LW.nil ?_
   refine EW.seq_n ?_
   repeat refine CW.seq ?_
   refine CW.region ?_
   refine LW.move wn rfl rfl ?_
   refine LW.nil ?_
   refine EW.seq_n ?_
   repeat refine CW.seq ?_
   obtain⟨x1,x2⟩:=x
   clear hx hcall q1 q2 hres hst
   cases x2 with
   |true=>
    cases hm
    refine CW.cond_t rfl ?_
    repeat refine CW.seq ?_
    refine CW.region ?_
    refine LW.move wn rfl rfl ?_
    refine LW.shrC (c:=x1/256) (by decide) rfl wn rfl rfl rfl ?_
    refine LW.cvt_u8 (k:=some) rfl (by kernel_rfl) (by show Tryz.prog.underlying _=_;kernel_rfl) wn rfl rfl ?_
    intro c1 hc1
    cases hc1
    refine LW.move wn rfl rfl ?_
    refine LW.cvt_u8 (k:=some) rfl (by kernel_rfl) (by show Tryz.prog.underlying _=_;kernel_rfl) wn rfl rfl ?_
    intro c2 hc2
    cases hc2
    refine LW.buildOwn (k:=2) (ρ:=rep (.int .u8)) (vs:=[(0,.int .u8 249),(1,.int .u8 ((av (x1/256)).toNat:Int)),(2,.int .u8 ((av x1).toNat:Int))]) (css:=[[.int .u8 249],[.int .u8 ((av (x1/256)).toNat:Int)],[.int .u8 ((av x1).toNat:Int)]]) (xs:=([249,av (x1/256),av x1]:List UInt8)) rfl hT hZ (by kernel_rfl) rfl rfl (n9 _ _ [249,av (x1/256),av x1]) cx.top wn rfl ?_
    intro oa1 c1 lab1 w4 e1 o1
    replace cx:=cx.step e1 rfl
    refine LW.assign wn rfl rfl ?_
    refine LW.nil ?_
    refine EW.seq_n ?_
    refine CW.ret ?_
    repeat refine EW.seq_r ?_
    exact EW.ret1 rfl rfl ⟨_,_,rfl,cx.ste t,o1.sl (cx.keeps t) (cx.own0 t rfl)⟩
   |false=>
    cases hm
    refine CW.cond_f rfl ?_
    refine CW.skip ?_
    refine EW.seq_n ?_
    repeat refine CW.seq ?_
    refine CW.region ?_
    refine LW.move wn rfl rfl ?_
    refine LW.shrC (c:=(s:Int)/16777216) (by decide) rfl wn rfl rfl rfl ?_
    refine LW.cvt_u8 (k:=some) rfl (by kernel_rfl) (by show Tryz.prog.underlying _=_;kernel_rfl) wn rfl rfl ?_
    intro c1 hc1
    cases hc1
    refine LW.move wn rfl rfl ?_
    refine LW.shrC (c:=(s:Int)/65536) (by decide) rfl wn rfl rfl rfl ?_
    refine LW.cvt_u8 (k:=some) rfl (by kernel_rfl) (by show Tryz.prog.underlying _=_;kernel_rfl) wn rfl rfl ?_
    intro c1 hc1
    cases hc1
    refine LW.move wn rfl rfl ?_
    refine LW.shrC (c:=(s:Int)/256) (by decide) rfl wn rfl rfl rfl ?_
    refine LW.cvt_u8 (k:=some) rfl (by kernel_rfl) (by show Tryz.prog.underlying _=_;kernel_rfl) wn rfl rfl ?_
    intro c1 hc1
    cases hc1
    refine LW.move wn rfl rfl ?_
    refine LW.cvt_u8 (k:=some) rfl (by kernel_rfl) (by show Tryz.prog.underlying _=_;kernel_rfl) wn rfl rfl ?_
    intro c2 hc2
    cases hc2
    refine LW.buildOwn (k:=2) (ρ:=rep (.int .u8)) (vs:=[(0,.int .u8 250),(1,.int .u8 ((av ((s:Int)/16777216)).toNat:Int)),(2,.int .u8 ((av ((s:Int)/65536)).toNat:Int)),(3,.int .u8 ((av ((s:Int)/256)).toNat:Int)),(4,.int .u8 ((av (s:Int)).toNat:Int))]) (css:=[[.int .u8 250],[.int .u8 ((av ((s:Int)/16777216)).toNat:Int)],[.int .u8 ((av ((s:Int)/65536)).toNat:Int)],[.int .u8 ((av ((s:Int)/256)).toNat:Int)],[.int .u8 ((av (s:Int)).toNat:Int)]]) (xs:=([250,av ((s:Int)/16777216),av ((s:Int)/65536),av ((s:Int)/256),av (s:Int)]:List UInt8)) rfl hT hZ (by kernel_rfl) rfl rfl (n9 _ _ [250,av ((s:Int)/16777216),av ((s:Int)/65536),av ((s:Int)/256),av (s:Int)]) cx.top wn rfl ?_
    intro oa1 c1 lab1 w4 e1 o1
    replace cx:=cx.step e1 rfl
    refine LW.assign wn rfl rfl ?_
    refine LW.nil ?_
    refine EW.seq_n ?_
    refine CW.ret ?_
    repeat refine EW.seq_r ?_
    exact EW.ret1 rfl rfl ⟨_,_,rfl,cx.ste t,o1.sl (cx.keeps t) (cx.own0 t rfl)⟩
  ·rw[hc]at hm
   refine LW.neqF (tv:=true) (by simp;omega) wn rfl rfl rfl ?_
   refine LW.nil ?_
   refine EW.seq_n ?_
   repeat refine CW.seq ?_
   refine CW.cond_t rfl ?_
   repeat refine CW.seq ?_
   obtain⟨x,hx,hm⟩:=dC (show bnd (nC n) (fun x=>app [251] x)=some r from hm)
   refine CW.region ?_
   refine LW.buildOwn (k:=2) (ρ:=rep (.int .u8)) (vs:=[(0,.int .u8 251)]) (css:=[[.int .u8 251]]) (xs:=([251]:List UInt8)) rfl hT hZ (by kernel_rfl) rfl rfl (n9 _ _ [251]) cx.top wn rfl ?_
   intro oa1 c1 lab1 w3 e1 o1
   replace cx:=cx.step e1 rfl
   have gl3:=gl2.keep e1.keeps
   refine LW.move wn rfl rfl ?_
   have hcall:=za.ok (n,()) x hx 3 3 0 _ _ [.int .u64 (n.toNat:Int)] cx.top gl3 (fun h=>by cases h) (by decide) ⟨br.ofInt (k:=.u64) n,trivial⟩
   refine LW.call ⟨Tryz.f153,Tryz.func153,by kernel_rfl,by kernel_rfl⟩ (vs:=[.int .u64 (n.toNat:Int)]) hcall wn rfl rfl ?_
   rintro e w4 ⟨lab4,us,rfl,hst,hres⟩
   match us,hres with
   | [u1],⟨q1,_⟩=>
   obtain⟨oa',c',rfl,s'⟩:=br.sl q1
   replace cx:=cx.stp hst rfl
   have o2:=o1.ke hst.ke sj (yb rfl)
   refine⟨_,rfl,?_⟩
   have hm2:bnd (app ([251]:List UInt8) x) some=some r:=by rw[hm];rfl
   refine LW.append (ρ:=rep (.int .u8)) (kk:=some) (xs:=([251]:List UInt8)) (ys:=x) (c':=c') hm2 o2 (SL.flat' s') cx.top rfl hT rfl wn rfl rfl rfl ?_
   intro zs oa2 c2 lab5 w5 hz e2 o3
   cases hz
   replace cx:=cx.step e2 rfl
   refine LW.assign wn rfl rfl ?_
   refine LW.nil ?_
   refine EW.seq_n ?_
   refine CW.ret ?_
   repeat refine EW.seq_r ?_
   exact EW.ret1 rfl rfl ⟨_,_,rfl,cx.ste t,o3.sl (cx.keeps t) (cx.own0 t rfl)⟩
def kq:bI Tryz.prog:=⟨112,[.d (.int .u64)],[.d (.sl (.int .u8))],⟨Tryz.f112,Tryz.func112,by kernel_rfl,by kernel_rfl⟩,ef,by
 intro a r h k kp gp lab w vs t gl _ hk hargs
 match vs,hargs with
 | [v],hargs=>
  obtain⟨h1,_⟩:=hargs
  obtain rfl:=br.int (k:=.u64) h1
  refine(AU a.1 r h t gl).mono ?_
  rintro e w' ⟨oa,c,rfl,hs,s⟩
  exact⟨lab,[_],rfl,hs.stp (.inr rfl),br.ofSl (t:=.int .u8) s,trivial⟩⟩
def mN:bI Tryz.prog:=cJ 114 [.d .tree] [.d (.int .u8),.d (.int .u64)] Tryz.func114 jp (tb []) 34 [] [] (.s .n (.s (.s .n (.b (.j ⟨[.d 6 .bool],[1,5]⟩ false (.s .n (.c .n .n)) (.c (.s .n .n) (.s .n (.c (.s .n .n) (.s .n (.c (.s .n .n) .n)))))))) (.s .n .n))) (by kernel_rfl) (by kernel_rfl)
def lg:bI Tryz.prog:=cJ 113 [.d (.int .u8),.d (.int .u64)] [.d (.sl (.int .u8))] Tryz.func113 cj (tb []) 69 [56,67] [] (.s .n (.s .n (.s (.b (.s .n (.c (.s .n .n) (.s .n (.c (.s .n .n) (.s .n (.c (.s .n .n) (.s .n (.c (.s .n .n) .n))))))))) (.s .n (.s (.s .n (.b (.l .g ⟨[.o 6 5 (.int .u8),.d 7 (.int .i64)],[1]⟩ (.s (.s .n (.c .n .n)) (.s (.b .n) .n))))) (.s .n .n)))))) (by kernel_rfl) (by kernel_rfl)
def o8:bI Tryz.prog:=cJ 134 [.p 148 cH,.d .tree] [.d .bool] Tryz.func134 dN (tb [kq,mN,lg]) 61 [] [] (.s .n (.j ⟨[.b 0 148 cH],[0]⟩ false (.s .n (.b (.s .n (.c .n (.s .n (.c (.s .n (.s .n (.c .n .n))) .n)))))) (.s .n .n))) (by kernel_rfl) (by kernel_rfl)
def yU(mf:MF [.r 5 (.int .u8),.d .tree] [.o 5 (.int .u8)])(okf:OF 61 [.r 5 (.int .u8),.d .tree] [.o 5 (.int .u8)] mf):bI Tryz.prog:=tA 61 [.r 5 (.int .u8),.d .tree] [.o 5 (.int .u8)] Tryz.func61 mf (by kernel_rfl) okf
theorem yV(mf:MF [.r 5 (.int .u8),.d .tree] [.o 5 (.int .u8)])(okf:OF 61 [.r 5 (.int .u8),.d .tree] [.o 5 (.int .u8)] mf):OF 61 [.r 5 (.int .u8),.d .tree] [.o 5 (.int .u8)] (l_ mf):=DM Tryz.func61 (tb [kq,mN,lg,yU mf okf]) 54 [15,30,37,41] [44] (.s .n (.s (.b (.s .n (.c (.s .n .n) (.j ⟨[.d 16 .bool],[0,3]⟩ false .n (.c (.s .n .n) .n))))) (.s .n (.s .n (.s (.s .n (.b (.l (.a 45 44) ⟨[.o 0 5 (.int .u8)],[43,44]⟩ (.s .n (.s (.c .n .n) (.s (.b (.s .n .n)) .n)))))) (.s .n .n)))))) (by kernel_rfl) (by kernel_rfl)
theorem r7 : ∀(n:Nat),OF 61 [.r 5 (.int .u8),.d .tree] [.o 5 (.int .u8)] (mm n)
 |0=>fun a r h=>by cases(show(none:Option _)=some r from h)
 |n+1=>yV (mm n) (r7 n)
def xj:bI Tryz.prog:=tA 61 [.r 5 (.int .u8),.d .tree] [.o 5 (.int .u8)] Tryz.func61 mc (by kernel_rfl) (r7 40)
def jr:bI Tryz.prog:=cJ 61 [.r 5 (.int .u8),.d .tree] [.d (.sl (.int .u8))] Tryz.func61 db (tb [kq,mN,lg,xj]) 54 [37,41] [44] (.s .n (.s (.b (.s .n (.c (.s .n .n) (.j ⟨[.d 16 .bool],[0,3]⟩ false .n (.c (.s .n .n) .n))))) (.s .n (.s .n (.s (.s .n (.b (.l (.a 45 44) ⟨[.o 0 5 (.int .u8)],[43,44]⟩ (.s .n (.s (.c .n .n) (.s (.b (.s .n .n)) .n)))))) (.s .n .n)))))) (by kernel_rfl) (by kernel_rfl)
theorem qR{P:Program}{lab:bN}{w:World}{oa:Option Addr}{c:Nat}{xs:List UInt8}(s:SL cL.u8 lab w oa c xs):
  (Extern.Bytes.bytesOf (.slice oa xs.length c)).run P w = .ok ⟨xs.toArray⟩ w:=by
 obtain⟨h0,css,h1,h2⟩:=SL.flat' s
 have hcss:css.flatten=xs.map fun x=>Value.int .u8 (x.toNat:Int):=by
  clear h2 s h0
  induction css generalizing xs with
  |nil=>cases xs with
   |nil=>rfl
   |cons _ _=>exact h1.elim
  |cons cs css ih=>cases xs with
   |nil=>exact h1.elim
   |cons x xs=>
    have e:cs = [Value.int .u8 (x.toNat:Int)]:=h1.1
    rw[List.flatten_cons,ih h1.2,e]
    rfl
 cases oa with
 |none=>
  obtain rfl:=h0 rfl
  rfl
 |some ad=>
  have h3 : ∀(j:Nat) (x:Int),(xs.map fun b:UInt8=>(b.toNat:Int))[j]?=some x→w.cell? (ad.add j)=some (.int .u8 x):=by
   intro j x hx
   refine h2 ad rfl j _ ?_
   rw[hcss]
   simp only[List.getElem?_map,Option.map_eq_some_iff]at hx⊢
   obtain⟨b,hb,rfl⟩:=hx
   exact⟨b,hb,rfl⟩
  have h4:=Lib.run_loadBytesX (P:=P) w _ ad .empty h3
  rw[List.length_map]at h4
  show(Extern.Bytes.loadBytes ad xs.length .empty).run P w=_
  rw[h4]
  congr 1
  apply ByteArray.ext
  have e:Lib.bytesOf (xs.map fun b:UInt8=>(b.toNat:Int))=xs:=by
   unfold Lib.bytesOf
   rw[List.map_map]
   refine(List.map_congr_left (g:=id) fun b _=>?_).trans (List.map_id _)
   simp
  rw[e]
  simp[ByteArray.empty,ByteArray.emptyWithCapacity]
  try rfl
theorem BW{P:Program}{lab:bN}{w:World}{oa ob:Option Addr}{c d:Nat}{xs ys:List UInt8}(s:SL cL.u8 lab w oa c xs)(s':SL cL.u8 lab w ob d ys):
  (Extern.BytealgCompare.compare #[.slice oa xs.length c,.slice ob ys.length d]).run P w = .ok (.int .i64 (Lib.compareBytes xs ys)) w:=by
 change Sem.run P (do pure (goInt (Extern.BytealgCompare.cmp (←Extern.Bytes.bytesOf (.slice oa xs.length c)) (←Extern.Bytes.bytesOf (.slice ob ys.length d))))) w=_
 simp only[Sem.run_bind,qR s,qR s',Sem.run_pure,Result.andThen]
 rw[Lib.cmp_eq]
 rfl
theorem pz{lab:bN}{w:World}{oa ob:Option Addr}{c d:Nat}{xs ys:List UInt8}(s:SL cL.u8 lab w oa c xs)(s':SL cL.u8 lab w ob d ys):
  Calls Tryz.prog 91 [.slice oa xs.length c,.slice ob ys.length d].toArray w fun e w'=>e = .returned (.int .i64 (Lib.compareBytes xs ys))∧w'=w:=by
 refine enter Tryz.func91 rfl 8 rfl rfl ?_
 repeat refine CW.seq ?_
 refine CW.region ?_
 refine LW.assign wn rfl rfl ?_
 refine LW.nil ?_
 refine EW.seq_n ?_
 repeat refine CW.seq ?_
 refine CW.region ?_
 refine LW.move wn rfl rfl ?_
 refine LW.move wn rfl rfl ?_
 refine LW.val (v:=.int .i64 (Lib.compareBytes xs ys)) (w':=w) rfl wn rfl rfl (fun a ha=>?_) ?_
 ·have e1:=ha.eval (x:=.tmp 5) (v:=.slice oa xs.length c) rfl
  have e2:=ha.eval (x:=.tmp 6) (v:=.slice ob ys.length d) rfl
  have e:(#[Operand.tmp 5,Operand.tmp 6].map a.eval) = #[.slice oa xs.length c,.slice ob ys.length d]:=by simp[e1,e2]
  simp only[execOp,resolve,e,Act.eval,Deferred.ofValue,invoke,Sem.run_bind,Sem.run_pure,Result.andThen_ok]
  have e2:(#[] ++ #[.slice oa xs.length c,.slice ob ys.length d] ++ #[]:Array Value) = #[.slice oa xs.length c,.slice ob ys.length d]:=by simp
  rw[e2,run_callFunc_extern (fn:=Tryz.f132) (e:=Extern.BytealgCompare.compare) (by kernel_rfl) (by kernel_rfl) (by kernel_rfl) (by kernel_rfl) (by kernel_rfl),BW s s']
  rfl
 refine LW.assign wn rfl rfl ?_
 refine LW.nil ?_
 refine EW.seq_n ?_
 refine CW.ret ?_
 repeat refine EW.seq_r ?_
 exact EW.ret1 rfl rfl ⟨rfl,rfl⟩
def iQ:bI Tryz.prog:=⟨91,[.d (.sl (.int .u8)),.d (.sl (.int .u8))],[.d (.int .i64)],⟨Tryz.f91,Tryz.func91,by kernel_rfl,by kernel_rfl⟩,dl,by
 intro a r h k kp gp lab w vs t _ _ hk hargs
 match vs,hargs with
 | [v1,v2],hargs=>
  obtain⟨h1,h2,_⟩:=hargs
  obtain⟨oa,c,rfl,s⟩:=br.sl h1
  obtain⟨ob,d,rfl,s'⟩:=br.sl h2
  have h:some (Lib.compareBytes a.1 a.2.1)=some r:=h
  cases h
  refine(pz s s').mono ?_
  rintro e w' ⟨rfl,rfl⟩
  exact⟨lab,[_],rfl,iV.refl t,br.ofInt (k:=.i64) _,trivial⟩⟩
def sR:bI Tryz.prog:=cJ 135 [.d (.sl .tree)] [.d .bool] Tryz.func135 gJ (tb [jr,iQ]) 23 [] [] (.s .n (.s (.s .n (.b (.l .g ⟨[.d 3 (.int .i64)],[0]⟩ (.s (.s .n (.c .n .n)) (.s (.b (.s .n (.c (.s .n .n) .n))) .n))))) (.s .n .n))) (by kernel_rfl) (by kernel_rfl)
end
end Go.Proofs.YtiilbonamnegaaaGreatDoor
