import Derived.Test.YthejfljhiaeoeaaGreatDoorC2
namespace Go.Proofs.YthejfljhiaeoeaaGreatDoor
open Go.Gk Go.RowKit
noncomputable section
set_option maxRecDepth 100000
def kU:bW Tryz.prog:=cZ 7 [.p 64 ao,.d (.int .i64)] [.d aI] Tryz.func7 dF (tb [oJ,bv,d7,pi,dG,jJ,mw,o_]) 83 [] [] (.s .n (.s .n (.j ⟨[.b 0 64 ao,.b 5 38 aI],[0,4,5]⟩ false (.s .n (.c .n .n)) (.s (.s .n (.b (.l .g ⟨[.d 6 (.int .i64),.b 0 64 ao,.b 5 38 aI],[0,4,5]⟩ (.s (.s .n (.c .n .n)) (.j ⟨[.b 0 64 ao,.b 5 38 aI],[0,4,5,6]⟩ false (.b (.s .n (.s .n (.j ⟨[.b 0 64 ao,.b 8 36 .tree],[0,4,5,6,7,8]⟩ false (.s .n (.c .n .n)) (.s .n (.s .n (.c .n .n))))))) .n))))) (.j ⟨[.b 0 64 ao,.b 5 38 aI],[0,4,5]⟩ false (.s .n (.j ⟨[.d 69 .bool,.b 0 64 ao],[0,4,5,11]⟩ false .n (.c (.s .n (.s .n (.s .n (.c .n .n)))) .n))) (.s .n .n)))))) (by kernel_rfl) (by kernel_rfl)
def pQ:bW Tryz.prog:=cZ 9 [.d (.int .i64),.d (.int .i64)] [.d (.sl (.int .u8))] Tryz.func9 cl (tb []) 28 [25] [] (.s .n (.s .n (.s (.s .n (.b (.l (.n 8 7) ⟨[.o 5 5 (.int .u8)],[0,7]⟩ (.s .n (.s (.c .n .n) (.s (.b (.s .n .n)) .n)))))) (.s .n .n)))) (by kernel_rfl) (by kernel_rfl)
def xo:bW Tryz.prog:=cZ 136 [.d .tree] [.d .bool,.d .bool] Tryz.func136 lD (tb [gM]) 99 [] [] (.s .n (.s (.s .n (.b (.j ⟨[.d 7 .bool],[1,6]⟩ false (.s .n (.c .n .n)) (.c (.j ⟨[.d 2 .bool,.d 3 .bool],[]⟩ false .n .n) (.s .n (.c (.j ⟨[.d 2 .bool,.d 3 .bool],[]⟩ false .n .n) (.s .n (.c (.j ⟨[.d 2 .bool,.d 3 .bool],[]⟩ false .n .n) (.s .n (.c (.j ⟨[.d 2 .bool,.d 3 .bool],[]⟩ false .n .n) (.s .n (.c (.s .n (.j ⟨[.d 2 .bool,.d 3 .bool],[]⟩ false .n .n)) .n)))))))))))) (.s .n .n))) (by kernel_rfl) (by kernel_rfl)
def xV:bW Tryz.prog:=cZ 151 [.d (.int .u64)] [.d (.sl (.int .u8))] Tryz.func151 mE (tb []) 17 [15] [] (.s .n (.s .n (.s (.s .n (.b (.l .g ⟨[.o 3 5 (.int .u8),.d 4 (.int .i64)],[0]⟩ (.s (.s .n (.c .n .n)) (.s (.b .n) .n))))) (.s .n .n)))) (by kernel_rfl) (by kernel_rfl)
def ya:bW Tryz.prog:=cZ 153 [.d (.int .u32)] [.d (.int .u16),.d .bool] Tryz.func153 kH (tb []) 73 [] [] (.s .n (.s .n (.s .n (.s (.b (.s .n (.c (.s .n .n) (.s .n (.c (.s .n .n) (.j ⟨[.d 29 .bool],[4,5,6]⟩ false .n (.c (.s .n .n) (.j ⟨[.d 49 .bool],[4,5,6]⟩ false .n (.c (.s .n (.s .n (.s .n .n))) .n))))))))) (.s .n .n))))) (by kernel_rfl) (by kernel_rfl)
theorem vu:gO Tryz.prog 5 (.int .u8 0):=fun w=>by kernel_rfl
section
variable {P : Program} {N : Nat} {ops : Array Oper} {F : List (Nat × Value)} {w : World} {rest : List Oper} {K : gC}
variable {ty : TypeId} {pos : String} {af : Array Edge} {g : Option (Nat × Bool)} {d : Nat} {x y : Operand} {t t' : TypeId}
theorem LW.shrC{ik yk:IntKind}{a n c:Int}(h0 : ¬n<0)(hc:a/2^min n.toNat ik.bits=c)(hw:Wn ops F g)(hdN:Nat.blt d N=true)(hx:ev F x=some (.int ik a))(hy:ev F y=some (.int yk n))
  (h:LW P N ops rest ((d,.int ik c)::F) w K):LW P N ops (⟨some d,.binOp .shr t x y t',ty,pos,af,g⟩::rest) F w K:=
 LW.val rfl hw rfl hdN (fun _ ha=>dm _ _ _ (ha.eval hx) (ha.eval hy) rfl (by rw[binOp_shr,shift_shr_any _ _ _ _ (by omega),hc];rfl)) h
theorem LW.one{f:FuncId}{u v:Value}{ts:Array TypeId}(hr : ∀w,(callFunc f #[u]).run P w = .ok (.value v) w)(hw:Wn ops F g)(hdN:Nat.blt d N=true)(hx:ev F x=some u)
  (h:LW P N ops rest ((d,v)::F) w K):LW P N ops (⟨some d,.call { callee:=.value (.func f),args:=#[x],argTypes:=ts },ty,pos,af,g⟩::rest) F w K:=
 LW.val rfl hw rfl hdN (fun q hq=>by
  have e:(#[x].map q.eval) = #[u]:=by simp[hq.eval hx]
  simp only[execOp,resolve,e,Act.eval,Deferred.ofValue,invoke,Sem.run_bind,Sem.run_pure,Result.andThen_ok]
  have e2:(#[] ++ #[u] ++ #[]:Array Value) = #[u]:=by simp
  rw[e2,hr]) h
theorem LW.neqF{a b:Int}{ik:IntKind}{tv:Bool}(he:(a != b)=tv)(hw:Wn ops F g)(hdN:Nat.blt d N=true)(hx:ev F x=some (.int ik a))(hy:ev F y=some (.int ik b))
  (h:LW P N ops rest ((d,.bool tv)::F) w K):LW P N ops (⟨some d,.binOp .neq t x y t',ty,pos,af,g⟩::rest) F w K:=
 LW.neq (kb:=some) (r:=tv) (by rw[he];rfl) hw hdN hx hy (fun c hc=>by cases hc;exact h)
theorem LW.cv{u v:Value}{S T:TypeId}{w':World}(hr:(convert S T u).run P w = .ok v w')(hw:Wn ops F g)(hdN:Nat.blt d N=true)(hx:ev F x=some u)
  (h:LW P N ops rest ((d,v)::F) w' K):LW P N ops (⟨some d,.convert S T x,ty,pos,af,g⟩::rest) F w K:=
 LW.val rfl hw rfl hdN (fun q hq=>by simp only[execOp,hq.eval hx,Sem.run_bind,hr,Result.andThen_ok,Sem.run_pure]) h
end
theorem tz{lab:bg}{w w':World}(t:dv lab w)(h:w'=w∨w'=w.drew):iI lab 0 w lab w':=by
 rcases h with rfl |rfl
 ·exact⟨rfl,rfl,rfl,Nat.le_refl _,fun _ _ _=>rfl,fun _ _=>rfl,t⟩
 ·exact⟨rfl,rfl,rfl,Nat.le_refl _,fun _ _ _=>rfl,fun _ _=>rfl,t⟩
theorem AK{lab:bg}{w:World}(n:UInt64)(r:List UInt8)(hm:dT n=some r)(t:dv lab w)(gl:GL lab w):
  Calls Tryz.prog 118 [.int .u64 (n.toNat:Int)].toArray w fun e w'=>∃oa c,e = .returned (.slice oa r.length c)∧iI lab 0 w lab w'∧SL (rep (.int .u8)) lab w' oa c r:=by
 have hT:iZ Tryz.prog 25 5 1 1 (.int .u8 0):=Ap.ok
 have hZ:gO Tryz.prog 5 (.int .u8 0):=vu
 have h75 : ∀(z:Int) w,(callFunc 149 #[.int .u64 z]).run Tryz.prog w = .ok (.value (.float .f64 z.toNat)) w:=fun z w=>by kernel_rfl
 have h102 : ∀(z:Nat) w,(callFunc 150 #[.float .f64 z]).run Tryz.prog w = .ok (.value (.int .u64 (z:Int))) w:=fun z w=>by kernel_rfl
 have h104 : ∀(z:Nat) w,(callFunc 152 #[.float .f32 z]).run Tryz.prog w = .ok (.value (.int .u32 (z:Int))) w:=fun z w=>by kernel_rfl
 have cx:=Cx.start t
 have gl0:=gl.keep bw.lin
 have hn64:n.toNat<18446744073709551616:=n.toNat_lt
 refine enter Tryz.func118 rfl 51 rfl rfl ?_
 repeat refine CW.seq ?_
 refine CW.region ?_
 refine LW.assign wn rfl rfl ?_
 refine LW.nil ?_
 refine EW.seq_n ?_
 repeat refine CW.seq ?_
 refine CW.region ?_
 refine LW.move wn rfl rfl ?_
 refine LW.one (v:=.float .f64 n.toNat) (h75 _) wn rfl rfl ?_
 refine LW.assign wn rfl rfl ?_
 refine LW.nil ?_
 refine EW.seq_n ?_
 repeat refine CW.seq ?_
 refine CW.region ?_
 refine LW.move wn rfl rfl ?_
 refine LW.move wn rfl rfl ?_
 refine LW.val (v:=.bool (!(feq n n))) (w':=w) rfl wn rfl rfl (fun a ha=>?_) ?_
 ·exact dm _ _ _ (ha.eval (x:=.tmp 10) (v:=.float .f64 n.toNat) rfl) (ha.eval (x:=.tmp 11) (v:=.float .f64 n.toNat) rfl) rfl (Ck n n)
 refine LW.nil ?_
 refine EW.seq_n ?_
 repeat refine CW.seq ?_
 unfold dT at hm
 cases hq:feq n n with
 |false=>
  rw[hq]at hm
  cases hm
  refine CW.cond_t rfl ?_
  repeat refine CW.seq ?_
  refine CW.region ?_
  refine LW.buildOwn (k:=2) (ρ:=rep (.int .u8)) (vs:=[(0,.int .u8 249),(1,.int .u8 126),(2,.int .u8 0)]) (css:=[[.int .u8 249],[.int .u8 126],[.int .u8 0]]) (xs:=([249,126,0]:List UInt8)) rfl hT hZ (by kernel_rfl) rfl rfl (nt _ _ [249,126,0]) cx.top wn rfl ?_
  intro oa1 c1 lab1 w1 e1 o1
  replace cx:=cx.step e1 rfl
  refine LW.assign wn rfl rfl ?_
  refine LW.nil ?_
  refine EW.seq_n ?_
  refine CW.ret ?_
  repeat refine EW.seq_r ?_
  exact EW.ret1 rfl rfl ⟨_,_,rfl,cx.ste t,o1.sl (cx.keeps t) (cx.own0 t rfl)⟩
 |true=>
  rw[hq]at hm
  refine CW.cond_f rfl ?_
  refine CW.skip ?_
  refine EW.seq_n ?_
  have hr:n.toNat%9223372036854775808≤9218868437227405312:=by
   have h:=sX n
   unfold feq at hq
   rw[hq]at h
   exact of_decide_eq_true h.symm
  obtain⟨s,w1,d,w2,r1,r2,hs,hd,d1,d2,hc⟩:=IP (P:=Tryz.prog) (w:=w) 221 223 223 221 n.toNat hn64 hr (by kernel_rfl) (by kernel_rfl) (by kernel_rfl) (by kernel_rfl)
  repeat refine CW.seq ?_
  refine CW.region ?_
  refine LW.move wn rfl rfl ?_
  refine LW.cv r1 wn rfl rfl ?_
  replace cx:=cx.step (tz cx.top d1) rfl
  refine LW.assign wn rfl rfl ?_
  refine LW.nil ?_
  refine EW.seq_n ?_
  repeat refine CW.seq ?_
  refine CW.region ?_
  refine LW.move wn rfl rfl ?_
  refine LW.cv r2 wn rfl rfl ?_
  have gl1:=gl0.keep (tz (Cx.start t).top d1).keeps
  have gl2:=gl1.keep (tz cx.top d2).keeps
  replace cx:=cx.step (tz cx.top d2) rfl
  refine LW.one (v:=.int .u64 (d:Int)) (h102 _) wn rfl rfl ?_
  refine LW.move wn rfl rfl ?_
  clear r1 r2 gl1 gl0 gl
  rcases hc with⟨rfl,hc⟩ | ⟨hne,hc⟩
  ·rw[hc]at hm
   refine LW.neqF (tv:=false) (by simp) wn rfl rfl rfl ?_
   refine LW.nil ?_
   refine EW.seq_n ?_
   repeat refine CW.seq ?_
   refine CW.cond_f rfl ?_
   refine CW.skip ?_
   refine EW.seq_n ?_
   repeat refine CW.seq ?_
   refine CW.region ?_
   refine LW.move wn rfl rfl ?_
   refine LW.one (v:=.int .u32 (s:Int)) (h104 _) wn rfl rfl ?_
   refine LW.assign wn rfl rfl ?_
   refine LW.nil ?_
   refine EW.seq_n ?_
   repeat refine CW.seq ?_
   refine CW.region ?_
   refine LW.move wn rfl rfl ?_
   obtain⟨x,hx,hm⟩:=cX (show bnd (kH (UInt32.ofNat s)) (fun x=>some (bif x.2 then [249,ar (x.1/256),ar x.1]else [250,ar ((s:Int)/16777216),ar ((s:Int)/65536),ar ((s:Int)/256),ar (s:Int)]))=some r from hm)
   have es:(UInt32.ofNat s).toNat=s:=by
    rw[UInt32.toNat_ofNat_of_lt' hs]
   have hcall:=ya.ok (UInt32.ofNat s,()) x hx 3 3 0 _ _ [.int .u32 (s:Int)] cx.top gl2 (fun h=>by cases h) (by decide) ⟨by
    have h9:bh (.int .u32) (UInt32.ofNat s) (lin lab) w2 (.int .u32 ((UInt32.ofNat s).toNat:Int)):=bh.ofInt (k:=.u32) _
    rw[es]at h9
    exact h9,trivial⟩
   refine LW.call ⟨Tryz.f153,Tryz.func153,by kernel_rfl,by kernel_rfl⟩ (vs:=[.int .u32 (s:Int)]) hcall wn rfl rfl ?_
   rintro e w3 ⟨lab3,us,rfl,hst,hres⟩
   match us,hres with
   | [u1,u2],⟨q1,q2,_⟩=>
   obtain rfl:=bh.int (k:=.u16) q1
   obtain rfl:=bh.bool q2
   replace cx:=cx.stp hst rfl
   refine⟨_,rfl,?_⟩
   refine LW.move wn rfl rfl ?_
   refine LW.extract (vs:=[.int .u16 x.1,.bool x.2]) (i:=0) wn rfl rfl rfl ?_
   refine LW.extract (vs:=[.int .u16 x.1,.bool x.2]) (i:=1) wn rfl rfl rfl ?_
   refine LW.assign wn rfl rfl ?_
   refine LW.assign wn rfl rfl ?_
   refine LW.nil ?_
   refine EW.seq_n ?_
   repeat refine CW.seq ?_
   refine CW.region ?_
   refine LW.move wn rfl rfl ?_
   refine LW.nil ?_
   refine EW.seq_n ?_
   repeat refine CW.seq ?_
   obtain⟨x1,x2⟩:=x
   clear hx hcall q1 q2 hres hst
   cases x2 with
   |true=>
    cases hm
    refine CW.cond_t rfl ?_
    repeat refine CW.seq ?_
    refine CW.region ?_
    refine LW.move wn rfl rfl ?_
    refine LW.shrC (c:=x1/256) (by decide) rfl wn rfl rfl rfl ?_
    refine LW.cvt_u8 (k:=some) rfl (by kernel_rfl) (by show Tryz.prog.underlying _=_;kernel_rfl) wn rfl rfl ?_
    intro c1 hc1
    cases hc1
    refine LW.move wn rfl rfl ?_
    refine LW.cvt_u8 (k:=some) rfl (by kernel_rfl) (by show Tryz.prog.underlying _=_;kernel_rfl) wn rfl rfl ?_
    intro c2 hc2
    cases hc2
    refine LW.buildOwn (k:=2) (ρ:=rep (.int .u8)) (vs:=[(0,.int .u8 249),(1,.int .u8 ((ar (x1/256)).toNat:Int)),(2,.int .u8 ((ar x1).toNat:Int))]) (css:=[[.int .u8 249],[.int .u8 ((ar (x1/256)).toNat:Int)],[.int .u8 ((ar x1).toNat:Int)]]) (xs:=([249,ar (x1/256),ar x1]:List UInt8)) rfl hT hZ (by kernel_rfl) rfl rfl (nt _ _ [249,ar (x1/256),ar x1]) cx.top wn rfl ?_
    intro oa1 c1 lab1 w4 e1 o1
    replace cx:=cx.step e1 rfl
    refine LW.assign wn rfl rfl ?_
    refine LW.nil ?_
    refine EW.seq_n ?_
    refine CW.ret ?_
    repeat refine EW.seq_r ?_
    exact EW.ret1 rfl rfl ⟨_,_,rfl,cx.ste t,o1.sl (cx.keeps t) (cx.own0 t rfl)⟩
   |false=>
    cases hm
    refine CW.cond_f rfl ?_
    refine CW.skip ?_
    refine EW.seq_n ?_
    repeat refine CW.seq ?_
    refine CW.region ?_
    refine LW.move wn rfl rfl ?_
    refine LW.shrC (c:=(s:Int)/16777216) (by decide) rfl wn rfl rfl rfl ?_
    refine LW.cvt_u8 (k:=some) rfl (by kernel_rfl) (by show Tryz.prog.underlying _=_;kernel_rfl) wn rfl rfl ?_
    intro c1 hc1
    cases hc1
    refine LW.move wn rfl rfl ?_
    refine LW.shrC (c:=(s:Int)/65536) (by decide) rfl wn rfl rfl rfl ?_
    refine LW.cvt_u8 (k:=some) rfl (by kernel_rfl) (by show Tryz.prog.underlying _=_;kernel_rfl) wn rfl rfl ?_
    intro c1 hc1
    cases hc1
    refine LW.move wn rfl rfl ?_
    refine LW.shrC (c:=(s:Int)/256) (by decide) rfl wn rfl rfl rfl ?_
    refine LW.cvt_u8 (k:=some) rfl (by kernel_rfl) (by show Tryz.prog.underlying _=_;kernel_rfl) wn rfl rfl ?_
    intro c1 hc1
    cases hc1
    refine LW.move wn rfl rfl ?_
    refine LW.cvt_u8 (k:=some) rfl (by kernel_rfl) (by show Tryz.prog.underlying _=_;kernel_rfl) wn rfl rfl ?_
    intro c2 hc2
    cases hc2
    refine LW.buildOwn (k:=2) (ρ:=rep (.int .u8)) (vs:=[(0,.int .u8 250),(1,.int .u8 ((ar ((s:Int)/16777216)).toNat:Int)),(2,.int .u8 ((ar ((s:Int)/65536)).toNat:Int)),(3,.int .u8 ((ar ((s:Int)/256)).toNat:Int)),(4,.int .u8 ((ar (s:Int)).toNat:Int))]) (css:=[[.int .u8 250],[.int .u8 ((ar ((s:Int)/16777216)).toNat:Int)],[.int .u8 ((ar ((s:Int)/65536)).toNat:Int)],[.int .u8 ((ar ((s:Int)/256)).toNat:Int)],[.int .u8 ((ar (s:Int)).toNat:Int)]]) (xs:=([250,ar ((s:Int)/16777216),ar ((s:Int)/65536),ar ((s:Int)/256),ar (s:Int)]:List UInt8)) rfl hT hZ (by kernel_rfl) rfl rfl (nt _ _ [250,ar ((s:Int)/16777216),ar ((s:Int)/65536),ar ((s:Int)/256),ar (s:Int)]) cx.top wn rfl ?_
    intro oa1 c1 lab1 w4 e1 o1
    replace cx:=cx.step e1 rfl
    refine LW.assign wn rfl rfl ?_
    refine LW.nil ?_
    refine EW.seq_n ?_
    refine CW.ret ?_
    repeat refine EW.seq_r ?_
    exact EW.ret1 rfl rfl ⟨_,_,rfl,cx.ste t,o1.sl (cx.keeps t) (cx.own0 t rfl)⟩
  ·rw[hc]at hm
   refine LW.neqF (tv:=true) (by simp;omega) wn rfl rfl rfl ?_
   refine LW.nil ?_
   refine EW.seq_n ?_
   repeat refine CW.seq ?_
   refine CW.cond_t rfl ?_
   repeat refine CW.seq ?_
   obtain⟨x,hx,hm⟩:=cX (show bnd (mE n) (fun x=>cO [251] x)=some r from hm)
   refine CW.region ?_
   refine LW.buildOwn (k:=2) (ρ:=rep (.int .u8)) (vs:=[(0,.int .u8 251)]) (css:=[[.int .u8 251]]) (xs:=([251]:List UInt8)) rfl hT hZ (by kernel_rfl) rfl rfl (nt _ _ [251]) cx.top wn rfl ?_
   intro oa1 c1 lab1 w3 e1 o1
   replace cx:=cx.step e1 rfl
   have gl3:=gl2.keep e1.keeps
   refine LW.move wn rfl rfl ?_
   have hcall:=xV.ok (n,()) x hx 3 3 0 _ _ [.int .u64 (n.toNat:Int)] cx.top gl3 (fun h=>by cases h) (by decide) ⟨bh.ofInt (k:=.u64) n,trivial⟩
   refine LW.call ⟨Tryz.f151,Tryz.func151,by kernel_rfl,by kernel_rfl⟩ (vs:=[.int .u64 (n.toNat:Int)]) hcall wn rfl rfl ?_
   rintro e w4 ⟨lab4,us,rfl,hst,hres⟩
   match us,hres with
   | [u1],⟨q1,_⟩=>
   obtain⟨oa',c',rfl,s'⟩:=bh.sl q1
   replace cx:=cx.stp hst rfl
   have o2:=o1.ke hst.ke rx (wd rfl)
   refine⟨_,rfl,?_⟩
   have hm2:bnd (cO ([251]:List UInt8) x) some=some r:=by rw[hm];rfl
   refine LW.append (ρ:=rep (.int .u8)) (kk:=some) (xs:=([251]:List UInt8)) (ys:=x) (c':=c') hm2 o2 (SL.flat' s') cx.top rfl hT rfl wn rfl rfl rfl ?_
   intro zs oa2 c2 lab5 w5 hz e2 o3
   cases hz
   replace cx:=cx.step e2 rfl
   refine LW.assign wn rfl rfl ?_
   refine LW.nil ?_
   refine EW.seq_n ?_
   refine CW.ret ?_
   repeat refine EW.seq_r ?_
   exact EW.ret1 rfl rfl ⟨_,_,rfl,cx.ste t,o3.sl (cx.keeps t) (cx.own0 t rfl)⟩
def jS:bW Tryz.prog:=⟨118,[.d (.int .u64)],[.d (.sl (.int .u8))],⟨Tryz.f118,Tryz.func118,by kernel_rfl,by kernel_rfl⟩,dT,by
 intro a r h k kp gp lab w vs t gl _ hk hargs
 match vs,hargs with
 | [v],hargs=>
  obtain⟨h1,_⟩:=hargs
  obtain rfl:=bh.int (k:=.u64) h1
  refine(AK a.1 r h t gl).mono ?_
  rintro e w' ⟨oa,c,rfl,hs,s⟩
  exact⟨lab,[_],rfl,hs.stp (.inr rfl),bh.ofSl (t:=.int .u8) s,trivial⟩⟩
def mt:bW Tryz.prog:=cZ 120 [.d .tree] [.d (.int .u8),.d (.int .u64)] Tryz.func120 iJ (tb []) 34 [] [] (.s .n (.s (.s .n (.b (.j ⟨[.d 6 .bool],[1,5]⟩ false (.s .n (.c .n .n)) (.c (.s .n .n) (.s .n (.c (.s .n .n) (.s .n (.c (.s .n .n) .n)))))))) (.s .n .n))) (by kernel_rfl) (by kernel_rfl)
def kq:bW Tryz.prog:=cZ 119 [.d (.int .u8),.d (.int .u64)] [.d (.sl (.int .u8))] Tryz.func119 bJ (tb []) 69 [56,67] [] (.s .n (.s .n (.s (.b (.s .n (.c (.s .n .n) (.s .n (.c (.s .n .n) (.s .n (.c (.s .n .n) (.s .n (.c (.s .n .n) .n))))))))) (.s .n (.s (.s .n (.b (.l .g ⟨[.o 6 5 (.int .u8),.d 7 (.int .i64)],[1]⟩ (.s (.s .n (.c .n .n)) (.s (.b .n) .n))))) (.s .n .n)))))) (by kernel_rfl) (by kernel_rfl)
def od:bW Tryz.prog:=cZ 137 [.p 153 bZ,.d .tree] [.d .bool] Tryz.func137 de (tb [jS,mt,kq]) 61 [] [] (.s .n (.j ⟨[.b 0 153 bZ],[0]⟩ false (.s .n (.b (.s .n (.c .n (.s .n (.c (.s .n (.s .n (.c .n .n))) .n)))))) (.s .n .n))) (by kernel_rfl) (by kernel_rfl)
def yq(mf:MF [.r 5 (.int .u8),.d .tree] [.o 5 (.int .u8)])(okf:OF 91 [.r 5 (.int .u8),.d .tree] [.o 5 (.int .u8)] mf):bW Tryz.prog:=xP 91 [.r 5 (.int .u8),.d .tree] [.o 5 (.int .u8)] Tryz.func91 mf (by kernel_rfl) okf
theorem ym(mf:MF [.r 5 (.int .u8),.d .tree] [.o 5 (.int .u8)])(okf:OF 91 [.r 5 (.int .u8),.d .tree] [.o 5 (.int .u8)] mf):OF 91 [.r 5 (.int .u8),.d .tree] [.o 5 (.int .u8)] (lE mf):=G2 Tryz.func91 (tb [jS,mt,kq,yq mf okf]) 54 [15,30,37,41] [44] (.s .n (.s (.b (.s .n (.c (.s .n .n) (.j ⟨[.d 16 .bool],[0,3]⟩ false .n (.c (.s .n .n) .n))))) (.s .n (.s .n (.s (.s .n (.b (.l (.a 45 44) ⟨[.o 0 5 (.int .u8)],[43,44]⟩ (.s .n (.s (.c .n .n) (.s (.b (.s .n .n)) .n)))))) (.s .n .n)))))) (by kernel_rfl) (by kernel_rfl)
theorem q_ : ∀(n:Nat),OF 91 [.r 5 (.int .u8),.d .tree] [.o 5 (.int .u8)] (lP n)
 |0=>fun a r h=>by cases(show(none:Option _)=some r from h)
 |n+1=>ym (lP n) (q_ n)
def wr:bW Tryz.prog:=xP 91 [.r 5 (.int .u8),.d .tree] [.o 5 (.int .u8)] Tryz.func91 lJ (by kernel_rfl) (q_ 40)
def lM:bW Tryz.prog:=cZ 91 [.r 5 (.int .u8),.d .tree] [.d (.sl (.int .u8))] Tryz.func91 dA (tb [jS,mt,kq,wr]) 54 [37,41] [44] (.s .n (.s (.b (.s .n (.c (.s .n .n) (.j ⟨[.d 16 .bool],[0,3]⟩ false .n (.c (.s .n .n) .n))))) (.s .n (.s .n (.s (.s .n (.b (.l (.a 45 44) ⟨[.o 0 5 (.int .u8)],[43,44]⟩ (.s .n (.s (.c .n .n) (.s (.b (.s .n .n)) .n)))))) (.s .n .n)))))) (by kernel_rfl) (by kernel_rfl)
theorem p4{P:Program}{lab:bg}{w:World}{oa:Option Addr}{c:Nat}{xs:List UInt8}(s:SL bV.u8 lab w oa c xs):
  (Extern.Bytes.bytesOf (.slice oa xs.length c)).run P w = .ok ⟨xs.toArray⟩ w:=by
 obtain⟨h0,css,h1,h2⟩:=SL.flat' s
 have hcss:css.flatten=xs.map fun x=>Value.int .u8 (x.toNat:Int):=by
  clear h2 s h0
  induction css generalizing xs with
  |nil=>cases xs with
   |nil=>rfl
   |cons _ _=>exact h1.elim
  |cons cs css ih=>cases xs with
   |nil=>exact h1.elim
   |cons x xs=>
    have e:cs = [Value.int .u8 (x.toNat:Int)]:=h1.1
    rw[List.flatten_cons,ih h1.2,e]
    rfl
 cases oa with
 |none=>
  obtain rfl:=h0 rfl
  rfl
 |some ad=>
  have h3 : ∀(j:Nat) (x:Int),(xs.map fun b:UInt8=>(b.toNat:Int))[j]?=some x→w.cell? (ad.add j)=some (.int .u8 x):=by
   intro j x hx
   refine h2 ad rfl j _ ?_
   rw[hcss]
   simp only[List.getElem?_map,Option.map_eq_some_iff]at hx⊢
   obtain⟨b,hb,rfl⟩:=hx
   exact⟨b,hb,rfl⟩
  have h4:=Lib.run_loadBytesX (P:=P) w _ ad .empty h3
  rw[List.length_map]at h4
  show(Extern.Bytes.loadBytes ad xs.length .empty).run P w=_
  rw[h4]
  congr 1
  apply ByteArray.ext
  have e:Lib.bytesOf (xs.map fun b:UInt8=>(b.toNat:Int))=xs:=by
   unfold Lib.bytesOf
   rw[List.map_map]
   refine(List.map_congr_left (g:=id) fun b _=>?_).trans (List.map_id _)
   simp
  rw[e]
  simp[ByteArray.empty,ByteArray.emptyWithCapacity]
  try rfl
theorem CG{P:Program}{lab:bg}{w:World}{oa ob:Option Addr}{c d:Nat}{xs ys:List UInt8}(s:SL bV.u8 lab w oa c xs)(s':SL bV.u8 lab w ob d ys):
  (Extern.BytealgCompare.compare #[.slice oa xs.length c,.slice ob ys.length d]).run P w = .ok (.int .i64 (Lib.compareBytes xs ys)) w:=by
 change Sem.run P (do pure (goInt (Extern.BytealgCompare.cmp (←Extern.Bytes.bytesOf (.slice oa xs.length c)) (←Extern.Bytes.bytesOf (.slice ob ys.length d))))) w=_
 simp only[Sem.run_bind,p4 s,p4 s',Sem.run_pure,Result.andThen]
 rw[Lib.cmp_eq]
 rfl
theorem oT{lab:bg}{w:World}{oa ob:Option Addr}{c d:Nat}{xs ys:List UInt8}(s:SL bV.u8 lab w oa c xs)(s':SL bV.u8 lab w ob d ys):
  Calls Tryz.prog 117 [.slice oa xs.length c,.slice ob ys.length d].toArray w fun e w'=>e = .returned (.int .i64 (Lib.compareBytes xs ys))∧w'=w:=by
 refine enter Tryz.func117 rfl 8 rfl rfl ?_
 repeat refine CW.seq ?_
 refine CW.region ?_
 refine LW.assign wn rfl rfl ?_
 refine LW.nil ?_
 refine EW.seq_n ?_
 repeat refine CW.seq ?_
 refine CW.region ?_
 refine LW.move wn rfl rfl ?_
 refine LW.move wn rfl rfl ?_
 refine LW.val (v:=.int .i64 (Lib.compareBytes xs ys)) (w':=w) rfl wn rfl rfl (fun a ha=>?_) ?_
 ·have e1:=ha.eval (x:=.tmp 5) (v:=.slice oa xs.length c) rfl
  have e2:=ha.eval (x:=.tmp 6) (v:=.slice ob ys.length d) rfl
  have e:(#[Operand.tmp 5,Operand.tmp 6].map a.eval) = #[.slice oa xs.length c,.slice ob ys.length d]:=by simp[e1,e2]
  simp only[execOp,resolve,e,Act.eval,Deferred.ofValue,invoke,Sem.run_bind,Sem.run_pure,Result.andThen_ok]
  have e2:(#[] ++ #[.slice oa xs.length c,.slice ob ys.length d] ++ #[]:Array Value) = #[.slice oa xs.length c,.slice ob ys.length d]:=by simp
  rw[e2,run_callFunc_extern (fn:=Tryz.f148) (e:=Extern.BytealgCompare.compare) (by kernel_rfl) (by kernel_rfl) (by kernel_rfl) (by kernel_rfl) (by kernel_rfl),CG s s']
  rfl
 refine LW.assign wn rfl rfl ?_
 refine LW.nil ?_
 refine EW.seq_n ?_
 refine CW.ret ?_
 repeat refine EW.seq_r ?_
 exact EW.ret1 rfl rfl ⟨rfl,rfl⟩
def mJ:bW Tryz.prog:=⟨117,[.d (.sl (.int .u8)),.d (.sl (.int .u8))],[.d (.int .i64)],⟨Tryz.f117,Tryz.func117,by kernel_rfl,by kernel_rfl⟩,dK,by
 intro a r h k kp gp lab w vs t _ _ hk hargs
 match vs,hargs with
 | [v1,v2],hargs=>
  obtain⟨h1,h2,_⟩:=hargs
  obtain⟨oa,c,rfl,s⟩:=bh.sl h1
  obtain⟨ob,d,rfl,s'⟩:=bh.sl h2
  have h:some (Lib.compareBytes a.1 a.2.1)=some r:=h
  cases h
  refine(oT s s').mono ?_
  rintro e w' ⟨rfl,rfl⟩
  exact⟨lab,[_],rfl,jM.refl t,bh.ofInt (k:=.i64) _,trivial⟩⟩
def rz:bW Tryz.prog:=cZ 138 [.d (.sl .tree)] [.d .bool] Tryz.func138 gz (tb [lM,mJ]) 23 [] [] (.s .n (.s (.s .n (.b (.l .g ⟨[.d 3 (.int .i64)],[0]⟩ (.s (.s .n (.c .n .n)) (.s (.b (.s .n (.c (.s .n .n) .n))) .n))))) (.s .n .n))) (by kernel_rfl) (by kernel_rfl)
end
end Go.Proofs.YthejfljhiaeoeaaGreatDoor
