import Derived.Test.YthejfljhiaeoeaaGreatDoorC9
namespace Go.Proofs.YthejfljhiaeoeaaGreatDoor
open Go.Gk Go.RowKit
noncomputable section
set_option maxRecDepth 100000
def u6:bW Tryz.prog:=cZ 17 [.d (.sl (.int .u8))] [.d aS,.d (.int .i64)] Tryz.func17 jd (tb [kQ,g_,nS,pE,oR,fx] [4,87,5000050,5000096] [(39,4,26)]) 113 [86] [] (.s .n (.s (.b (.s .n (.c (.s .n .n) (.s .n (.c (.s .n .n) .n))))) (.s .n (.s .n (.s .n (.s .n (.j ⟨[.h 4 28 aS 4 100 bH,.b 5 97 fS],[0,2,4,5]⟩ false (.b (.l .g ⟨[.d 6 (.int .i64),.h 4 28 aS 4 100 bH,.b 5 97 fS],[0,2,4,5]⟩ (.s (.s .n (.c .n .n)) (.b (.s .n (.s .n (.s .n .n))))))) (.j ⟨[.h 4 28 aS 4 100 bH],[0,2,4,5]⟩ false (.s .n (.c .n .n)) (.s (.s .n (.c (.s .n .n) .n)) (.s .n .n)))))))))) (by kernel_rfl) (by kernel_rfl)
def oY:bW Tryz.prog:=cZ 56 [.d aI,.d aI] [.d .bool] Tryz.func56 eK (tb [fo]) 17 [] [] (.s .n (.j ⟨[.d 4 .bool],[]⟩ false .n .n)) (by kernel_rfl) (by kernel_rfl)
def o6:bW Tryz.prog:=cZ 18 [.d cG,.d cG] [.d .bool] Tryz.func18 dJ (tb [oY]) 28 [] [] (.s .n (.j ⟨[.d 4 .bool],[]⟩ false .n .n)) (by kernel_rfl) (by kernel_rfl)
def pd:bW Tryz.prog:=cZ 19 [.d aS,.d aS] [.d .bool] Tryz.func19 dH (tb []) 84 [] [55] (.s .n (.s (.j ⟨[.d 52 .bool],[2,3]⟩ false .n (.c (.s .n .n) .n)) (.s (.s .n (.b (.l (.a 56 55) ⟨[],[3,54,55]⟩ (.s .n (.s (.c .n .n) (.s (.b (.s .n (.j ⟨[.d 82 .bool],[3,54,55,56]⟩ false .n (.c (.s .n .n) .n)))) .n)))))) (.s .n .n)))) (by kernel_rfl) (by kernel_rfl)
def tj:bW Tryz.prog:=cZ 57 [.d (.int .i64)] [.d (.int .i64)] Tryz.func57 fD (tb []) 9 [] [] (.s .n (.s (.s .n (.c (.s .n .n) .n)) (.s .n .n))) (by kernel_rfl) (by kernel_rfl)
def yj:bW Tryz.prog:=cZ 20 [.d (.int .i64),.d (.int .i64)] [.d (.int .i64)] Tryz.func20 jB (tb [tj]) 18 [] [] (.s .n (.s .n (.j ⟨[.d 5 (.int .i64)],[]⟩ false (.s .n (.c .n .n)) (.s .n .n)))) (by kernel_rfl) (by kernel_rfl)
section
variable {P : Program} {N : Nat} {ops : Array Oper} {F : List (Nat × Value)} {w : World} {rest : List Oper} {K : gC}
variable {ty : TypeId} {pos : String} {af : Array Edge} {g : Option (Nat × Bool)} {d : Nat} {x y : Operand} {t t' : TypeId}
theorem LW.eqlL{a b:Int}{ik:IntKind}{tv:Bool}(he:(a==b)=tv)(hw:Wn ops F g)(hdN:Nat.blt d N=true)(hx:ev F x=some (.int ik a))(hy:ev F y=some (.int ik b))
  (h:LW P N ops rest ((d,.bool tv)::F) w K):LW P N ops (⟨some d,.binOp .eql t x y t',ty,pos,af,g⟩::rest) F w K:=
 LW.eql (kb:=some) (r:=tv) (by rw[he];rfl) hw hdN hx hy (fun c hc=>by cases hc;exact h)
end
open Go.Sort in
theorem OY{lab:bg}{w:World}{kp c:Nat}{oa:Option Addr}{xs:List UInt8}(t:dv lab w)(hkp:kp≠0)(o:ee (rep (.int .u8)) lab w kp 5 oa c xs)(n:UInt64)(hl:xs.length+(Lib.decDigits n.toNat).length≤xR)(h100:n.toNat<100):
  Calls Tryz.prog 157 [.slice oa xs.length c,.int .u64 (n.toNat:Int),.int .i64 10].toArray w fun e w'=>∃lab' oa' c',e = .returned (.slice oa' (List.length (α:=UInt8) (xs++Lib.decDigits n.toNat)) c')∧jM [kp] lab w lab' w'∧ee (rep (.int .u8)) lab' w' kp 5 oa' c' (xs++Lib.decDigits n.toNat):=by
 have happ:bnd (cO xs (Lib.decDigits n.toNat)) some=some (xs++Lib.decDigits n.toNat):=by
  unfold cO;rw[if_pos hl];rfl
 have hk0:Nat.beq kp 0=false:=ig hkp
 have hT:iZ Tryz.prog 25 5 1 1 (.int .u8 0):=Ap.ok
 have hU:Tryz.prog.underlying 9=some .string:=by kernel_rfl
 have hn64:n.toNat<18446744073709551616:=n.toNat_lt
 refine enter Tryz.func157 rfl 36 rfl rfl ?_
 repeat refine CW.seq ?_
 refine CW.region ?_
 refine LW.assign wn rfl rfl ?_
 refine LW.nil ?_
 refine EW.seq_n ?_
 repeat refine CW.seq ?_
 refine CW.region ?_
 refine LW.move wn rfl rfl ?_
 refine LW.eqlL (tv:=true) rfl wn rfl rfl rfl ?_
 refine LW.nil ?_
 refine EW.seq_n ?_
 repeat refine CW.seq ?_
 refine CW.cond_t rfl ?_
 repeat refine CW.seq ?_
 refine CW.region ?_
 refine LW.move wn rfl rfl ?_
 refine LW.lss_lit (tv:=true) (decide_eq_true (by omega)) wn rfl rfl rfl ?_
 refine LW.nil ?_
 refine EW.seq_n ?_
 repeat refine CW.seq ?_
 refine CW.cond_t rfl ?_
 repeat refine CW.seq ?_
 refine CW.region ?_
 refine LW.move wn rfl rfl ?_
 refine LW.move wn rfl rfl ?_
 refine LW.cvt_i64 (k:=some) (r:=(n.toNat:Int)) (by show some (aF (n.toNat:Int))=_;rw[DI (by omega)]) (by kernel_rfl) (by show Tryz.prog.underlying _=_;kernel_rfl) wn rfl rfl ?_
 intro c1 hc1
 cases hc1
 refine LW.call ⟨Tryz.f191,Tryz.func191,by kernel_rfl,by kernel_rfl⟩ (vs:=[.int .i64 (n.toNat:Int)]) (Tryz.internal_strconv_small n.toNat h100 w) wn rfl rfl ?_
 rintro e w2 ⟨rfl,rfl⟩
 refine⟨_,rfl,?_⟩
 refine LW.appendS (kk:=some) (ys:=Lib.decDigits n.toNat) happ o t hk0 hT hU rfl rfl wn rfl rfl rfl ?_
 intro zs oa2 c2 lab2 w2 hzs hs ho
 cases hzs
 refine LW.assign wn rfl rfl ?_
 refine LW.nil ?_
 refine EW.seq_n ?_
 refine CW.ret ?_
 repeat refine EW.seq_r ?_
 exact EW.ret1 rfl rfl ⟨lab2,oa2,c2,rfl,hs.stp (.inl (by simp)),ho⟩
theorem Fp{a0:List UInt8}{a1:UInt64}{a2:Int}{r:List UInt8}(h:cF a0 a1 a2=some r):a2=10∧a1.toNat<100∧a0.length+(Lib.decDigits a1.toNat).length≤xR∧r=a0++Lib.decDigits a1.toNat:=by
 unfold cF at h
 cases hb:a2==10&&decide (a1.toNat<100)with
 |false=>rw[hb]at h;cases h
 |true=>
  rw[hb]at h
  obtain⟨h1,h2⟩:=qg h
  simp only[Bool.and_eq_true,beq_iff_eq,decide_eq_true_eq]at hb
  exact⟨hb.1,hb.2,h1,h2⟩
def jF:bW Tryz.prog:=⟨157,[.r 5 (.int .u8),.d (.int .u64),.d (.int .i64)],[.o 5 (.int .u8)],⟨Tryz.f157,Tryz.func157,by kernel_rfl,by kernel_rfl⟩,cF,by
 intro a r h k kp gp lab w vs t gl hkp hk hargs
 match vs,hargs with
 | [v1,v2,v3],hargs=>
  obtain⟨⟨oa,c,rfl,o⟩,h2,h3,_⟩:=hargs
  obtain rfl:=bh.int (k:=.u64) h2
  obtain rfl:=bh.int (k:=.i64) h3
  obtain⟨e10,h100,hlim,rfl⟩:=Fp h
  have hkp:=hkp rfl
  have e10:eF .i64 a.2.2.1=10:=e10
  rw[e10]
  refine(OY t hkp o a.2.1 hlim h100).mono ?_
  rintro e w' ⟨lab',oa',c',rfl,hs,o'⟩
  have tp':dv lab' w':=hs.top
  refine⟨DG lab' oa' k,[_],rfl,hs.trans (o'.stpR tp' k (by simp) hkp),⟨oa',c',rfl,o'.relab tp' k hkp⟩,trivial⟩⟩
def jc:bW Tryz.prog:=cZ 122 [.r 5 (.int .u8),.d (.int .u64),.d (.int .i64)] [.o 5 (.int .u8)] Tryz.func122 cg (tb [jF]) 11 [] [] (.s .n (.s .n .n)) (by kernel_rfl) (by kernel_rfl)
end
end Go.Proofs.YthejfljhiaeoeaaGreatDoor
