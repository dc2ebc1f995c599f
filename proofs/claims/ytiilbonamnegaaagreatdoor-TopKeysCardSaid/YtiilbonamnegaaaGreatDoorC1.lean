/- A part of the proof of TopKeys. No condition. -/
import Derived.Test.YtiilbonamnegaaaGreatDoorC0
namespace Go.Proofs.YtiilbonamnegaaaGreatDoor
open Go.Gk Go.RowKit
noncomputable section
set_option maxRecDepth 100000
def qC(mf:MF [.p 148 cH,.d .tree,.d (.int .i64)] [.d .bool])(okf:OF 94 [.p 148 cH,.d .tree,.d (.int .i64)] [.d .bool] mf):bI Tryz.prog:=tA 94 [.p 148 cH,.d .tree,.d (.int .i64)] [.d .bool] Tryz.func94 mf (by kernel_rfl) okf
theorem qk(mf:MF [.p 148 cH,.d .tree,.d (.int .i64)] [.d .bool])(okf:OF 94 [.p 148 cH,.d .tree,.d (.int .i64)] [.d .bool] mf):OF 94 [.p 148 cH,.d .tree,.d (.int .i64)] [.d .bool] (gB mf):=DM Tryz.func94 (tb [wX,o8,qC mf okf,sR]) 122 [] [102] (.s .n (.s .n (.s (.j ⟨[.d 34 .bool],[0,2,4]⟩ false .n (.c (.s .n .n) .n)) (.s (.s .n (.s .n (.c (.j ⟨[.d 6 .bool,.b 0 148 cH],[0]⟩ false .n .n) .n))) (.s (.j ⟨[.d 64 .bool],[0,2,4]⟩ false .n (.c (.s .n .n) .n)) (.s (.j ⟨[.d 95 .bool],[0,2,4]⟩ false .n (.c (.s .n .n) .n)) (.s (.s .n (.c (.s .n .n) .n)) (.s (.s .n (.b (.l (.a 103 102) ⟨[.b 0 148 cH],[0,2,4,101,102]⟩ (.s .n (.s (.c .n .n) (.s (.b (.s .n (.s .n (.c (.s .n .n) .n)))) .n)))))) (.j ⟨[.d 6 .bool],[0]⟩ false .n .n))))))))) (by kernel_rfl) (by kernel_rfl)
theorem lr : ∀(n:Nat),OF 94 [.p 148 cH,.d .tree,.d (.int .i64)] [.d .bool] (gq n)
 |0=>fun a r h=>by cases(show(none:Option _)=some r from h)
 |n+1=>qk (gq n) (lr n)
def pQ:bI Tryz.prog:=tA 94 [.p 148 cH,.d .tree,.d (.int .i64)] [.d .bool] Tryz.func94 eV (by kernel_rfl) (lr 40)
def dB:bI Tryz.prog:=cJ 53 [.d .tree] [.d .bool] Tryz.func53 bG (tb [pQ]) 6 [] [] (.s .n (.s .n (.s .n .n))) (by kernel_rfl) (by kernel_rfl)
section
variable {P : Program} {N : Nat} {ops : Array Oper} {F : List (Nat × Value)} {w : World} {rest : List Oper} {K : fN}
variable {ty : TypeId} {pos : String} {af : Array Edge} {g : Option (Nat × Bool)} {d : Nat} {x y : Operand} {t t' : TypeId}
theorem LW.eqlL{a b:Int}{ik:IntKind}{tv:Bool}(he:(a==b)=tv)(hw:Wn ops F g)(hdN:Nat.blt d N=true)(hx:ev F x=some (.int ik a))(hy:ev F y=some (.int ik b))
  (h:LW P N ops rest ((d,.bool tv)::F) w K):LW P N ops (⟨some d,.binOp .eql t x y t',ty,pos,af,g⟩::rest) F w K:=
 LW.eql (kb:=some) (r:=tv) (by rw[he];rfl) hw hdN hx hy (fun c hc=>by cases hc;exact h)
end
open Go.Sort in
theorem Qm{lab:bN}{w:World}{kp c:Nat}{oa:Option Addr}{xs:List UInt8}(t:c_ lab w)(hkp:kp≠0)(o:dU (rep (.int .u8)) lab w kp 5 oa c xs)(n:UInt64)(hl:xs.length+(Lib.decDigits n.toNat).length≤zJ)(h100:n.toNat<100):
  Calls Tryz.prog 136 [.slice oa xs.length c,.int .u64 (n.toNat:Int),.int .i64 10].toArray w fun e w'=>∃lab' oa' c',e = .returned (.slice oa' (List.length (α:=UInt8) (xs++Lib.decDigits n.toNat)) c')∧iV [kp] lab w lab' w'∧dU (rep (.int .u8)) lab' w' kp 5 oa' c' (xs++Lib.decDigits n.toNat):=by
 have happ:bnd (app xs (Lib.decDigits n.toNat)) some=some (xs++Lib.decDigits n.toNat):=by
  unfold app;rw[if_pos hl];rfl
 have hk0:Nat.beq kp 0=false:=kR hkp
 have hT:iK Tryz.prog 23 5 1 1 (.int .u8 0):=Pj.ok
 have hU:Tryz.prog.underlying 9=some .string:=by kernel_rfl
 have hn64:n.toNat<18446744073709551616:=n.toNat_lt
 refine enter Tryz.func136 rfl 36 rfl rfl ?_
 repeat refine CW.seq ?_
 refine CW.region ?_
 refine LW.assign wn rfl rfl ?_
 refine LW.nil ?_
 refine EW.seq_n ?_
 repeat refine CW.seq ?_
 refine CW.region ?_
 refine LW.move wn rfl rfl ?_
 refine LW.eqlL (tv:=true) rfl wn rfl rfl rfl ?_
 refine LW.nil ?_
 refine EW.seq_n ?_
 repeat refine CW.seq ?_
 refine CW.cond_t rfl ?_
 repeat refine CW.seq ?_
 refine CW.region ?_
 refine LW.move wn rfl rfl ?_
 refine LW.lss_lit (tv:=true) (decide_eq_true (by omega)) wn rfl rfl rfl ?_
 refine LW.nil ?_
 refine EW.seq_n ?_
 repeat refine CW.seq ?_
 refine CW.cond_t rfl ?_
 repeat refine CW.seq ?_
 refine CW.region ?_
 refine LW.move wn rfl rfl ?_
 refine LW.move wn rfl rfl ?_
 refine LW.cvt_i64 (k:=some) (r:=(n.toNat:Int)) (by show some (aA (n.toNat:Int))=_;rw[Eb (by omega)]) (by kernel_rfl) (by show Tryz.prog.underlying _=_;kernel_rfl) wn rfl rfl ?_
 intro c1 hc1
 cases hc1
 refine LW.call ⟨Tryz.f181,Tryz.func181,by kernel_rfl,by kernel_rfl⟩ (vs:=[.int .i64 (n.toNat:Int)]) (Tryz.internal_strconv_small n.toNat h100 w) wn rfl rfl ?_
 rintro e w2 ⟨rfl,rfl⟩
 refine⟨_,rfl,?_⟩
 refine LW.appendS (kk:=some) (ys:=Lib.decDigits n.toNat) happ o t hk0 hT hU rfl rfl wn rfl rfl rfl ?_
 intro zs oa2 c2 lab2 w2 hzs hs ho
 cases hzs
 refine LW.assign wn rfl rfl ?_
 refine LW.nil ?_
 refine EW.seq_n ?_
 refine CW.ret ?_
 repeat refine EW.seq_r ?_
 exact EW.ret1 rfl rfl ⟨lab2,oa2,c2,rfl,hs.stp (.inl (by simp)),ho⟩
theorem HN{a0:List UInt8}{a1:UInt64}{a2:Int}{r:List UInt8}(h:bY a0 a1 a2=some r):a2=10∧a1.toNat<100∧a0.length+(Lib.decDigits a1.toNat).length≤zJ∧r=a0++Lib.decDigits a1.toNat:=by
 unfold bY at h
 cases hb:a2==10&&decide (a1.toNat<100)with
 |false=>rw[hb]at h;cases h
 |true=>
  rw[hb]at h
  obtain⟨h1,h2⟩:=oo h
  simp only[Bool.and_eq_true,beq_iff_eq,decide_eq_true_eq]at hb
  exact⟨hb.1,hb.2,h1,h2⟩
def j1:bI Tryz.prog:=⟨136,[.r 5 (.int .u8),.d (.int .u64),.d (.int .i64)],[.o 5 (.int .u8)],⟨Tryz.f136,Tryz.func136,by kernel_rfl,by kernel_rfl⟩,bY,by
 intro a r h k kp gp lab w vs t gl hkp hk hargs
 match vs,hargs with
 | [v1,v2,v3],hargs=>
  obtain⟨⟨oa,c,rfl,o⟩,h2,h3,_⟩:=hargs
  obtain rfl:=br.int (k:=.u64) h2
  obtain rfl:=br.int (k:=.i64) h3
  obtain⟨e10,h100,hlim,rfl⟩:=HN h
  have hkp:=hkp rfl
  have e10:cO .i64 a.2.2.1=10:=e10
  rw[e10]
  refine(Qm t hkp o a.2.1 hlim h100).mono ?_
  rintro e w' ⟨lab',oa',c',rfl,hs,o'⟩
  have tp':c_ lab' w':=hs.top
  refine⟨vC lab' oa' k,[_],rfl,hs.trans (o'.stpR tp' k (by simp) hkp),⟨oa',c',rfl,o'.relab tp' k hkp⟩,trivial⟩⟩
def jM:bI Tryz.prog:=cJ 95 [.r 5 (.int .u8),.d (.int .u64),.d (.int .i64)] [.o 5 (.int .u8)] Tryz.func95 bj (tb [j1]) 11 [] [] (.s .n (.s .n .n)) (by kernel_rfl) (by kernel_rfl)
def oz:bI Tryz.prog:=cJ 96 [.r 5 (.int .u8),.d (.sl (.int .u8))] [.o 5 (.int .u8)] Tryz.func96 ky (tb []) 24 [21] [8] (.s .n (.s (.s .n (.b (.l (.a 9 8) ⟨[.o 0 5 (.int .u8)],[7,8]⟩ (.s .n (.s (.c .n .n) (.s (.b (.s .n .n)) .n)))))) (.s .n .n))) (by kernel_rfl) (by kernel_rfl)
end
end Go.Proofs.YtiilbonamnegaaaGreatDoor
