/- A part of the proof of TopChain. No condition. -/
import Derived.Test.YtimjjookppejeaaGreatDoorC13
namespace Go.Proofs.YtimjjookppejeaaGreatDoor
open Go.Gk Go.RowKit
noncomputable section
set_option maxRecDepth 100000
def qn:aW Tryz.prog:=bw 86 [.d (.sl (.int .u8))] [.d aT,.d cK,.d (.int .i64)] Tryz.func86 j7 (tb [qb,gN,nf,ix,dm]) 70 [] [] (.s .n (.s .n (.s (.s .n (.c (.s .n .n) .n)) (.s .n (.s .n (.s .n (.s (.j ⟨[.d 65 .bool],[2,3,6,12]⟩ false .n (.c (.s .n .n) .n)) (.s .n .n)))))))) (by kernel_rfl) (by kernel_rfl)
def o5:aW Tryz.prog:=bw 46 [.d aT,.d (.int .i64)] [.d .bool] Tryz.func46 df (tb []) 24 [] [] (.s .n (.j ⟨[.d 4 .bool],[]⟩ false .n .n)) (by kernel_rfl) (by kernel_rfl)
def mZ:aW Tryz.prog:=bw 256 [.d dl,.d aZ] [.d .bool] Tryz.func256 cH (tb [gk,lY]) 23 [] [] (.s .n (.s (.s .n (.b (.l .g ⟨[.d 5 (.int .i64),.b 3 115 aZ],[2,3]⟩ (.s .n (.s (.c .n .n) (.s (.b .n) .n)))))) (.j ⟨[.d 4 .bool],[]⟩ false .n .n))) (by kernel_rfl) (by kernel_rfl)
def lN:aW Tryz.prog:=bw 257 [.d aZ] [.d aZ] Tryz.func257 dE (tb [fX]) 14 [] [] (.s .n (.s .n (.s .n .n))) (by kernel_rfl) (by kernel_rfl)
def qZ:aW Tryz.prog:=bw 206 [.d (.sl (.int .u8)),.d (.sl (.int .u8)),.d (.sl (.int .u8))] [.d .bool] Tryz.func206 cV (tb [jb,iq,mM,mZ,pg,mN,ng,lA,iV,lN,gk,ij,dm]) 78 [] [] (.s .n (.s (.j ⟨[.d 22 .bool],[0,1,2]⟩ false .n (.c (.s .n .n) .n)) (.s .n (.s .n (.s .n (.s (.j ⟨[.d 49 .bool],[0,1,2,7,8,10]⟩ false .n (.c (.s .n .n) .n)) (.s .n (.s .n (.s .n (.s .n .n)))))))))) (by kernel_rfl) (by kernel_rfl)
def uC:aW Tryz.prog:=bw 146 [.d cK,.d (.sl (.int .u8)),.d (.sl (.int .u8))] [.d (.int .i64)] Tryz.func146 j0 (tb [ee,pb,lK,qZ]) 40 [] [] (.s .n (.s (.b (.s .n (.c (.s .n .n) (.s .n (.c (.s .n .n) .n))))) (.s .n (.s (.b (.s .n (.c (.s .n .n) (.s .n (.c (.s .n .n) .n))))) (.s .n .n))))) (by kernel_rfl) (by kernel_rfl)
def vL:aW Tryz.prog:=bw 87 [.d (.sl (.int .u8)),.d aT] [.d aT,.d (.int .i64)] Tryz.func87 jd (tb [jk,qn,uC]) 46 [] [] (.s .n (.s (.s .n (.c (.s .n .n) .n)) (.s .n (.s (.b (.s .n (.c (.s .n .n) (.s .n (.c (.s .n .n) (.s .n (.c (.s .n .n) (.s .n (.c (.s .n .n) .n))))))))) (.s .n .n))))) (by kernel_rfl) (by kernel_rfl)
def ux:aW Tryz.prog:=bw 44 [.d (.sl aT),.d (.sl (.sl (.int .u8))),.d (.int .i64)] [.d aT,.d (.int .i64)] Tryz.func44 jZ (tb [qn,o5,vL]) 87 [] [] (.s .n (.s .n (.s (.s .n (.c (.s .n .n) .n)) (.s .n (.j ⟨[.d 11 (.int .i64)],[0,1,2,6]⟩ false (.b (.l .g ⟨[.d 11 (.int .i64)],[0,1,2,6,8]⟩ (.s (.j ⟨[.d 42 .bool],[0,1,2,6,8,11]⟩ false .n (.c .n .n)) (.b .n)))) (.s (.s .n (.c (.s .n .n) .n)) (.s .n (.s .n (.s (.s .n (.b (.l .g ⟨[.d 13 .bool,.d 14 (.int .i64),.b 6 34 aT,.b 12 34 aT],[1,2,6,12]⟩ (.s (.s .n (.c .n .n)) (.s (.b (.s .n (.s (.s .n (.c (.s .n .n) .n)) .n))) .n))))) (.s (.s .n (.c (.s .n .n) .n)) (.s .n .n))))))))))) (by kernel_rfl) (by kernel_rfl)
def sN:aW Tryz.prog:=bw 17 [.d o_,.d gc,.d (.int .i64)] [.d aT,.d (.sl (.int .u8)),.d (.int .i64)] Tryz.func17 jg (tb [xo,oK,ux,cO,dm,o5]) 141 [] [65] (.s .n (.s .n (.s .n (.s (.j ⟨[.d 40 .bool],[2,3,4,6,9,11]⟩ false .n (.c (.s .n .n) .n)) (.s (.s .n (.c (.s .n (.s (.s .n (.c (.s .n .n) .n)) (.s .n .n))) .n)) (.s .n (.s (.s .n (.b (.l (.a 66 65) ⟨[.d 15 (.int .i64),.b 6 34 aT],[2,3,4,6,9,64,65]⟩ (.s .n (.s (.c .n .n) (.j ⟨[.d 15 (.int .i64),.b 6 34 aT],[2,3,4,6,9,64,65,66]⟩ true (.b (.s .n (.b (.j ⟨[.d 71 .bool],[2,3,4,6,9,15,16,17,64,65,66]⟩ false .n (.c (.s (.s .n (.c (.s .n .n) .n)) .n) (.j ⟨[.d 90 .bool],[2,3,4,6,9,15,16,64,65,66]⟩ false .n (.c .n .n))))))) .n)))))) (.s (.b (.s .n (.c (.s .n .n) (.s .n (.c (.s .n .n) .n))))) (.s .n .n))))))))) (by kernel_rfl) (by kernel_rfl)
section
variable {P : Program} {N : Nat} {ops : Array Oper} {F : List (Nat × Value)} {w : World} {rest : List Oper} {K : eT}
variable {ty : TypeId} {pos : String} {af : Array Edge} {g : Option (Nat × Bool)} {d : Nat} {x y : Operand} {t t' : TypeId}
theorem LW.eqlL{a b:Int}{ik:IntKind}{tv:Bool}(he:(a==b)=tv)(hw:Wn ops F g)(hdN:Nat.blt d N=true)(hx:ev F x=some (.int ik a))(hy:ev F y=some (.int ik b))
  (h:LW P N ops rest ((d,.bool tv)::F) w K):LW P N ops (⟨some d,.binOp .eql t x y t',ty,pos,af,g⟩::rest) F w K:=
 LW.eql (kb:=some) (r:=tv) (by rw[he];rfl) hw hdN hx hy (fun c hc=>by cases hc;exact h)
end
open Go.Sort in
theorem MU{lab:bf}{w:World}{kp c:Nat}{oa:Option Addr}{xs:List UInt8}(t:cm lab w)(hkp:kp≠0)(o:cY (rep (.int .u8)) lab w kp 5 oa c xs)(n:UInt64)(hl:xs.length+(Lib.decDigits n.toNat).length≤wZ)(h100:n.toNat<100):
  Calls Tryz.prog 207 [.slice oa xs.length c,.int .u64 (n.toNat:Int),.int .i64 10].toArray w fun e w'=>∃lab' oa' c',e = .returned (.slice oa' (List.length (α:=UInt8) (xs++Lib.decDigits n.toNat)) c')∧gu [kp] lab w lab' w'∧cY (rep (.int .u8)) lab' w' kp 5 oa' c' (xs++Lib.decDigits n.toNat):=by
 have happ:bnd (app xs (Lib.decDigits n.toNat)) some=some (xs++Lib.decDigits n.toNat):=by
  unfold app;rw[if_pos hl];rfl
 have hk0:Nat.beq kp 0=false:=jY hkp
 have hT:gv Tryz.prog 26 5 1 1 (.int .u8 0):=QW.ok
 have hU:Tryz.prog.underlying 9=some .string:=by kernel_rfl
 have hn64:n.toNat<18446744073709551616:=n.toNat_lt
 refine enter Tryz.func207 rfl 36 rfl rfl ?_
 repeat refine CW.seq ?_
 refine CW.region ?_
 refine LW.assign wn rfl rfl ?_
 refine LW.nil ?_
 refine EW.seq_n ?_
 repeat refine CW.seq ?_
 refine CW.region ?_
 refine LW.move wn rfl rfl ?_
 refine LW.eqlL (tv:=true) rfl wn rfl rfl rfl ?_
 refine LW.nil ?_
 refine EW.seq_n ?_
 repeat refine CW.seq ?_
 refine CW.cond_t rfl ?_
 repeat refine CW.seq ?_
 refine CW.region ?_
 refine LW.move wn rfl rfl ?_
 refine LW.lss_lit (tv:=true) (decide_eq_true (by omega)) wn rfl rfl rfl ?_
 refine LW.nil ?_
 refine EW.seq_n ?_
 repeat refine CW.seq ?_
 refine CW.cond_t rfl ?_
 repeat refine CW.seq ?_
 refine CW.region ?_
 refine LW.move wn rfl rfl ?_
 refine LW.move wn rfl rfl ?_
 refine LW.cvt_i64 (k:=some) (r:=(n.toNat:Int)) (by show some (aP (n.toNat:Int))=_;rw[B8 (by omega)]) (by kernel_rfl) (by show Tryz.prog.underlying _=_;kernel_rfl) wn rfl rfl ?_
 intro c1 hc1
 cases hc1
 refine LW.call ⟨Tryz.f258,Tryz.func258,by kernel_rfl,by kernel_rfl⟩ (vs:=[.int .i64 (n.toNat:Int)]) (Tryz.internal_strconv_small n.toNat h100 w) wn rfl rfl ?_
 rintro e w2 ⟨rfl,rfl⟩
 refine⟨_,rfl,?_⟩
 refine LW.appendS (kk:=some) (ys:=Lib.decDigits n.toNat) happ o t hk0 hT hU rfl rfl wn rfl rfl rfl ?_
 intro zs oa2 c2 lab2 w2 hzs hs ho
 cases hzs
 refine LW.assign wn rfl rfl ?_
 refine LW.nil ?_
 refine EW.seq_n ?_
 refine CW.ret ?_
 repeat refine EW.seq_r ?_
 exact EW.ret1 rfl rfl ⟨lab2,oa2,c2,rfl,hs.stp (.inl (by simp)),ho⟩
theorem Fg{a0:List UInt8}{a1:UInt64}{a2:Int}{r:List UInt8}(h:cr a0 a1 a2=some r):a2=10∧a1.toNat<100∧a0.length+(Lib.decDigits a1.toNat).length≤wZ∧r=a0++Lib.decDigits a1.toNat:=by
 unfold cr at h
 cases hb:a2==10&&decide (a1.toNat<100)with
 |false=>rw[hb]at h;cases h
 |true=>
  rw[hb]at h
  obtain⟨h1,h2⟩:=lL h
  simp only[Bool.and_eq_true,beq_iff_eq,decide_eq_true_eq]at hb
  exact⟨hb.1,hb.2,h1,h2⟩
def i6:aW Tryz.prog:=⟨207,[.r 5 (.int .u8),.d (.int .u64),.d (.int .i64)],[.o 5 (.int .u8)],⟨Tryz.f207,Tryz.func207,by kernel_rfl,by kernel_rfl⟩,cr,by
 intro a r h k kp gp lab w vs t gl hkp hk hargs
 match vs,hargs with
 | [v1,v2,v3],hargs=>
  obtain⟨⟨oa,c,rfl,o⟩,h2,h3,_⟩:=hargs
  obtain rfl:=aV.int (k:=.u64) h2
  obtain rfl:=aV.int (k:=.i64) h3
  obtain⟨e10,h100,hlim,rfl⟩:=Fg h
  have hkp:=hkp rfl
  have e10:bH .i64 a.2.2.1=10:=e10
  rw[e10]
  refine(MU t hkp o a.2.1 hlim h100).mono ?_
  rintro e w' ⟨lab',oa',c',rfl,hs,o'⟩
  have tp':cm lab' w':=hs.top
  refine⟨uF lab' oa' k,[_],rfl,hs.trans (o'.stpR tp' k (by simp) hkp),⟨oa',c',rfl,o'.relab tp' k hkp⟩,trivial⟩⟩
def il:aW Tryz.prog:=bw 147 [.r 5 (.int .u8),.d (.int .u64),.d (.int .i64)] [.o 5 (.int .u8)] Tryz.func147 bo (tb [i6]) 11 [] [] (.s .n (.s .n .n)) (by kernel_rfl) (by kernel_rfl)
end
end Go.Proofs.YtimjjookppejeaaGreatDoor
