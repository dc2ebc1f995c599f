/- A part of the proof of TopChain. No condition. -/
import Derived.Test.YtimjjookppejeaaGreatDoorZl
namespace Go.Proofs.YtimjjookppejeaaGreatDoor
open Go.Gk Go.RowKit
set_option maxRecDepth 100000
def bn:List UInt8→Nat
 | []=>0
 |x::l=>x.toNat+256*bn l
theorem tN{b:List UInt8}(h:b.length=32): ∃x0 x1 x2 x3 x4 x5 x6 x7 x8 x9 x10 x11 x12 x13 x14 x15 x16 x17 x18 x19 x20 x21 x22 x23 x24 x25 x26 x27 x28 x29 x30 x31,b = [x0,x1,x2,x3,x4,x5,x6,x7,x8,x9,x10,x11,x12,x13,x14,x15,x16,x17,x18,x19,x20,x21,x22,x23,x24,x25,x26,x27,x28,x29,x30,x31]:=by
 match b,h with
 | [x0,x1,x2,x3,x4,x5,x6,x7,x8,x9,x10,x11,x12,x13,x14,x15,x16,x17,x18,x19,x20,x21,x22,x23,x24,x25,x26,x27,x28,x29,x30,x31],_=>exact⟨x0,x1,x2,x3,x4,x5,x6,x7,x8,x9,x10,x11,x12,x13,x14,x15,x16,x17,x18,x19,x20,x21,x22,x23,x24,x25,x26,x27,x28,x29,x30,x31,rfl⟩
theorem B6 : ∀{l m:List UInt8},l.length=m.length→bn l=bn m→l=m
 | [],[],_,_=>rfl
 | [],_::_,h,_=>by cases h
 |_::_,[],h,_=>by cases h
 |x::l,y::m,h,hv=>by
  have hv:x.toNat+256*bn l=y.toNat+256*bn m:=hv
  have hx:=x.toNat_lt
  have hy:=y.toNat_lt
  rw[UInt8.toNat_inj.1 (show x.toNat=y.toNat by omega),B6 (by simpa using h) (show bn l=bn m by omega)]
def lf(x y:UInt64):UInt64:=(bB .or .u64 x y:UInt64)
def R6(x:UInt64)(n:Int):Option UInt64:=(gE .u64 x n:Option UInt64)
def Sd(x:UInt64)(n:Int):Option UInt64:=(dW .u64 x n:Option UInt64)
theorem zv:(ab 0).toNat=0:=rfl
theorem Sr:(ab 0).toNat<72057594037927936:=by decide
theorem bN(x:UInt64)(c:UInt8)(h:x.toNat<72057594037927936): ∃y,R6 x 8=some y∧(lf y (ab (UInt8.toNat c:Int))).toNat=256*x.toNat+c.toNat:=by
 have hc:=c.toNat_lt
 refine⟨ab ((x.toNat:Int)*256),rfl,?_⟩
 have h1:=gH ((x.toNat:Int)*256)
 have h2:=gH (UInt8.toNat c:Int)
 have h3:(ab ((x.toNat:Int)*256)).toNat=256*x.toNat:=by omega
 have h4:(ab (UInt8.toNat c:Int)).toNat=c.toNat:=by omega
 show UInt64.toNat (bB .or .u64 _ _)=_
 rw[Ru,h3,h4]
 have:=Nat.two_pow_add_eq_or_of_lt (i:=8) (b:=c.toNat) (by omega) x.toNat
 rw[show(2:Nat)^8=256 from rfl]at this
 omega
def L0(sh:UInt64→Int→Option UInt64)(cv:UInt8→UInt64)(orr:UInt64→UInt64→UInt64)(a0:List UInt8):Option (List UInt64):=
 aM (R:=(List UInt64)) (S:=(Int×(List UInt64))) (fun self2 s1=>
 letm (decide (0≤s1.1)) fun x3=>
 cond x3 (bnd (quo s1.1 8) fun x4=>
 bnd (quo s1.1 8) fun x5=>
 bnd (b_ 4 x5) fun x6=>
 bnd (az s1.2 ((0+x6):Int)) fun x7=>
 bnd (sh x7 (UInt64.toNat 8:Int)) fun(x8:UInt64)=>
 bnd (b_ 32 s1.1) fun x9=>
 bnd (az a0 ((0+x9):Int)) fun x10=>
 letm (cv x10) fun x11=>
 letm (orr x8 x11) fun(x12:UInt64)=>
 bnd (b_ 4 x4) fun x13=>
 bnd (az s1.2 ((0+x13):Int)) fun x14=>
 letm ((s1.2.set (0+x13) x12)) fun x15=>
 letm ((aP (s1.1-1))) fun x16=>
 self2 (x16,x15))
 (some s1.2)) bk (31,[(ab 0),(ab 0),(ab 0),(ab 0)])
theorem LM(a0:List UInt8):iX a0=L0 R6 (fun x=>ab (UInt8.toNat x:Int)) lf a0:=Eq.trans rfl rfl
theorem Fm{sh:UInt64→Int→Option UInt64}{cv:UInt8→UInt64}{orr:UInt64→UInt64→UInt64}(x0 x1 x2 x3 x4 x5 x6 x7 x8 x9 x10 x11 x12 x13 x14 x15 x16 x17 x18 x19 x20 x21 x22 x23 x24 x25 x26 x27 x28 x29 x30 x31:UInt8):L0 sh cv orr [x0,x1,x2,x3,x4,x5,x6,x7,x8,x9,x10,x11,x12,x13,x14,x15,x16,x17,x18,x19,x20,x21,x22,x23,x24,x25,x26,x27,x28,x29,x30,x31]=bnd (sh (ab 0) 8) fun y0=>bnd (sh (orr y0 (cv x31)) 8) fun y1=>bnd (sh (orr y1 (cv x30)) 8) fun y2=>bnd (sh (orr y2 (cv x29)) 8) fun y3=>bnd (sh (orr y3 (cv x28)) 8) fun y4=>bnd (sh (orr y4 (cv x27)) 8) fun y5=>bnd (sh (orr y5 (cv x26)) 8) fun y6=>bnd (sh (orr y6 (cv x25)) 8) fun y7=>bnd (sh (ab 0) 8) fun y8=>bnd (sh (orr y8 (cv x23)) 8) fun y9=>bnd (sh (orr y9 (cv x22)) 8) fun y10=>bnd (sh (orr y10 (cv x21)) 8) fun y11=>bnd (sh (orr y11 (cv x20)) 8) fun y12=>bnd (sh (orr y12 (cv x19)) 8) fun y13=>bnd (sh (orr y13 (cv x18)) 8) fun y14=>bnd (sh (orr y14 (cv x17)) 8) fun y15=>bnd (sh (ab 0) 8) fun y16=>bnd (sh (orr y16 (cv x15)) 8) fun y17=>bnd (sh (orr y17 (cv x14)) 8) fun y18=>bnd (sh (orr y18 (cv x13)) 8) fun y19=>bnd (sh (orr y19 (cv x12)) 8) fun y20=>bnd (sh (orr y20 (cv x11)) 8) fun y21=>bnd (sh (orr y21 (cv x10)) 8) fun y22=>bnd (sh (orr y22 (cv x9)) 8) fun y23=>bnd (sh (ab 0) 8) fun y24=>bnd (sh (orr y24 (cv x7)) 8) fun y25=>bnd (sh (orr y25 (cv x6)) 8) fun y26=>bnd (sh (orr y26 (cv x5)) 8) fun y27=>bnd (sh (orr y27 (cv x4)) 8) fun y28=>bnd (sh (orr y28 (cv x3)) 8) fun y29=>bnd (sh (orr y29 (cv x2)) 8) fun y30=>bnd (sh (orr y30 (cv x1)) 8) fun y31=>some [orr y31 (cv x0),orr y23 (cv x8),orr y15 (cv x16),orr y7 (cv x24)]:=by kernel_rfl
theorem Ar{b:List UInt8}(hb:b.length=32): ∃f,iX b=some f∧f.length=4∧vl f=bn b:=by
 obtain⟨x0,x1,x2,x3,x4,x5,x6,x7,x8,x9,x10,x11,x12,x13,x14,x15,x16,x17,x18,x19,x20,x21,x22,x23,x24,x25,x26,x27,x28,x29,x30,x31,rfl⟩:=tN hb
 obtain⟨y0,e0,v0⟩:=bN (ab 0) x31 Sr
 rw[zv]at v0
 have l0:=x31.toNat_lt
 generalize hw0:lf y0 (ab (UInt8.toNat x31:Int))=w0 at v0
 obtain⟨y1,e1,v1⟩:=bN (w0) x30 (by omega)
 have l1:=x30.toNat_lt
 generalize hw1:lf y1 (ab (UInt8.toNat x30:Int))=w1 at v1
 obtain⟨y2,e2,v2⟩:=bN (w1) x29 (by omega)
 have l2:=x29.toNat_lt
 generalize hw2:lf y2 (ab (UInt8.toNat x29:Int))=w2 at v2
 obtain⟨y3,e3,v3⟩:=bN (w2) x28 (by omega)
 have l3:=x28.toNat_lt
 generalize hw3:lf y3 (ab (UInt8.toNat x28:Int))=w3 at v3
 obtain⟨y4,e4,v4⟩:=bN (w3) x27 (by omega)
 have l4:=x27.toNat_lt
 generalize hw4:lf y4 (ab (UInt8.toNat x27:Int))=w4 at v4
 obtain⟨y5,e5,v5⟩:=bN (w4) x26 (by omega)
 have l5:=x26.toNat_lt
 generalize hw5:lf y5 (ab (UInt8.toNat x26:Int))=w5 at v5
 obtain⟨y6,e6,v6⟩:=bN (w5) x25 (by omega)
 have l6:=x25.toNat_lt
 generalize hw6:lf y6 (ab (UInt8.toNat x25:Int))=w6 at v6
 obtain⟨y7,e7,v7⟩:=bN (w6) x24 (by omega)
 have l7:=x24.toNat_lt
 generalize hw7:lf y7 (ab (UInt8.toNat x24:Int))=w7 at v7
 obtain⟨y8,e8,v8⟩:=bN (ab 0) x23 Sr
 rw[zv]at v8
 have l8:=x23.toNat_lt
 generalize hw8:lf y8 (ab (UInt8.toNat x23:Int))=w8 at v8
 obtain⟨y9,e9,v9⟩:=bN (w8) x22 (by omega)
 have l9:=x22.toNat_lt
 generalize hw9:lf y9 (ab (UInt8.toNat x22:Int))=w9 at v9
 obtain⟨y10,e10,v10⟩:=bN (w9) x21 (by omega)
 have l10:=x21.toNat_lt
 generalize hw10:lf y10 (ab (UInt8.toNat x21:Int))=w10 at v10
 obtain⟨y11,e11,v11⟩:=bN (w10) x20 (by omega)
 have l11:=x20.toNat_lt
 generalize hw11:lf y11 (ab (UInt8.toNat x20:Int))=w11 at v11
 obtain⟨y12,e12,v12⟩:=bN (w11) x19 (by omega)
 have l12:=x19.toNat_lt
 generalize hw12:lf y12 (ab (UInt8.toNat x19:Int))=w12 at v12
 obtain⟨y13,e13,v13⟩:=bN (w12) x18 (by omega)
 have l13:=x18.toNat_lt
 generalize hw13:lf y13 (ab (UInt8.toNat x18:Int))=w13 at v13
 obtain⟨y14,e14,v14⟩:=bN (w13) x17 (by omega)
 have l14:=x17.toNat_lt
 generalize hw14:lf y14 (ab (UInt8.toNat x17:Int))=w14 at v14
 obtain⟨y15,e15,v15⟩:=bN (w14) x16 (by omega)
 have l15:=x16.toNat_lt
 generalize hw15:lf y15 (ab (UInt8.toNat x16:Int))=w15 at v15
 obtain⟨y16,e16,v16⟩:=bN (ab 0) x15 Sr
 rw[zv]at v16
 have l16:=x15.toNat_lt
 generalize hw16:lf y16 (ab (UInt8.toNat x15:Int))=w16 at v16
 obtain⟨y17,e17,v17⟩:=bN (w16) x14 (by omega)
 have l17:=x14.toNat_lt
 generalize hw17:lf y17 (ab (UInt8.toNat x14:Int))=w17 at v17
 obtain⟨y18,e18,v18⟩:=bN (w17) x13 (by omega)
 have l18:=x13.toNat_lt
 generalize hw18:lf y18 (ab (UInt8.toNat x13:Int))=w18 at v18
 obtain⟨y19,e19,v19⟩:=bN (w18) x12 (by omega)
 have l19:=x12.toNat_lt
 generalize hw19:lf y19 (ab (UInt8.toNat x12:Int))=w19 at v19
 obtain⟨y20,e20,v20⟩:=bN (w19) x11 (by omega)
 have l20:=x11.toNat_lt
 generalize hw20:lf y20 (ab (UInt8.toNat x11:Int))=w20 at v20
 obtain⟨y21,e21,v21⟩:=bN (w20) x10 (by omega)
 have l21:=x10.toNat_lt
 generalize hw21:lf y21 (ab (UInt8.toNat x10:Int))=w21 at v21
 obtain⟨y22,e22,v22⟩:=bN (w21) x9 (by omega)
 have l22:=x9.toNat_lt
 generalize hw22:lf y22 (ab (UInt8.toNat x9:Int))=w22 at v22
 obtain⟨y23,e23,v23⟩:=bN (w22) x8 (by omega)
 have l23:=x8.toNat_lt
 generalize hw23:lf y23 (ab (UInt8.toNat x8:Int))=w23 at v23
 obtain⟨y24,e24,v24⟩:=bN (ab 0) x7 Sr
 rw[zv]at v24
 have l24:=x7.toNat_lt
 generalize hw24:lf y24 (ab (UInt8.toNat x7:Int))=w24 at v24
 obtain⟨y25,e25,v25⟩:=bN (w24) x6 (by omega)
 have l25:=x6.toNat_lt
 generalize hw25:lf y25 (ab (UInt8.toNat x6:Int))=w25 at v25
 obtain⟨y26,e26,v26⟩:=bN (w25) x5 (by omega)
 have l26:=x5.toNat_lt
 generalize hw26:lf y26 (ab (UInt8.toNat x5:Int))=w26 at v26
 obtain⟨y27,e27,v27⟩:=bN (w26) x4 (by omega)
 have l27:=x4.toNat_lt
 generalize hw27:lf y27 (ab (UInt8.toNat x4:Int))=w27 at v27
 obtain⟨y28,e28,v28⟩:=bN (w27) x3 (by omega)
 have l28:=x3.toNat_lt
 generalize hw28:lf y28 (ab (UInt8.toNat x3:Int))=w28 at v28
 obtain⟨y29,e29,v29⟩:=bN (w28) x2 (by omega)
 have l29:=x2.toNat_lt
 generalize hw29:lf y29 (ab (UInt8.toNat x2:Int))=w29 at v29
 obtain⟨y30,e30,v30⟩:=bN (w29) x1 (by omega)
 have l30:=x1.toNat_lt
 generalize hw30:lf y30 (ab (UInt8.toNat x1:Int))=w30 at v30
 obtain⟨y31,e31,v31⟩:=bN (w30) x0 (by omega)
 have l31:=x0.toNat_lt
 generalize hw31:lf y31 (ab (UInt8.toNat x0:Int))=w31 at v31
 refine⟨[w31,w23,w15,w7],?_,rfl,?_⟩
 ·rw[LM,Fm]
  refine an e0 ?_
  rw[hw0]
  refine an e1 ?_
  rw[hw1]
  refine an e2 ?_
  rw[hw2]
  refine an e3 ?_
  rw[hw3]
  refine an e4 ?_
  rw[hw4]
  refine an e5 ?_
  rw[hw5]
  refine an e6 ?_
  rw[hw6]
  refine an e7 ?_
  rw[hw7]
  refine an e8 ?_
  rw[hw8]
  refine an e9 ?_
  rw[hw9]
  refine an e10 ?_
  rw[hw10]
  refine an e11 ?_
  rw[hw11]
  refine an e12 ?_
  rw[hw12]
  refine an e13 ?_
  rw[hw13]
  refine an e14 ?_
  rw[hw14]
  refine an e15 ?_
  rw[hw15]
  refine an e16 ?_
  rw[hw16]
  refine an e17 ?_
  rw[hw17]
  refine an e18 ?_
  rw[hw18]
  refine an e19 ?_
  rw[hw19]
  refine an e20 ?_
  rw[hw20]
  refine an e21 ?_
  rw[hw21]
  refine an e22 ?_
  rw[hw22]
  refine an e23 ?_
  rw[hw23]
  refine an e24 ?_
  rw[hw24]
  refine an e25 ?_
  rw[hw25]
  refine an e26 ?_
  rw[hw26]
  refine an e27 ?_
  rw[hw27]
  refine an e28 ?_
  rw[hw28]
  refine an e29 ?_
  rw[hw29]
  refine an e30 ?_
  rw[hw30]
  refine an e31 ?_
  rw[hw31]
 ·rw[tX,v31,v30,v29,v28,v27,v26,v25,v24,v23,v22,v21,v20,v19,v18,v17,v16,v15,v14,v13,v12,v11,v10,v9,v8,v7,v6,v5,v4,v3,v2,v1,v0]
  simp only[bn]
  clear v31 l31 e31 hw31 v30 l30 e30 hw30 v29 l29 e29 hw29 v28 l28 e28 hw28 v27 l27 e27 hw27 v26 l26 e26 hw26 v25 l25 e25 hw25 v24 l24 e24 hw24 v23 l23 e23 hw23 v22 l22 e22 hw22 v21 l21 e21 hw21 v20 l20 e20 hw20 v19 l19 e19 hw19 v18 l18 e18 hw18 v17 l17 e17 hw17 v16 l16 e16 hw16 v15 l15 e15 hw15 v14 l14 e14 hw14 v13 l13 e13 hw13 v12 l12 e12 hw12 v11 l11 e11 hw11 v10 l10 e10 hw10 v9 l9 e9 hw9 v8 l8 e8 hw8 v7 l7 e7 hw7 v6 l6 e6 hw6 v5 l5 e5 hw5 v4 l4 e4 hw4 v3 l3 e3 hw3 v2 l2 e2 hw2 v1 l1 e1 hw1 v0 l0 e0 hw0
  omega
theorem bL(x:UInt64)(n:Nat)(h:n<64): ∃y,Sd x (n:Int)=some y∧(aj (UInt64.toNat y:Int)).toNat=x.toNat/2^n%256:=by
 obtain⟨y,h1,h2⟩:=rR x n h
 refine⟨y,h1,?_⟩
 have h3:=u6 (UInt64.toNat y:Int)
 rw[←h2]
 omega
theorem zu{a:Nat}(h:a<2^64):a/2^0%256+256*(a/2^8%256)+65536*(a/2^16%256)+16777216*(a/2^24%256)+4294967296*(a/2^32%256)+1099511627776*(a/2^40%256)+281474976710656*(a/2^48%256)+72057594037927936*(a/2^56%256)=a:=by
 simp only[Nat.reducePow]at h⊢
 omega
def IV(sh:UInt64→Int→Option UInt64)(cv:UInt64→UInt8)(a0:List UInt64):Option (List UInt8):=
 aM (R:=(List UInt8)) (S:=(Int×(List UInt8))) (fun self2 s1=>
 letm (decide (s1.1<32)) fun x3=>
 cond x3 (bnd (quo s1.1 8) fun x4=>
 bnd (b_ 4 x4) fun x5=>
 bnd (az a0 ((0+x5):Int)) fun x6=>
 bnd (Gk.rem s1.1 8) fun x7=>
 letm ((aP (8*x7))) fun x8=>
 bnd (sh x6 x8) fun(x9:UInt64)=>
 letm (cv x9) fun x10=>
 bnd (b_ 32 s1.1) fun x11=>
 bnd (az s1.2 ((0+x11):Int)) fun x12=>
 letm ((s1.2.set (0+x11) x10)) fun x13=>
 letm ((aP (s1.1+1))) fun x14=>
 self2 (x14,x13))
 (some s1.2)) bk (0,[(aj 0),(aj 0),(aj 0),(aj 0),(aj 0),(aj 0),(aj 0),(aj 0),(aj 0),(aj 0),(aj 0),(aj 0),(aj 0),(aj 0),(aj 0),(aj 0),(aj 0),(aj 0),(aj 0),(aj 0),(aj 0),(aj 0),(aj 0),(aj 0),(aj 0),(aj 0),(aj 0),(aj 0),(aj 0),(aj 0),(aj 0),(aj 0)])
theorem G0(a0:List UInt64):dp a0=IV Sd (fun x=>aj (UInt64.toNat x:Int)) a0:=Eq.trans rfl rfl
theorem Te(x0 x1 x2 x3 x4 x5 x6 x7 x8 x9 x10 x11 x12 x13 x14 x15 x16 x17 x18 x19 x20 x21 x22 x23 x24 x25 x26 x27 x28 x29 x30 x31:UInt8):bn [x0,x1,x2,x3,x4,x5,x6,x7,x8,x9,x10,x11,x12,x13,x14,x15,x16,x17,x18,x19,x20,x21,x22,x23,x24,x25,x26,x27,x28,x29,x30,x31]=((x0.toNat)+256*(x1.toNat)+65536*(x2.toNat)+16777216*(x3.toNat)+4294967296*(x4.toNat)+1099511627776*(x5.toNat)+281474976710656*(x6.toNat)+72057594037927936*(x7.toNat))+18446744073709551616*((x8.toNat)+256*(x9.toNat)+65536*(x10.toNat)+16777216*(x11.toNat)+4294967296*(x12.toNat)+1099511627776*(x13.toNat)+281474976710656*(x14.toNat)+72057594037927936*(x15.toNat))+340282366920938463463374607431768211456*((x16.toNat)+256*(x17.toNat)+65536*(x18.toNat)+16777216*(x19.toNat)+4294967296*(x20.toNat)+1099511627776*(x21.toNat)+281474976710656*(x22.toNat)+72057594037927936*(x23.toNat))+6277101735386680763835789423207666416102355444464034512896*((x24.toNat)+256*(x25.toNat)+65536*(x26.toNat)+16777216*(x27.toNat)+4294967296*(x28.toNat)+1099511627776*(x29.toNat)+281474976710656*(x30.toNat)+72057594037927936*(x31.toNat)):=by
 simp only[bn]
 omega
theorem B7{sh:UInt64→Int→Option UInt64}{cv:UInt64→UInt8}(a b c d:UInt64):IV sh cv [a,b,c,d]=bnd (sh a 0) fun y0=>bnd (sh a 8) fun y1=>bnd (sh a 16) fun y2=>bnd (sh a 24) fun y3=>bnd (sh a 32) fun y4=>bnd (sh a 40) fun y5=>bnd (sh a 48) fun y6=>bnd (sh a 56) fun y7=>bnd (sh b 0) fun y8=>bnd (sh b 8) fun y9=>bnd (sh b 16) fun y10=>bnd (sh b 24) fun y11=>bnd (sh b 32) fun y12=>bnd (sh b 40) fun y13=>bnd (sh b 48) fun y14=>bnd (sh b 56) fun y15=>bnd (sh c 0) fun y16=>bnd (sh c 8) fun y17=>bnd (sh c 16) fun y18=>bnd (sh c 24) fun y19=>bnd (sh c 32) fun y20=>bnd (sh c 40) fun y21=>bnd (sh c 48) fun y22=>bnd (sh c 56) fun y23=>bnd (sh d 0) fun y24=>bnd (sh d 8) fun y25=>bnd (sh d 16) fun y26=>bnd (sh d 24) fun y27=>bnd (sh d 32) fun y28=>bnd (sh d 40) fun y29=>bnd (sh d 48) fun y30=>bnd (sh d 56) fun y31=>some [cv y0,cv y1,cv y2,cv y3,cv y4,cv y5,cv y6,cv y7,cv y8,cv y9,cv y10,cv y11,cv y12,cv y13,cv y14,cv y15,cv y16,cv y17,cv y18,cv y19,cv y20,cv y21,cv y22,cv y23,cv y24,cv y25,cv y26,cv y27,cv y28,cv y29,cv y30,cv y31]:=by kernel_rfl
theorem wG{f:List UInt64}(hf:f.length=4): ∃b,dp f=some b∧b.length=32∧bn b=vl f:=by
 obtain⟨a,b,c,d,rfl⟩:=l4 hf
 obtain⟨y0,e0,v0⟩:=bL a 0 (by omega)
 obtain⟨y1,e1,v1⟩:=bL a 8 (by omega)
 obtain⟨y2,e2,v2⟩:=bL a 16 (by omega)
 obtain⟨y3,e3,v3⟩:=bL a 24 (by omega)
 obtain⟨y4,e4,v4⟩:=bL a 32 (by omega)
 obtain⟨y5,e5,v5⟩:=bL a 40 (by omega)
 obtain⟨y6,e6,v6⟩:=bL a 48 (by omega)
 obtain⟨y7,e7,v7⟩:=bL a 56 (by omega)
 obtain⟨y8,e8,v8⟩:=bL b 0 (by omega)
 obtain⟨y9,e9,v9⟩:=bL b 8 (by omega)
 obtain⟨y10,e10,v10⟩:=bL b 16 (by omega)
 obtain⟨y11,e11,v11⟩:=bL b 24 (by omega)
 obtain⟨y12,e12,v12⟩:=bL b 32 (by omega)
 obtain⟨y13,e13,v13⟩:=bL b 40 (by omega)
 obtain⟨y14,e14,v14⟩:=bL b 48 (by omega)
 obtain⟨y15,e15,v15⟩:=bL b 56 (by omega)
 obtain⟨y16,e16,v16⟩:=bL c 0 (by omega)
 obtain⟨y17,e17,v17⟩:=bL c 8 (by omega)
 obtain⟨y18,e18,v18⟩:=bL c 16 (by omega)
 obtain⟨y19,e19,v19⟩:=bL c 24 (by omega)
 obtain⟨y20,e20,v20⟩:=bL c 32 (by omega)
 obtain⟨y21,e21,v21⟩:=bL c 40 (by omega)
 obtain⟨y22,e22,v22⟩:=bL c 48 (by omega)
 obtain⟨y23,e23,v23⟩:=bL c 56 (by omega)
 obtain⟨y24,e24,v24⟩:=bL d 0 (by omega)
 obtain⟨y25,e25,v25⟩:=bL d 8 (by omega)
 obtain⟨y26,e26,v26⟩:=bL d 16 (by omega)
 obtain⟨y27,e27,v27⟩:=bL d 24 (by omega)
 obtain⟨y28,e28,v28⟩:=bL d 32 (by omega)
 obtain⟨y29,e29,v29⟩:=bL d 40 (by omega)
 obtain⟨y30,e30,v30⟩:=bL d 48 (by omega)
 obtain⟨y31,e31,v31⟩:=bL d 56 (by omega)
 refine⟨[aj (UInt64.toNat y0:Int),aj (UInt64.toNat y1:Int),aj (UInt64.toNat y2:Int),aj (UInt64.toNat y3:Int),aj (UInt64.toNat y4:Int),aj (UInt64.toNat y5:Int),aj (UInt64.toNat y6:Int),aj (UInt64.toNat y7:Int),aj (UInt64.toNat y8:Int),aj (UInt64.toNat y9:Int),aj (UInt64.toNat y10:Int),aj (UInt64.toNat y11:Int),aj (UInt64.toNat y12:Int),aj (UInt64.toNat y13:Int),aj (UInt64.toNat y14:Int),aj (UInt64.toNat y15:Int),aj (UInt64.toNat y16:Int),aj (UInt64.toNat y17:Int),aj (UInt64.toNat y18:Int),aj (UInt64.toNat y19:Int),aj (UInt64.toNat y20:Int),aj (UInt64.toNat y21:Int),aj (UInt64.toNat y22:Int),aj (UInt64.toNat y23:Int),aj (UInt64.toNat y24:Int),aj (UInt64.toNat y25:Int),aj (UInt64.toNat y26:Int),aj (UInt64.toNat y27:Int),aj (UInt64.toNat y28:Int),aj (UInt64.toNat y29:Int),aj (UInt64.toNat y30:Int),aj (UInt64.toNat y31:Int)],?_,rfl,?_⟩
 ·rw[G0,B7]
  refine an e0 ?_
  refine an e1 ?_
  refine an e2 ?_
  refine an e3 ?_
  refine an e4 ?_
  refine an e5 ?_
  refine an e6 ?_
  refine an e7 ?_
  refine an e8 ?_
  refine an e9 ?_
  refine an e10 ?_
  refine an e11 ?_
  refine an e12 ?_
  refine an e13 ?_
  refine an e14 ?_
  refine an e15 ?_
  refine an e16 ?_
  refine an e17 ?_
  refine an e18 ?_
  refine an e19 ?_
  refine an e20 ?_
  refine an e21 ?_
  refine an e22 ?_
  refine an e23 ?_
  refine an e24 ?_
  refine an e25 ?_
  refine an e26 ?_
  refine an e27 ?_
  refine an e28 ?_
  refine an e29 ?_
  refine an e30 ?_
  refine an e31 ?_
  rfl
 ·rw[tX,Te,v0,v1,v2,v3,v4,v5,v6,v7,v8,v9,v10,v11,v12,v13,v14,v15,v16,v17,v18,v19,v20,v21,v22,v23,v24,v25,v26,v27,v28,v29,v30,v31,zu a.toNat_lt,zu b.toNat_lt,zu c.toNat_lt,zu d.toNat_lt]
set_option maxRecDepth 100000
def xi(x y:UInt64):UInt64:=(bB .and .u64 x y:UInt64)
theorem Mo(x y:UInt64):(lf x y).toNat=x.toNat ||| y.toNat:=Ru x y
theorem Jm(x y:UInt64):(xi x y).toNat=x.toNat &&& y.toNat:=H2 x y
theorem Mv{l:List UInt64}{i n:Nat}(hl:l.length=n)(hi:i<64*n): ∃w y,l[i/64]?=some w∧ @Eq (Option UInt64) (dW .u64 w ((i%64:Nat):Int)) (some y)∧(xi y 1).toNat=(vl l/2^i)%2:=by
 have hlt:i/64<l.length:=by omega
 obtain⟨y,hy,hyv⟩:=rR l[i/64] (i%64) (by omega)
 refine⟨_,y,List.getElem?_eq_getElem hlt,hy,?_⟩
 rw[Jm,CX l i _ (List.getElem?_eq_getElem hlt),←hyv]
 exact Nat.and_two_pow_sub_one_eq_mod y.toNat 1
theorem DC:jD=some [6346243789798364141,1503914060200516822,0,1152921504606846976]:=by rfl
theorem zo:vl [6346243789798364141,1503914060200516822,0,1152921504606846976]=Go.Ed.pL:=by decide +kernel
theorem Iw(q b p:Nat):(2*(q%p)+b)%p=(2*q+b)%p:=by
 rw[Nat.add_mod,Nat.mul_mod,Nat.mod_mod,←Nat.mul_mod,←Nat.add_mod]
theorem O6{a b:Nat}(ha:a%2=0)(hb:b<2):a ||| b=a+b:=by
 have:=Nat.two_pow_add_eq_or_of_lt (i:=1) (b:=b) (by omega) (a/2)
 rw[show(2:Nat)^1=2 from rfl]at this
 rw[show 2*(a/2)=a by omega]at this
 exact this.symm
theorem Em{l:List UInt64}(hl:l.length=8): ∃r,iQ l=some r∧r.length=4∧vl r=vl l%Go.Ed.pL:=by
 have hP:Go.Ed.pL=7237005577332262213973186563042994240857116359379907606001950938285454250989:=rfl
 unfold iQ
 rw[DC,ae,ao,ao,hl]
 have e:aP (aP (64*((8:Nat):Int))-1)=511:=by decide
 rw[e]
 refine dL (fun n (s:Int×List UInt64)=>s.1+1=(n:Int)∧n≤512∧s.2.length=4∧vl s.2=(vl l/2^n)%Go.Ed.pL) _ ?_ bk 512 _ (by rw[eP];omega) ⟨rfl,by omega,rfl,?_⟩
 ·rintro n ⟨j,z⟩ self ⟨hj,hn,hz,hv⟩ ih
  have hj:j+1=(n:Int):=hj
  refine bO (gT (fun hc=>?_) (fun hc=>?_))
  ·have hc:0≤j:=of_decide_eq_true hc
   obtain⟨i,rfl⟩ : ∃i:Nat,j=(i:Int):=⟨j.toNat,by omega⟩
   have hv:vl z=vl l/2^n%Go.Ed.pL:=hv
   have hzl:vl z<Go.Ed.pL:=by rw[hv];exact Nat.mod_lt _ (by rw[hP];omega)
   obtain⟨s,c,m1,l1,v1,c1⟩:=nY (f:=z) (g:=z) hz hz
   obtain⟨w,y,hw,hy,hb⟩:=Mv (l:=l) (i:=i) (n:=8) hl (by omega)
   have e2:vl l/2^i=2*(vl l/2^n)+(vl l/2^i)%2:=by
    have:vl l/2^n=vl l/2^i/2:=by rw[Nat.div_div_eq_div_mul,←Nat.pow_succ];congr 2;omega
    omega
   refine lb (fun v:List UInt64=>v.length=4∧vl v=(vl l/2^i)%Go.Ed.pL) ?_ ?_
   ·show ∃y,bnd (ck z z) _=some y∧_
    rw[m1,ae]
    obtain⟨a,b,c',d,rfl⟩:=l4 l1
    have q1:b_ 4 0=some 0:=rfl
    have q2:az ([a,b,c',d],c).fst (0+((0:Nat):Int))=some a:=rfl
    rw[q1,ae,q2,ae]
    rw[show quo (i:Int) 64=some ((i/64:Nat):Int)from uL (a:=i) (b:=64) (by decide) (by omega),ae,g8 hw,ae,show Gk.rem (i:Int) 64=some ((i%64:Nat):Int)from rF (a:=i) (b:=64) (by decide),ae]
    rw[hy]
    show ∃y',(bnd (eU [lf a (xi y 1),b,c',d] [6346243789798364141,1503914060200516822,0,1152921504606846976]) _)=some y'∧_
    rw[tX]at v1
    have hc0:c.toNat=0:=by omega
    rw[hc0]at v1
    have hor:(lf a (xi y 1)).toNat=a.toNat+(vl l/2^i)%2:=by
     rw[Mo,hb]
     exact O6 (by omega) (by omega)
    have hvv:vl [lf a (xi y 1),b,c',d]=2*vl z+(vl l/2^i)%2:=by
     rw[tX,hor];omega
    have hfin:(2*vl z+(vl l/2^i)%2)%Go.Ed.pL=(vl l/2^i)%Go.Ed.pL:=by
     rw[hv,Iw,←e2]
    rw[uV rfl rfl,ae,hvv,zo,ao]
    by_cases hlt:2*vl z+(vl l/2^i)%2<Go.Ed.pL
    ·rw[decide_eq_true hlt]
     refine⟨[lf a (xi y 1),b,c',d],rfl,rfl,?_⟩
     rw[hvv,←hfin,Nat.mod_eq_of_lt hlt]
    ·rw[decide_eq_false hlt]
     obtain⟨t,u,k1,k2,k3,k4⟩:=ib (f:=[lf a (xi y 1),b,c',d]) (g:=[6346243789798364141,1503914060200516822,0,1152921504606846976]) rfl rfl
     rw[hvv,zo]at k3
     have ht:=dJ k2
     refine⟨t,?_,k2,?_⟩
     ·exact an k1 rfl
     ·have hu:u.toNat=0:=by omega
      rw[hu]at k3
      have:2*vl z+(vl l/2^i)%2=vl t+Go.Ed.pL:=by omega
      rw[←hfin,this,Nat.add_mod_right,Nat.mod_eq_of_lt (by omega)]
   ·rintro v ⟨h1,h2⟩
    refine bO ?_
    rw[cn (by show _≤(i:Int)-1∧(i:Int)-1<_;omega)]
    exact ih i _ (by omega) ⟨by show(i:Int)-1+1=_;omega,by omega,h1,h2⟩
  ·have hc : ¬0≤j:=of_decide_eq_false hc
   obtain rfl:n=0:=by omega
   exact⟨z,rfl,hz,by rw[hv,Nat.pow_zero,Nat.div_one]⟩
 ·have:vl l/2^512=0:=Nat.div_eq_of_lt (by have:=Jq l;rw[hl,show 64*8=512 from rfl]at this;exact this)
  rw[this]
  rfl
def Tf(ad:UInt64→UInt64→UInt64→Option (UInt64×UInt64))(rs:List UInt64→Option (List UInt64))(x3 a2:List UInt64):Option (List UInt64):=
 aM (R:=(List UInt64)) (S:=(UInt64×(Int×(List UInt64)))) (fun self5 s4=>
 letm (decide (s4.2.1<8)) fun x6=>
 cond x6 (bnd (β:=UInt64) (letm (decide (s4.2.1<4)) fun x7=>
 cond x7 (bnd (b_ 4 s4.2.1) fun x8=>
 bnd (az a2 ((0+x8):Int)) fun x9=>
 some x9)
 (some 0)) fun v10=>
 bnd (b_ 8 s4.2.1) fun x11=>
 bnd (az s4.2.2 ((0+x11):Int)) fun x12=>
 bnd (ad x12 v10 s4.1) fun x13=>
 bnd (b_ 8 s4.2.1) fun x14=>
 bnd (az s4.2.2 ((0+x14):Int)) fun _=>
 letm ((s4.2.2.set (0+x14) x13.1)) fun x16=>
 letm ((aP (s4.2.1+1))) fun x17=>
 self5 (x13.2,(x17,x16)))
 (bnd (rs s4.2.2) fun x18=>
 some x18)) bk (0,(0,x3))
theorem Qm(a0 a1 a2:List UInt64):iu a0 a1 a2=bnd (gF a0 a1) fun x3=>Tf bl iQ x3 a2:=by delta iu Tf;exact Eq.refl _
theorem J9{ad:UInt64→UInt64→UInt64→Option (UInt64×UInt64)}{rs:List UInt64→Option (List UInt64)}(z0 z1 z2 z3 z4 z5 z6 z7 f0 f1 f2 f3:UInt64):Tf ad rs [z0,z1,z2,z3,z4,z5,z6,z7] [f0,f1,f2,f3] =
 bnd (ad z0 f0 0) fun r0=>bnd (ad z1 f1 r0.2) fun r1=>bnd (ad z2 f2 r1.2) fun r2=>bnd (ad z3 f3 r2.2) fun r3=>bnd (ad z4 0 r3.2) fun r4=>bnd (ad z5 0 r4.2) fun r5=>bnd (ad z6 0 r5.2) fun r6=>bnd (ad z7 0 r6.2) fun r7=>bnd (rs [r0.1,r1.1,r2.1,r3.1,r4.1,r5.1,r6.1,r7.1]) fun x=>some x:=by kernel_rfl
theorem Ug(a b c d e f g h:UInt64):vl [a,b,c,d,e,f,g,h]=vl [a,b,c,d]+115792089237316195423570985008687907853269984665640564039457584007913129639936*vl [e,f,g,h]:=by
 simp only[vl];omega
theorem DS{s0 s1 s2 s3 d0 d1 d2 d3 z0 z1 z2 z3 f0 f1 f2 f3 c:UInt64}(k0:s0.toNat+18446744073709551616*d0.toNat=z0.toNat+f0.toNat+c.toNat)(k1:s1.toNat+18446744073709551616*d1.toNat=z1.toNat+f1.toNat+d0.toNat)
  (k2:s2.toNat+18446744073709551616*d2.toNat=z2.toNat+f2.toNat+d1.toNat) (k3:s3.toNat+18446744073709551616*d3.toNat=z3.toNat+f3.toNat+d2.toNat) :
  vl [s0,s1,s2,s3]+115792089237316195423570985008687907853269984665640564039457584007913129639936*d3.toNat=vl [z0,z1,z2,z3]+vl [f0,f1,f2,f3]+c.toNat:=by
 rw[tX,tX,tX];omega
theorem F9{f g h:List UInt64}(hf:f.length=4)(hg:g.length=4)(hh:h.length=4): ∃r,iu f g h=some r∧r.length=4∧vl r=(vl f*vl g+vl h)%Go.Ed.pL:=by
 obtain⟨z,e0,l0,v0⟩:=DQ hf hg
 have b1:=dJ hf
 have b2:=dJ hg
 have b3:=dJ hh
 have hm:vl f*vl g≤115792089237316195423570985008687907853269984665640564039457584007913129639935*115792089237316195423570985008687907853269984665640564039457584007913129639935:=Nat.mul_le_mul (by omega) (by omega)
 rw[←v0]at hm⊢
 obtain⟨z0,z1,z2,z3,z4,z5,z6,z7,rfl⟩:=l8 l0
 obtain⟨f0,f1,f2,f3,rfl⟩:=l4 hh
 obtain⟨s0,d0,a0,k0,c0⟩:=iL z0 f0 0 (by decide)
 obtain⟨s1,d1,a1,k1,c1⟩:=iL z1 f1 d0 c0
 obtain⟨s2,d2,a2,k2,c2⟩:=iL z2 f2 d1 c1
 obtain⟨s3,d3,a3,k3,c3⟩:=iL z3 f3 d2 c2
 obtain⟨s4,d4,a4,k4,c4⟩:=iL z4 0 d3 c3
 obtain⟨s5,d5,a5,k5,c5⟩:=iL z5 0 d4 c4
 obtain⟨s6,d6,a6,k6,c6⟩:=iL z6 0 d5 c5
 obtain⟨s7,d7,a7,k7,c7⟩:=iL z7 0 d6 c6
 obtain⟨r,hr,lr,vr⟩:=Em (l:=[s0,s1,s2,s3,s4,s5,s6,s7]) rfl
 refine⟨r,?_,lr,?_⟩
 ·rw[Qm,e0,ae,J9]
  simp only[a0,a1,a2,a3,a4,a5,a6,a7,ae,hr]
 ·have hs:vl [s0,s1,s2,s3,s4,s5,s6,s7]=vl [z0,z1,z2,z3,z4,z5,z6,z7]+vl [f0,f1,f2,f3]:=?_
  ·rw[vr,hs]
  have A:=DS k0 k1 k2 k3
  have B:=DS k4 k5 k6 k7
  have Z:vl [(0:UInt64),0,0,0]=0:=rfl
  rw[Z]at B
  rw[KS]at A
  rw[Ug]at hm⊢
  rw[Ug]
  have b4:=dJ (l:=[s0,s1,s2,s3]) rfl
  have b5:=dJ (l:=[s4,s5,s6,s7]) rfl
  clear v0 vr hr a0 a1 a2 a3 a4 a5 a6 a7 e0 k0 k1 k2 k3 k4 k5 k6 k7
  generalize vl [s0,s1,s2,s3]=x0 at *
  generalize vl [s4,s5,s6,s7]=x1 at *
  generalize vl [z0,z1,z2,z3]=x2 at *
  generalize vl [z4,z5,z6,z7]=x3 at *
  generalize vl [f0,f1,f2,f3]=x4 at *
  omega
theorem tj{R S α:Type}{bn:Nat→S→Option R}{bs:α→Nat→S→(S→Option R)→Option R}(I:S→Prop)(Q:R→Prop)(m:Nat)(hn : ∀k s,I s→∃r,bn k s=some r∧Q r)
  (hs : ∀x k s self,k<m→I s→(∀s',I s'→∃r,self s'=some r∧Q r)→∃r,bs x k s self=some r∧Q r) : ∀(xs:List α) (k:Nat) (s:S),k+xs.length≤m→I s→∃r,cS bn bs xs k s=some r∧Q r
 | [],k,s,_,h=>hn k s h
 |x::xs,k,s,hl,h=>by
  have hl:k+(xs.length+1)≤m:=hl
  exact hs x k s _ (by omega) h (fun s' h'=>tj I Q m hn hs xs (k+1) s' (by omega) h')
theorem HR{xs:List (List UInt8)}{j h:List UInt8}(hj:fV xs []=some j)(hh:gY j=some h)(hl:h.length=64): ∃r,cU xs=some r∧r.length=4:=by
 unfold cU
 rw[hj,ae,hh,ae]
 refine tj (fun s:List UInt64=>s.length=8) (fun r:List UInt64=>r.length=4) 64 ?_ ?_ h 0 _ (by omega) rfl
 ·intro k s hs
  obtain⟨r,h1,h2,_⟩:=Em hs
  exact⟨r,by rw[h1,ae],h2⟩
 ·intro x k s self hk hs ih
  have hlt:k/8<s.length:=by omega
  rw[show quo (k:Int) 8=some ((k/8:Nat):Int)from uL (a:=k) (b:=8) (by decide) (by omega),ae]
  have e1:b_ 8 ((k/8:Nat):Int)=some (k/8):=by unfold b_;rw[if_pos (by omega),Int.toNat_natCast]
  rw[e1,ae,Int.zero_add,g8 (List.getElem?_eq_getElem hlt),ae,ao,show Gk.rem (k:Int) 8=some ((k%8:Nat):Int)from rF (a:=k) (b:=8) (by decide),ae,ao]
  rw[cn (by omega)]
  obtain⟨y,hy⟩ : ∃y:UInt64,@Eq (Option UInt64) (gE .u64 (ab (UInt8.toNat x:Int)) (8*((k%8:Nat):Int))) (some y):=by
   show ∃y:UInt64,(if(8*((k%8:Nat):Int))<0 then none else some (iU .u64 (bH .u64 (ab (UInt8.toNat x:Int))*2^min (8*((k%8:Nat):Int)).toNat (IntKind.u64).bits)))=some y
   exact⟨_,if_neg (by omega)⟩
  obtain⟨r,h1,h2⟩:=ih (s.set (0+k/8) (lf s[k/8] y)) (by rw[List.length_set];exact hs)
  refine⟨r,an hy ?_,h2⟩
  show(bnd (some (k/8)) fun x18:Nat=>bnd (az s (0+(x18:Int))) fun _=>letm (s.set (0+x18) (lf s[k/8] y)) fun x20=>self x20)=some r
  rw[ae]
  refine an (y:=s[k/8]) ?_ h1
  rw[Int.zero_add]
  exact g8 (List.getElem?_eq_getElem hlt)
end Go.Proofs.YtimjjookppejeaaGreatDoor
