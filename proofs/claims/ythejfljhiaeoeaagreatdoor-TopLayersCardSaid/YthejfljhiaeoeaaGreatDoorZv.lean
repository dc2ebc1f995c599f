import Derived.Test.YthejfljhiaeoeaaGreatDoorZu
namespace Go.Proofs.YthejfljhiaeoeaaGreatDoor
open Go.Gk Go.RowKit
noncomputable section
set_option maxRecDepth 100000
instance(n:Nat):OfNat (db .u16) n:=inferInstanceAs (OfNat Int n)
def mB(a0:(List Int)):Option ab:=
 some (a0,0)
def fG(a0:Int)(a1:Int):Option Int:=
 bnd (Gk.rem a0 a1) fun x2=>
 bnd (β:=Int) (letm (decide (x2<0)) fun x3=>
 cond x3 (letm ((aF (x2+a1))) fun x4=>
 some x4)
 (some x2)) fun v5=>
 some v5
def ah(a0:ab)(a1:Int):Option (Int×ab):=
 letm (decide ((a0.1.length:Int)≤a0.2)) fun x2=>
 cond x2 (some (0,a0))
 (letm ((aF (a0.2+1))) fun x3=>
 letm ((aF (x3-1))) fun x4=>
 bnd (aV a0.1 x4) fun x5=>
 bnd (fG x5 a1) fun x6=>
 some (x6,(a0.1,x3)))
def aH(a0:ab)(a1:Int):Option ((List UInt8)×ab):=
 letm ((aF (a1+1))) fun x2=>
 bnd (ah a0 x2) fun x3=>
 bo (R:=((List UInt8)×ab)) (S:=((List UInt8)×(Int×ab))) (fun self5 s4=>
 letm (decide (0<s4.2.1)) fun x6=>
 cond x6 (bnd (ah s4.2.2 256) fun x7=>
 letm ((ar x7.1)) fun x8=>
 bnd (cO s4.1 [x8]) fun x9=>
 letm ((aF (s4.2.1-1))) fun x10=>
 self5 (x9,(x10,x7.2)))
 (some (s4.1,s4.2.2))) cS ([],(x3.1,x3.2))
def dM:Option (List Int):=
 some [1,3,4,6,8,11,11,12,14,15,17,23,27,28,35,60,252,258,292,9,2,13,300,65535]
def jq(a0:am)(a1:Int):Option (List (List UInt8)):=
 a6 (R:=(List (List UInt8))) (S:=(List (List UInt8))) (α:=ai) (fun _ s3=>
 some s3)
 (fun x4 _ s6 self7=>
 bnd (β:=(List (List UInt8))) (letm ((x4.1==a1)) fun x8=>
 cond x8 (bnd (cO [] x4.2) fun x9=>
 bnd (cO s6 [x9]) fun x10=>
 some x10)
 (some s6)) fun v11=>
 self7 v11) a0.2.2.2.2.1 0 []
def dY(a0:am)(a1:Int):Option (List (List UInt8)):=
 a6 (R:=(List (List UInt8))) (S:=(List (List UInt8))) (α:=ai) (fun _ s3=>
 some s3)
 (fun x4 _ s6 self7=>
 bnd (β:=(List (List UInt8))) (letm ((x4.1==a1)) fun x8=>
 cond x8 (bnd (cO [] x4.2) fun x9=>
 bnd (cO s6 [x9]) fun x10=>
 some x10)
 (some s6)) fun v11=>
 self7 v11) a0.2.2.2.2.1 0 []
def eL(a0:am)(a1:(List ai)):Option am:=
 bnd (cO [] a0.2.2.2.1) fun x2=>
 bnd (cO [] a0.2.2.2.2.2) fun x3=>
 a6 (R:=am) (S:=(List ai)) (α:=ai) (fun _ s5=>
 some (a0.1,(a0.2.1,(a0.2.2.1,(x2,(s5,x3))))))
 (fun x6 _ s8 self9=>
 bnd (cO [] x6.2) fun x10=>
 bnd (cO s8 [(x6.1,x10)]) fun x11=>
 self9 x11) a1 0 []
def dP(a0:am)(a1:Int)(a2:(List (List UInt8))):Option am:=
 a6 (R:=am) (S:=(List ai)) (α:=ai) (fun _ s4=>
 a6 (R:=am) (S:=(List ai)) (α:=(List UInt8)) (fun _ s6=>
 a6 (R:=am) (S:=(List ai)) (α:=ai) (fun _ s8=>
 bnd (eL a0 s8) fun x9=>
 some x9)
 (fun x10 _ s12 self13=>
 bnd (β:=(List ai)) (letm (decide (a1<x10.1)) fun x14=>
 cond x14 (bnd (cO s12 [x10]) fun x15=>
 some x15)
 (some s12)) fun v16=>
 self13 v16) a0.2.2.2.2.1 0 s6)
 (fun x17 _ s19 self20=>
 bnd (cO s19 [(a1,x17)]) fun x21=>
 self20 x21) a2 0 s4)
 (fun x22 _ s24 self25=>
 bnd (β:=(List ai)) (letm (decide (x22.1<a1)) fun x26=>
 cond x26 (bnd (cO s24 [x22]) fun x27=>
 some x27)
 (some s24)) fun v28=>
 self25 v28) a0.2.2.2.2.1 0 []
def dE(a0:ab)(a1:Int):Option ((List ai)×ab):=
 letm ((aF (a1+1))) fun x2=>
 bnd (ah a0 x2) fun x3=>
 bo (R:=((List ai)×ab)) (S:=(Int×(ab×am))) (fun self5 s4=>
 letm (decide (0<s4.1)) fun x6=>
 cond x6 (bnd (dM) fun x7=>
 bnd (ah s4.2.1 24) fun x8=>
 bnd (aV x7 x8.1) fun x9=>
 bnd (dY s4.2.2 x9) fun x10=>
 bnd (aH x8.2 5) fun x11=>
 bnd (cO x10 [x11.1]) fun x12=>
 bnd (dP s4.2.2 x9 x12) fun x13=>
 letm ((aF (s4.1-1))) fun x14=>
 self5 (x14,(x11.2,x13)))
 (some (s4.2.2.2.2.2.2.1,s4.2.1))) cS (x3.1,(x3.2,(0,(0,(0,([],([],[])))))))
def gh(a0:am):Option am:=
 bnd (cO [] a0.2.2.2.1) fun x1=>
 bnd (cO [] a0.2.2.2.2.2) fun x2=>
 a6 (R:=am) (S:=(List ai)) (α:=ai) (fun _ s4=>
 some (a0.1,(a0.2.1,(a0.2.2.1,(x1,(s4,x2))))))
 (fun x5 _ s7 self8=>
 bnd (cO [] x5.2) fun x9=>
 bnd (cO s7 [(x5.1,x9)]) fun x10=>
 self8 x10) a0.2.2.2.2.1 0 []
def dw(a0:ab)(a1:Int):Option (am×ab):=
 bnd (ah a0 2) fun x2=>
 bnd (ah x2.2 65536) fun x3=>
 bnd (aH x3.2 4) fun x4=>
 bnd (dE x4.2 5) fun x5=>
 bnd (aH x5.2 20) fun x6=>
 bnd (β:=(ab×am)) (letm ((a1==0)) fun x7=>
 cond x7 (bnd (ah x6.2 4) fun x8=>
 some (x8.2,(x8.1,(a1,(x3.1,([],([],[])))))))
 (some (x6.2,(x2.1,(a1,(x3.1,(x4.1,(x5.1,x6.1)))))))) fun v9=>
 bnd (gh v9.2) fun x10=>
 some (x10,v9.1)
def gT(a0:am):Option Bool:=
 bnd (Gk.shr a0.2.1 (UInt64.toNat 5:Int)) fun x1=>
 bnd (β:=Bool) (letm (decide (a0.1<0)) fun x2=>
 cond x2 (some true)
 (letm (decide (3<a0.1)) fun x3=>
 cond x3 (some true)
 (letm (decide (a0.2.1<0)) fun x4=>
 cond x4 (some true)
 (letm (decide (255<a0.2.1)) fun x5=>
 cond x5 (some true)
 (letm ((x1 != 0)) fun x6=>
 cond x6 (letm ((x1 != 2)) fun x7=>
 cond x7 (letm ((x1 != 4)) fun x8=>
 cond x8 (letm ((x1 != 5)) fun x9=>
 some x9)
 (some false))
 (some false))
 (some false)))))) fun v10=>
 cond v10 (some false)
 (bnd (β:=Bool) (letm (decide (a0.2.2.1<0)) fun x11=>
 cond x11 (some true)
 (letm (decide (65535<a0.2.2.1)) fun x12=>
 cond x12 (some true)
 (letm (decide (8<(a0.2.2.2.1.length:Int))) fun x13=>
 cond x13 (some true)
 (letm (decide (32<(a0.2.2.2.2.1.length:Int))) fun x14=>
 some x14)))) fun v15=>
 cond v15 (some false)
 (a6 (R:=Bool) (S:=Int) (α:=ai) (fun _ _=>
 bnd (β:=Bool) (letm ((a0.2.1==0)) fun x18=>
 cond x18 (letm ((aF ((a0.2.2.2.1.length:Int)+(a0.2.2.2.2.1.length:Int)))) fun x19=>
 letm ((aF (x19+(a0.2.2.2.2.2.length:Int)))) fun x20=>
 letm (decide (0<x20)) fun x21=>
 some x21)
 (some false)) fun v22=>
 cond v22 (some false)
 (bnd (β:=Bool) (letm ((a0.1 != 3)) fun x23=>
 cond x23 (letm (decide ((a0.2.2.2.2.2.length:Int)≤4096)) fun x24=>
 some x24)
 (letm ((a0.2.1==0)) fun x25=>
 cond x25 (letm (decide ((a0.2.2.2.2.2.length:Int)≤4096)) fun x26=>
 some x26)
 (some false))) fun v27=>
 some v27))
 (fun x28 _ s30 self31=>
 bnd (β:=Bool) (letm (decide (x28.1<s30)) fun x32=>
 cond x32 (some true)
 (letm (decide (65535<x28.1)) fun x33=>
 cond x33 (some true)
 (letm (decide (1034<(x28.2.length:Int))) fun x34=>
 some x34))) fun v35=>
 cond v35 (some false)
 (self31 x28.1)) a0.2.2.2.2.1 0 0))
def gP(a0:Int):Option (UInt8×(List UInt8)):=
 letm (decide (a0<13)) fun x1=>
 cond x1 (letm ((ar a0)) fun x2=>
 some (x2,[]))
 (letm (decide (a0<269)) fun x3=>
 cond x3 (letm ((aF (a0-13))) fun x4=>
 letm ((ar x4)) fun x5=>
 some (13,[x5]))
 (letm ((aF (a0-269))) fun x6=>
 bnd (Gk.shr x6 (UInt64.toNat 8:Int)) fun x7=>
 letm ((ar x7)) fun x8=>
 letm ((aF (a0-269))) fun x9=>
 letm ((ar x9)) fun x10=>
 some (14,[x8,x10])))
def fR(a0:am):Option (List UInt8):=
 bnd (Gk.shl a0.1 (UInt64.toNat 4:Int)) fun x1=>
 letm ((rN .or 64 x1)) fun x2=>
 letm ((rN .or x2 (a0.2.2.2.1.length:Int))) fun x3=>
 letm ((ar x3)) fun x4=>
 letm ((ar a0.2.1)) fun x5=>
 bnd (Gk.shr a0.2.2.1 (UInt64.toNat 8:Int)) fun x6=>
 letm ((ar x6)) fun x7=>
 letm ((ar a0.2.2.1)) fun x8=>
 bnd (cO [x4,x5,x7,x8] a0.2.2.2.1) fun x9=>
 a6 (R:=(List UInt8)) (S:=((List UInt8)×Int)) (α:=ai) (fun _ s11=>
 bnd (β:=(List UInt8)) (letm (decide (0<(a0.2.2.2.2.2.length:Int))) fun x12=>
 cond x12 (bnd (cO s11.1 [255]) fun x13=>
 bnd (cO x13 a0.2.2.2.2.2) fun x14=>
 some x14)
 (some s11.1)) fun v15=>
 some v15)
 (fun x16 _ s18 self19=>
 letm ((aF (x16.1-s18.2))) fun x20=>
 bnd (gP x20) fun x21=>
 bnd (gP (x16.2.length:Int)) fun x22=>
 bnd (et .u8 x21.1 (UInt64.toNat 4:Int)) fun x23=>
 letm ((ar (bits .or .u8 (UInt8.toNat x23) (UInt8.toNat x22.1)))) fun x24=>
 bnd (cO s18.1 [x24]) fun x25=>
 bnd (cO x25 x21.2) fun x26=>
 bnd (cO x26 x22.2) fun x27=>
 bnd (cO x27 x16.2) fun x28=>
 self19 (x28,x16.1)) a0.2.2.2.2.1 0 (x9,0)
def ky(a0:am):Option ((List UInt8)×Int):=
 bnd (gT a0) fun x1=>
 letm ((!x1)) fun x2=>
 cond x2 (some ([],1))
 (bnd (fR a0) fun x3=>
 letm (decide (4096<(x3.length:Int))) fun x4=>
 cond x4 (some ([],1))
 (some (x3,0)))
def iB:Option az:=
 some ((Tr.mk 5 0 [] []),(Tr.mk 5 0 [] []))
def av(a0:Int):Option Go.Gk.Tr:=
 letm (decide (a0<0)) fun x1=>
 cond x1 (letm ((aF ((-1)-a0))) fun x2=>
 letm ((aC x2)) fun x3=>
 some (Tr.mk 1 x3 [] []))
 (letm ((aC a0)) fun x4=>
 some (Tr.mk 0 x4 [] []))
def aq(a0:(List UInt8)):Option UInt64:=
 bnd (aV a0 0) fun x1=>
 letm ((aC (UInt8.toNat x1:Int))) fun x2=>
 bnd (aV a0 1) fun x3=>
 letm ((aC (UInt8.toNat x3:Int))) fun x4=>
 bnd ((et .u64 (x4:UInt64) (UInt64.toNat 8:Int):Option UInt64)) fun(x5:UInt64)=>
 letm ((aU .or .u64 (x2:UInt64) (x5:UInt64):UInt64)) fun x6=>
 bnd (aV a0 2) fun x7=>
 letm ((aC (UInt8.toNat x7:Int))) fun x8=>
 bnd ((et .u64 (x8:UInt64) (UInt64.toNat 16:Int):Option UInt64)) fun(x9:UInt64)=>
 letm ((aU .or .u64 (x6:UInt64) (x9:UInt64):UInt64)) fun x10=>
 bnd (aV a0 3) fun x11=>
 letm ((aC (UInt8.toNat x11:Int))) fun x12=>
 bnd ((et .u64 (x12:UInt64) (UInt64.toNat 24:Int):Option UInt64)) fun(x13:UInt64)=>
 letm ((aU .or .u64 (x10:UInt64) (x13:UInt64):UInt64)) fun x14=>
 bnd (aV a0 4) fun x15=>
 letm ((aC (UInt8.toNat x15:Int))) fun x16=>
 bnd ((et .u64 (x16:UInt64) (UInt64.toNat 32:Int):Option UInt64)) fun(x17:UInt64)=>
 letm ((aU .or .u64 (x14:UInt64) (x17:UInt64):UInt64)) fun x18=>
 bnd (aV a0 5) fun x19=>
 letm ((aC (UInt8.toNat x19:Int))) fun x20=>
 bnd ((et .u64 (x20:UInt64) (UInt64.toNat 40:Int):Option UInt64)) fun(x21:UInt64)=>
 letm ((aU .or .u64 (x18:UInt64) (x21:UInt64):UInt64)) fun x22=>
 bnd (aV a0 6) fun x23=>
 letm ((aC (UInt8.toNat x23:Int))) fun x24=>
 bnd ((et .u64 (x24:UInt64) (UInt64.toNat 48:Int):Option UInt64)) fun(x25:UInt64)=>
 letm ((aU .or .u64 (x22:UInt64) (x25:UInt64):UInt64)) fun x26=>
 bnd (aV a0 7) fun x27=>
 letm ((aC (UInt8.toNat x27:Int))) fun x28=>
 bnd ((et .u64 (x28:UInt64) (UInt64.toNat 56:Int):Option UInt64)) fun(x29:UInt64)=>
 letm ((aU .or .u64 (x26:UInt64) (x29:UInt64):UInt64)) fun x30=>
 some x30
def bk(a0:(List UInt8)):Option Bool:=
 bnd (Gk.cut a0 0 (a0.length:Int)) fun x1=>
 bnd (Gk.cut x1 0 (a0.length:Int)) fun x2=>
 fI (ρ:=Bool) (ρ':=Bool) (Y:=Unit) (bo (R:=(Bool⊕Unit)) (S:=(List UInt8)) (fun self4 s3=>
 letm (decide (0<(s3.length:Int))) fun x5=>
 cond x5 (bnd (aV s3 0) fun x6=>
 letm (decide ((UInt8.toNat x6:Int)<(UInt8.toNat 128:Int))) fun x7=>
 cond x7 (bnd (Gk.cut s3 1 (s3.length:Int)) fun x8=>
 bnd (β:=Bool) (letm (decide (8<(x8.length:Int))) fun x9=>
 cond x9 (bnd (aq x8) fun x10=>
 letm ((aU .and .u64 (x10:UInt64) (9259542123273814144:UInt64):UInt64)) fun x11=>
 letm (((UInt64.toNat x11:Int)==(UInt64.toNat 0:Int))) fun x12=>
 some x12)
 (some false)) fun v13=>
 cond v13 (bnd (Gk.cut x8 8 (x8.length:Int)) fun x14=>
 bnd (β:=Bool) (letm (decide (16<(x14.length:Int))) fun x15=>
 cond x15 (bnd (aq x14) fun x16=>
 bnd (Gk.cut x14 8 (x14.length:Int)) fun x17=>
 bnd (aq x17) fun x18=>
 letm ((aU .or .u64 (x16:UInt64) (x18:UInt64):UInt64)) fun x19=>
 letm ((aU .and .u64 (x19:UInt64) (9259542123273814144:UInt64):UInt64)) fun x20=>
 letm (((UInt64.toNat x20:Int)==(UInt64.toNat 0:Int))) fun x21=>
 some x21)
 (some false)) fun v22=>
 cond v22 (bnd (Gk.cut x14 16 (x14.length:Int)) fun x23=>
 bo (R:=(Bool⊕Unit)) (S:=(List UInt8)) (fun self25 s24=>
 bnd (β:=Bool) (letm (decide (32<(s24.length:Int))) fun x26=>
 cond x26 (bnd (aq s24) fun x27=>
 bnd (Gk.cut s24 8 (s24.length:Int)) fun x28=>
 bnd (aq x28) fun x29=>
 letm ((aU .or .u64 (x27:UInt64) (x29:UInt64):UInt64)) fun x30=>
 bnd (Gk.cut s24 16 (s24.length:Int)) fun x31=>
 bnd (aq x31) fun x32=>
 bnd (Gk.cut s24 24 (s24.length:Int)) fun x33=>
 bnd (aq x33) fun x34=>
 letm ((aU .or .u64 (x32:UInt64) (x34:UInt64):UInt64)) fun x35=>
 letm ((aU .or .u64 (x30:UInt64) (x35:UInt64):UInt64)) fun x36=>
 letm ((aU .and .u64 (x36:UInt64) (9259542123273814144:UInt64):UInt64)) fun x37=>
 letm (((UInt64.toNat x37:Int)==(UInt64.toNat 0:Int))) fun x38=>
 some x38)
 (some false)) fun v39=>
 cond v39 (bnd (Gk.cut s24 32 (s24.length:Int)) fun x40=>
 self25 x40)
 (self4 s24)) cS x23)
 (self4 x14))
 (self4 x8))
 (bnd (aV pD (UInt8.toNat x6:Int)) fun x41=>
 letm ((ar (bits .and .u8 (UInt8.toNat x41) (UInt8.toNat 7)))) fun x42=>
 letm ((aF (UInt8.toNat x42:Int))) fun x43=>
 bnd (c_ .u8 x41 (UInt64.toNat 4:Int)) fun x44=>
 bnd (aV px (UInt8.toNat x44:Int)) fun x45=>
 letm ((x43==2)) fun x46=>
 cond x46 (bnd (β:=Bool) (letm (decide ((s3.length:Int)<2)) fun x47=>
 cond x47 (some true)
 (bnd (aV s3 1) fun x48=>
 letm (decide ((UInt8.toNat x48:Int)<(UInt8.toNat x45.1:Int))) fun x49=>
 cond x49 (some true)
 (bnd (aV s3 1) fun x50=>
 letm (decide ((UInt8.toNat x45.2:Int)<(UInt8.toNat x50:Int))) fun x51=>
 some x51))) fun v52=>
 cond v52 (some (.inl false))
 (bnd (Gk.cut s3 2 (s3.length:Int)) fun x53=>
 self4 x53))
 (letm ((x43==3)) fun x54=>
 cond x54 (bnd (β:=Bool) (letm (decide ((s3.length:Int)<3)) fun x55=>
 cond x55 (some true)
 (bnd (aV s3 1) fun x56=>
 letm (decide ((UInt8.toNat x56:Int)<(UInt8.toNat x45.1:Int))) fun x57=>
 cond x57 (some true)
 (bnd (aV s3 1) fun x58=>
 letm (decide ((UInt8.toNat x45.2:Int)<(UInt8.toNat x58:Int))) fun x59=>
 cond x59 (some true)
 (bnd (aV s3 2) fun x60=>
 letm (decide ((UInt8.toNat x60:Int)<(UInt8.toNat 128:Int))) fun x61=>
 cond x61 (some true)
 (bnd (aV s3 2) fun x62=>
 letm (decide ((UInt8.toNat 191:Int)<(UInt8.toNat x62:Int))) fun x63=>
 some x63))))) fun v64=>
 cond v64 (some (.inl false))
 (bnd (Gk.cut s3 3 (s3.length:Int)) fun x65=>
 self4 x65))
 (letm ((x43==4)) fun x66=>
 cond x66 (bnd (β:=Bool) (letm (decide ((s3.length:Int)<4)) fun x67=>
 cond x67 (some true)
 (bnd (aV s3 1) fun x68=>
 letm (decide ((UInt8.toNat x68:Int)<(UInt8.toNat x45.1:Int))) fun x69=>
 cond x69 (some true)
 (bnd (aV s3 1) fun x70=>
 letm (decide ((UInt8.toNat x45.2:Int)<(UInt8.toNat x70:Int))) fun x71=>
 cond x71 (some true)
 (bnd (aV s3 2) fun x72=>
 letm (decide ((UInt8.toNat x72:Int)<(UInt8.toNat 128:Int))) fun x73=>
 cond x73 (some true)
 (bnd (aV s3 2) fun x74=>
 letm (decide ((UInt8.toNat 191:Int)<(UInt8.toNat x74:Int))) fun x75=>
 cond x75 (some true)
 (bnd (aV s3 3) fun x76=>
 letm (decide ((UInt8.toNat x76:Int)<(UInt8.toNat 128:Int))) fun x77=>
 cond x77 (some true)
 (bnd (aV s3 3) fun x78=>
 letm (decide ((UInt8.toNat 191:Int)<(UInt8.toNat x78:Int))) fun x79=>
 some x79))))))) fun v80=>
 cond v80 (some (.inl false))
 (bnd (Gk.cut s3 4 (s3.length:Int)) fun x81=>
 self4 x81))
 (some (.inl false))))))
 (some (.inr ()))) cS x2) (fun q=>q) fun _=>
 some true
def df(a0:UInt64):Option Bool:=
 bnd (β:=Bool) (bnd ((c_ .u64 (a0:UInt64) (UInt64.toNat 52:Int):Option UInt64)) fun(x1:UInt64)=>
 letm ((aU .and .u64 (x1:UInt64) (2047:UInt64):UInt64)) fun x2=>
 letm (((UInt64.toNat x2:Int)==(UInt64.toNat 2047:Int))) fun x3=>
 cond x3 (letm ((aU .and .u64 (a0:UInt64) (4503599627370495:UInt64):UInt64)) fun x4=>
 letm (((UInt64.toNat x4:Int) != (UInt64.toNat 0:Int))) fun x5=>
 some x5)
 (some false)) fun v6=>
 some v6
def ax(a0:Int)(a1:UInt64):Option (List UInt8):=
 letm ((aF (32*a0))) fun x2=>
 letm ((aF (x2+24))) fun x3=>
 letm ((ar x3)) fun x4=>
 fI (ρ:=(List UInt8)) (ρ':=(List UInt8)) (Y:=((List UInt8)×Int)) (letm (decide ((UInt64.toNat a1:Int)<(UInt64.toNat 24:Int))) fun x5=>
 cond x5 (letm ((aF (32*a0))) fun x6=>
 letm ((ar x6)) fun x7=>
 letm ((ar (UInt64.toNat a1:Int))) fun x8=>
 letm ((x7+x8)) fun x9=>
 some (.inl [x9]))
 (letm (decide ((UInt64.toNat a1:Int)<(UInt64.toNat 256:Int))) fun x10=>
 cond x10 (some (.inr ([x4],1)))
 (letm (decide ((UInt64.toNat a1:Int)<(UInt64.toNat 65536:Int))) fun x11=>
 cond x11 (bnd (aV [x4] 0) fun _=>
 bnd (aV [x4] (((0:Int)).toNat:Int)) fun x13=>
 letm ((x13+1)) fun x14=>
 bnd (aV [x4] 0) fun _=>
 bnd (aV [x4] (((0:Int)).toNat:Int)) fun _=>
 letm ([x14]) fun x17=>
 some (.inr (x17,2)))
 (letm (decide ((UInt64.toNat a1:Int)<(UInt64.toNat 4294967296:Int))) fun x18=>
 cond x18 (bnd (aV [x4] 0) fun _=>
 bnd (aV [x4] (((0:Int)).toNat:Int)) fun x20=>
 letm ((x20+2)) fun x21=>
 bnd (aV [x4] 0) fun _=>
 bnd (aV [x4] (((0:Int)).toNat:Int)) fun _=>
 letm ([x21]) fun x24=>
 some (.inr (x24,4)))
 (bnd (aV [x4] 0) fun _=>
 bnd (aV [x4] (((0:Int)).toNat:Int)) fun x26=>
 letm ((x26+3)) fun x27=>
 bnd (aV [x4] 0) fun _=>
 bnd (aV [x4] (((0:Int)).toNat:Int)) fun _=>
 letm ([x27]) fun x30=>
 some (.inr (x30,8))))))) (fun q=>q) fun v31=>
 letm ((aF (v31.2-1))) fun x32=>
 bo (R:=(List UInt8)) (S:=((List UInt8)×Int)) (fun self34 s33=>
 letm (decide (0≤s33.2)) fun x35=>
 cond x35 (letm ((aC s33.2)) fun x36=>
 letm ((8*x36)) fun x37=>
 bnd ((c_ .u64 (a1:UInt64) (UInt64.toNat x37:Int):Option UInt64)) fun(x38:UInt64)=>
 letm ((ar (UInt64.toNat x38:Int))) fun x39=>
 bnd (cO s33.1 [x39]) fun x40=>
 letm ((aF (s33.2-1))) fun x41=>
 self34 (x40,x41))
 (some s33.1)) cS (v31.1,x32)
def cB(a0:UInt64)(a1:Int)(a2:Int):Option (UInt64×Bool):=
 bnd ((c_ .u64 (a0:UInt64) (UInt64.toNat 63:Int):Option UInt64)) fun(x3:UInt64)=>
 letm ((aF (a1+a2))) fun x4=>
 letm ((aC x4)) fun x5=>
 bnd ((et .u64 (x3:UInt64) (UInt64.toNat x5:Int):Option UInt64)) fun(x6:UInt64)=>
 bnd ((c_ .u64 (a0:UInt64) (UInt64.toNat 52:Int):Option UInt64)) fun(x7:UInt64)=>
 letm ((aU .and .u64 (x7:UInt64) (2047:UInt64):UInt64)) fun x8=>
 letm ((aF (UInt64.toNat x8:Int))) fun x9=>
 letm ((aU .and .u64 (a0:UInt64) (4503599627370495:UInt64):UInt64)) fun x10=>
 letm ((aC a1)) fun x11=>
 bnd (Gk.shl 1 (UInt64.toNat x11:Int)) fun x12=>
 letm ((aF (x12-1))) fun x13=>
 letm ((aF (a1-1))) fun x14=>
 letm ((aC x14)) fun x15=>
 bnd (Gk.shl 1 (UInt64.toNat x15:Int)) fun x16=>
 letm ((aF (x16-1))) fun x17=>
 letm ((x9==2047)) fun x18=>
 cond x18 (letm ((aC x13)) fun x19=>
 letm ((aC a2)) fun x20=>
 bnd ((et .u64 (x19:UInt64) (UInt64.toNat x20:Int):Option UInt64)) fun(x21:UInt64)=>
 letm ((aU .or .u64 (x6:UInt64) (x21:UInt64):UInt64)) fun x22=>
 letm (((UInt64.toNat x10:Int)==(UInt64.toNat 0:Int))) fun x23=>
 some (x22,x23))
 (letm ((x9==0)) fun x24=>
 cond x24 (letm (((UInt64.toNat x10:Int)==(UInt64.toNat 0:Int))) fun x25=>
 some (x6,x25))
 (letm ((aF (x9-1023))) fun x26=>
 letm ((aF (x26+x17))) fun x27=>
 letm (decide (x13≤x27)) fun x28=>
 cond x28 (some (0,false))
 (letm (decide (0<x27)) fun x29=>
 cond x29 (letm ((aC x27)) fun x30=>
 letm ((aC a2)) fun x31=>
 bnd ((et .u64 (x30:UInt64) (UInt64.toNat x31:Int):Option UInt64)) fun(x32:UInt64)=>
 letm ((aU .or .u64 (x6:UInt64) (x32:UInt64):UInt64)) fun x33=>
 letm ((aF (52-a2))) fun x34=>
 letm ((aC x34)) fun x35=>
 bnd ((c_ .u64 (x10:UInt64) (UInt64.toNat x35:Int):Option UInt64)) fun(x36:UInt64)=>
 letm ((aU .or .u64 (x33:UInt64) (x36:UInt64):UInt64)) fun x37=>
 letm ((aF (52-a2))) fun x38=>
 letm ((aC x38)) fun x39=>
 bnd ((et .u64 (1:UInt64) (UInt64.toNat x39:Int):Option UInt64)) fun(x40:UInt64)=>
 letm ((x40-1)) fun x41=>
 letm ((aU .and .u64 (x10:UInt64) (x41:UInt64):UInt64)) fun x42=>
 letm (((UInt64.toNat x42:Int)==(UInt64.toNat 0:Int))) fun x43=>
 some (x37,x43))
 (letm ((aU .or .u64 (x10:UInt64) (4503599627370496:UInt64):UInt64)) fun x44=>
 letm ((aF (53-a2))) fun x45=>
 letm ((aF (x45-x27))) fun x46=>
 letm (decide (52<x46)) fun x47=>
 cond x47 (some (0,false))
 (letm ((aC x46)) fun x48=>
 bnd ((c_ .u64 (x44:UInt64) (UInt64.toNat x48:Int):Option UInt64)) fun(x49:UInt64)=>
 letm ((aU .or .u64 (x6:UInt64) (x49:UInt64):UInt64)) fun x50=>
 letm ((aC x46)) fun x51=>
 bnd ((et .u64 (1:UInt64) (UInt64.toNat x51:Int):Option UInt64)) fun(x52:UInt64)=>
 letm ((x52-1)) fun x53=>
 letm ((aU .and .u64 (x44:UInt64) (x53:UInt64):UInt64)) fun x54=>
 letm (((UInt64.toNat x54:Int)==(UInt64.toNat 0:Int))) fun x55=>
 some (x50,x55))))))
def d_(a0:UInt64):Option (List UInt8):=
 bnd (df a0) fun x1=>
 cond x1 (some [249,126,0])
 (bnd (cB a0 5 10) fun x2=>
 cond x2.2 (bnd ((c_ .u64 (x2.1:UInt64) (UInt64.toNat 8:Int):Option UInt64)) fun(x3:UInt64)=>
 letm ((ar (UInt64.toNat x3:Int))) fun x4=>
 letm ((ar (UInt64.toNat x2.1:Int))) fun x5=>
 some [249,x4,x5])
 (bnd (cB a0 8 23) fun x6=>
 cond x6.2 (bnd ((c_ .u64 (x6.1:UInt64) (UInt64.toNat 24:Int):Option UInt64)) fun(x7:UInt64)=>
 letm ((ar (UInt64.toNat x7:Int))) fun x8=>
 bnd ((c_ .u64 (x6.1:UInt64) (UInt64.toNat 16:Int):Option UInt64)) fun(x9:UInt64)=>
 letm ((ar (UInt64.toNat x9:Int))) fun x10=>
 bnd ((c_ .u64 (x6.1:UInt64) (UInt64.toNat 8:Int):Option UInt64)) fun(x11:UInt64)=>
 letm ((ar (UInt64.toNat x11:Int))) fun x12=>
 letm ((ar (UInt64.toNat x6.1:Int))) fun x13=>
 some [250,x8,x10,x12,x13])
 (bo (R:=(List UInt8)) (S:=((List UInt8)×Int)) (fun self15 s14=>
 letm (decide (0≤s14.2)) fun x16=>
 cond x16 (letm ((aC s14.2)) fun x17=>
 letm ((8*x17)) fun x18=>
 bnd ((c_ .u64 (a0:UInt64) (UInt64.toNat x18:Int):Option UInt64)) fun(x19:UInt64)=>
 letm ((ar (UInt64.toNat x19:Int))) fun x20=>
 bnd (cO s14.1 [x20]) fun x21=>
 letm ((aF (s14.2-1))) fun x22=>
 self15 (x21,x22))
 (some s14.1)) cS ([251],7))))
def gU(aN:(Go.Gk.Tr)→Option (List UInt8))(a0:Go.Gk.Tr):Option (List UInt8):=
 fI (ρ:=(List UInt8)) (ρ':=(List UInt8)) (Y:=(List UInt8)) (bnd (β:=Bool) (letm ((a0.k==0)) fun x1=>
 cond x1 (some true)
 (letm ((a0.k==1)) fun x2=>
 some x2)) fun v3=>
 cond v3 (bnd (ax a0.k a0.n) fun x4=>
 some (.inl x4))
 (bnd (β:=Bool) (letm ((a0.k==2)) fun x5=>
 cond x5 (some true)
 (letm ((a0.k==3)) fun x6=>
 some x6)) fun v7=>
 cond v7 (letm ((aC (a0.b.length:Int))) fun x8=>
 bnd (ax a0.k x8) fun x9=>
 bnd (cO x9 a0.b) fun x10=>
 some (.inl x10))
 (letm ((a0.k==4)) fun x11=>
 cond x11 (letm ((aC (a0.l.length:Int))) fun x12=>
 bnd (ax 4 x12) fun x13=>
 some (.inr x13))
 (letm ((a0.k==5)) fun x14=>
 cond x14 (bnd (quo (a0.l.length:Int) 2) fun x15=>
 letm ((aC x15)) fun x16=>
 bnd (ax 5 x16) fun x17=>
 some (.inr x17))
 (letm ((a0.k==6)) fun x18=>
 cond x18 (bnd (ax 6 a0.n) fun x19=>
 some (.inr x19))
 (letm ((a0.k==7)) fun x20=>
 cond x20 (letm (decide ((UInt64.toNat a0.n:Int)<(UInt64.toNat 24:Int))) fun x21=>
 cond x21 (letm ((224+a0.n)) fun x22=>
 letm ((ar (UInt64.toNat x22:Int))) fun x23=>
 some (.inl [x23]))
 (letm ((ar (UInt64.toNat a0.n:Int))) fun x24=>
 some (.inl [248,x24])))
 (bnd (d_ a0.n) fun x25=>
 some (.inl x25)))))))) (fun q=>q) fun v26=>
 a6 (R:=(List UInt8)) (S:=(List UInt8)) (α:=Go.Gk.Tr) (fun _ s28=>
 some s28)
 (fun x29 _ s31 self32=>
 bnd (aN x29) fun x33=>
 bnd (cO s31 x33) fun x34=>
 self32 x34) a0.l 0 v26
def gF(n:Nat):(Go.Gk.Tr)→Option (List UInt8):=Nat.rec (motive:=fun _=>(Go.Gk.Tr)→Option (List UInt8)) (fun _=>none) (fun _ ih=>gU ih) n
def aN(a0:Go.Gk.Tr):Option (List UInt8):=gF 40 a0
def aT(a0:(List UInt8))(a1:(List UInt8)):Option Int:=
 bo (R:=Int) (S:=Int) (fun self3 s2=>
 bnd (β:=Bool) (letm (decide (s2<(a0.length:Int))) fun x4=>
 cond x4 (letm (decide (s2<(a1.length:Int))) fun x5=>
 some x5)
 (some false)) fun v6=>
 cond v6 (bnd (aV a0 s2) fun x7=>
 bnd (aV a1 s2) fun x8=>
 letm (((UInt8.toNat x7:Int) != (UInt8.toNat x8:Int))) fun x9=>
 cond x9 (bnd (aV a0 s2) fun x10=>
 bnd (aV a1 s2) fun x11=>
 letm (decide ((UInt8.toNat x10:Int)<(UInt8.toNat x11:Int))) fun x12=>
 cond x12 (some (-1))
 (some 1))
 (letm ((aF (s2+1))) fun x13=>
 self3 x13))
 (letm (decide ((a0.length:Int)<(a1.length:Int))) fun x14=>
 cond x14 (some (-1))
 (letm (decide ((a1.length:Int)<(a0.length:Int))) fun x15=>
 cond x15 (some 1)
 (some 0)))) cS 0
def gk(eI:(Go.Gk.Tr)→(Int)→(Int)→Option Int)(a0:Go.Gk.Tr)(a1:Int)(a2:Int):Option Int:=
 letm (decide (a1<1)) fun x3=>
 cond x3 (some (-1))
 (letm ((aF (a1-1))) fun x4=>
 bnd (β:=Bool) (letm ((a0.k==4)) fun x5=>
 cond x5 (some true)
 (letm ((a0.k==5)) fun x6=>
 cond x6 (some true)
 (letm ((a0.k==6)) fun x7=>
 some x7))) fun v8=>
 bnd (β:=Bool) (letm ((a0.k==2)) fun x9=>
 cond x9 (some true)
 (letm ((a0.k==3)) fun x10=>
 some x10)) fun v11=>
 bnd (β:=Bool) (bnd (β:=Bool) (letm (decide (a0.k<0)) fun x12=>
 cond x12 (some true)
 (letm (decide (8<a0.k)) fun x13=>
 some x13)) fun v14=>
 cond v14 (some true)
 (bnd (β:=Bool) (letm (decide (0<(a0.b.length:Int))) fun x15=>
 cond x15 (letm ((!v11)) fun x16=>
 some x16)
 (some false)) fun v17=>
 cond v17 (some true)
 (bnd (β:=Bool) (letm (decide (0<(a0.l.length:Int))) fun x18=>
 cond x18 (letm ((!v8)) fun x19=>
 some x19)
 (some false)) fun v20=>
 cond v20 (some true)
 (letm (((UInt64.toNat a0.n:Int) != (UInt64.toNat 0:Int))) fun x21=>
 cond x21 (cond v11 (some true)
 (letm ((a0.k==4)) fun x22=>
 cond x22 (some true)
 (letm ((a0.k==5)) fun x23=>
 some x23)))
 (some false))))) fun v24=>
 cond v24 (some (-1))
 (bnd (β:=Bool) (letm (decide (4096<(a0.b.length:Int))) fun x25=>
 cond x25 (some true)
 (letm ((a0.k==3)) fun x26=>
 cond x26 (bnd (bk a0.b) fun x27=>
 letm ((!x27)) fun x28=>
 some x28)
 (some false))) fun v29=>
 cond v29 (some (-1))
 (bnd (β:=Bool) (bnd (β:=Bool) (letm ((a0.k==7)) fun x30=>
 cond x30 (letm (decide ((UInt64.toNat 255:Int)<(UInt64.toNat a0.n:Int))) fun x31=>
 cond x31 (some true)
 (letm (decide ((UInt64.toNat 23:Int)<(UInt64.toNat a0.n:Int))) fun x32=>
 cond x32 (letm (decide ((UInt64.toNat a0.n:Int)<(UInt64.toNat 32:Int))) fun x33=>
 some x33)
 (some false)))
 (some false)) fun v34=>
 cond v34 (some true)
 (letm ((a0.k==8)) fun x35=>
 cond x35 (bnd (df a0.n) fun x36=>
 cond x36 (letm (((UInt64.toNat a0.n:Int) != (UInt64.toNat 9221120237041090560:Int))) fun x37=>
 some x37)
 (some false))
 (some false))) fun v38=>
 cond v38 (some (-1))
 (bnd (β:=Bool) (bnd (β:=Bool) (cond v8 (letm (decide (8≤a2)) fun x39=>
 some x39)
 (some false)) fun v40=>
 cond v40 (some true)
 (bnd (β:=Bool) (letm ((a0.k==6)) fun x41=>
 cond x41 (letm (((a0.l.length:Int) != 1)) fun x42=>
 some x42)
 (some false)) fun v43=>
 cond v43 (some true)
 (bnd (β:=Bool) (letm ((a0.k==5)) fun x44=>
 cond x44 (bnd (Gk.rem (a0.l.length:Int) 2) fun x45=>
 letm ((x45 != 0)) fun x46=>
 some x46)
 (some false)) fun v47=>
 cond v47 (some true)
 (letm (decide (x4<(a0.l.length:Int))) fun x48=>
 some x48)))) fun v49=>
 cond v49 (some (-1))
 (fI (ρ:=Int) (ρ':=Int) (Y:=Int) (a6 (R:=(Int⊕Int)) (S:=Int) (α:=Go.Gk.Tr) (fun _ s51=>
 some (.inr s51))
 (fun x52 _ s54 self55=>
 letm ((aF (a2+1))) fun x56=>
 bnd (eI x52 s54 x56) fun x57=>
 letm (decide (x57<0)) fun x58=>
 cond x58 (some (.inl (-1)))
 (self55 x57)) a0.l 0 x4) (fun q=>q) fun v59=>
 bo (R:=Int) (S:=Int) (fun self61 s60=>
 bnd (β:=Bool) (letm ((a0.k==5)) fun x62=>
 cond x62 (letm (decide (s60<(a0.l.length:Int))) fun x63=>
 some x63)
 (some false)) fun v64=>
 cond v64 (letm ((aF (s60-2))) fun x65=>
 bnd (aV a0.l x65) fun x66=>
 bnd (aN x66) fun x67=>
 bnd (aV a0.l s60) fun x68=>
 bnd (aN x68) fun x69=>
 bnd (aT x67 x69) fun x70=>
 letm (decide (0≤x70)) fun x71=>
 cond x71 (some (-1))
 (letm ((aF (s60+2))) fun x72=>
 self61 x72))
 (some v59)) cS 2)))))
def f_(n:Nat):(Go.Gk.Tr)→(Int)→(Int)→Option Int:=Nat.rec (motive:=fun _=>(Go.Gk.Tr)→(Int)→(Int)→Option Int) (fun _ _ _=>none) (fun _ ih=>gk ih) n
def eI(a0:Go.Gk.Tr)(a1:Int)(a2:Int):Option Int:=f_ 40 a0 a1 a2
def aW(a0:Go.Gk.Tr):Option Bool:=
 bnd (β:=Bool) (bnd (eI a0 256 0) fun x1=>
 letm (decide (0≤x1)) fun x2=>
 cond x2 (bnd (aN a0) fun x3=>
 letm (decide ((x3.length:Int)≤4096)) fun x4=>
 some x4)
 (some false)) fun v5=>
 some v5
def dg(a0:Go.Gk.Tr):Option Bool:=
 bnd (β:=Bool) (letm ((a0.k==3)) fun x1=>
 cond x1 (some true)
 (letm ((a0.k==0)) fun x2=>
 cond x2 (letm (decide ((UInt64.toNat a0.n:Int)≤(UInt64.toNat 65535:Int))) fun x3=>
 some x3)
 (letm ((a0.k==1)) fun x4=>
 cond x4 (letm (decide ((UInt64.toNat a0.n:Int)≤(UInt64.toNat 65535:Int))) fun x5=>
 some x5)
 (some false)))) fun v6=>
 some v6
def fY(aB:(Go.Gk.Tr)→(Go.Gk.Tr)→Option Bool)(a0:Go.Gk.Tr)(a1:Go.Gk.Tr):Option Bool:=
 bnd (β:=Bool) (letm ((a0.k != a1.k)) fun x2=>
 cond x2 (some true)
 (letm (((UInt64.toNat a0.n:Int) != (UInt64.toNat a1.n:Int))) fun x3=>
 cond x3 (some true)
 (bnd (aT a0.b a1.b) fun x4=>
 letm ((x4 != 0)) fun x5=>
 cond x5 (some true)
 (letm (((a0.l.length:Int) != (a1.l.length:Int))) fun x6=>
 some x6)))) fun v7=>
 cond v7 (some false)
 (a6 (R:=Bool) (S:=Unit) (α:=Go.Gk.Tr) (fun _ _=>
 some true)
 (fun x10 k11 _ self13=>
 bnd (aV a1.l (k11:Int)) fun x14=>
 bnd (aB x10 x14) fun x15=>
 letm ((!x15)) fun x16=>
 cond x16 (some false)
 (self13 ())) a0.l 0 ())
def f'(n:Nat):(Go.Gk.Tr)→(Go.Gk.Tr)→Option Bool:=Nat.rec (motive:=fun _=>(Go.Gk.Tr)→(Go.Gk.Tr)→Option Bool) (fun _ _=>none) (fun _ ih=>fY ih) n
def aB(a0:Go.Gk.Tr)(a1:Go.Gk.Tr):Option Bool:=f' 40 a0 a1
def bm(a0:Go.Gk.Tr)(a1:Go.Gk.Tr):Option (Go.Gk.Tr×Bool):=
 bo (R:=(Go.Gk.Tr×Bool)) (S:=(Int×Go.Gk.Tr)) (fun self3 s2=>
 letm ((aF (s2.1+1))) fun x4=>
 letm (decide (x4<(a0.l.length:Int))) fun x5=>
 cond x5 (bnd (aV a0.l s2.1) fun x6=>
 bnd (aB x6 a1) fun x7=>
 cond x7 (letm ((aF (s2.1+1))) fun x8=>
 bnd (aV a0.l x8) fun x9=>
 some (x9,true))
 (letm ((aF (s2.1+2))) fun x10=>
 self3 (x10,s2.2)))
 (some ((Tr.mk 0 0 [] []),false))) cS (0,(Tr.mk 0 0 [] []))
def cL(a0:Go.Gk.Tr)(a1:Go.Gk.Tr)(a2:Go.Gk.Tr):Option Bool:=
 bnd (av 1) fun x3=>
 bnd (aB a0 x3) fun x4=>
 cond x4 (bnd (β:=Bool) (letm ((a1.k==0)) fun x5=>
 cond x5 (letm (decide ((UInt64.toNat 0:Int)<(UInt64.toNat a1.n:Int))) fun x6=>
 cond x6 (letm (decide ((UInt64.toNat a1.n:Int)≤(UInt64.toNat 65535:Int))) fun x7=>
 some x7)
 (letm ((a1.k==1)) fun x8=>
 cond x8 (letm (decide ((UInt64.toNat a1.n:Int)≤(UInt64.toNat 65535:Int))) fun x9=>
 some x9)
 (some false)))
 (letm ((a1.k==1)) fun x10=>
 cond x10 (letm (decide ((UInt64.toNat a1.n:Int)≤(UInt64.toNat 65535:Int))) fun x11=>
 some x11)
 (some false))) fun v12=>
 some v12)
 (bnd (av 2) fun x13=>
 bnd (aB a0 x13) fun x14=>
 cond x14 (bnd (β:=Bool) (letm ((a1.k != 4)) fun x15=>
 cond x15 (some true)
 (letm (((a1.l.length:Int)==0)) fun x16=>
 some x16)) fun v17=>
 cond v17 (some false)
 (a6 (R:=Bool) (S:=Unit) (α:=Go.Gk.Tr) (fun _ _=>
 some true)
 (fun x20 _ _ self23=>
 bnd (bm a2 x20) fun x24=>
 letm ((!x24.2)) fun x25=>
 cond x25 (some false)
 (self23 ())) a1.l 0 ()))
 (a6 (R:=Bool) (S:=Unit) (α:=Int) (fun _ _=>
 some true)
 (fun x28 _ _ self31=>
 bnd (av x28) fun x32=>
 bnd (aB a0 x32) fun x33=>
 cond x33 (letm ((a1.k==2)) fun x34=>
 some x34)
 (self31 ())) [4,5,6,12] 0 ()))
def cz(a0:az)(a1:Int):Option (Go.Gk.Tr×Bool):=
 bnd (av a1) fun x2=>
 bnd (bm a0.1 x2) fun x3=>
 cond x3.2 (some (x3.1,true))
 (bnd (av a1) fun x4=>
 bnd (bm a0.2 x4) fun x5=>
 some (x5.1,x5.2))
def cK(a0:az):Option Bool:=
 bnd (β:=Bool) (letm ((a0.1.k != 5)) fun x1=>
 cond x1 (some true)
 (letm ((a0.2.k != 5)) fun x2=>
 cond x2 (some true)
 (bnd (aW a0.1) fun x3=>
 letm ((!x3)) fun x4=>
 cond x4 (some true)
 (bnd (aW a0.2) fun x5=>
 letm ((!x5)) fun x6=>
 some x6)))) fun v7=>
 cond v7 (some false)
 (fI (ρ:=Bool) (ρ':=Bool) (Y:=Unit) (a6 (R:=(Bool⊕Unit)) (S:=Unit) (α:=Go.Gk.Tr) (fun _ _=>
 some (.inr ()))
 (fun x10 _ _ self13=>
 fI (ρ:=(Bool⊕Unit)) (ρ':=(Bool⊕Unit)) (Y:=Unit) (bo (R:=((Bool⊕Unit)⊕Unit)) (S:=Int) (fun self15 s14=>
 letm (decide (s14<(x10.l.length:Int))) fun x16=>
 cond x16 (bnd (β:=Bool) (bnd (aV x10.l s14) fun x17=>
 bnd (dg x17) fun x18=>
 letm ((!x18)) fun x19=>
 cond x19 (some true)
 (bnd (aV x10.l s14) fun x20=>
 letm ((aF (s14+1))) fun x21=>
 bnd (aV x10.l x21) fun x22=>
 bnd (cL x20 x22 x10) fun x23=>
 letm ((!x23)) fun x24=>
 some x24)) fun v25=>
 cond v25 (some (.inl (.inl false)))
 (letm ((aF (s14+2))) fun x26=>
 self15 x26))
 (some (.inr ()))) cS 0) (fun q=>q) fun _=>
 self13 ()) [a0.1,a0.2] 0 ()) (fun q=>q) fun _=>
 fI (ρ:=Bool) (ρ':=Bool) (Y:=Unit) (bo (R:=(Bool⊕Unit)) (S:=Int) (fun self30 s29=>
 letm (decide (s29<(a0.2.l.length:Int))) fun x31=>
 cond x31 (bnd (aV a0.2.l s29) fun x32=>
 bnd (bm a0.1 x32) fun x33=>
 bnd (β:=Bool) (cond x33.2 (some true)
 (bnd (aV a0.2.l s29) fun x34=>
 bnd (av 2) fun x35=>
 bnd (aB x34 x35) fun x36=>
 some x36)) fun v37=>
 cond v37 (some (.inl false))
 (letm ((aF (s29+2))) fun x38=>
 self30 x38))
 (some (.inr ()))) cS 0) (fun q=>q) fun _=>
 bnd (cz a0 5) fun x40=>
 bnd (cz a0 6) fun x41=>
 bnd (β:=Bool) (letm ((!x40.2)) fun x42=>
 cond x42 (some true)
 (letm ((!x41.2)) fun x43=>
 some x43)) fun v44=>
 some v44)
def gb(cw:(Go.Gk.Tr)→Option Go.Gk.Tr)(a0:Go.Gk.Tr):Option Go.Gk.Tr:=
 bnd (cO [] a0.b) fun x1=>
 a6 (R:=Go.Gk.Tr) (S:=(List Go.Gk.Tr)) (α:=Go.Gk.Tr) (fun _ s3=>
 some (Tr.mk a0.k a0.n x1 s3))
 (fun x4 _ s6 self7=>
 bnd (cw x4) fun x8=>
 bnd (cO s6 [x8]) fun x9=>
 self7 x9) a0.l 0 []
def fX(n:Nat):(Go.Gk.Tr)→Option Go.Gk.Tr:=Nat.rec (motive:=fun _=>(Go.Gk.Tr)→Option Go.Gk.Tr) (fun _=>none) (fun _ ih=>gb ih) n
def cw(a0:Go.Gk.Tr):Option Go.Gk.Tr:=fX 40 a0
def gj(a0:az):Option az:=
 bnd (cw a0.1) fun x1=>
 bnd (cw a0.2) fun x2=>
 some (x1,x2)
def dW(a0:(List Go.Gk.Tr)):Option (Go.Gk.Tr×Int):=
 bnd (Gk.rem (a0.length:Int) 2) fun x1=>
 letm ((x1 != 0)) fun x2=>
 cond x2 (some ((Tr.mk 0 0 [] []),1))
 (fI (ρ:=(Go.Gk.Tr×Int)) (ρ':=(Go.Gk.Tr×Int)) (Y:=Go.Gk.Tr) (a6 (R:=((Go.Gk.Tr×Int)⊕Go.Gk.Tr)) (S:=Go.Gk.Tr) (α:=Go.Gk.Tr) (fun _ s4=>
 some (.inr s4))
 (fun x5 _ s7 self8=>
 bnd (aW x5) fun x9=>
 letm ((!x9)) fun x10=>
 cond x10 (some (.inl ((Tr.mk 0 0 [] []),1)))
 (self8 s7)) a0 0 (Tr.mk 0 0 [] [])) (fun q=>q) fun _=>
 bnd (β:=((List Go.Gk.Tr)×Bool)) (bo (R:=((List Go.Gk.Tr)×Bool)) (S:=((List Go.Gk.Tr)×(Bool×Int))) (fun self13 s12=>
 letm (decide (s12.2.2<(a0.length:Int))) fun x14=>
 cond x14 (bnd (β:=((List Go.Gk.Tr)×Bool)) (bnd (β:=Int) (bo (R:=Int) (S:=Int) (fun self16 s15=>
 bnd (β:=Bool) (letm (decide (0<s15)) fun x17=>
 cond x17 (letm ((aF (s15-2))) fun x18=>
 bnd (aV s12.1 x18) fun x19=>
 bnd (aN x19) fun x20=>
 bnd (aV a0 s12.2.2) fun x21=>
 bnd (aN x21) fun x22=>
 bnd (aT x20 x22) fun x23=>
 letm (decide (0<x23)) fun x24=>
 some x24)
 (some false)) fun v25=>
 cond v25 (letm ((aF (s15-2))) fun x26=>
 self16 x26)
 (some s15)) cS (s12.1.length:Int)) fun v27=>
 bnd (β:=Bool) (cond s12.2.1 (some true)
 (letm (decide (0<v27)) fun x28=>
 cond x28 (letm ((aF (v27-2))) fun x29=>
 bnd (aV s12.1 x29) fun x30=>
 bnd (aN x30) fun x31=>
 bnd (aV a0 s12.2.2) fun x32=>
 bnd (aN x32) fun x33=>
 bnd (aT x31 x33) fun x34=>
 letm ((x34==0)) fun x35=>
 some x35)
 (some false))) fun v36=>
 bnd (Gk.cut s12.1 0 v27) fun x37=>
 bnd (cO [] x37) fun x38=>
 bnd (aV a0 s12.2.2) fun x39=>
 letm ((aF (s12.2.2+1))) fun x40=>
 bnd (aV a0 x40) fun x41=>
 bnd (cO x38 [x39,x41]) fun x42=>
 bnd (Gk.cut s12.1 v27 (s12.1.length:Int)) fun x43=>
 bnd (cO x42 x43) fun x44=>
 some (x44,v36)) fun v45=>
 letm ((aF (s12.2.2+2))) fun x46=>
 self13 (v45.1,(v45.2,x46)))
 (some (s12.1,s12.2.1))) cS ([],(false,0))) fun v47=>
 cond v47.2 (some ((Tr.mk 0 0 [] []),7))
 (bnd (aW (Tr.mk 5 0 [] v47.1)) fun x48=>
 letm ((!x48)) fun x49=>
 cond x49 (some ((Tr.mk 0 0 [] []),8))
 (bnd (cw (Tr.mk 5 0 [] v47.1)) fun x50=>
 some (x50,0))))
def bF(a0:az)(a1:Bool)(a2:Int)(a3:Go.Gk.Tr):Option (az×Int):=
 bnd (β:=Bool) (bnd (cK a0) fun x4=>
 letm ((!x4)) fun x5=>
 cond x5 (some true)
 (bnd (aW a3) fun x6=>
 letm ((!x6)) fun x7=>
 some x7)) fun v8=>
 cond v8 (some (((Tr.mk 0 0 [] []),(Tr.mk 0 0 [] [])),1))
 (bnd (cz a0 a2) fun x9=>
 cond x9.2 (some (((Tr.mk 0 0 [] []),(Tr.mk 0 0 [] [])),7))
 (bnd (gj a0) fun x10=>
 bnd (β:=Go.Gk.Tr) (cond a1 (some x10.1)
 (some x10.2)) fun v11=>
 bnd (cO [] v11.l) fun x12=>
 bnd (av a2) fun x13=>
 bnd (cO x12 [x13,a3]) fun x14=>
 bnd (dW x14) fun x15=>
 letm ((x15.2 != 0)) fun x16=>
 cond x16 (some (((Tr.mk 0 0 [] []),(Tr.mk 0 0 [] [])),4))
 (bnd (β:=az) (cond a1 (some (x15.1,x10.2))
 (some (x10.1,x15.1))) fun v17=>
 bnd (cK v17) fun x18=>
 letm ((!x18)) fun x19=>
 cond x19 (some (((Tr.mk 0 0 [] []),(Tr.mk 0 0 [] [])),4))
 (some (v17,0)))))
def dX(a0:(List UInt8)):Option Go.Gk.Tr:=
 bnd (cO [] a0) fun x1=>
 some (Tr.mk 2 0 x1 [])
def cT(a0:ab):Option (UInt64×ab):=
 bnd (ah a0 6) fun x1=>
 letm ((x1.1==0)) fun x2=>
 cond x2 (bnd (ah x1.2 9) fun x3=>
 bnd (aV [23,24,255,256,65535,65536,4294967295,4294967296,18446744073709551615] x3.1) fun x4=>
 some (x4,x3.2))
 (letm ((x1.1==1)) fun x5=>
 cond x5 (bnd (ah x1.2 1073741824) fun x6=>
 letm ((aC x6.1)) fun x7=>
 some (x7,x6.2))
 (bnd (ah x1.2 30) fun x8=>
 letm ((aC x8.1)) fun x9=>
 some (x9,x8.2)))
def ef(a0:ab)(a1:Int):Option ((List UInt8)×ab):=
 letm ((aF (a1+1))) fun x2=>
 bnd (ah a0 x2) fun x3=>
 bo (R:=((List UInt8)×ab)) (S:=((List UInt8)×(Int×ab))) (fun self5 s4=>
 letm (decide (0<s4.2.1)) fun x6=>
 cond x6 (bnd (ah s4.2.2 10) fun x7=>
 bnd (aV [[97],[98],[47],[34],[92],[10],[127],[37],[195,169],[226,130,172]] x7.1) fun x8=>
 bnd (cO s4.1 x8) fun x9=>
 letm ((aF (s4.2.1-1))) fun x10=>
 self5 (x9,(x10,x7.2)))
 (some (s4.1,s4.2.2))) cS ([],(x3.1,x3.2))
def gf(a0:(List UInt8)):Option Go.Gk.Tr:=
 bnd (cO [] a0) fun x1=>
 some (Tr.mk 3 0 x1 [])
def dI(a0:Go.Gk.Tr):Option Go.Gk.Tr:=
 bnd (aW a0) fun x1=>
 letm ((!x1)) fun x2=>
 cond x2 (some (Tr.mk 0 0 [] []))
 (some a0)
def dZ(a0:UInt64)(a1:Int)(a2:Int):Option UInt64:=
 letm ((aF (a1+a2))) fun x3=>
 letm ((aC x3)) fun x4=>
 bnd ((c_ .u64 (a0:UInt64) (UInt64.toNat x4:Int):Option UInt64)) fun(x5:UInt64)=>
 bnd ((et .u64 (x5:UInt64) (UInt64.toNat 63:Int):Option UInt64)) fun(x6:UInt64)=>
 letm ((aC a2)) fun x7=>
 bnd ((c_ .u64 (a0:UInt64) (UInt64.toNat x7:Int):Option UInt64)) fun(x8:UInt64)=>
 letm ((aF (UInt64.toNat x8:Int))) fun x9=>
 letm ((aC a1)) fun x10=>
 bnd (Gk.shl 1 (UInt64.toNat x10:Int)) fun x11=>
 letm ((aF (x11-1))) fun x12=>
 letm ((rN .and x9 x12)) fun x13=>
 letm ((aC a2)) fun x14=>
 bnd ((et .u64 (1:UInt64) (UInt64.toNat x14:Int):Option UInt64)) fun(x15:UInt64)=>
 letm ((x15-1)) fun x16=>
 letm ((aU .and .u64 (a0:UInt64) (x16:UInt64):UInt64)) fun x17=>
 letm ((aC a1)) fun x18=>
 bnd (Gk.shl 1 (UInt64.toNat x18:Int)) fun x19=>
 letm ((aF (x19-1))) fun x20=>
 letm ((aF (a1-1))) fun x21=>
 letm ((aC x21)) fun x22=>
 bnd (Gk.shl 1 (UInt64.toNat x22:Int)) fun x23=>
 letm ((aF (x23-1))) fun x24=>
 letm ((x13==x20)) fun x25=>
 cond x25 (letm ((aU .or .u64 (x6:UInt64) (9218868437227405312:UInt64):UInt64)) fun x26=>
 letm ((aF (52-a2))) fun x27=>
 letm ((aC x27)) fun x28=>
 bnd ((et .u64 (x17:UInt64) (UInt64.toNat x28:Int):Option UInt64)) fun(x29:UInt64)=>
 letm ((aU .or .u64 (x26:UInt64) (x29:UInt64):UInt64)) fun x30=>
 some x30)
 (bnd (β:=Bool) (letm ((x13==0)) fun x31=>
 cond x31 (letm (((UInt64.toNat x17:Int)==(UInt64.toNat 0:Int))) fun x32=>
 some x32)
 (some false)) fun v33=>
 cond v33 (some x6)
 (letm ((x13==0)) fun x34=>
 cond x34 (bnd (β:=Int) (bo (R:=Int) (S:=Int) (fun self36 s35=>
 letm ((aF (s35+1))) fun x37=>
 letm ((aC x37)) fun x38=>
 bnd ((c_ .u64 (x17:UInt64) (UInt64.toNat x38:Int):Option UInt64)) fun(x39:UInt64)=>
 letm (decide ((UInt64.toNat 0:Int)<(UInt64.toNat x39:Int))) fun x40=>
 cond x40 (letm ((aF (s35+1))) fun x41=>
 self36 x41)
 (some s35)) cS 0) fun v42=>
 letm ((aF (v42+1))) fun x43=>
 letm ((aF (x43-x24))) fun x44=>
 letm ((aF (x44-a2))) fun x45=>
 letm ((aF (x45+1023))) fun x46=>
 letm ((aC x46)) fun x47=>
 bnd ((et .u64 (x47:UInt64) (UInt64.toNat 52:Int):Option UInt64)) fun(x48:UInt64)=>
 letm ((aU .or .u64 (x6:UInt64) (x48:UInt64):UInt64)) fun x49=>
 letm ((aF (52-v42))) fun x50=>
 letm ((aC x50)) fun x51=>
 bnd ((et .u64 (x17:UInt64) (UInt64.toNat x51:Int):Option UInt64)) fun(x52:UInt64)=>
 letm ((aU .and .u64 (x52:UInt64) (4503599627370495:UInt64):UInt64)) fun x53=>
 letm ((aU .or .u64 (x49:UInt64) (x53:UInt64):UInt64)) fun x54=>
 some x54)
 (letm ((aF (x13-x24))) fun x55=>
 letm ((aF (x55+1023))) fun x56=>
 letm ((aC x56)) fun x57=>
 bnd ((et .u64 (x57:UInt64) (UInt64.toNat 52:Int):Option UInt64)) fun(x58:UInt64)=>
 letm ((aU .or .u64 (x6:UInt64) (x58:UInt64):UInt64)) fun x59=>
 letm ((aF (52-a2))) fun x60=>
 letm ((aC x60)) fun x61=>
 bnd ((et .u64 (x17:UInt64) (UInt64.toNat x61:Int):Option UInt64)) fun(x62:UInt64)=>
 letm ((aU .or .u64 (x59:UInt64) (x62:UInt64):UInt64)) fun x63=>
 some x63)))
def dR(a0:ab):Option (UInt64×ab):=
 bnd (ah a0 1073741824) fun x1=>
 letm ((aC x1.1)) fun x2=>
 bnd (ah x1.2 5) fun x3=>
 letm ((x3.1==0)) fun x4=>
 cond x4 (letm ((aU .and .u64 (x2:UInt64) (31743:UInt64):UInt64)) fun x5=>
 bnd ((c_ .u64 (x2:UInt64) (UInt64.toNat 14:Int):Option UInt64)) fun(x6:UInt64)=>
 letm ((aU .and .u64 (x6:UInt64) (32768:UInt64):UInt64)) fun x7=>
 letm ((aU .or .u64 (x5:UInt64) (x7:UInt64):UInt64)) fun x8=>
 bnd (dZ x8 5 10) fun x9=>
 some (x9,x3.2))
 (letm ((x3.1==1)) fun x10=>
 cond x10 (letm ((aU .and .u64 (x2:UInt64) (2139095039:UInt64):UInt64)) fun x11=>
 bnd (dZ x11 8 23) fun x12=>
 some (x12,x3.2))
 (letm ((x3.1==2)) fun x13=>
 cond x13 (bnd (ah x3.2 7) fun x14=>
 bnd (aV [9221120237041090560,9218868437227405312,18442240474082181120,9223372036854775808,0,1,4609434218613702656] x14.1) fun x15=>
 some (x15,x14.2))
 (bnd ((et .u64 (x2:UInt64) (UInt64.toNat 34:Int):Option UInt64)) fun(x16:UInt64)=>
 bnd (ah x3.2 1073741824) fun x17=>
 letm ((aC x17.1)) fun x18=>
 bnd ((et .u64 (x18:UInt64) (UInt64.toNat 4:Int):Option UInt64)) fun(x19:UInt64)=>
 letm ((aU .or .u64 (x16:UInt64) (x19:UInt64):UInt64)) fun x20=>
 bnd (df x20) fun x21=>
 cond x21 (some (9221120237041090560,x17.2))
 (some (x20,x17.2)))))
def er(bY:(ab)→(Int)→Option (Go.Gk.Tr×ab))(a0:ab)(a1:Int):Option (Go.Gk.Tr×ab):=
 bnd (ah a0 9) fun x2=>
 bnd (β:=Int) (bnd (β:=Bool) (letm ((a1==0)) fun x3=>
 cond x3 (letm (decide (4≤x2.1)) fun x4=>
 cond x4 (letm (decide (x2.1≤6)) fun x5=>
 some x5)
 (some false))
 (some false)) fun v6=>
 cond v6 (some 0)
 (some x2.1)) fun v7=>
 bnd (β:=Bool) (letm ((v7==0)) fun x8=>
 cond x8 (some true)
 (letm ((v7==1)) fun x9=>
 some x9)) fun v10=>
 cond v10 (bnd (cT x2.2) fun x11=>
 some ((Tr.mk v7 x11.1 [] []),x11.2))
 (letm ((v7==2)) fun x12=>
 cond x12 (bnd (aH x2.2 30) fun x13=>
 bnd (dX x13.1) fun x14=>
 some (x14,x13.2))
 (letm ((v7==3)) fun x15=>
 cond x15 (bnd (ef x2.2 8) fun x16=>
 bnd (gf x16.1) fun x17=>
 some (x17,x16.2))
 (letm ((v7==6)) fun x18=>
 cond x18 (bnd (cT x2.2) fun x19=>
 letm ((aF (a1-1))) fun x20=>
 bnd (bY x19.2 x20) fun x21=>
 bnd (dI (Tr.mk v7 x19.1 [] [x21.1])) fun x22=>
 some (x22,x21.2))
 (letm ((v7==7)) fun x23=>
 cond x23 (bnd (ah x2.2 8) fun x24=>
 bnd (aV [20,21,22,23,0,19,32,255] x24.1) fun x25=>
 some ((Tr.mk v7 x25 [] []),x24.2))
 (letm ((v7==8)) fun x26=>
 cond x26 (bnd (dR x2.2) fun x27=>
 some ((Tr.mk v7 x27.1 [] []),x27.2))
 (bnd (β:=((List Go.Gk.Tr)×ab)) (bnd (ah x2.2 4) fun x28=>
 bo (R:=((List Go.Gk.Tr)×ab)) (S:=((List Go.Gk.Tr)×(Int×ab))) (fun self30 s29=>
 letm (decide (0<s29.2.1)) fun x31=>
 cond x31 (bnd (β:=((List Go.Gk.Tr)×ab)) (letm ((aF (a1-1))) fun x32=>
 bnd (bY s29.2.2 x32) fun x33=>
 bnd (cO s29.1 [x33.1]) fun x34=>
 letm ((v7==5)) fun x35=>
 cond x35 (letm ((aF (a1-1))) fun x36=>
 bnd (bY x33.2 x36) fun x37=>
 bnd (cO x34 [x37.1]) fun x38=>
 some (x38,x37.2))
 (some (x34,x33.2))) fun v39=>
 letm ((aF (s29.2.1-1))) fun x40=>
 self30 (v39.1,(x40,v39.2)))
 (some (s29.1,s29.2.2))) cS ([],(x28.1,x28.2))) fun v41=>
 letm ((v7==4)) fun x42=>
 cond x42 (bnd (dI (Tr.mk v7 0 [] v41.1)) fun x43=>
 some (x43,v41.2))
 (bnd (dW v41.1) fun x44=>
 letm ((x44.2 != 0)) fun x45=>
 cond x45 (some ((Tr.mk 5 0 [] []),v41.2))
 (some (x44.1,v41.2)))))))))
def cE(n:Nat):(ab)→(Int)→Option (Go.Gk.Tr×ab):=Nat.rec (motive:=fun _=>(ab)→(Int)→Option (Go.Gk.Tr×ab)) (fun _ _=>none) (fun _ ih=>er ih) n
def bY(a0:ab)(a1:Int):Option (Go.Gk.Tr×ab):=cE 40 a0 a1
def iU(a0:(List Go.Gk.Tr)):Option Go.Gk.Tr:=
 bnd (cw (Tr.mk 4 0 [] a0)) fun x1=>
 some x1
def dF(a0:ab)(a1:Int):Option (az×ab):=
 bnd (iB) fun x2=>
 bnd (β:=(ab×az)) (letm ((a1 != 0)) fun x3=>
 cond x3 (bnd (ah a0 4) fun x4=>
 letm (decide (0<x4.1)) fun x5=>
 bnd (av a1) fun x6=>
 bnd (bF x2 x5 1 x6) fun x7=>
 some (x4.2,x7.1))
 (some (a0,x2))) fun v8=>
 bnd (ah v8.1 3) fun x9=>
 bo (R:=(az×ab)) (S:=(Int×(ab×az))) (fun self11 s10=>
 letm (decide (0<s10.1)) fun x12=>
 cond x12 (bnd (β:=(ab×az)) (bnd (ah s10.2.1 5) fun x13=>
 bnd (aV [4,6,3,99,(-7)] x13.1) fun x14=>
 bnd (aH x13.2 5) fun x15=>
 bnd (dX x15.1) fun x16=>
 bnd (β:=(ab×Go.Gk.Tr)) (letm ((x14==99)) fun x17=>
 cond x17 (bnd (bY x15.2 1) fun x18=>
 some (x18.2,x18.1))
 (some (x15.2,x16))) fun v19=>
 bnd (ah v19.1 2) fun x20=>
 letm ((x20.1==0)) fun x21=>
 bnd (bF s10.2.2 x21 x14 v19.2) fun x22=>
 letm ((x22.2==0)) fun x23=>
 cond x23 (some (x20.2,x22.1))
 (some (x20.2,s10.2.2))) fun v24=>
 letm ((aF (s10.1-1))) fun x25=>
 self11 (x25,(v24.1,v24.2)))
 (bnd (β:=(ab×az)) (bnd (av 1) fun x26=>
 bnd (bF s10.2.2 true 98 x26) fun x27=>
 bnd (β:=(Bool×ab)) (bnd (ah s10.2.1 6) fun x28=>
 letm ((x28.1==5)) fun x29=>
 cond x29 (letm ((x27.2==0)) fun x30=>
 some (x30,x28.2))
 (some (false,x28.2))) fun v31=>
 cond v31.1 (bnd (av 98) fun x32=>
 bnd (iU [x32]) fun x33=>
 bnd (bF x27.1 true 2 x33) fun x34=>
 letm ((x34.2==0)) fun x35=>
 cond x35 (some (v31.2,x34.1))
 (some (v31.2,x27.1)))
 (some (v31.2,s10.2.2))) fun v36=>
 some (v36.2,v36.1))) cS (x9.1,(x9.2,v8.2))
def cl(a0:Int)(a1:Int):Option (List UInt8):=
 bnd (rng a1) fun j17=>
 mG (R:=(List UInt8)) (S:=(List UInt8)) (fun _ s3=>
 some s3)
 (fun k4 s5 self6=>
 letm ((aC a0)) fun x7=>
 bnd (Gk.rem (k4:Int) 8) fun x8=>
 letm ((aC x8)) fun x9=>
 letm ((8*x9)) fun x10=>
 bnd ((c_ .u64 (x7:UInt64) (UInt64.toNat x10:Int):Option UInt64)) fun(x11:UInt64)=>
 letm ((ar (UInt64.toNat x11:Int))) fun x12=>
 bnd (quo (k4:Int) 8) fun x13=>
 letm ((ar x13)) fun x14=>
 letm ((x12+x14)) fun x15=>
 bnd (cO s5 [x15]) fun x16=>
 self6 x16) j17 0 []
def lD(a0:Go.Gk.Tr):Option (Bool×Bool):=
 bnd (β:=Bool) (letm ((a0.k==0)) fun x1=>
 cond x1 (some true)
 (letm ((a0.k==1)) fun x2=>
 some x2)) fun v3=>
 cond v3 (bnd (β:=(Bool×Bool)) (letm (((a0.b.length:Int)==0)) fun x4=>
 cond x4 (letm (((a0.l.length:Int)==0)) fun x5=>
 some (x5,true))
 (some (false,true))) fun v6=>
 some (v6.1,v6.2))
 (letm ((a0.k==2)) fun x7=>
 cond x7 (bnd (β:=(Bool×Bool)) (letm (((UInt64.toNat a0.n:Int)==(UInt64.toNat 0:Int))) fun x8=>
 cond x8 (letm (((a0.l.length:Int)==0)) fun x9=>
 some (x9,true))
 (some (false,true))) fun v10=>
 some (v10.1,v10.2))
 (letm ((a0.k==3)) fun x11=>
 cond x11 (bnd (β:=(Bool×Bool)) (letm (((UInt64.toNat a0.n:Int)==(UInt64.toNat 0:Int))) fun x12=>
 cond x12 (letm (((a0.l.length:Int)==0)) fun x13=>
 cond x13 (bnd (bk a0.b) fun x14=>
 some (x14,true))
 (some (false,true)))
 (some (false,true))) fun v15=>
 some (v15.1,v15.2))
 (letm ((a0.k==7)) fun x16=>
 cond x16 (bnd (β:=(Bool×Bool)) (letm (((a0.b.length:Int)==0)) fun x17=>
 cond x17 (letm (((a0.l.length:Int)==0)) fun x18=>
 cond x18 (letm (decide ((UInt64.toNat a0.n:Int)<(UInt64.toNat 24:Int))) fun x19=>
 cond x19 (some (true,true))
 (letm (decide ((UInt64.toNat 32:Int)≤(UInt64.toNat a0.n:Int))) fun x20=>
 cond x20 (letm (decide ((UInt64.toNat a0.n:Int)<(UInt64.toNat 256:Int))) fun x21=>
 some (x21,true))
 (some (false,true))))
 (some (false,true)))
 (some (false,true))) fun v22=>
 some (v22.1,v22.2))
 (letm ((a0.k==8)) fun x23=>
 cond x23 (letm (a0.n) fun x24=>
 bnd (β:=(Bool×Bool)) (letm (((a0.b.length:Int)==0)) fun x25=>
 cond x25 (letm (((a0.l.length:Int)==0)) fun x26=>
 cond x26 (letm ((feq x24 x24)) fun x27=>
 cond x27 (some (true,true))
 (letm (((UInt64.toNat a0.n:Int)==(UInt64.toNat 9221120237041090560:Int))) fun x28=>
 some (x28,true)))
 (some (false,true)))
 (some (false,true))) fun v29=>
 some (v29.1,v29.2))
 (some (false,false))))))
def mE(a0:UInt64):Option (List UInt8):=
 bo (R:=(List UInt8)) (S:=((List UInt8)×Int)) (fun self2 s1=>
 letm (decide (0≤s1.2)) fun x3=>
 cond x3 (bnd ((c_ .u64 (a0:UInt64) s1.2:Option UInt64)) fun(x4:UInt64)=>
 letm ((ar (UInt64.toNat x4:Int))) fun x5=>
 bnd (cO s1.1 [x5]) fun x6=>
 letm ((aF (s1.2-8))) fun x7=>
 self2 (x6,x7))
 (some s1.1)) cS ([],56)
def kH(a0:UInt32):Option (Int×Bool):=
 bnd ((c_ .u32 (a0:UInt32) (UInt64.toNat 31:Int):Option UInt32)) fun(x1:UInt32)=>
 bnd ((et .u32 (x1:UInt32) (UInt64.toNat 15:Int):Option UInt32)) fun(x2:UInt32)=>
 letm ((Gk.lr .u16 (UInt32.toNat x2:Int))) fun x3=>
 bnd ((c_ .u32 (a0:UInt32) (UInt64.toNat 23:Int):Option UInt32)) fun(x4:UInt32)=>
 letm ((aU .and .u32 (x4:UInt32) (255:UInt32):UInt32)) fun x5=>
 letm ((aF (UInt32.toNat x5:Int))) fun x6=>
 letm ((aU .and .u32 (a0:UInt32) (8388607:UInt32):UInt32)) fun x7=>
 letm ((x6==255)) fun x8=>
 cond x8 (letm ((aU .or .u16 x3 31744)) fun x9=>
 some (x9,true))
 (letm ((x6==0)) fun x10=>
 cond x10 (letm (((UInt32.toNat x7:Int)==(UInt32.toNat 0:Int))) fun x11=>
 some (x3,x11))
 (bnd (β:=Bool) (letm (decide (113≤x6)) fun x12=>
 cond x12 (letm (decide (x6≤142)) fun x13=>
 some x13)
 (some false)) fun v14=>
 cond v14 (letm ((aF (x6-112))) fun x15=>
 letm ((Gk.lr .u16 x15)) fun x16=>
 bnd (et .u16 x16 (UInt64.toNat 10:Int)) fun x17=>
 letm ((aU .or .u16 x3 x17)) fun x18=>
 bnd ((c_ .u32 (x7:UInt32) (UInt64.toNat 13:Int):Option UInt32)) fun(x19:UInt32)=>
 letm ((Gk.lr .u16 (UInt32.toNat x19:Int))) fun x20=>
 letm ((aU .or .u16 x18 x20)) fun x21=>
 letm ((aU .and .u32 (x7:UInt32) (8191:UInt32):UInt32)) fun x22=>
 letm (((UInt32.toNat x22:Int)==(UInt32.toNat 0:Int))) fun x23=>
 some (x21,x23))
 (bnd (β:=Bool) (letm (decide (103≤x6)) fun x24=>
 cond x24 (letm (decide (x6<113)) fun x25=>
 some x25)
 (some false)) fun v26=>
 cond v26 (letm ((aF (126-x6))) fun x27=>
 letm ((aC x27)) fun x28=>
 letm ((aU .or .u32 (x7:UInt32) (8388608:UInt32):UInt32)) fun x29=>
 bnd ((c_ .u32 (x29:UInt32) (UInt64.toNat x28:Int):Option UInt32)) fun(x30:UInt32)=>
 letm ((Gk.lr .u16 (UInt32.toNat x30:Int))) fun x31=>
 letm ((aU .or .u16 x3 x31)) fun x32=>
 bnd ((et .u32 (1:UInt32) (UInt64.toNat x28:Int):Option UInt32)) fun(x33:UInt32)=>
 letm ((x33-1)) fun x34=>
 letm ((aU .and .u32 (x29:UInt32) (x34:UInt32):UInt32)) fun x35=>
 letm (((UInt32.toNat x35:Int)==(UInt32.toNat 0:Int))) fun x36=>
 some (x32,x36))
 (some (0,false)))))
def dT(a0:UInt64):Option (List UInt8):=
 bif feq a0 a0 then(match nC a0.toNat with
  |none=>bnd (mE a0) fun x=>cO [251] x
  |some s=>bnd (kH (UInt32.ofNat s)) fun x=>some (bif x.2 then [249,ar (x.1/256),ar x.1]else [250,ar ((s:Int)/16777216),ar ((s:Int)/65536),ar ((s:Int)/256),ar (s:Int)]))
 else some [249,126,0]
def iJ(a0:Go.Gk.Tr):Option (UInt8×UInt64):=
 bnd (β:=Bool) (letm ((a0.k==2)) fun x1=>
 cond x1 (some true)
 (letm ((a0.k==3)) fun x2=>
 some x2)) fun v3=>
 cond v3 (letm ((ar a0.k)) fun x4=>
 letm ((aC (a0.b.length:Int))) fun x5=>
 some (x4,x5))
 (letm ((a0.k==4)) fun x6=>
 cond x6 (letm ((aC (a0.l.length:Int))) fun x7=>
 some (4,x7))
 (letm ((a0.k==5)) fun x8=>
 cond x8 (bnd (quo (a0.l.length:Int) 2) fun x9=>
 letm ((aC x9)) fun x10=>
 some (5,x10))
 (letm ((ar a0.k)) fun x11=>
 some (x11,a0.n))))
def bJ(a0:UInt8)(a1:UInt64):Option (List UInt8):=
 bnd (et .u8 a0 (UInt64.toNat 5:Int)) fun x2=>
 letm (decide ((UInt64.toNat a1:Int)<(UInt64.toNat 24:Int))) fun x3=>
 cond x3 (letm ((ar (UInt64.toNat a1:Int))) fun x4=>
 letm ((ar (bits .or .u8 (UInt8.toNat x2) (UInt8.toNat x4)))) fun x5=>
 some [x5])
 (letm (decide ((UInt64.toNat a1:Int)<(UInt64.toNat 256:Int))) fun x6=>
 cond x6 (letm ((ar (bits .or .u8 (UInt8.toNat x2) (UInt8.toNat 24)))) fun x7=>
 letm ((ar (UInt64.toNat a1:Int))) fun x8=>
 some [x7,x8])
 (letm (decide ((UInt64.toNat a1:Int)<(UInt64.toNat 65536:Int))) fun x9=>
 cond x9 (letm ((ar (bits .or .u8 (UInt8.toNat x2) (UInt8.toNat 25)))) fun x10=>
 bnd ((c_ .u64 (a1:UInt64) (UInt64.toNat 8:Int):Option UInt64)) fun(x11:UInt64)=>
 letm ((ar (UInt64.toNat x11:Int))) fun x12=>
 letm ((ar (UInt64.toNat a1:Int))) fun x13=>
 some [x10,x12,x13])
 (letm (decide ((UInt64.toNat a1:Int)<(UInt64.toNat 4294967296:Int))) fun x14=>
 cond x14 (letm ((ar (bits .or .u8 (UInt8.toNat x2) (UInt8.toNat 26)))) fun x15=>
 bnd ((c_ .u64 (a1:UInt64) (UInt64.toNat 24:Int):Option UInt64)) fun(x16:UInt64)=>
 letm ((ar (UInt64.toNat x16:Int))) fun x17=>
 bnd ((c_ .u64 (a1:UInt64) (UInt64.toNat 16:Int):Option UInt64)) fun(x18:UInt64)=>
 letm ((ar (UInt64.toNat x18:Int))) fun x19=>
 bnd ((c_ .u64 (a1:UInt64) (UInt64.toNat 8:Int):Option UInt64)) fun(x20:UInt64)=>
 letm ((ar (UInt64.toNat x20:Int))) fun x21=>
 letm ((ar (UInt64.toNat a1:Int))) fun x22=>
 some [x15,x17,x19,x21,x22])
 (letm ((ar (bits .or .u8 (UInt8.toNat x2) (UInt8.toNat 27)))) fun x23=>
 bo (R:=(List UInt8)) (S:=((List UInt8)×Int)) (fun self25 s24=>
 letm (decide (0≤s24.2)) fun x26=>
 cond x26 (bnd ((c_ .u64 (a1:UInt64) s24.2:Option UInt64)) fun(x27:UInt64)=>
 letm ((ar (UInt64.toNat x27:Int))) fun x28=>
 bnd (cO s24.1 [x28]) fun x29=>
 letm ((aF (s24.2-8))) fun x30=>
 self25 (x29,x30))
 (some s24.1)) cS ([x23],56)))))
def de(a0:aA)(a1:Go.Gk.Tr):Option (Bool×aA):=
 bnd (β:=aA) (letm ((a1.k==8)) fun x2=>
 cond x2 (bnd (dT a1.n) fun x3=>
 letm ((aF (a0.2+(x3.length:Int)))) fun x4=>
 some (a0.1,x4))
 (letm ((a1.k==7)) fun x5=>
 cond x5 (letm ((aF (a0.2+1))) fun x6=>
 letm (decide ((UInt64.toNat 24:Int)≤(UInt64.toNat a1.n:Int))) fun x7=>
 cond x7 (letm ((aF (x6+1))) fun x8=>
 some (a0.1,x8))
 (some (a0.1,x6)))
 (bnd (iJ a1) fun x9=>
 bnd (bJ x9.1 x9.2) fun x10=>
 letm ((aF ((x10.length:Int)+(a1.b.length:Int)))) fun x11=>
 letm ((aF (a0.2+x11))) fun x12=>
 some (a0.1,x12)))) fun v13=>
 letm (decide (v13.2≤4096)) fun x14=>
 some (x14,v13)
def lE(lJ:((List UInt8))→(Go.Gk.Tr)→Option (List UInt8))(a0:(List UInt8))(a1:Go.Gk.Tr):Option (List UInt8):=
 letm ((a1.k==8)) fun x2=>
 cond x2 (bnd (dT a1.n) fun x3=>
 bnd (cO a0 x3) fun x4=>
 some x4)
 (bnd (β:=Bool) (letm ((a1.k==7)) fun x5=>
 cond x5 (letm (decide ((UInt64.toNat 24:Int)≤(UInt64.toNat a1.n:Int))) fun x6=>
 some x6)
 (some false)) fun v7=>
 cond v7 (letm ((ar (UInt64.toNat a1.n:Int))) fun x8=>
 bnd (cO a0 [248,x8]) fun x9=>
 some x9)
 (bnd (iJ a1) fun x10=>
 bnd (bJ x10.1 x10.2) fun x11=>
 bnd (cO a0 x11) fun x12=>
 bnd (cO x12 a1.b) fun x13=>
 a6 (R:=(List UInt8)) (S:=(List UInt8)) (α:=Go.Gk.Tr) (fun _ s15=>
 some s15)
 (fun x16 _ s18 self19=>
 bnd (lJ s18 x16) fun x20=>
 self19 x20) a1.l 0 x13))
def lP(n:Nat):((List UInt8))→(Go.Gk.Tr)→Option (List UInt8):=Nat.rec (motive:=fun _=>((List UInt8))→(Go.Gk.Tr)→Option (List UInt8)) (fun _ _=>none) (fun _ ih=>lE ih) n
def lJ(a0:(List UInt8))(a1:Go.Gk.Tr):Option (List UInt8):=lP 40 a0 a1
def dA(a0:(List UInt8))(a1:Go.Gk.Tr):Option (List UInt8):=
 letm ((a1.k==8)) fun x2=>
 cond x2 (bnd (dT a1.n) fun x3=>
 bnd (cO a0 x3) fun x4=>
 some x4)
 (bnd (β:=Bool) (letm ((a1.k==7)) fun x5=>
 cond x5 (letm (decide ((UInt64.toNat 24:Int)≤(UInt64.toNat a1.n:Int))) fun x6=>
 some x6)
 (some false)) fun v7=>
 cond v7 (letm ((ar (UInt64.toNat a1.n:Int))) fun x8=>
 bnd (cO a0 [248,x8]) fun x9=>
 some x9)
 (bnd (iJ a1) fun x10=>
 bnd (bJ x10.1 x10.2) fun x11=>
 bnd (cO a0 x11) fun x12=>
 bnd (cO x12 a1.b) fun x13=>
 a6 (R:=(List UInt8)) (S:=(List UInt8)) (α:=Go.Gk.Tr) (fun _ s15=>
 some s15)
 (fun x16 _ s18 self19=>
 bnd (lJ s18 x16) fun x20=>
 self19 x20) a1.l 0 x13))
def dK(a0 a1:List UInt8):Option Int:=some (Lib.compareBytes a0 a1)
def gz(a0:(List Go.Gk.Tr)):Option Bool:=
 bo (R:=Bool) (S:=Int) (fun self2 s1=>
 letm (decide (s1<(a0.length:Int))) fun x3=>
 cond x3 (letm ((aF (s1-2))) fun x4=>
 bnd (aV a0 x4) fun x5=>
 bnd (dA [] x5) fun x6=>
 bnd (aV a0 s1) fun x7=>
 bnd (dA [] x7) fun x8=>
 bnd (dK x6 x8) fun x9=>
 letm (decide (0≤x9)) fun x10=>
 cond x10 (some false)
 (letm ((aF (s1+2))) fun x11=>
 self2 x11))
 (some true)) cS 2
def gg(eH:(aA)→(Go.Gk.Tr)→(Int)→Option (Bool×aA))(a0:aA)(a1:Go.Gk.Tr)(a2:Int):Option (Bool×aA):=
 letm ((aF (a0.1+1))) fun x3=>
 bnd (β:=Bool) (letm (decide (256<x3)) fun x4=>
 cond x4 (some true)
 (letm (decide (4096<(a1.b.length:Int))) fun x5=>
 cond x5 (some true)
 (letm (decide (256<(a1.l.length:Int))) fun x6=>
 some x6))) fun v7=>
 cond v7 (some (false,(x3,a0.2)))
 (bnd (lD a1) fun x8=>
 cond x8.2 (bnd (β:=(Bool×aA)) (cond x8.1 (bnd (de (x3,a0.2) a1) fun x9=>
 some (x9.1,x9.2))
 (some (false,(x3,a0.2)))) fun v10=>
 some (v10.1,v10.2))
 (bnd (β:=Bool) (letm (decide (a1.k<4)) fun x11=>
 cond x11 (some true)
 (letm (decide (6<a1.k)) fun x12=>
 cond x12 (some true)
 (letm (decide (8≤a2)) fun x13=>
 cond x13 (some true)
 (letm (decide (0<(a1.b.length:Int))) fun x14=>
 some x14)))) fun v15=>
 cond v15 (some (false,(x3,a0.2)))
 (bnd (β:=Bool) (letm ((a1.k==6)) fun x16=>
 cond x16 (letm (((a1.l.length:Int) != 1)) fun x17=>
 cond x17 (some true)
 (letm ((a1.k != 6)) fun x18=>
 cond x18 (letm (((UInt64.toNat a1.n:Int) != (UInt64.toNat 0:Int))) fun x19=>
 cond x19 (some true)
 (letm ((a1.k==5)) fun x20=>
 cond x20 (bnd (Gk.rem (a1.l.length:Int) 2) fun x21=>
 letm ((x21==1)) fun x22=>
 some x22)
 (some false)))
 (letm ((a1.k==5)) fun x23=>
 cond x23 (bnd (Gk.rem (a1.l.length:Int) 2) fun x24=>
 letm ((x24==1)) fun x25=>
 some x25)
 (some false))))
 (letm ((a1.k != 6)) fun x26=>
 cond x26 (letm (((UInt64.toNat a1.n:Int) != (UInt64.toNat 0:Int))) fun x27=>
 cond x27 (some true)
 (letm ((a1.k==5)) fun x28=>
 cond x28 (bnd (Gk.rem (a1.l.length:Int) 2) fun x29=>
 letm ((x29==1)) fun x30=>
 some x30)
 (some false)))
 (letm ((a1.k==5)) fun x31=>
 cond x31 (bnd (Gk.rem (a1.l.length:Int) 2) fun x32=>
 letm ((x32==1)) fun x33=>
 some x33)
 (some false)))) fun v34=>
 cond v34 (some (false,(x3,a0.2)))
 (bnd (de (x3,a0.2) a1) fun x35=>
 letm ((!x35.1)) fun x36=>
 cond x36 (some (false,x35.2))
 (a6 (R:=(Bool×aA)) (S:=aA) (α:=Go.Gk.Tr) (fun _ s38=>
 bnd (β:=Bool) (letm ((a1.k != 5)) fun x39=>
 cond x39 (some true)
 (bnd (gz a1.l) fun x40=>
 some x40)) fun v41=>
 some (v41,s38))
 (fun x42 _ s44 self45=>
 letm ((aF (a2+1))) fun x46=>
 bnd (eH s44 x42 x46) fun x47=>
 letm ((!x47.1)) fun x48=>
 cond x48 (some (false,x47.2))
 (self45 x47.2)) a1.l 0 x35.2)))))
def gc(n:Nat):(aA)→(Go.Gk.Tr)→(Int)→Option (Bool×aA):=Nat.rec (motive:=fun _=>(aA)→(Go.Gk.Tr)→(Int)→Option (Bool×aA)) (fun _ _ _=>none) (fun _ ih=>gg ih) n
def eH(a0:aA)(a1:Go.Gk.Tr)(a2:Int):Option (Bool×aA):=gc 40 a0 a1 a2
def bX(a0:Go.Gk.Tr):Option Bool:=
 bnd (eH (0,0) a0 0) fun x1=>
 some x1.1
def gq(a0:Go.Gk.Tr):Option (List az):=
 bo (R:=(List az)) (S:=((List az)×Int)) (fun self2 s1=>
 letm ((aF (s1.2+1))) fun x3=>
 letm (decide (x3<(a0.l.length:Int))) fun x4=>
 cond x4 (bnd (aV a0.l s1.2) fun x5=>
 letm ((aF (s1.2+1))) fun x6=>
 bnd (aV a0.l x6) fun x7=>
 bnd (cO s1.1 [(x5,x7)]) fun x8=>
 letm ((aF (s1.2+2))) fun x9=>
 self2 (x8,x9))
 (some s1.1)) cS ([],0)
def ey(a0:Go.Gk.Tr):Option Bool:=
 bnd (β:=Bool) (letm ((a0.k==0)) fun x1=>
 cond x1 (letm (decide ((UInt64.toNat a0.n:Int)≤(UInt64.toNat 65535:Int))) fun x2=>
 some x2)
 (letm ((a0.k==1)) fun x3=>
 cond x3 (letm (decide ((UInt64.toNat a0.n:Int)≤(UInt64.toNat 65535:Int))) fun x4=>
 some x4)
 (some false))) fun v5=>
 some v5
def fb(a0:az):Option Bool:=
 letm ((a0.1.k==3)) fun x1=>
 cond x1 (some true)
 (bnd (ey a0.1) fun x2=>
 letm ((!x2)) fun x3=>
 cond x3 (some false)
 (letm ((a0.1.k==1)) fun x4=>
 cond x4 (some true)
 (letm (((UInt64.toNat a0.1.n:Int)==(UInt64.toNat 1:Int))) fun x5=>
 cond x5 (bnd (β:=Bool) (bnd (ey a0.2) fun x6=>
 cond x6 (letm ((a0.2.k==1)) fun x7=>
 cond x7 (some true)
 (letm (((UInt64.toNat a0.2.n:Int) != (UInt64.toNat 0:Int))) fun x8=>
 some x8))
 (some false)) fun v9=>
 some v9)
 (bnd (β:=Bool) (letm (((UInt64.toNat a0.1.n:Int)==(UInt64.toNat 4:Int))) fun x10=>
 cond x10 (some true)
 (letm (((UInt64.toNat a0.1.n:Int)==(UInt64.toNat 5:Int))) fun x11=>
 cond x11 (some true)
 (letm (((UInt64.toNat a0.1.n:Int)==(UInt64.toNat 6:Int))) fun x12=>
 cond x12 (some true)
 (letm (((UInt64.toNat a0.1.n:Int)==(UInt64.toNat 12:Int))) fun x13=>
 some x13)))) fun v14=>
 cond v14 (letm ((a0.2.k==2)) fun x15=>
 some x15)
 (some true)))))
def bD(a0:(List UInt8))(a1:(List UInt8)):Option Bool:=
 letm ((a0==a1)) fun x2=>
 some x2
def aY(a0:List UInt8):Option (List UInt8):=cO ([]:List UInt8) a0
def jl(a0:List UInt8):Option (List UInt8):=aY a0
def kB(cQ:(Go.Gk.Tr)→Option Go.Gk.Tr)(a0:Go.Gk.Tr):Option Go.Gk.Tr:=
 bnd (aY a0.b) fun x1=>
 bnd (Nq (a0.l.length:Int) (Tr.mk 0 0 [] [])) fun x2=>
 a6 (R:=Go.Gk.Tr) (S:=(List Go.Gk.Tr)) (α:=Go.Gk.Tr) (fun _ s4=>
 bnd (β:=Go.Gk.Tr) (letm (((s4.length:Int)==0)) fun x5=>
 cond x5 (some (Tr.mk a0.k a0.n x1 []))
 (some (Tr.mk a0.k a0.n x1 s4))) fun v6=>
 some v6)
 (fun x7 k8 s9 self10=>
 bnd (cQ x7) fun x11=>
 bnd (aV s9 (k8:Int)) fun _=>
 bnd (aV s9 ((((k8:Int):Int)).toNat:Int)) fun _=>
 letm ((s9.set (((k8:Int):Int)).toNat x11)) fun x14=>
 self10 x14) a0.l 0 x2
def kz(n:Nat):(Go.Gk.Tr)→Option Go.Gk.Tr:=Nat.rec (motive:=fun _=>(Go.Gk.Tr)→Option Go.Gk.Tr) (fun _=>none) (fun _ ih=>kB ih) n
def cQ(a0:Go.Gk.Tr):Option Go.Gk.Tr:=kz 40 a0
def fO(a0:Go.Gk.Tr)(a1:Go.Gk.Tr):Option (Go.Gk.Tr×Bool):=
 bnd (β:=Bool) (letm ((a0.k != 5)) fun x2=>
 cond x2 (some true)
 (bnd (bX a0) fun x3=>
 letm ((!x3)) fun x4=>
 cond x4 (some true)
 (bnd (bX a1) fun x5=>
 letm ((!x5)) fun x6=>
 some x6))) fun v7=>
 cond v7 (some ((Tr.mk 0 0 [] []),false))
 (bnd (dA [] a1) fun x8=>
 bo (R:=(Go.Gk.Tr×Bool)) (S:=(Int×Go.Gk.Tr)) (fun self10 s9=>
 letm (decide (s9.1<(a0.l.length:Int))) fun x11=>
 cond x11 (bnd (aV a0.l s9.1) fun x12=>
 bnd (dA [] x12) fun x13=>
 bnd (bD x13 x8) fun x14=>
 cond x14 (letm ((aF (s9.1+1))) fun x15=>
 bnd (aV a0.l x15) fun x16=>
 bnd (cQ x16) fun x17=>
 some (x17,true))
 (letm ((aF (s9.1+2))) fun x18=>
 self10 (x18,s9.2)))
 (some ((Tr.mk 0 0 [] []),false))) cS (0,(Tr.mk 0 0 [] [])))
def uH(a0:UInt64):Option Go.Gk.Tr:=
 some (Tr.mk 0 a0 [] [])
def iA(a0:Int):Option Go.Gk.Tr:=
 letm (decide (a0<0)) fun x1=>
 cond x1 (letm ((aF ((-1)-a0))) fun x2=>
 letm ((aC x2)) fun x3=>
 some (Tr.mk 1 x3 [] []))
 (letm ((aC a0)) fun x4=>
 bnd (uH x4) fun x5=>
 some x5)
def ia(a0:az)(a1:Int):Option (Go.Gk.Tr×Bool):=
 bnd (iA a1) fun x2=>
 bnd (fO a0.1 x2) fun x3=>
 cond x3.2 (some (x3.1,true))
 (bnd (iA a1) fun x4=>
 bnd (fO a0.2 x4) fun x5=>
 some (x5.1,x5.2))
def d8(a0:az):Option Bool:=
 fI (ρ:=Bool) (ρ':=Bool) (Y:=Unit) (a6 (R:=(Bool⊕Unit)) (S:=Unit) (α:=Go.Gk.Tr) (fun _ _=>
 some (.inr ()))
 (fun x3 _ _ self6=>
 fI (ρ:=(Bool⊕Unit)) (ρ':=(Bool⊕Unit)) (Y:=Unit) (bnd (β:=Bool) (letm ((x3.k != 5)) fun x7=>
 cond x7 (some true)
 (bnd (bX x3) fun x8=>
 letm ((!x8)) fun x9=>
 some x9)) fun v10=>
 cond v10 (some (.inl (.inl false)))
 (bnd (gq x3) fun x11=>
 a6 (R:=((Bool⊕Unit)⊕Unit)) (S:=Unit) (α:=az) (fun _ _=>
 some (.inr ()))
 (fun x14 _ _ self17=>
 bnd (fb x14) fun x18=>
 letm ((!x18)) fun x19=>
 cond x19 (some (.inl (.inl false)))
 (self17 ())) x11 0 ())) (fun q=>q) fun _=>
 self6 ()) [a0.1,a0.2] 0 ()) (fun q=>q) fun _=>
 fI (ρ:=Bool) (ρ':=Bool) (Y:=Unit) (bnd (gq a0.1) fun x22=>
 a6 (R:=(Bool⊕Unit)) (S:=Unit) (α:=az) (fun _ _=>
 some (.inr ()))
 (fun x25 _ _ self28=>
 bnd (fO a0.2 x25.1) fun x29=>
 cond x29.2 (some (.inl false))
 (self28 ())) x22 0 ()) (fun q=>q) fun _=>
 bnd (ia a0 5) fun x31=>
 bnd (ia a0 6) fun x32=>
 bnd (iA 2) fun x33=>
 bnd (fO a0.2 x33) fun x34=>
 bnd (β:=Bool) (cond x34.2 (some true)
 (cond x31.2 (some x32.2)
 (some false))) fun v35=>
 cond v35 (some false)
 (bnd (iA 2) fun x36=>
 bnd (fO a0.1 x36) fun x37=>
 letm ((!x37.2)) fun x38=>
 cond x38 (some true)
 (fI (ρ:=Bool) (ρ':=Bool) (Y:=Unit) (a6 (R:=(Bool⊕Unit)) (S:=Unit) (α:=Go.Gk.Tr) (fun _ _=>
 some (.inr ()))
 (fun x41 _ _ self44=>
 bnd (fO a0.1 x41) fun x45=>
 letm ((!x45.2)) fun x46=>
 cond x46 (some (.inl false))
 (self44 ())) x37.1.l 0 ()) (fun q=>q) fun _=>
 bnd (β:=Bool) (letm ((x37.1.k==4)) fun x48=>
 cond x48 (letm (decide (0<(x37.1.l.length:Int))) fun x49=>
 some x49)
 (some false)) fun v50=>
 some v50))
def nN(a0:az)(a1:Int):Option (Go.Gk.Tr×Bool):=
 bnd (d8 a0) fun x2=>
 letm ((!x2)) fun x3=>
 cond x3 (some ((Tr.mk 0 0 [] []),false))
 (bnd (ia a0 a1) fun x4=>
 some (x4.1,x4.2))
def jX(a0:az):Option Int:=
 bnd (nN a0 1) fun x1=>
 letm ((!x1.2)) fun x2=>
 cond x2 (some 0)
 (letm ((x1.1.k==1)) fun x3=>
 cond x3 (letm ((aF (UInt64.toNat x1.1.n:Int))) fun x4=>
 letm ((aF ((-1)-x4))) fun x5=>
 some x5)
 (letm ((aF (UInt64.toNat x1.1.n:Int))) fun x6=>
 some x6))
def fZ(a0:Int):Option Int:=
 letm ((a0==10)) fun x1=>
 cond x1 (some 8)
 (letm ((a0==30)) fun x2=>
 cond x2 (some 16)
 (some 0))
def im(a0:Go.Gk.Tr):Option ((List UInt8)×Int):=
 bnd (bX a0) fun x1=>
 letm ((!x1)) fun x2=>
 cond x2 (some ([],1))
 (bnd (dA [] a0) fun x3=>
 some (x3,0))
def e_(a0:az):Option ((List UInt8)×Int):=
 bnd (d8 a0) fun x1=>
 letm ((!x1)) fun x2=>
 cond x2 (some ([],1))
 (letm (((a0.1.l.length:Int)==0)) fun x3=>
 cond x3 (some ([],0))
 (bnd (im a0.1) fun x4=>
 some (x4.1,x4.2)))
def bi(a0:(List UInt8)):Option UInt64:=
 bnd (aV a0 0) fun x1=>
 letm ((aC (UInt8.toNat x1:Int))) fun x2=>
 bnd (aV a0 1) fun x3=>
 letm ((aC (UInt8.toNat x3:Int))) fun x4=>
 bnd ((et .u64 (x4:UInt64) (UInt64.toNat 8:Int):Option UInt64)) fun(x5:UInt64)=>
 letm ((aU .or .u64 (x2:UInt64) (x5:UInt64):UInt64)) fun x6=>
 bnd (aV a0 2) fun x7=>
 letm ((aC (UInt8.toNat x7:Int))) fun x8=>
 bnd ((et .u64 (x8:UInt64) (UInt64.toNat 16:Int):Option UInt64)) fun(x9:UInt64)=>
 letm ((aU .or .u64 (x6:UInt64) (x9:UInt64):UInt64)) fun x10=>
 bnd (aV a0 3) fun x11=>
 letm ((aC (UInt8.toNat x11:Int))) fun x12=>
 bnd ((et .u64 (x12:UInt64) (UInt64.toNat 24:Int):Option UInt64)) fun(x13:UInt64)=>
 letm ((aU .or .u64 (x10:UInt64) (x13:UInt64):UInt64)) fun x14=>
 bnd (aV a0 4) fun x15=>
 letm ((aC (UInt8.toNat x15:Int))) fun x16=>
 bnd ((et .u64 (x16:UInt64) (UInt64.toNat 32:Int):Option UInt64)) fun(x17:UInt64)=>
 letm ((aU .or .u64 (x14:UInt64) (x17:UInt64):UInt64)) fun x18=>
 bnd (aV a0 5) fun x19=>
 letm ((aC (UInt8.toNat x19:Int))) fun x20=>
 bnd ((et .u64 (x20:UInt64) (UInt64.toNat 40:Int):Option UInt64)) fun(x21:UInt64)=>
 letm ((aU .or .u64 (x18:UInt64) (x21:UInt64):UInt64)) fun x22=>
 bnd (aV a0 6) fun x23=>
 letm ((aC (UInt8.toNat x23:Int))) fun x24=>
 bnd ((et .u64 (x24:UInt64) (UInt64.toNat 48:Int):Option UInt64)) fun(x25:UInt64)=>
 letm ((aU .or .u64 (x22:UInt64) (x25:UInt64):UInt64)) fun x26=>
 bnd (aV a0 7) fun x27=>
 letm ((aC (UInt8.toNat x27:Int))) fun x28=>
 bnd ((et .u64 (x28:UInt64) (UInt64.toNat 56:Int):Option UInt64)) fun(x29:UInt64)=>
 letm ((aU .or .u64 (x26:UInt64) (x29:UInt64):UInt64)) fun x30=>
 some x30
def eW(a0:(List UInt8)):Option Bool:=
 fI (ρ:=Bool) (ρ':=Bool) (Y:=Unit) (bo (R:=(Bool⊕Unit)) (S:=(List UInt8)) (fun self2 s1=>
 letm (decide (0<(s1.length:Int))) fun x3=>
 cond x3 (bnd (aV s1 0) fun x4=>
 letm (decide ((UInt8.toNat x4:Int)<(UInt8.toNat 128:Int))) fun x5=>
 cond x5 (bnd (Gk.cut s1 1 (s1.length:Int)) fun x6=>
 bnd (β:=Bool) (letm (decide (8<(x6.length:Int))) fun x7=>
 cond x7 (bnd (bi x6) fun x8=>
 letm ((aU .and .u64 (x8:UInt64) (9259542123273814144:UInt64):UInt64)) fun x9=>
 letm (((UInt64.toNat x9:Int)==(UInt64.toNat 0:Int))) fun x10=>
 some x10)
 (some false)) fun v11=>
 cond v11 (bnd (Gk.cut x6 8 (x6.length:Int)) fun x12=>
 bnd (β:=Bool) (letm (decide (16<(x12.length:Int))) fun x13=>
 cond x13 (bnd (bi x12) fun x14=>
 bnd (Gk.cut x12 8 (x12.length:Int)) fun x15=>
 bnd (bi x15) fun x16=>
 letm ((aU .or .u64 (x14:UInt64) (x16:UInt64):UInt64)) fun x17=>
 letm ((aU .and .u64 (x17:UInt64) (9259542123273814144:UInt64):UInt64)) fun x18=>
 letm (((UInt64.toNat x18:Int)==(UInt64.toNat 0:Int))) fun x19=>
 some x19)
 (some false)) fun v20=>
 cond v20 (bnd (Gk.cut x12 16 (x12.length:Int)) fun x21=>
 bo (R:=(Bool⊕Unit)) (S:=(List UInt8)) (fun self23 s22=>
 bnd (β:=Bool) (letm (decide (32<(s22.length:Int))) fun x24=>
 cond x24 (bnd (bi s22) fun x25=>
 bnd (Gk.cut s22 8 (s22.length:Int)) fun x26=>
 bnd (bi x26) fun x27=>
 letm ((aU .or .u64 (x25:UInt64) (x27:UInt64):UInt64)) fun x28=>
 bnd (Gk.cut s22 16 (s22.length:Int)) fun x29=>
 bnd (bi x29) fun x30=>
 bnd (Gk.cut s22 24 (s22.length:Int)) fun x31=>
 bnd (bi x31) fun x32=>
 letm ((aU .or .u64 (x30:UInt64) (x32:UInt64):UInt64)) fun x33=>
 letm ((aU .or .u64 (x28:UInt64) (x33:UInt64):UInt64)) fun x34=>
 letm ((aU .and .u64 (x34:UInt64) (9259542123273814144:UInt64):UInt64)) fun x35=>
 letm (((UInt64.toNat x35:Int)==(UInt64.toNat 0:Int))) fun x36=>
 some x36)
 (some false)) fun v37=>
 cond v37 (bnd (Gk.cut s22 32 (s22.length:Int)) fun x38=>
 self23 x38)
 (self2 s22)) cS x21)
 (self2 x12))
 (self2 x6))
 (bnd (aV pD (UInt8.toNat x4:Int)) fun x39=>
 letm ((ar (bits .and .u8 (UInt8.toNat x39) (UInt8.toNat 7)))) fun x40=>
 letm ((aF (UInt8.toNat x40:Int))) fun x41=>
 bnd (c_ .u8 x39 (UInt64.toNat 4:Int)) fun x42=>
 bnd (aV px (UInt8.toNat x42:Int)) fun x43=>
 letm ((x41==2)) fun x44=>
 cond x44 (bnd (β:=Bool) (letm (decide ((s1.length:Int)<2)) fun x45=>
 cond x45 (some true)
 (bnd (aV s1 1) fun x46=>
 letm (decide ((UInt8.toNat x46:Int)<(UInt8.toNat x43.1:Int))) fun x47=>
 cond x47 (some true)
 (bnd (aV s1 1) fun x48=>
 letm (decide ((UInt8.toNat x43.2:Int)<(UInt8.toNat x48:Int))) fun x49=>
 some x49))) fun v50=>
 cond v50 (some (.inl false))
 (bnd (Gk.cut s1 2 (s1.length:Int)) fun x51=>
 self2 x51))
 (letm ((x41==3)) fun x52=>
 cond x52 (bnd (β:=Bool) (letm (decide ((s1.length:Int)<3)) fun x53=>
 cond x53 (some true)
 (bnd (aV s1 1) fun x54=>
 letm (decide ((UInt8.toNat x54:Int)<(UInt8.toNat x43.1:Int))) fun x55=>
 cond x55 (some true)
 (bnd (aV s1 1) fun x56=>
 letm (decide ((UInt8.toNat x43.2:Int)<(UInt8.toNat x56:Int))) fun x57=>
 cond x57 (some true)
 (bnd (aV s1 2) fun x58=>
 letm (decide ((UInt8.toNat x58:Int)<(UInt8.toNat 128:Int))) fun x59=>
 cond x59 (some true)
 (bnd (aV s1 2) fun x60=>
 letm (decide ((UInt8.toNat 191:Int)<(UInt8.toNat x60:Int))) fun x61=>
 some x61))))) fun v62=>
 cond v62 (some (.inl false))
 (bnd (Gk.cut s1 3 (s1.length:Int)) fun x63=>
 self2 x63))
 (letm ((x41==4)) fun x64=>
 cond x64 (bnd (β:=Bool) (letm (decide ((s1.length:Int)<4)) fun x65=>
 cond x65 (some true)
 (bnd (aV s1 1) fun x66=>
 letm (decide ((UInt8.toNat x66:Int)<(UInt8.toNat x43.1:Int))) fun x67=>
 cond x67 (some true)
 (bnd (aV s1 1) fun x68=>
 letm (decide ((UInt8.toNat x43.2:Int)<(UInt8.toNat x68:Int))) fun x69=>
 cond x69 (some true)
 (bnd (aV s1 2) fun x70=>
 letm (decide ((UInt8.toNat x70:Int)<(UInt8.toNat 128:Int))) fun x71=>
 cond x71 (some true)
 (bnd (aV s1 2) fun x72=>
 letm (decide ((UInt8.toNat 191:Int)<(UInt8.toNat x72:Int))) fun x73=>
 cond x73 (some true)
 (bnd (aV s1 3) fun x74=>
 letm (decide ((UInt8.toNat x74:Int)<(UInt8.toNat 128:Int))) fun x75=>
 cond x75 (some true)
 (bnd (aV s1 3) fun x76=>
 letm (decide ((UInt8.toNat 191:Int)<(UInt8.toNat x76:Int))) fun x77=>
 some x77))))))) fun v78=>
 cond v78 (some (.inl false))
 (bnd (Gk.cut s1 4 (s1.length:Int)) fun x79=>
 self2 x79))
 (some (.inl false))))))
 (some (.inr ()))) cS a0) (fun q=>q) fun _=>
 some true
def qj(a0:(List UInt8)):Option Go.Gk.Tr:=
 bnd (cO [] a0) fun x1=>
 some (Tr.mk 3 0 x1 [])
def cr(a0:List UInt8):Option (List UInt8):=cO ([]:List UInt8) a0
def eM(a0:(List UInt8)):Option Go.Gk.Tr:=
 bnd (cr a0) fun x1=>
 some (Tr.mk 2 0 x1 [])
def lN(a0:(List Go.Gk.Tr)):Option Go.Gk.Tr:=
 a6 (R:=Go.Gk.Tr) (S:=(Go.Gk.Tr×(List Go.Gk.Tr))) (α:=Go.Gk.Tr) (fun _ s2=>
 some (Tr.mk s2.1.k s2.1.n s2.1.b s2.2))
 (fun x3 _ s5 self6=>
 bnd (cQ x3) fun x7=>
 bnd (cO s5.2 [x7]) fun x8=>
 self6 (s5.1,x8)) a0 0 ((Tr.mk 4 0 [] []),[])
def gw(a0:(List UInt8))(a1:az)(a2:(List UInt8))(a3:(List (List UInt8))):Option ((List UInt8)×Int):=
 bnd (e_ a1) fun x4=>
 letm ((x4.2 != 0)) fun x5=>
 cond x5 (some ([],x4.2))
 (bnd (eW a0) fun x6=>
 letm ((!x6)) fun x7=>
 cond x7 (some ([],5))
 (bnd (qj a0) fun x8=>
 bnd (eM x4.1) fun x9=>
 bnd (eM a2) fun x10=>
 a6 (R:=((List UInt8)×Int)) (S:=(List Go.Gk.Tr)) (α:=(List UInt8)) (fun _ s12=>
 bnd (lN s12) fun x13=>
 bnd (im x13) fun x14=>
 letm ((x14.2 != 0)) fun x15=>
 cond x15 (some ([],8))
 (some (x14.1,0)))
 (fun x16 _ s18 self19=>
 bnd (eM x16) fun x20=>
 bnd (cO s18 [x20]) fun x21=>
 self19 x21) a3 0 [x8,x9,x10]))
def eR(a0:(List UInt8))(a1:(List UInt8))(a2:Int):Option Bool:=
 bnd (β:=Bool) (letm (((a0.length:Int)==16)) fun x3=>
 cond x3 (letm (decide (7≤(a1.length:Int))) fun x4=>
 cond x4 (letm (decide ((a1.length:Int)≤13)) fun x5=>
 cond x5 (letm (decide (4≤a2)) fun x6=>
 cond x6 (letm (decide (a2≤16)) fun x7=>
 cond x7 (bnd (Gk.rem a2 2) fun x8=>
 letm ((x8==0)) fun x9=>
 some x9)
 (some false))
 (some false))
 (some false))
 (some false))
 (some false)) fun v10=>
 some v10
def oG(a0 a1 a2 a3:List UInt8)(a4:Int):Option (List UInt8×Int):=bnd (eR a0 a1 a4) fun v=>some (GY v a0 a1 a2 a3 a4.toNat)
theorem ze{key nonce:List UInt8}{z:Int}(h:eR key nonce z=some true): ∃t:Nat,z=t∧key.length=16∧7≤nonce.length∧nonce.length≤13∧4≤t∧t≤16:=by
 unfold eR letm at h
 cases h1:((key.length:Int)==16)with
 |false=>rw[h1]at h;cases h
 |true=>
 rw[h1]at h
 cases h2:decide (7≤(nonce.length:Int))with
 |false=>rw[h2]at h;cases h
 |true=>
 rw[h2]at h
 cases h3:decide ((nonce.length:Int)≤13)with
 |false=>rw[h3]at h;cases h
 |true=>
 rw[h3]at h
 cases h4:decide (4≤z)with
 |false=>rw[h4]at h;cases h
 |true=>
 rw[h4]at h
 cases h5:decide (z≤16)with
 |false=>rw[h5]at h;cases h
 |true=>
 have e1:(key.length:Int)=16:=by simpa using h1
 have e2:=of_decide_eq_true h2
 have e3:=of_decide_eq_true h3
 have e4:=of_decide_eq_true h4
 have e5:=of_decide_eq_true h5
 exact⟨z.toNat,by omega,by omega,by omega,by omega,by omega,by omega⟩
theorem qr(a b:UInt8)(x y:List UInt8):Lib.compareBytes (a::x) (b::y)=if a.toNat<b.toNat then -1 else if b.toNat<a.toNat then 1 else Lib.compareBytes x y:=by
 rw[Lib.compareBytes]
 simp only[UInt8.lt_iff_toNat_lt]
theorem wS : ∀a b:List UInt8,Lib.compareBytes b a = - Lib.compareBytes a b
 | [],[]=>rfl
 | [],_::_=>rfl
 |_::_,[]=>rfl
 |a::x,b::y=>by
  rw[qr,qr,wS x y]
  split<;>split<;>first |rfl |omega
theorem vX : ∀a b c:List UInt8,Lib.compareBytes a b≤0→Lib.compareBytes b c≤0→Lib.compareBytes a c≤0∧(Lib.compareBytes a b<0∨Lib.compareBytes b c<0→Lib.compareBytes a c<0)
 | [],[],[],_,_=>⟨Int.le_refl 0,fun h=>by rcases h with h |h<;>cases h⟩
 | [],[],_::_,_,_=>⟨by show(-1:Int)≤0;omega,fun _=>by show(-1:Int)<0;omega⟩
 | [],_::_,[],_,h=>absurd (show(1:Int)≤0 from h) (by omega)
 | [],_::_,_::_,_,_=>⟨by show(-1:Int)≤0;omega,fun _=>by show(-1:Int)<0;omega⟩
 |_::_,[],_,h,_=>absurd (show(1:Int)≤0 from h) (by omega)
 |_::_,_::_,[],_,h=>absurd (show(1:Int)≤0 from h) (by omega)
 |a::x,b::y,c::z,h1,h2=>by
  rw[qr]at h1 h2
  rw[qr,qr,qr]
  by_cases e1:a.toNat<b.toNat
  ·by_cases e2:b.toNat<c.toNat
   ·rw[if_pos (show a.toNat<c.toNat by omega)];exact⟨by omega,fun _=>by omega⟩
   ·rw[if_neg e2]at h2
    by_cases e3:c.toNat<b.toNat
    ·rw[if_pos e3]at h2;omega
    ·rw[if_pos (show a.toNat<c.toNat by omega)];exact⟨by omega,fun _=>by omega⟩
  ·rw[if_neg e1]at h1
   by_cases e3:b.toNat<a.toNat
   ·rw[if_pos e3]at h1;omega
   ·rw[if_neg e3]at h1
    by_cases e2:b.toNat<c.toNat
    ·rw[if_pos (show a.toNat<c.toNat by omega)];exact⟨by omega,fun _=>by omega⟩
    ·rw[if_neg e2]at h2
     by_cases e4:c.toNat<b.toNat
     ·rw[if_pos e4]at h2;omega
     ·rw[if_neg e4]at h2
      rw[if_neg (show ¬a.toNat<c.toNat by omega),if_neg (show ¬c.toNat<a.toNat by omega),if_neg e1,if_neg e3,if_neg e2,if_neg e4]
      exact vX x y z h1 h2
theorem LT(a:List UInt8):Lib.compareBytes a a=0:=by have:=wS a a;omega
def vr(a b:cI):Bool:=decide (Lib.compareBytes a.1 b.1<0)
def pR(xs ys:List cI):Prop:=NG vr xs ys
theorem Jh:Sort.SWO vr:=by
 refine⟨fun x=>?_,fun x y z h1 h2=>?_,fun x y z h1 h2=>?_⟩
 ·exact decide_eq_false (by rw[LT];omega)
 ·have a1:=of_decide_eq_true h1
  have a2:=of_decide_eq_true h2
  exact decide_eq_true ((vX _ _ _ (by omega) (by omega)).2 (.inl a1))
 ·have a1:=of_decide_eq_false h1
  have a2:=of_decide_eq_false h2
  have r1:=wS x.1 y.1
  have r2:=wS y.1 z.1
  have r3:=wS x.1 z.1
  have:=(vX z.1 y.1 x.1 (by omega) (by omega)).1
  exact decide_eq_false (by omega)
def jW(a0:(List Go.Gk.Tr)):Option (Go.Gk.Tr×Int):=
 bnd (Gk.rem (a0.length:Int) 2) fun x1=>
 letm ((x1==1)) fun x2=>
 cond x2 (some ((Tr.mk 0 0 [] []),1))
 (a6 (R:=(Go.Gk.Tr×Int)) (S:=Go.Gk.Tr) (α:=Go.Gk.Tr) (fun _ s4=>
 bnd (quo (a0.length:Int) 2) fun x5=>
 bnd (PB x5 ([],((Tr.mk 0 0 [] []),(Tr.mk 0 0 [] [])))) fun x6=>
 bo (R:=(Go.Gk.Tr×Int)) (S:=(Int×((List cI)×(List cI)))) (fun self8 s7=>
 letm (decide (s7.1<(a0.length:Int))) fun x9=>
 cond x9 (bnd (aV a0 s7.1) fun x10=>
 bnd (dA [] x10) fun x11=>
 bnd (aV a0 s7.1) fun x12=>
 letm ((aF (s7.1+1))) fun x13=>
 bnd (aV a0 x13) fun x14=>
 bnd (cO s7.2.2 [(x11,(x12,x14))]) fun x15=>
 letm ((aF (s7.1+2))) fun x16=>
 self8 (x16,(s7.2.1,x15)))
 (cond (Nat.ble (List.length s7.2.2) 4294967296) (AR (pR s7.2.2) fun v17=>
 a6 (R:=(Go.Gk.Tr×Int)) (S:=(Go.Gk.Tr×(Go.Gk.Tr×(List Go.Gk.Tr)))) (α:=cI) (fun _ s19=>
 bnd (bX (Tr.mk s19.2.1.k s19.2.1.n s19.2.1.b s19.2.2)) fun x20=>
 letm ((!x20)) fun x21=>
 cond x21 (some ((Tr.mk 0 0 [] []),8))
 (bnd (cQ (Tr.mk s19.2.1.k s19.2.1.n s19.2.1.b s19.2.2)) fun x22=>
 some (x22,0)))
 (fun x23 k24 s25 self26=>
 bnd (β:=Bool) (letm (decide (0<(k24:Int))) fun x27=>
 cond x27 (letm ((aF ((k24:Int)-1))) fun x28=>
 bnd (aV v17 x28) fun x29=>
 bnd (bD x29.1 x23.1) fun x30=>
 some x30)
 (some false)) fun v31=>
 cond v31 (some ((Tr.mk 0 0 [] []),7))
 (bnd (cO s25.2.2 [x23.2.1,x23.2.2]) fun x32=>
 self26 (s25.1,(s25.2.1,x32)))) v17 0 (s4,((Tr.mk 5 0 [] []),[]))) none)) cS (0,([],x6)))
 (fun x33 _ s35 self36=>
 bnd (bX x33) fun x37=>
 letm ((!x37)) fun x38=>
 cond x38 (some ((Tr.mk 0 0 [] []),1))
 (self36 s35)) a0 0 (Tr.mk 0 0 [] []))
def iP(a0:az):Option az:=
 bnd (jW a0.1.l) fun x1=>
 bnd (jW a0.2.l) fun x2=>
 some (x1.1,x2.1)
def jm(a0:az)(a1:(List UInt8))(a2:(List UInt8))(a3:(List UInt8))(a4:(List UInt8)):Option (cH×Int):=
 bnd (d8 a0) fun x5=>
 letm ((!x5)) fun x6=>
 cond x6 (some ((((Tr.mk 0 0 [] []),(Tr.mk 0 0 [] [])),([],[])),1))
 (bnd (jX a0) fun x7=>
 bnd (fZ x7) fun x8=>
 letm ((x8==0)) fun x9=>
 cond x9 (some ((((Tr.mk 0 0 [] []),(Tr.mk 0 0 [] [])),([],[])),12))
 (bnd (gw [69,110,99,114,121,112,116,48] a0 a1 []) fun x10=>
 letm ((x10.2 != 0)) fun x11=>
 cond x11 (some ((((Tr.mk 0 0 [] []),(Tr.mk 0 0 [] [])),([],[])),x10.2))
 (bnd (oG a3 a4 x10.1 a2 x8) fun x12=>
 letm ((x12.2 != 0)) fun x13=>
 cond x13 (some ((((Tr.mk 0 0 [] []),(Tr.mk 0 0 [] [])),([],[])),x12.2))
 (bnd (iP a0) fun x14=>
 some ((x14,(x12.1,[])),0)))))
def ir(a0:Int)(a1:cH):Option ((List UInt8)×Int):=
 bnd (e_ a1.1) fun x2=>
 bnd (β:=Bool) (letm ((x2.2 != 0)) fun x3=>
 cond x3 (some true)
 (letm (decide (a0<16)) fun x4=>
 cond x4 (some true)
 (letm (decide (18<a0)) fun x5=>
 cond x5 (some true)
 (letm ((a0==16)) fun x6=>
 cond x6 (letm (decide (0<(a1.2.2.length:Int))) fun x7=>
 some x7)
 (some false))))) fun v8=>
 cond v8 (some ([],1))
 (bnd (eM x2.1) fun x9=>
 bnd (eM a1.2.1) fun x10=>
 bnd (β:=(List Go.Gk.Tr)) (letm ((a0 != 16)) fun x11=>
 cond x11 (bnd (eM a1.2.2) fun x12=>
 bnd (cO [x9,a1.1.2,x10] [x12]) fun x13=>
 some x13)
 (some [x9,a1.1.2,x10])) fun v14=>
 letm ((aC a0)) fun x15=>
 bnd (im (Tr.mk 6 x15 [] [(Tr.mk 4 0 [] v14)])) fun x16=>
 letm ((x16.2 != 0)) fun x17=>
 cond x17 (some ([],8))
 (some (x16.1,0)))
def eZ(a0:Int):Option Int:=
 bnd (Gk.shl 16 a0) fun x1=>
 some x1
def jP(a0:Int)(a1:Int):Option Int:=
 bnd (β:=Bool) (letm (decide (a0<0)) fun x2=>
 cond x2 (some true)
 (letm (decide (1073741824<a0)) fun x3=>
 cond x3 (some true)
 (letm (decide (a1<0)) fun x4=>
 cond x4 (some true)
 (letm (decide (6<a1)) fun x5=>
 some x5)))) fun v6=>
 cond v6 (some 0)
 (bnd (eZ a1) fun x7=>
 letm ((aF (a0+x7))) fun x8=>
 letm ((aF (x8-1))) fun x9=>
 letm ((aF (4+a1))) fun x10=>
 bnd (Gk.shr x9 x10) fun x11=>
 letm ((max 1 x11)) fun x12=>
 some x12)
def ic(a0:eS):Option Bool:=
 bnd (β:=Bool) (letm (decide (0≤a0.1)) fun x1=>
 cond x1 (letm (decide (a0.1≤1048575)) fun x2=>
 cond x2 (letm (decide (0≤a0.2.2)) fun x3=>
 cond x3 (letm (decide (a0.2.2≤6)) fun x4=>
 some x4)
 (some false))
 (some false))
 (some false)) fun v5=>
 some v5
def kC(a0:(List UInt8))(a1:Int)(a2:Int):Option ((List UInt8)×(Bool×Int)):=
 bnd (ic (a1,(false,a2))) fun x3=>
 letm ((!x3)) fun x4=>
 cond x4 (some ([],(false,1)))
 (bnd (eZ a2) fun x5=>
 letm ((aF (a1*x5))) fun x6=>
 bnd (β:=Bool) (letm (decide ((a0.length:Int)≤x6)) fun x7=>
 cond x7 (letm ((aF (x6+(a0.length:Int)))) fun x8=>
 letm (decide (0<x8)) fun x9=>
 some x9)
 (some false)) fun v10=>
 cond v10 (some ([],(false,10)))
 (bnd (eZ a2) fun x11=>
 letm ((aF (x6+x11))) fun x12=>
 letm ((min (a0.length:Int) x12)) fun x13=>
 bnd (Gk.cut a0 x6 x13) fun x14=>
 bnd (aY x14) fun x15=>
 letm (decide (x13<(a0.length:Int))) fun x16=>
 some (x15,(x16,0))))
def iT(a0:(List aj))(a1:Int)(a2:(List UInt8)):Option Int:=
 a6 (R:=Int) (S:=Unit) (α:=aj) (fun _ _=>
 some (-1))
 (fun x5 k6 _ self8=>
 bnd (β:=Bool) (letm ((x5.1==a1)) fun x9=>
 cond x9 (bnd (bD x5.2.1 a2) fun x10=>
 some x10)
 (some false)) fun v11=>
 cond v11 (some (k6:Int))
 (self8 ())) a0 0 ()
def kA(a0:(List aj)):Option Bool:=
 letm (decide (4<(a0.length:Int))) fun x1=>
 cond x1 (some false)
 (a6 (R:=Bool) (S:=Unit) (α:=aj) (fun _ _=>
 some true)
 (fun x4 k5 _ self7=>
 bnd (β:=Bool) (letm (decide (x4.1<0)) fun x8=>
 cond x8 (some true)
 (letm (decide (65536<x4.1)) fun x9=>
 cond x9 (some true)
 (letm (decide (4096<(x4.2.1.length:Int))) fun x10=>
 cond x10 (some true)
 (letm (decide (4096<(x4.2.2.1.length:Int))) fun x11=>
 cond x11 (some true)
 (letm (decide (x4.2.2.2<0)) fun x12=>
 cond x12 (some true)
 (bnd (Gk.cut a0 0 (k5:Int)) fun x13=>
 bnd (iT x13 x4.1 x4.2.1) fun x14=>
 letm (decide (0≤x14)) fun x15=>
 some x15)))))) fun v16=>
 cond v16 (some false)
 (self7 ())) a0 0 ())
def jK(a0:(List aj))(a1:Int)(a2:(List UInt8))(a3:Bool)(a4:Int):Option (List aj):=
 a6 (R:=(List aj)) (S:=(List aj)) (α:=aj) (fun _ s6=>
 some s6)
 (fun x7 _ s9 self10=>
 bnd (β:=(List aj)) (bnd (β:=Bool) (letm (decide (x7.2.2.2≤a4)) fun x11=>
 cond x11 (some true)
 (cond a3 (letm ((x7.1==a1)) fun x12=>
 cond x12 (bnd (bD x7.2.1 a2) fun x13=>
 some x13)
 (some false))
 (some false))) fun v14=>
 cond v14 (some s9)
 (bnd (aY x7.2.1) fun x15=>
 bnd (aY x7.2.2.1) fun x16=>
 bnd (cO s9 [(x7.1,(x15,(x16,x7.2.2.2)))]) fun x17=>
 some x17)) fun v18=>
 self10 v18) a0 0 []
def jC(a0:(List aj))(a1:Int)(a2:(List UInt8))(a3:eS)(a4:(List UInt8))(a5:Int):Option ((List aj)×((List UInt8)×(Bool×Int))):=
 bnd (β:=Bool) (bnd (kA a0) fun x6=>
 letm ((!x6)) fun x7=>
 cond x7 (some true)
 (letm (decide (a1<0)) fun x8=>
 cond x8 (some true)
 (letm (decide (65536<a1)) fun x9=>
 cond x9 (some true)
 (letm (decide (4096<(a2.length:Int))) fun x10=>
 cond x10 (some true)
 (bnd (ic a3) fun x11=>
 letm ((!x11)) fun x12=>
 cond x12 (some true)
 (letm (decide (a5<0)) fun x13=>
 cond x13 (some true)
 (letm (decide (1073741824<a5)) fun x14=>
 some x14))))))) fun v15=>
 cond v15 (some ([],([],(false,1))))
 (bnd (eZ a3.2.2) fun x16=>
 bnd (β:=Bool) (cond a3.2.1 (letm (((a4.length:Int) != x16)) fun x17=>
 cond x17 (some true)
 (letm ((!a3.2.1)) fun x18=>
 cond x18 (letm (decide (x16<(a4.length:Int))) fun x19=>
 cond x19 (some true)
 (letm (((a4.length:Int)==0)) fun x20=>
 cond x20 (letm (decide (0<a3.1)) fun x21=>
 some x21)
 (some false)))
 (some false)))
 (letm ((!a3.2.1)) fun x22=>
 cond x22 (letm (decide (x16<(a4.length:Int))) fun x23=>
 cond x23 (some true)
 (letm (((a4.length:Int)==0)) fun x24=>
 cond x24 (letm (decide (0<a3.1)) fun x25=>
 some x25)
 (some false)))
 (some false))) fun v26=>
 cond v26 (some ([],([],(false,4))))
 (letm ((a3.1==0)) fun x27=>
 bnd (jK a0 a1 a2 x27 a5) fun x28=>
 bnd (iT x28 a1 a2) fun x29=>
 fI (ρ:=((List aj)×((List UInt8)×(Bool×Int)))) (ρ':=((List aj)×((List UInt8)×(Bool×Int)))) (Y:=(List UInt8)) (letm (decide (0<a3.1)) fun x30=>
 cond x30 (bnd (β:=Bool) (letm (decide (x29<0)) fun x31=>
 cond x31 (some true)
 (bnd (aV x28 x29) fun _=>
 bnd (aV x28 (((x29:Int)).toNat:Int)) fun x33=>
 letm ((aF (a3.1*x16))) fun x34=>
 letm (((x33.2.2.1.length:Int) != x34)) fun x35=>
 some x35)) fun v36=>
 cond v36 (some (.inl ([],([],(false,15)))))
 (bnd (aV x28 x29) fun _=>
 bnd (aV x28 (((x29:Int)).toNat:Int)) fun x38=>
 some (.inr x38.2.2.1)))
 (some (.inr []))) (fun q=>q) fun v39=>
 letm ((aF ((v39.length:Int)+(a4.length:Int)))) fun x40=>
 letm (decide (4096<x40)) fun x41=>
 cond x41 (some ([],([],(false,8))))
 (bnd (jl v39) fun x42=>
 bnd (cO x42 a4) fun x43=>
 bnd (β:=Bool) (letm ((!a3.2.1)) fun x44=>
 cond x44 (letm (decide (0≤x29)) fun x45=>
 some x45)
 (some false)) fun v46=>
 cond v46 (bnd (Gk.cut x28 0 x29) fun x47=>
 letm ((aF (x29+1))) fun x48=>
 bnd (Gk.cut x28 x48 (x28.length:Int)) fun x49=>
 bnd (cO x47 x49) fun x50=>
 some (x50,(x43,(true,0))))
 (letm ((!a3.2.1)) fun x51=>
 cond x51 (some (x28,(x43,(true,0))))
 (letm (decide (0≤x29)) fun x52=>
 cond x52 (letm ((aF (a5+128))) fun x53=>
 bnd (aV x28 x29) fun _=>
 bnd (aV x28 (((x29:Int)).toNat:Int)) fun x55=>
 letm ((x28.set ((x29:Int)).toNat (x55.1,(x55.2.1,(x43,x55.2.2.2))))) fun x56=>
 bnd (aV x56 x29) fun _=>
 bnd (aV x56 (((x29:Int)).toNat:Int)) fun x58=>
 letm ((x56.set ((x29:Int)).toNat (x58.1,(x58.2.1,(x58.2.2.1,x53))))) fun x59=>
 some (x59,([],(false,0))))
 (letm (decide (4≤(x28.length:Int))) fun x60=>
 cond x60 (some ([],([],(false,16))))
 (bnd (jl a2) fun x61=>
 letm ((aF (a5+128))) fun x62=>
 bnd (cO x28 [(a1,(x61,(x43,x62)))]) fun x63=>
 some (x63,([],(false,0))))))))))
def fK(a0:ak)(a1:Int):Option (UInt64×(Bool×ak)):=
 letm ((aF ((a0.1.length:Int)-a0.2.1))) fun x2=>
 letm (decide (x2<a1)) fun x3=>
 cond x3 (some (0,(false,a0)))
 (letm ((aF (a0.2.1+a1))) fun x4=>
 bnd (Gk.cut a0.1 a0.2.1 x4) fun x5=>
 bnd (rng (x5.length:Int)) fun j16=>
 mG (R:=(UInt64×(Bool×ak))) (S:=UInt64) (fun _ s7=>
 letm ((aF (a0.2.1+a1))) fun x8=>
 some (s7,(true,(a0.1,(x8,a0.2.2)))))
 (fun k9 s10 self11=>
 bnd (aV x5 (k9:Int)) fun x12=>
 bnd ((et .u64 (s10:UInt64) (UInt64.toNat 8:Int):Option UInt64)) fun(x13:UInt64)=>
 letm ((aC (UInt8.toNat x12:Int))) fun x14=>
 letm ((aU .or .u64 (x13:UInt64) (x14:UInt64):UInt64)) fun x15=>
 self11 x15) j16 0 0)
def bG(a0:ak):Option (UInt8×(UInt64×(Int×ak))):=
 letm ((a0.2.1==(a0.1.length:Int))) fun x1=>
 cond x1 (some (0,(0,(2,a0))))
 (bnd (aV a0.1 a0.2.1) fun x2=>
 letm ((ar (bits .and .u8 (UInt8.toNat x2) (UInt8.toNat 31)))) fun x3=>
 letm (decide ((UInt8.toNat 27:Int)<(UInt8.toNat x3:Int))) fun x4=>
 cond x4 (some (0,(0,(3,a0))))
 (letm ((aF (a0.2.1+1))) fun x5=>
 letm (decide ((UInt8.toNat x3:Int)<(UInt8.toNat 24:Int))) fun x6=>
 cond x6 (letm ((aC (UInt8.toNat x3:Int))) fun x7=>
 some (x2,(x7,(0,(a0.1,(x5,a0.2.2))))))
 (letm ((x3-24)) fun x8=>
 bnd (Gk.shl 1 (UInt8.toNat x8:Int)) fun x9=>
 bnd (fK (a0.1,(x5,a0.2.2)) x9) fun x10=>
 letm ((!x10.2.1)) fun x11=>
 cond x11 (some (0,(0,(2,x10.2.2))))
 (bnd (β:=Bool) (bnd (c_ .u8 x2 (UInt64.toNat 5:Int)) fun x12=>
 letm (decide ((UInt8.toNat x12:Int)<(UInt8.toNat 7:Int))) fun x13=>
 cond x13 (bnd (bJ 0 x10.1) fun x14=>
 letm ((x3-24)) fun x15=>
 bnd (Gk.shl 1 (UInt8.toNat x15:Int)) fun x16=>
 letm ((aF (1+x16))) fun x17=>
 letm (((x14.length:Int) != x17)) fun x18=>
 some x18)
 (some false)) fun v19=>
 cond v19 (some (0,(0,(4,x10.2.2))))
 (some (x2,(x10.1,(0,x10.2.2))))))))
def lZ(a0:Int):Option UInt64:=
 bnd (β:=UInt64) (letm (decide (0≤a0)) fun x1=>
 cond x1 (some 9218868437227405312)
 (some 18442240474082181120)) fun v2=>
 letm (v2) fun x3=>
 some x3
def uE(_a0:UInt64)(_a1:Int):Option (UInt64):=none
def mn(a0:UInt64):Option UInt64:=
 letm (a0) fun x1=>
 letm ((aU .andNot .u64 (x1:UInt64) (9223372036854775808:UInt64):UInt64)) fun x2=>
 letm (x2) fun x3=>
 some x3
def lK(a0:UInt64)(a1:Int):Option Bool:=
 bnd (β:=UInt64) (letm ((a1==0)) fun x2=>
 cond x2 (bnd (mn a0) fun x3=>
 some x3)
 (letm (decide (a1<0)) fun x4=>
 cond x4 (none)
 (some a0))) fun v5=>
 letm ((Rc v5 (9218868437227405311:UInt64))) fun x6=>
 some x6
def lH(a0:UInt64):Option Bool:=
 letm ((!(feq a0 a0))) fun x1=>
 some x1
def iM(a0:UInt64):Option (UInt64×Int):=
 bnd (mn a0) fun x1=>
 letm ((QR x1 (4503599627370496:UInt64))) fun x2=>
 cond x2 (bnd (xD .mul a0 (4841369599423283200:UInt64)) fun x3=>
 some (x3,(-52)))
 (some (a0,0))
def fF(a0:UInt64)(a1:UInt64):Option UInt64:=
 letm (a0) fun x2=>
 letm ((aU .andNot .u64 (x2:UInt64) (9223372036854775808:UInt64):UInt64)) fun x3=>
 letm (a1) fun x4=>
 letm ((aU .and .u64 (x4:UInt64) (9223372036854775808:UInt64):UInt64)) fun x5=>
 letm ((aU .or .u64 (x3:UInt64) (x5:UInt64):UInt64)) fun x6=>
 letm (x6) fun x7=>
 some x7
def nX(a0:UInt64)(a1:Int):Option UInt64:=
 letm ((feq a0 (0:UInt64))) fun x2=>
 cond x2 (some a0)
 (bnd (β:=Bool) (bnd (lK a0 0) fun x3=>
 cond x3 (some true)
 (bnd (lH a0) fun x4=>
 some x4)) fun v5=>
 cond v5 (some a0)
 (bnd (iM a0) fun x6=>
 letm ((aF (a1+x6.2))) fun x7=>
 letm (x6.1) fun x8=>
 bnd ((c_ .u64 (x8:UInt64) (UInt64.toNat 52:Int):Option UInt64)) fun(x9:UInt64)=>
 letm ((aF (UInt64.toNat x9:Int))) fun x10=>
 letm ((rN .and x10 2047)) fun x11=>
 letm ((aF (x11-1023))) fun x12=>
 letm ((aF (x7+x12))) fun x13=>
 letm (decide (x13<(-1075))) fun x14=>
 cond x14 (bnd (fF (0:UInt64) x6.1) fun x15=>
 some x15)
 (letm (decide (1023<x13)) fun x16=>
 cond x16 (letm ((QR x6.1 (0:UInt64))) fun x17=>
 cond x17 (bnd (lZ (-1)) fun x18=>
 some x18)
 (bnd (lZ 1) fun x19=>
 some x19))
 (bnd (β:=(Int×UInt64)) (letm (decide (x13<(-1022))) fun x20=>
 cond x20 (letm ((aF (x13+53))) fun x21=>
 some (x21,(4368491638549381120:UInt64)))
 (some (x13,(4607182418800017408:UInt64)))) fun v22=>
 letm ((aU .andNot .u64 (x8:UInt64) (9218868437227405312:UInt64):UInt64)) fun x23=>
 letm ((aF (v22.1+1023))) fun x24=>
 letm ((aC x24)) fun x25=>
 bnd ((et .u64 (x25:UInt64) (UInt64.toNat 52:Int):Option UInt64)) fun(x26:UInt64)=>
 letm ((aU .or .u64 (x23:UInt64) (x26:UInt64):UInt64)) fun x27=>
 letm (x27) fun x28=>
 bnd (xD .mul v22.2 x28) fun x29=>
 some x29))))
def gN(a0:UInt64)(a1:Int):Option UInt64:=
 bnd (nX a0 a1) fun x2=>
 some x2
def gK(a0:Int):Option UInt64:=
 letm ((aU .and .u16 a0 1023)) fun x1=>
 letm ((KH (Gk.eF .u16 x1))) fun x2=>
 bnd (c_ .u16 a0 (UInt64.toNat 10:Int)) fun x3=>
 letm ((aU .and .u16 x3 31)) fun x4=>
 letm ((aF (Gk.eF .u16 x4))) fun x5=>
 fI (ρ:=UInt64) (ρ':=UInt64) (Y:=UInt64) (letm ((x5==31)) fun x6=>
 cond x6 (letm ((aU .and .u16 a0 1023)) fun x7=>
 letm (((Gk.eF .u16 x7) != (Gk.eF .u16 0))) fun x8=>
 cond x8 (some (.inl 9221120237041090560))
 (bnd (lZ 1) fun x9=>
 some (.inr x9)))
 (letm ((x5==0)) fun x10=>
 cond x10 (bnd (gN x2 (-24)) fun x11=>
 some (.inr x11))
 (bnd (xD .add x2 (4652218415073722368:UInt64)) fun x12=>
 letm ((aF (x5-25))) fun x13=>
 bnd (gN x12 x13) fun x14=>
 some (.inr x14)))) (fun q=>q) fun v15=>
 bnd (β:=UInt64) (bnd (c_ .u16 a0 (UInt64.toNat 15:Int)) fun x16=>
 letm (((Gk.eF .u16 x16)==(Gk.eF .u16 1))) fun x17=>
 cond x17 (bnd (fF v15 (13830554455654793216:UInt64)) fun x18=>
 some x18)
 (some v15)) fun v19=>
 letm (v19) fun x20=>
 some x20
def cC(a0:UInt8)(a1:UInt64):Option (Go.Gk.Tr×Int):=
 fI (ρ:=(Go.Gk.Tr×Int)) (ρ':=(Go.Gk.Tr×Int)) (Y:=(UInt64×Go.Gk.Tr)) (letm ((ar (bits .and .u8 (UInt8.toNat a0) (UInt8.toNat 31)))) fun x2=>
 letm (((UInt8.toNat x2:Int)==(UInt8.toNat 24:Int))) fun x3=>
 cond x3 (letm (decide ((UInt64.toNat a1:Int)<(UInt64.toNat 32:Int))) fun x4=>
 cond x4 (some (.inl ((Tr.mk 0 0 [] []),4)))
 (some (.inl ((Tr.mk 7 a1 [] []),0))))
 (letm (((UInt8.toNat x2:Int)==(UInt8.toNat 25:Int))) fun x5=>
 cond x5 (letm ((Gk.lr .u16 (UInt64.toNat a1:Int))) fun x6=>
 bnd (gK x6) fun x7=>
 bnd (β:=Bool) (letm (((UInt64.toNat x7:Int)==(UInt64.toNat 9221120237041090560:Int))) fun x8=>
 cond x8 (letm (((UInt64.toNat a1:Int) != (UInt64.toNat 32256:Int))) fun x9=>
 some x9)
 (some false)) fun v10=>
 cond v10 (some (.inl ((Tr.mk 0 0 [] []),4)))
 (some (.inr (x7,(Tr.mk 0 0 [] [])))))
 (letm (((UInt8.toNat x2:Int)==(UInt8.toNat 26:Int))) fun x11=>
 cond x11 (letm ((gY (UInt64.toNat a1:Int))) fun x12=>
 letm (x12) fun x13=>
 bnd (xG x13) fun x14=>
 letm (x14) fun x15=>
 some (.inr (x15,(Tr.mk 0 0 [] []))))
 (letm (((UInt8.toNat x2:Int)==(UInt8.toNat 27:Int))) fun x16=>
 cond x16 (some (.inr (a1,(Tr.mk 0 0 [] []))))
 (some (.inl ((Tr.mk 7 a1 [] []),0))))))) (fun q=>q) fun v17=>
 bnd (dT v17.1) fun x18=>
 letm ((ar (bits .and .u8 (UInt8.toNat a0) (UInt8.toNat 31)))) fun x19=>
 letm ((x19-24)) fun x20=>
 bnd (Gk.shl 1 (UInt8.toNat x20:Int)) fun x21=>
 letm ((aF (1+x21))) fun x22=>
 letm (((x18.length:Int) != x22)) fun x23=>
 cond x23 (some ((Tr.mk 0 0 [] []),4))
 (some ((Tr.mk 8 v17.1 [] []),0))
def iW(bT:(ak)→(Int)→Option (Go.Gk.Tr×(Int×ak)))(a0:ak)(a1:UInt64)(a2:Int):Option (Go.Gk.Tr×(Int×ak)):=
 bo (R:=(Go.Gk.Tr×(Int×ak))) (S:=((List UInt8)×(UInt64×(ak×(Go.Gk.Tr×(Go.Gk.Tr×(List Go.Gk.Tr))))))) (fun self4 s3=>
 letm (decide ((UInt64.toNat s3.2.1:Int)<(UInt64.toNat a1:Int))) fun x5=>
 cond x5 (bnd (bT s3.2.2.1 a2) fun x6=>
 letm ((x6.2.1 != 0)) fun x7=>
 cond x7 (some ((Tr.mk 0 0 [] []),(x6.2.1,x6.2.2)))
 (bnd (Gk.cut x6.2.2.1 s3.2.2.1.2.1 x6.2.2.2.1) fun x8=>
 fI (ρ:=(Go.Gk.Tr×(Int×ak))) (ρ':=(Go.Gk.Tr×(Int×ak))) (Y:=Go.Gk.Tr) (letm (decide ((UInt64.toNat 0:Int)<(UInt64.toNat s3.2.1:Int))) fun x9=>
 cond x9 (bnd (dK x8 s3.1) fun x10=>
 letm ((x10==0)) fun x11=>
 cond x11 (some (.inl ((Tr.mk 0 0 [] []),(7,x6.2.2))))
 (letm (decide (x10<0)) fun x12=>
 cond x12 (some (.inl ((Tr.mk 0 0 [] []),(6,x6.2.2))))
 (some (.inr s3.2.2.2.1))))
 (some (.inr s3.2.2.2.1))) (fun q=>q) fun v13=>
 bnd (bT x6.2.2 a2) fun x14=>
 letm ((x14.2.1 != 0)) fun x15=>
 cond x15 (some ((Tr.mk 0 0 [] []),(x14.2.1,x14.2.2)))
 (bnd (cO s3.2.2.2.2.2 [x6.1,x14.1]) fun x16=>
 letm ((s3.2.1+1)) fun x17=>
 self4 (x8,(x17,(x14.2.2,(v13,(s3.2.2.2.2.1,x16))))))))
 (some ((Tr.mk s3.2.2.2.2.1.k s3.2.2.2.2.1.n s3.2.2.2.2.1.b s3.2.2.2.2.2),(0,s3.2.2.1)))) cS ([],(0,(a0,((Tr.mk 0 0 [] []),((Tr.mk 5 0 [] []),[])))))
def gV(bT:(ak)→(Int)→Option (Go.Gk.Tr×(Int×ak)))(a0:ak)(a1:Int):Option (Go.Gk.Tr×(Int×ak)):=
 letm ((a0.2.2==256)) fun x2=>
 cond x2 (some ((Tr.mk 0 0 [] []),(8,a0)))
 (letm ((aF (a0.2.2+1))) fun x3=>
 bnd (bG (a0.1,(a0.2.1,x3))) fun x4=>
 letm ((x4.2.2.1 != 0)) fun x5=>
 cond x5 (some ((Tr.mk 0 0 [] []),(x4.2.2.1,x4.2.2.2)))
 (bnd (c_ .u8 x4.1 (UInt64.toNat 5:Int)) fun x6=>
 letm ((aF (UInt8.toNat x6:Int))) fun x7=>
 bnd (β:=Bool) (letm ((x7==0)) fun x8=>
 cond x8 (some true)
 (letm ((x7==1)) fun x9=>
 some x9)) fun v10=>
 cond v10 (some ((Tr.mk x7 x4.2.1 [] []),(0,x4.2.2.2)))
 (bnd (β:=Bool) (letm ((x7==2)) fun x11=>
 cond x11 (some true)
 (letm ((x7==3)) fun x12=>
 some x12)) fun v13=>
 cond v13 (letm ((aF ((x4.2.2.2.1.length:Int)-x4.2.2.2.2.1))) fun x14=>
 letm ((aC x14)) fun x15=>
 letm (decide ((UInt64.toNat x15:Int)<(UInt64.toNat x4.2.1:Int))) fun x16=>
 cond x16 (some ((Tr.mk 0 0 [] []),(2,x4.2.2.2)))
 (letm ((aF (UInt64.toNat x4.2.1:Int))) fun x17=>
 letm ((aF (x4.2.2.2.2.1+x17))) fun x18=>
 bnd (Gk.cut x4.2.2.2.1 x4.2.2.2.2.1 x18) fun x19=>
 bnd (aY x19) fun x20=>
 letm ((aF (UInt64.toNat x4.2.1:Int))) fun x21=>
 letm ((aF (x4.2.2.2.2.1+x21))) fun x22=>
 bnd (β:=Bool) (letm ((x7==3)) fun x23=>
 cond x23 (bnd (bk x20) fun x24=>
 letm ((!x24)) fun x25=>
 some x25)
 (some false)) fun v26=>
 cond v26 (some ((Tr.mk 0 0 [] []),(5,(x4.2.2.2.1,(x22,x4.2.2.2.2.2)))))
 (some ((Tr.mk x7 0 x20 []),(0,(x4.2.2.2.1,(x22,x4.2.2.2.2.2)))))))
 (letm ((x7==7)) fun x27=>
 cond x27 (bnd (cC x4.1 x4.2.1) fun x28=>
 some (x28.1,(x28.2,x4.2.2.2)))
 (letm (decide (8≤a1)) fun x29=>
 cond x29 (some ((Tr.mk 0 0 [] []),(8,x4.2.2.2)))
 (letm ((x7==5)) fun x30=>
 cond x30 (letm ((aF (a1+1))) fun x31=>
 bnd (iW bT x4.2.2.2 x4.2.1 x31) fun x32=>
 some (x32.1,(x32.2.1,x32.2.2)))
 (letm ((x7==6)) fun x33=>
 cond x33 (letm ((aF (a1+1))) fun x34=>
 bnd (bT x4.2.2.2 x34) fun x35=>
 letm ((x35.2.1 != 0)) fun x36=>
 cond x36 (some ((Tr.mk 0 0 [] []),(x35.2.1,x35.2.2)))
 (some ((Tr.mk x7 x4.2.1 [] [x35.1]),(0,x35.2.2))))
 (fI (ρ:=(Go.Gk.Tr×(Int×ak))) (ρ':=(Go.Gk.Tr×(Int×ak))) (Y:=(ak×(Go.Gk.Tr×(Go.Gk.Tr×(List Go.Gk.Tr))))) (bo (R:=((Go.Gk.Tr×(Int×ak))⊕(ak×(Go.Gk.Tr×(Go.Gk.Tr×(List Go.Gk.Tr)))))) (S:=(UInt64×(ak×(Go.Gk.Tr×(Go.Gk.Tr×(List Go.Gk.Tr)))))) (fun self38 s37=>
 letm (decide ((UInt64.toNat 0:Int)<(UInt64.toNat s37.1:Int))) fun x39=>
 cond x39 (letm ((aF (a1+1))) fun x40=>
 bnd (bT s37.2.1 x40) fun x41=>
 letm ((x41.2.1 != 0)) fun x42=>
 cond x42 (some (.inl ((Tr.mk 0 0 [] []),(x41.2.1,x41.2.2))))
 (bnd (cO s37.2.2.2.2 [x41.1]) fun x43=>
 letm ((s37.1-1)) fun x44=>
 self38 (x44,(x41.2.2,(s37.2.2.1,(s37.2.2.2.1,x43))))))
 (some (.inr (s37.2.1,(s37.2.2.1,(s37.2.2.2.1,s37.2.2.2.2)))))) cS (x4.2.1,(x4.2.2.2,((Tr.mk 0 0 [] []),((Tr.mk x7 0 [] []),[]))))) (fun q=>q) fun v45=>
 some ((Tr.mk v45.2.2.1.k v45.2.2.1.n v45.2.2.1.b v45.2.2.2),(0,v45.1))))))))))
def gL(n:Nat):(ak)→(Int)→Option (Go.Gk.Tr×(Int×ak)):=Nat.rec (motive:=fun _=>(ak)→(Int)→Option (Go.Gk.Tr×(Int×ak))) (fun _ _=>none) (fun _ ih=>gV ih) n
def bT(a0:ak)(a1:Int):Option (Go.Gk.Tr×(Int×ak)):=gL 40 a0 a1
def kx(a0:(List UInt8)):Option (Go.Gk.Tr×aA):=
 letm ((min (a0.length:Int) 4096)) fun x1=>
 bnd (Gk.cut a0 0 x1) fun x2=>
 bnd (bT (x2,(0,0)) 0) fun x3=>
 letm ((x3.2.1 != 0)) fun x4=>
 cond x4 (some ((Tr.mk 0 0 [] []),(0,x3.2.1)))
 (some (x3.1,(x3.2.2.2.1,0)))
def jh(a0:(List UInt8)):Option (Go.Gk.Tr×Int):=
 letm (decide (4096<(a0.length:Int))) fun x1=>
 cond x1 (some ((Tr.mk 0 0 [] []),8))
 (bnd (kx a0) fun x2=>
 letm ((x2.2.2 != 0)) fun x3=>
 cond x3 (some ((Tr.mk 0 0 [] []),x2.2.2))
 (letm (decide (x2.2.1<(a0.length:Int))) fun x4=>
 cond x4 (some ((Tr.mk 0 0 [] []),9))
 (some (x2.1,0))))
def iw(a0:Go.Gk.Tr):Option (Int×(List Go.Gk.Tr)):=
 bnd (β:=Bool) (letm ((a0.k != 6)) fun x1=>
 cond x1 (some true)
 (letm (decide ((UInt64.toNat a0.n:Int)<(UInt64.toNat 16:Int))) fun x2=>
 cond x2 (some true)
 (letm (decide ((UInt64.toNat 18:Int)<(UInt64.toNat a0.n:Int))) fun x3=>
 cond x3 (some true)
 (bnd (aV a0.l 0) fun x4=>
 letm ((x4.k != 4)) fun x5=>
 some x5)))) fun v6=>
 cond v6 (some (0,[]))
 (bnd (β:=(List Int)) (letm (((UInt64.toNat a0.n:Int)==(UInt64.toNat 16:Int))) fun x7=>
 cond x7 (bnd (Gk.cut [2,5,2,2] 0 3) fun x8=>
 some x8)
 (some [2,5,2,2])) fun v9=>
 bnd (aV a0.l 0) fun x10=>
 letm (((x10.l.length:Int) != (v9.length:Int))) fun x11=>
 cond x11 (some (0,[]))
 (a6 (R:=(Int×(List Go.Gk.Tr))) (S:=Unit) (α:=Int) (fun _ _=>
 letm ((aF (UInt64.toNat a0.n:Int))) fun x14=>
 some (x14,x10.l))
 (fun x15 k16 _ self18=>
 bnd (aV x10.l (k16:Int)) fun x19=>
 letm ((x19.k != x15)) fun x20=>
 cond x20 (some (0,[]))
 (self18 ())) v9 0 ()))
def qo:Option az:=
 some ((Tr.mk 5 0 [] []),(Tr.mk 5 0 [] []))
def fJ(a0:(List UInt8)):Option (Int×(cH×Int)):=
 bnd (jh a0) fun x1=>
 letm ((x1.2 != 0)) fun x2=>
 cond x2 (some (0,((((Tr.mk 0 0 [] []),(Tr.mk 0 0 [] [])),([],[])),x1.2)))
 (bnd (iw x1.1) fun x3=>
 bnd ((Oh false x3.2)) fun x4=>
 cond x4 (some (0,((((Tr.mk 0 0 [] []),(Tr.mk 0 0 [] [])),([],[])),4)))
 (bnd (qo) fun x5=>
 bnd (aV x3.2 2) fun x6=>
 bnd (aV x3.2 1) fun x7=>
 fI (ρ:=(Int×(cH×Int))) (ρ':=(Int×(cH×Int))) (Y:=(cH×cH)) (bnd (aV x3.2 0) fun x8=>
 letm (decide (0<(x8.b.length:Int))) fun x9=>
 cond x9 (bnd (aV x3.2 0) fun x10=>
 bnd (jh x10.b) fun x11=>
 bnd (β:=Bool) (letm ((x11.2 != 0)) fun x12=>
 cond x12 (some true)
 (letm (((x11.1.l.length:Int)==0)) fun x13=>
 some x13)) fun v14=>
 cond v14 (some (.inl (0,((((Tr.mk 0 0 [] []),(Tr.mk 0 0 [] [])),([],[])),4))))
 (some (.inr ((((Tr.mk 0 0 [] []),(Tr.mk 0 0 [] [])),([],[])),((x11.1,x7),(x6.b,[]))))))
 (some (.inr ((((Tr.mk 0 0 [] []),(Tr.mk 0 0 [] [])),([],[])),((x5.1,x7),(x6.b,[])))))) (fun q=>q) fun v15=>
 bnd (β:=cH) (letm (((x3.2.length:Int)==4)) fun x16=>
 cond x16 (bnd (aV x3.2 3) fun x17=>
 some (v15.2.1,(v15.2.2.1,x17.b)))
 (some v15.2)) fun v18=>
 bnd (d8 v18.1) fun x19=>
 letm ((!x19)) fun x20=>
 cond x20 (some (0,((((Tr.mk 0 0 [] []),(Tr.mk 0 0 [] [])),([],[])),4)))
 (some (x3.1,(v18,0)))))
def nM(a0 a1 a2 a3:List UInt8)(a4:Int):Option (List UInt8×Int):=bnd (eR a0 a1 a4) fun v=>some (CL v a0 a1 a2 a3 a4.toNat)
def gZ(a0:cH)(a1:(List UInt8))(a2:(List UInt8))(a3:(List UInt8)):Option ((List UInt8)×Int):=
 bnd (β:=Bool) (bnd (d8 a0.1) fun x4=>
 letm ((!x4)) fun x5=>
 cond x5 (some true)
 (letm (decide (0<(a0.2.2.length:Int))) fun x6=>
 some x6)) fun v7=>
 cond v7 (some ([],1))
 (bnd (jX a0.1) fun x8=>
 bnd (fZ x8) fun x9=>
 letm ((x9==0)) fun x10=>
 cond x10 (some ([],12))
 (bnd (gw [69,110,99,114,121,112,116,48] a0.1 a1 []) fun x11=>
 letm ((x11.2 != 0)) fun x12=>
 cond x12 (some ([],x11.2))
 (bnd (nM a2 a3 x11.1 a0.2.1 x9) fun x13=>
 some (x13.1,x13.2))))
def a_(a0:bK)(a1:Int):Option ((List UInt8)×bK):=
 letm (decide ((a0.1.length:Int)<a1)) fun x2=>
 cond x2 (letm ((min a1 4)) fun x3=>
 bnd (Nq x3 0) fun x4=>
 some (x4,(a0.1,true)))
 (bnd (Gk.cut a0.1 0 a1) fun x5=>
 bnd (Gk.cut x5 0 a1) fun x6=>
 bnd (Gk.cut a0.1 a1 (a0.1.length:Int)) fun x7=>
 some (x6,(x7,a0.2)))
def bP(a0:bK)(a1:UInt8):Option (Int×bK):=
 fI (ρ:=(Int×bK)) (ρ':=(Int×bK)) (Y:=bK) (letm (((UInt8.toNat a1:Int)==(UInt8.toNat 13:Int))) fun x2=>
 cond x2 (bnd (a_ a0 1) fun x3=>
 bnd (aV x3.1 0) fun x4=>
 letm ((aF (UInt8.toNat x4:Int))) fun x5=>
 letm ((aF (x5+13))) fun x6=>
 some (.inl (x6,x3.2)))
 (letm (((UInt8.toNat a1:Int)==(UInt8.toNat 14:Int))) fun x7=>
 cond x7 (bnd (a_ a0 2) fun x8=>
 bnd (aV x8.1 0) fun x9=>
 letm ((aF (UInt8.toNat x9:Int))) fun x10=>
 bnd (Gk.shl x10 (UInt64.toNat 8:Int)) fun x11=>
 bnd (aV x8.1 1) fun x12=>
 letm ((aF (UInt8.toNat x12:Int))) fun x13=>
 letm ((aF (x11+x13))) fun x14=>
 letm ((aF (x14+269))) fun x15=>
 some (.inl (x15,x8.2)))
 (letm (((UInt8.toNat a1:Int)==(UInt8.toNat 15:Int))) fun x16=>
 cond x16 (some (.inr (a0.1,true)))
 (some (.inr a0))))) (fun q=>q) fun v17=>
 letm ((aF (UInt8.toNat a1:Int))) fun x18=>
 some (x18,v17)
def jd(a0:(List UInt8)):Option (am×Int):=
 letm (decide (4096<(a0.length:Int))) fun x1=>
 cond x1 (some ((0,(0,(0,([],([],[]))))),8))
 (letm (decide ((a0.length:Int)<4)) fun x2=>
 cond x2 (some ((0,(0,(0,([],([],[]))))),2))
 (bnd (aV a0 0) fun x3=>
 bnd (c_ .u8 x3 (UInt64.toNat 4:Int)) fun x4=>
 letm ((ar (bits .and .u8 (UInt8.toNat x4) (UInt8.toNat 3)))) fun x5=>
 letm ((aF (UInt8.toNat x5:Int))) fun x6=>
 bnd (aV a0 1) fun x7=>
 letm ((aF (UInt8.toNat x7:Int))) fun x8=>
 bnd (aV a0 2) fun x9=>
 letm ((aF (UInt8.toNat x9:Int))) fun x10=>
 bnd (Gk.shl x10 (UInt64.toNat 8:Int)) fun x11=>
 bnd (aV a0 3) fun x12=>
 letm ((aF (UInt8.toNat x12:Int))) fun x13=>
 letm ((rN .or x11 x13)) fun x14=>
 bnd (Gk.cut a0 4 (a0.length:Int)) fun x15=>
 bnd (aV a0 0) fun x16=>
 letm ((ar (bits .and .u8 (UInt8.toNat x16) (UInt8.toNat 15)))) fun x17=>
 letm ((aF (UInt8.toNat x17:Int))) fun x18=>
 bnd (a_ (x15,false) x18) fun x19=>
 bnd (aY x19.1) fun x20=>
 bnd (β:=((am×(List ai))×bK)) (bo (R:=((am×(List ai))×bK)) (S:=(Int×((am×(List ai))×bK))) (fun self22 s21=>
 letm ((!s21.2.2.2)) fun x23=>
 cond x23 (letm (decide (0<(s21.2.2.1.length:Int))) fun x24=>
 cond x24 (bnd (aV s21.2.2.1 0) fun x25=>
 letm (((UInt8.toNat x25:Int) != (UInt8.toNat 255:Int))) fun x26=>
 cond x26 (bnd (a_ s21.2.2 1) fun x27=>
 bnd (aV x27.1 0) fun x28=>
 bnd (c_ .u8 x28 (UInt64.toNat 4:Int)) fun x29=>
 bnd (bP x27.2 x29) fun x30=>
 letm ((aF (s21.1+x30.1))) fun x31=>
 letm ((ar (bits .and .u8 (UInt8.toNat x28) (UInt8.toNat 15)))) fun x32=>
 bnd (bP x30.2 x32) fun x33=>
 bnd (a_ x33.2 x33.1) fun x34=>
 bnd (aY x34.1) fun x35=>
 bnd (cO s21.2.1.2 [(x31,x35)]) fun x36=>
 self22 (x31,((s21.2.1.1,x36),x34.2)))
 (some ((s21.2.1.1,s21.2.1.2),s21.2.2)))
 (some ((s21.2.1.1,s21.2.1.2),s21.2.2)))
 (some ((s21.2.1.1,s21.2.1.2),s21.2.2))) cS (0,(((x6,(x8,(x14,(x20,([],[]))))),[]),x19.2))) fun v37=>
 bnd (β:=(am×(List ai))) (letm (decide (0<(v37.2.1.length:Int))) fun x38=>
 cond x38 (bnd (Gk.cut v37.2.1 1 (v37.2.1.length:Int)) fun x39=>
 bnd (aY x39) fun x40=>
 some ((v37.1.1.1,(v37.1.1.2.1,(v37.1.1.2.2.1,(v37.1.1.2.2.2.1,(v37.1.1.2.2.2.2.1,x40))))),v37.1.2))
 (some (v37.1.1,v37.1.2))) fun v41=>
 cond v37.2.2 (some ((0,(0,(0,([],([],[]))))),4))
 (bnd (gT (v41.1.1,(v41.1.2.1,(v41.1.2.2.1,(v41.1.2.2.2.1,(v41.2,v41.1.2.2.2.2.2)))))) fun x42=>
 letm ((!x42)) fun x43=>
 cond x43 (some ((0,(0,(0,([],([],[]))))),4))
 (bnd (fR (v41.1.1,(v41.1.2.1,(v41.1.2.2.1,(v41.1.2.2.2.1,(v41.2,v41.1.2.2.2.2.2)))))) fun x44=>
 bnd (bD x44 a0) fun x45=>
 letm ((!x45)) fun x46=>
 cond x46 (some ((0,(0,(0,([],([],[]))))),4))
 (some ((v41.1.1,(v41.1.2.1,(v41.1.2.2.1,(v41.1.2.2.2.1,(v41.2,v41.1.2.2.2.2.2))))),0))))))
def eK(a0:az)(a1:az):Option Bool:=
 bnd (β:=Bool) (bnd (aB a0.1 a1.1) fun x2=>
 cond x2 (bnd (aB a0.2 a1.2) fun x3=>
 some x3)
 (some false)) fun v4=>
 some v4
def dJ(a0:cH)(a1:cH):Option Bool:=
 bnd (β:=Bool) (bnd (eK a0.1 a1.1) fun x2=>
 cond x2 (letm ((a0.2.1==a1.2.1)) fun x3=>
 cond x3 (letm ((a0.2.2==a1.2.2)) fun x4=>
 some x4)
 (some false))
 (some false)) fun v5=>
 some v5
def dH(a0:am)(a1:am):Option Bool:=
 bnd (β:=Bool) (letm ((a0.1 != a1.1)) fun x2=>
 cond x2 (some true)
 (letm ((a0.2.1 != a1.2.1)) fun x3=>
 cond x3 (some true)
 (letm ((a0.2.2.1 != a1.2.2.1)) fun x4=>
 cond x4 (some true)
 (letm ((a0.2.2.2.1 != a1.2.2.2.1)) fun x5=>
 cond x5 (some true)
 (letm ((a0.2.2.2.2.2 != a1.2.2.2.2.2)) fun x6=>
 cond x6 (some true)
 (letm (((a0.2.2.2.2.1.length:Int) != (a1.2.2.2.2.1.length:Int))) fun x7=>
 some x7)))))) fun v8=>
 cond v8 (some false)
 (a6 (R:=Bool) (S:=Unit) (α:=ai) (fun _ _=>
 some true)
 (fun x11 k12 _ self14=>
 bnd (β:=Bool) (bnd (aV a1.2.2.2.2.1 (k12:Int)) fun x15=>
 letm ((x11.1 != x15.1)) fun x16=>
 cond x16 (some true)
 (bnd (aV a1.2.2.2.2.1 (k12:Int)) fun x17=>
 letm ((x11.2 != x17.2)) fun x18=>
 some x18)) fun v19=>
 cond v19 (some false)
 (self14 ())) a0.2.2.2.2.1 0 ())
def fD(a0:Int):Option Int:=
 letm (decide (a0<0)) fun x1=>
 cond x1 (some 0)
 (letm ((aF (a0+8))) fun x2=>
 letm ((aF (x2+64))) fun x3=>
 bnd (quo x3 64) fun x4=>
 some x4)
def jB(a0:Int)(a1:Int):Option Int:=
 letm ((aF (64+a1))) fun x2=>
 bnd (fD x2) fun x3=>
 bnd (fD 96) fun x4=>
 letm ((aF (x3+x4))) fun x5=>
 bnd (β:=Int) (letm (decide (64<a0)) fun x6=>
 cond x6 (bnd (fD a0) fun x7=>
 letm ((aF (x5+x7))) fun x8=>
 some x8)
 (some x5)) fun v9=>
 some v9
def cF(a0:List UInt8)(a1:UInt64)(a2:Int):Option (List UInt8):=bif a2==10&&decide (a1.toNat<100)then cO a0 (Lib.decDigits a1.toNat)else none
def cg(a0:(List UInt8))(a1:UInt64)(a2:Int):Option (List UInt8):=
 bnd (cF a0 a1 a2) fun x3=>
 some x3
def rY(iL:((List UInt8))→(Go.Gk.Tr)→Option (List UInt8))(a0:(List UInt8))(a1:Go.Gk.Tr):Option (List UInt8):=
 letm ((a1.k==0)) fun x2=>
 cond x2 (bnd (cg a0 a1.n 10) fun x3=>
 some x3)
 (letm ((a1.k==1)) fun x4=>
 cond x4 (letm (((UInt64.toNat a1.n:Int)==(UInt64.toNat 18446744073709551615:Int))) fun x5=>
 cond x5 (none)
 (bnd (cO a0 [45]) fun x6=>
 letm ((a1.n+1)) fun x7=>
 bnd (cg x6 x7 10) fun x8=>
 some x8))
 (letm ((a1.k==2)) fun x9=>
 cond x9 (none)
 (letm ((a1.k==3)) fun x10=>
 cond x10 (none)
 (letm ((a1.k==6)) fun x11=>
 cond x11 (bnd (cg a0 a1.n 10) fun x12=>
 bnd (cO x12 [40]) fun x13=>
 bnd (aV a1.l 0) fun x14=>
 bnd (iL x13 x14) fun x15=>
 bnd (cO x15 [41]) fun x16=>
 some x16)
 (letm ((a1.k==7)) fun x17=>
 cond x17 (bnd (β:=Bool) (letm (decide ((UInt64.toNat 20:Int)≤(UInt64.toNat a1.n:Int))) fun x18=>
 cond x18 (letm (decide ((UInt64.toNat a1.n:Int)<(UInt64.toNat 24:Int))) fun x19=>
 some x19)
 (some false)) fun v20=>
 cond v20 (letm ((a1.n-20)) fun x21=>
 bnd (aV [[102,97,108,115,101],[116,114,117,101],[110,117,108,108],[117,110,100,101,102,105,110,101,100]] (UInt64.toNat x21:Int)) fun(x22:List UInt8)=>
 none)
 (none))
 (letm ((a1.k==8)) fun x23=>
 cond x23 (none)
 (bnd (β:=(UInt8×UInt8)) (letm ((a1.k==5)) fun x24=>
 cond x24 (some (123,125))
 (some (91,93))) fun v25=>
 bnd (cO a0 [v25.1]) fun x26=>
 a6 (R:=(List UInt8)) (S:=(List UInt8)) (α:=Go.Gk.Tr) (fun _ s28=>
 bnd (cO s28 [v25.2]) fun x29=>
 some x29)
 (fun x30 k31 s32 self33=>
 bnd (β:=(List UInt8)) (bnd (β:=Bool) (letm ((a1.k==5)) fun x34=>
 cond x34 (bnd (Gk.rem (k31:Int) 2) fun x35=>
 letm ((x35==1)) fun x36=>
 some x36)
 (some false)) fun v37=>
 cond v37 (none)
 (letm (decide (0<(k31:Int))) fun x38=>
 cond x38 (none)
 (some s32))) fun v39=>
 bnd (iL v39 x30) fun x40=>
 self33 x40) a1.l 0 x26)))))))
def oE(n:Nat):((List UInt8))→(Go.Gk.Tr)→Option (List UInt8):=Nat.rec (motive:=fun _=>((List UInt8))→(Go.Gk.Tr)→Option (List UInt8)) (fun _ _=>none) (fun _ ih=>rY ih) n
def iL(a0:(List UInt8))(a1:Go.Gk.Tr):Option (List UInt8):=oE 40 a0 a1
def rG(a0:(List UInt8))(a1:Go.Gk.Tr):Option (List UInt8):=
 letm ((a1.k==0)) fun x2=>
 cond x2 (bnd (cg a0 a1.n 10) fun x3=>
 some x3)
 (letm ((a1.k==1)) fun x4=>
 cond x4 (letm (((UInt64.toNat a1.n:Int)==(UInt64.toNat 18446744073709551615:Int))) fun x5=>
 cond x5 (none)
 (bnd (cO a0 [45]) fun x6=>
 letm ((a1.n+1)) fun x7=>
 bnd (cg x6 x7 10) fun x8=>
 some x8))
 (letm ((a1.k==2)) fun x9=>
 cond x9 (none)
 (letm ((a1.k==3)) fun x10=>
 cond x10 (none)
 (letm ((a1.k==6)) fun x11=>
 cond x11 (bnd (cg a0 a1.n 10) fun x12=>
 bnd (cO x12 [40]) fun x13=>
 bnd (aV a1.l 0) fun x14=>
 bnd (iL x13 x14) fun x15=>
 bnd (cO x15 [41]) fun x16=>
 some x16)
 (letm ((a1.k==7)) fun x17=>
 cond x17 (bnd (β:=Bool) (letm (decide ((UInt64.toNat 20:Int)≤(UInt64.toNat a1.n:Int))) fun x18=>
 cond x18 (letm (decide ((UInt64.toNat a1.n:Int)<(UInt64.toNat 24:Int))) fun x19=>
 some x19)
 (some false)) fun v20=>
 cond v20 (letm ((a1.n-20)) fun x21=>
 bnd (aV [[102,97,108,115,101],[116,114,117,101],[110,117,108,108],[117,110,100,101,102,105,110,101,100]] (UInt64.toNat x21:Int)) fun(x22:List UInt8)=>
 none)
 (none))
 (letm ((a1.k==8)) fun x23=>
 cond x23 (none)
 (bnd (β:=(UInt8×UInt8)) (letm ((a1.k==5)) fun x24=>
 cond x24 (some (123,125))
 (some (91,93))) fun v25=>
 bnd (cO a0 [v25.1]) fun x26=>
 a6 (R:=(List UInt8)) (S:=(List UInt8)) (α:=Go.Gk.Tr) (fun _ s28=>
 bnd (cO s28 [v25.2]) fun x29=>
 some x29)
 (fun x30 k31 s32 self33=>
 bnd (β:=(List UInt8)) (bnd (β:=Bool) (letm ((a1.k==5)) fun x34=>
 cond x34 (bnd (Gk.rem (k31:Int) 2) fun x35=>
 letm ((x35==1)) fun x36=>
 some x36)
 (some false)) fun v37=>
 cond v37 (none)
 (letm (decide (0<(k31:Int))) fun x38=>
 cond x38 (none)
 (some s32))) fun v39=>
 bnd (iL v39 x30) fun x40=>
 self33 x40) a1.l 0 x26)))))))
def sG(a0:Go.Gk.Tr):Option ((List UInt8)×Int):=
 bnd (bX a0) fun x1=>
 letm ((!x1)) fun x2=>
 cond x2 (some ([],1))
 (bnd (rG [] a0) fun x3=>
 some (x3,0))
def fH(a0:(List UInt8))(a1:(List UInt8)):Option Bool:=
 bnd (β:=Bool) (letm (decide ((a1.length:Int)≤(a0.length:Int))) fun x2=>
 cond x2 (bnd (Gk.cut a0 0 (a1.length:Int)) fun x3=>
 letm ((x3==a1)) fun x4=>
 some x4)
 (some false)) fun v5=>
 some v5
def fL(a0:(List UInt8))(a1:(List UInt8)):Option bK:=
 bnd (fH a0 a1) fun x2=>
 letm ((!x2)) fun x3=>
 cond x3 (some (a0,false))
 (bnd (Gk.cut a0 (a1.length:Int) (a0.length:Int)) fun x4=>
 some (x4,true))
def lg(a0:(List UInt8))(a1:(List UInt8)):Option bK:=
 bnd (fL a0 a1) fun x2=>
 some (x2.1,x2.2)
def ba(a0:aE)(a1:(List UInt8)):Option (Bool×aE):=
 bnd (lg a0.1 a1) fun x2=>
 bnd (β:=aE) (cond x2.2 (some (x2.1,a0.2))
 (some a0)) fun v3=>
 some (x2.2,v3)
def eX(a0:aE)(a1:(List UInt8)):Option aE:=
 cond a0.2.2 (some (a0.1,(a0.2.1,true)))
 (bnd (ba a0 a1) fun x2=>
 letm ((!x2.1)) fun x3=>
 some (x2.2.1,(x2.2.2.1,x3)))
def fV(a0:List UInt8)(a1 a2:Int):Option (UInt64×Bool):=
 bif decide (a0.length≤281474976710656)&&(a2==64&&a1==10)then(match Lib.parseUintB 64 a0 with | .ok n=>some (UInt64.ofNat n,false) |_=>none)else none
def fN(a0:aE):Option (UInt64×aE):=
 bnd (β:=Int) (bo (R:=Int) (S:=Int) (fun self2 s1=>
 bnd (β:=Bool) (letm (decide (s1<(a0.1.length:Int))) fun x3=>
 cond x3 (bnd (aV a0.1 s1) fun x4=>
 letm (decide ((UInt8.toNat 48:Int)≤(UInt8.toNat x4:Int))) fun x5=>
 cond x5 (bnd (aV a0.1 s1) fun x6=>
 letm (decide ((UInt8.toNat x6:Int)≤(UInt8.toNat 57:Int))) fun x7=>
 some x7)
 (some false))
 (some false)) fun v8=>
 cond v8 (letm ((aF (s1+1))) fun x9=>
 self2 x9)
 (some s1)) cS 0) fun v10=>
 bnd (Gk.cut a0.1 0 v10) fun x11=>
 bnd (fV x11 10 64) fun x12=>
 bnd (β:=aE) (cond a0.2.2 (some (a0.1,(a0.2.1,true)))
 (letm (x12.2) fun x13=>
 cond x13 (some (a0.1,(a0.2.1,true)))
 (letm (decide (1<v10)) fun x14=>
 cond x14 (bnd (aV a0.1 0) fun x15=>
 letm (((UInt8.toNat x15:Int)==(UInt8.toNat 48:Int))) fun x16=>
 some (a0.1,(a0.2.1,x16)))
 (some (a0.1,(a0.2.1,false)))))) fun v17=>
 bnd (Gk.cut v17.1 v10 (v17.1.length:Int)) fun x18=>
 some (x12.1,(x18,v17.2))
def jt(cj:(aE)→(Int)→Option (Go.Gk.Tr×aE))(a0:aE)(a1:(List UInt8))(a2:Bool)(a3:Int):Option ((List Go.Gk.Tr)×aE):=
 bnd (β:=((List Go.Gk.Tr)×aE)) (bo (R:=((List Go.Gk.Tr)×aE)) (S:=((List Go.Gk.Tr)×aE)) (fun self5 s4=>
 bnd (β:=(Bool×aE)) (letm ((!s4.2.2.2)) fun x6=>
 cond x6 (bnd (ba s4.2 a1) fun x7=>
 letm ((!x7.1)) fun x8=>
 some (x8,x7.2))
 (some (false,s4.2))) fun v9=>
 cond v9.1 (bnd (β:=aE) (letm (decide (0<(s4.1.length:Int))) fun x10=>
 cond x10 (bnd (eX v9.2 [44,32]) fun x11=>
 some x11)
 (some v9.2)) fun v12=>
 bnd (cj v12 a3) fun x13=>
 bnd (cO s4.1 [x13.1]) fun x14=>
 cond a2 (bnd (eX x13.2 [58,32]) fun x15=>
 bnd (cj x15 a3) fun x16=>
 bnd (cO x14 [x16.1]) fun x17=>
 self5 (x17,x16.2))
 (self5 (x14,x13.2)))
 (some (s4.1,v9.2))) cS ([],a0)) fun v18=>
 some (v18.1,v18.2)
def mh(cj:(aE)→(Int)→Option (Go.Gk.Tr×aE))(a0:aE)(a1:Int):Option (Go.Gk.Tr×aE):=
 letm ((aF (a0.2.1+1))) fun x2=>
 bnd (β:=Bool) (cond a0.2.2 (some true)
 (letm (decide (256<x2)) fun x3=>
 cond x3 (some true)
 (letm (decide (8<a1)) fun x4=>
 some x4))) fun v5=>
 cond v5 (some ((Tr.mk 0 0 [] []),(a0.1,(x2,true))))
 (bnd (ba (a0.1,(x2,a0.2.2)) [104,39]) fun x6=>
 cond x6.1 (none)
 (bnd (ba x6.2 [34]) fun x7=>
 cond x7.1 (none)
 (bnd (ba x7.2 [91]) fun x8=>
 cond x8.1 (letm ((aF (a1+1))) fun x9=>
 bnd (jt cj x8.2 [93] false x9) fun x10=>
 some ((Tr.mk 4 0 [] x10.1),x10.2))
 (bnd (ba x8.2 [123]) fun x11=>
 cond x11.1 (letm ((aF (a1+1))) fun x12=>
 bnd (jt cj x11.2 [125] true x12) fun x13=>
 some ((Tr.mk 5 0 [] x13.1),x13.2))
 (bnd (ba x11.2 [115,105,109,112,108,101,40]) fun x14=>
 cond x14.1 (bnd (fN x14.2) fun x15=>
 bnd (eX x15.2 [41]) fun x16=>
 some ((Tr.mk 7 x15.1 [] []),x16))
 (bnd (ba x14.2 [102,108,111,97,116,39]) fun x17=>
 cond x17.1 (none)
 (bnd (ba x17.2 [45]) fun x18=>
 cond x18.1 (bnd (ba x18.2 [49,56,52,52,54,55,52,52,48,55,51,55,48,57,53,53,49,54,49,54]) fun x19=>
 cond x19.1 (some ((Tr.mk 1 18446744073709551615 [] []),x19.2))
 (bnd (fN x19.2) fun x20=>
 bnd (β:=aE) (cond x20.2.2.2 (some (x20.2.1,(x20.2.2.1,true)))
 (letm (((UInt64.toNat x20.1:Int)==(UInt64.toNat 0:Int))) fun x21=>
 some (x20.2.1,(x20.2.2.1,x21)))) fun v22=>
 letm ((x20.1-1)) fun x23=>
 some ((Tr.mk 1 x23 [] []),v22)))
 (bo (R:=(Go.Gk.Tr×aE)) (S:=(Int×(aE×Go.Gk.Tr))) (fun self25 s24=>
 letm (decide (s24.1<4)) fun x26=>
 cond x26 (bnd (aV [[102,97,108,115,101],[116,114,117,101],[110,117,108,108],[117,110,100,101,102,105,110,101,100]] s24.1) fun x27=>
 bnd (ba s24.2.1 x27) fun x28=>
 cond x28.1 (letm ((aF (20+s24.1))) fun x29=>
 letm ((aC x29)) fun x30=>
 some ((Tr.mk 7 x30 [] []),x28.2))
 (letm ((aF (s24.1+1))) fun x31=>
 self25 (x31,(x28.2,s24.2.2))))
 (bnd (fN s24.2.1) fun x32=>
 bnd (ba x32.2 [40]) fun x33=>
 letm ((!x33.1)) fun x34=>
 cond x34 (some ((Tr.mk 0 x32.1 [] []),x33.2))
 (letm ((aF (a1+1))) fun x35=>
 bnd (cj x33.2 x35) fun x36=>
 bnd (eX x36.2 [41]) fun x37=>
 some ((Tr.mk 6 x32.1 [] [x36.1]),x37)))) cS (0,(x18.2,(Tr.mk 0 0 [] [])))))))))))
def jv(n:Nat):(aE)→(Int)→Option (Go.Gk.Tr×aE):=Nat.rec (motive:=fun _=>(aE)→(Int)→Option (Go.Gk.Tr×aE)) (fun _ _=>none) (fun _ ih=>mh ih) n
def cj(a0:aE)(a1:Int):Option (Go.Gk.Tr×aE):=jv 40 a0 a1
def tA(a0:(List UInt8)):Option (Go.Gk.Tr×Int):=
 bnd (cj (a0,(0,false)) 0) fun x1=>
 bnd (β:=Bool) (cond x1.2.2.2 (some true)
 (letm ((x1.2.1 != [])) fun x2=>
 cond x2 (some true)
 (bnd (bX x1.1) fun x3=>
 letm ((!x3)) fun x4=>
 some x4))) fun v5=>
 cond v5 (some ((Tr.mk 0 0 [] []),17))
 (bnd (rG [] x1.1) fun x6=>
 letm ((x6 != a0)) fun x7=>
 cond x7 (some ((Tr.mk 0 0 [] []),17))
 (some (x1.1,0)))
def fi:Option Bool:=
 bnd (iA (-3)) fun x0=>
 bnd (sG x0) fun x1=>
 bnd (tA [91,49,93]) fun x2=>
 bnd (β:=Bool) (letm ((x1.1 == [45,51])) fun x3=>
 cond x3 (letm ((x1.2==0)) fun x4=>
 cond x4 (letm ((x2.2==0)) fun x5=>
 cond x5 (letm (((x2.1.l.length:Int)==1)) fun x6=>
 some x6)
 (some false))
 (some false))
 (some false)) fun v7=>
 some v7
def gR(a0:(List Int))(a1:Int)(a2:Int):Option Bool:=
 bnd (mB a0) fun x3=>
 bnd (dw x3 2) fun x4=>
 bnd (ky x4.1) fun x5=>
 bnd (dF x4.2 30) fun x6=>
 bnd (cl a1 16) fun x7=>
 bnd (quo a1 3) fun x8=>
 bnd (cl x8 13) fun x9=>
 bnd (jm x6.1 [] x5.1 x7 x9) fun x10=>
 bnd (ir 16 x10.1) fun x11=>
 bnd (β:=Bool) (letm ((x5.2 != 0)) fun x12=>
 cond x12 (some true)
 (letm ((x10.2 != 0)) fun x13=>
 cond x13 (some true)
 (letm ((x11.2 != 0)) fun x14=>
 some x14))) fun v15=>
 cond v15 (some false)
 (bnd (fG a2 4) fun x16=>
 bnd (jP (x11.1.length:Int) x16) fun x17=>
 bnd (rng x17) fun j46=>
 mG (R:=Bool) (S:=(List aj)) (fun _ _=>
 some false)
 (fun k20 s21 self22=>
 bnd (kC x11.1 (k20:Int) x16) fun x23=>
 bnd (jC s21 1 [] ((k20:Int),(x23.2.1,x16)) x23.1 (k20:Int)) fun x24=>
 bnd (β:=Bool) (letm ((x23.2.2 != 0)) fun x25=>
 cond x25 (some true)
 (letm ((x24.2.2.2 != 0)) fun x26=>
 cond x26 (some true)
 (letm ((x24.2.2.1==x23.2.1)) fun x27=>
 some x27))) fun v28=>
 cond v28 (some false)
 (letm ((!x24.2.2.1)) fun x29=>
 cond x29 (self22 x24.1)
 (bnd (fJ x24.2.1) fun x30=>
 bnd (cl a1 16) fun x31=>
 bnd (quo a1 3) fun x32=>
 bnd (cl x32 13) fun x33=>
 bnd (gZ x30.2.1 [] x31 x33) fun x34=>
 bnd (jd x34.1) fun x35=>
 bnd (β:=Bool) (letm ((x30.2.2==0)) fun x36=>
 cond x36 (letm ((x34.2==0)) fun x37=>
 cond x37 (letm ((x35.2==0)) fun x38=>
 cond x38 (letm ((x30.1==16)) fun x39=>
 cond x39 (bnd (dJ x30.2.1 x10.1) fun x40=>
 cond x40 (bnd (dH x35.1 x4.1) fun x41=>
 cond x41 (bnd (jB 16 (x34.1.length:Int)) fun x42=>
 letm (decide (4≤x42)) fun x43=>
 cond x43 (bnd (fi) fun x44=>
 some x44)
 (some false))
 (some false))
 (some false))
 (some false))
 (some false))
 (some false))
 (some false)) fun v45=>
 some v45))) j46 0 [])
end
end Go.Proofs.YthejfljhiaeoeaaGreatDoor
