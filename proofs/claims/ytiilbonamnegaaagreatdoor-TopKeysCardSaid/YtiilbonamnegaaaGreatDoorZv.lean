/- A part of the proof of TopKeys. No condition. -/
import Derived.Test.YtiilbonamnegaaaGreatDoorZq
import Derived.Test.YtiilbonamnegaaaGreatDoorZu
namespace Go.Proofs.YtiilbonamnegaaaGreatDoor
open Go.Gk Go.RowKit
noncomputable section
set_option maxRecDepth 100000
instance(n:Nat):OfNat (bK .u16) n:=inferInstanceAs (OfNat Int n)
def jD(a0:(List UInt8)):Option Bool:=
 letm (decide ((a0.length:Int)≤600)) fun x1=>
 some x1
def vt(a0:UInt64):Option Go.Gk.Tr:=
 some (Tr.mk 0 a0 [] [])
def cy(a0:Int):Option Go.Gk.Tr:=
 letm (decide (a0<0)) fun x1=>
 cond x1 (letm ((aA ((-1)-a0))) fun x2=>
 letm ((aB x2)) fun x3=>
 some (Tr.mk 1 x3 [] []))
 (letm ((aB a0)) fun x4=>
 bnd (vt x4) fun x5=>
 some x5)
def au(a0:(List UInt8)):Option UInt64:=
 bnd (aI a0 0) fun x1=>
 letm ((aB (UInt8.toNat x1:Int))) fun x2=>
 bnd (aI a0 1) fun x3=>
 letm ((aB (UInt8.toNat x3:Int))) fun x4=>
 bnd ((dO .u64 (x4:UInt64) (UInt64.toNat 8:Int):Option UInt64)) fun(x5:UInt64)=>
 letm ((aS .or .u64 (x2:UInt64) (x5:UInt64):UInt64)) fun x6=>
 bnd (aI a0 2) fun x7=>
 letm ((aB (UInt8.toNat x7:Int))) fun x8=>
 bnd ((dO .u64 (x8:UInt64) (UInt64.toNat 16:Int):Option UInt64)) fun(x9:UInt64)=>
 letm ((aS .or .u64 (x6:UInt64) (x9:UInt64):UInt64)) fun x10=>
 bnd (aI a0 3) fun x11=>
 letm ((aB (UInt8.toNat x11:Int))) fun x12=>
 bnd ((dO .u64 (x12:UInt64) (UInt64.toNat 24:Int):Option UInt64)) fun(x13:UInt64)=>
 letm ((aS .or .u64 (x10:UInt64) (x13:UInt64):UInt64)) fun x14=>
 bnd (aI a0 4) fun x15=>
 letm ((aB (UInt8.toNat x15:Int))) fun x16=>
 bnd ((dO .u64 (x16:UInt64) (UInt64.toNat 32:Int):Option UInt64)) fun(x17:UInt64)=>
 letm ((aS .or .u64 (x14:UInt64) (x17:UInt64):UInt64)) fun x18=>
 bnd (aI a0 5) fun x19=>
 letm ((aB (UInt8.toNat x19:Int))) fun x20=>
 bnd ((dO .u64 (x20:UInt64) (UInt64.toNat 40:Int):Option UInt64)) fun(x21:UInt64)=>
 letm ((aS .or .u64 (x18:UInt64) (x21:UInt64):UInt64)) fun x22=>
 bnd (aI a0 6) fun x23=>
 letm ((aB (UInt8.toNat x23:Int))) fun x24=>
 bnd ((dO .u64 (x24:UInt64) (UInt64.toNat 48:Int):Option UInt64)) fun(x25:UInt64)=>
 letm ((aS .or .u64 (x22:UInt64) (x25:UInt64):UInt64)) fun x26=>
 bnd (aI a0 7) fun x27=>
 letm ((aB (UInt8.toNat x27:Int))) fun x28=>
 bnd ((dO .u64 (x28:UInt64) (UInt64.toNat 56:Int):Option UInt64)) fun(x29:UInt64)=>
 letm ((aS .or .u64 (x26:UInt64) (x29:UInt64):UInt64)) fun x30=>
 some x30
def bw(a0:(List UInt8)):Option Bool:=
 bnd (Gk.cut a0 0 (a0.length:Int)) fun x1=>
 bnd (Gk.cut x1 0 (a0.length:Int)) fun x2=>
 fg (ρ:=Bool) (ρ':=Bool) (Y:=Unit) (aM (R:=(Bool⊕Unit)) (S:=(List UInt8)) (fun self4 s3=>
 letm (decide (0<(s3.length:Int))) fun x5=>
 cond x5 (bnd (aI s3 0) fun x6=>
 letm (decide ((UInt8.toNat x6:Int)<(UInt8.toNat 128:Int))) fun x7=>
 cond x7 (bnd (Gk.cut s3 1 (s3.length:Int)) fun x8=>
 bnd (β:=Bool) (letm (decide (8<(x8.length:Int))) fun x9=>
 cond x9 (bnd (au x8) fun x10=>
 letm ((aS .and .u64 (x10:UInt64) (9259542123273814144:UInt64):UInt64)) fun x11=>
 letm (((UInt64.toNat x11:Int)==(UInt64.toNat 0:Int))) fun x12=>
 some x12)
 (some false)) fun v13=>
 cond v13 (bnd (Gk.cut x8 8 (x8.length:Int)) fun x14=>
 bnd (β:=Bool) (letm (decide (16<(x14.length:Int))) fun x15=>
 cond x15 (bnd (au x14) fun x16=>
 bnd (Gk.cut x14 8 (x14.length:Int)) fun x17=>
 bnd (au x17) fun x18=>
 letm ((aS .or .u64 (x16:UInt64) (x18:UInt64):UInt64)) fun x19=>
 letm ((aS .and .u64 (x19:UInt64) (9259542123273814144:UInt64):UInt64)) fun x20=>
 letm (((UInt64.toNat x20:Int)==(UInt64.toNat 0:Int))) fun x21=>
 some x21)
 (some false)) fun v22=>
 cond v22 (bnd (Gk.cut x14 16 (x14.length:Int)) fun x23=>
 aM (R:=(Bool⊕Unit)) (S:=(List UInt8)) (fun self25 s24=>
 bnd (β:=Bool) (letm (decide (32<(s24.length:Int))) fun x26=>
 cond x26 (bnd (au s24) fun x27=>
 bnd (Gk.cut s24 8 (s24.length:Int)) fun x28=>
 bnd (au x28) fun x29=>
 letm ((aS .or .u64 (x27:UInt64) (x29:UInt64):UInt64)) fun x30=>
 bnd (Gk.cut s24 16 (s24.length:Int)) fun x31=>
 bnd (au x31) fun x32=>
 bnd (Gk.cut s24 24 (s24.length:Int)) fun x33=>
 bnd (au x33) fun x34=>
 letm ((aS .or .u64 (x32:UInt64) (x34:UInt64):UInt64)) fun x35=>
 letm ((aS .or .u64 (x30:UInt64) (x35:UInt64):UInt64)) fun x36=>
 letm ((aS .and .u64 (x36:UInt64) (9259542123273814144:UInt64):UInt64)) fun x37=>
 letm (((UInt64.toNat x37:Int)==(UInt64.toNat 0:Int))) fun x38=>
 some x38)
 (some false)) fun v39=>
 cond v39 (bnd (Gk.cut s24 32 (s24.length:Int)) fun x40=>
 self25 x40)
 (self4 s24)) bA x23)
 (self4 x14))
 (self4 x8))
 (bnd (aI ql (UInt8.toNat x6:Int)) fun x41=>
 letm ((av (bits .and .u8 (UInt8.toNat x41) (UInt8.toNat 7)))) fun x42=>
 letm ((aA (UInt8.toNat x42:Int))) fun x43=>
 bnd (cg .u8 x41 (UInt64.toNat 4:Int)) fun x44=>
 bnd (aI qN (UInt8.toNat x44:Int)) fun x45=>
 letm ((x43==2)) fun x46=>
 cond x46 (bnd (β:=Bool) (letm (decide ((s3.length:Int)<2)) fun x47=>
 cond x47 (some true)
 (bnd (aI s3 1) fun x48=>
 letm (decide ((UInt8.toNat x48:Int)<(UInt8.toNat x45.1:Int))) fun x49=>
 cond x49 (some true)
 (bnd (aI s3 1) fun x50=>
 letm (decide ((UInt8.toNat x45.2:Int)<(UInt8.toNat x50:Int))) fun x51=>
 some x51))) fun v52=>
 cond v52 (some (.inl false))
 (bnd (Gk.cut s3 2 (s3.length:Int)) fun x53=>
 self4 x53))
 (letm ((x43==3)) fun x54=>
 cond x54 (bnd (β:=Bool) (letm (decide ((s3.length:Int)<3)) fun x55=>
 cond x55 (some true)
 (bnd (aI s3 1) fun x56=>
 letm (decide ((UInt8.toNat x56:Int)<(UInt8.toNat x45.1:Int))) fun x57=>
 cond x57 (some true)
 (bnd (aI s3 1) fun x58=>
 letm (decide ((UInt8.toNat x45.2:Int)<(UInt8.toNat x58:Int))) fun x59=>
 cond x59 (some true)
 (bnd (aI s3 2) fun x60=>
 letm (decide ((UInt8.toNat x60:Int)<(UInt8.toNat 128:Int))) fun x61=>
 cond x61 (some true)
 (bnd (aI s3 2) fun x62=>
 letm (decide ((UInt8.toNat 191:Int)<(UInt8.toNat x62:Int))) fun x63=>
 some x63))))) fun v64=>
 cond v64 (some (.inl false))
 (bnd (Gk.cut s3 3 (s3.length:Int)) fun x65=>
 self4 x65))
 (letm ((x43==4)) fun x66=>
 cond x66 (bnd (β:=Bool) (letm (decide ((s3.length:Int)<4)) fun x67=>
 cond x67 (some true)
 (bnd (aI s3 1) fun x68=>
 letm (decide ((UInt8.toNat x68:Int)<(UInt8.toNat x45.1:Int))) fun x69=>
 cond x69 (some true)
 (bnd (aI s3 1) fun x70=>
 letm (decide ((UInt8.toNat x45.2:Int)<(UInt8.toNat x70:Int))) fun x71=>
 cond x71 (some true)
 (bnd (aI s3 2) fun x72=>
 letm (decide ((UInt8.toNat x72:Int)<(UInt8.toNat 128:Int))) fun x73=>
 cond x73 (some true)
 (bnd (aI s3 2) fun x74=>
 letm (decide ((UInt8.toNat 191:Int)<(UInt8.toNat x74:Int))) fun x75=>
 cond x75 (some true)
 (bnd (aI s3 3) fun x76=>
 letm (decide ((UInt8.toNat x76:Int)<(UInt8.toNat 128:Int))) fun x77=>
 cond x77 (some true)
 (bnd (aI s3 3) fun x78=>
 letm (decide ((UInt8.toNat 191:Int)<(UInt8.toNat x78:Int))) fun x79=>
 some x79))))))) fun v80=>
 cond v80 (some (.inl false))
 (bnd (Gk.cut s3 4 (s3.length:Int)) fun x81=>
 self4 x81))
 (some (.inl false))))))
 (some (.inr ()))) bA x2) (fun q=>q) fun _=>
 some true
def lX(a0:Go.Gk.Tr):Option (Bool×Bool):=
 bnd (β:=Bool) (letm ((a0.k==0)) fun x1=>
 cond x1 (some true)
 (letm ((a0.k==1)) fun x2=>
 some x2)) fun v3=>
 cond v3 (bnd (β:=(Bool×Bool)) (letm (((a0.b.length:Int)==0)) fun x4=>
 cond x4 (letm (((a0.l.length:Int)==0)) fun x5=>
 some (x5,true))
 (some (false,true))) fun v6=>
 some (v6.1,v6.2))
 (letm ((a0.k==2)) fun x7=>
 cond x7 (bnd (β:=(Bool×Bool)) (letm (((UInt64.toNat a0.n:Int)==(UInt64.toNat 0:Int))) fun x8=>
 cond x8 (letm (((a0.l.length:Int)==0)) fun x9=>
 some (x9,true))
 (some (false,true))) fun v10=>
 some (v10.1,v10.2))
 (letm ((a0.k==3)) fun x11=>
 cond x11 (bnd (β:=(Bool×Bool)) (letm (((UInt64.toNat a0.n:Int)==(UInt64.toNat 0:Int))) fun x12=>
 cond x12 (letm (((a0.l.length:Int)==0)) fun x13=>
 cond x13 (bnd (bw a0.b) fun x14=>
 some (x14,true))
 (some (false,true)))
 (some (false,true))) fun v15=>
 some (v15.1,v15.2))
 (letm ((a0.k==7)) fun x16=>
 cond x16 (bnd (β:=(Bool×Bool)) (letm (((a0.b.length:Int)==0)) fun x17=>
 cond x17 (letm (((a0.l.length:Int)==0)) fun x18=>
 cond x18 (letm (decide ((UInt64.toNat a0.n:Int)<(UInt64.toNat 24:Int))) fun x19=>
 cond x19 (some (true,true))
 (letm (decide ((UInt64.toNat 32:Int)≤(UInt64.toNat a0.n:Int))) fun x20=>
 cond x20 (letm (decide ((UInt64.toNat a0.n:Int)<(UInt64.toNat 256:Int))) fun x21=>
 some (x21,true))
 (some (false,true))))
 (some (false,true)))
 (some (false,true))) fun v22=>
 some (v22.1,v22.2))
 (letm ((a0.k==8)) fun x23=>
 cond x23 (letm (a0.n) fun x24=>
 bnd (β:=(Bool×Bool)) (letm (((a0.b.length:Int)==0)) fun x25=>
 cond x25 (letm (((a0.l.length:Int)==0)) fun x26=>
 cond x26 (letm ((feq x24 x24)) fun x27=>
 cond x27 (some (true,true))
 (letm (((UInt64.toNat a0.n:Int)==(UInt64.toNat 9221120237041090560:Int))) fun x28=>
 some (x28,true)))
 (some (false,true)))
 (some (false,true))) fun v29=>
 some (v29.1,v29.2))
 (some (false,false))))))
def nC(a0:UInt64):Option (List UInt8):=
 aM (R:=(List UInt8)) (S:=((List UInt8)×Int)) (fun self2 s1=>
 letm (decide (0≤s1.2)) fun x3=>
 cond x3 (bnd ((cg .u64 (a0:UInt64) s1.2:Option UInt64)) fun(x4:UInt64)=>
 letm ((av (UInt64.toNat x4:Int))) fun x5=>
 bnd (app s1.1 [x5]) fun x6=>
 letm ((aA (s1.2-8))) fun x7=>
 self2 (x6,x7))
 (some s1.1)) bA ([],56)
def lm(a0:UInt32):Option (Int×Bool):=
 bnd ((cg .u32 (a0:UInt32) (UInt64.toNat 31:Int):Option UInt32)) fun(x1:UInt32)=>
 bnd ((dO .u32 (x1:UInt32) (UInt64.toNat 15:Int):Option UInt32)) fun(x2:UInt32)=>
 letm ((Gk.fX .u16 (UInt32.toNat x2:Int))) fun x3=>
 bnd ((cg .u32 (a0:UInt32) (UInt64.toNat 23:Int):Option UInt32)) fun(x4:UInt32)=>
 letm ((aS .and .u32 (x4:UInt32) (255:UInt32):UInt32)) fun x5=>
 letm ((aA (UInt32.toNat x5:Int))) fun x6=>
 letm ((aS .and .u32 (a0:UInt32) (8388607:UInt32):UInt32)) fun x7=>
 letm ((x6==255)) fun x8=>
 cond x8 (letm ((aS .or .u16 x3 31744)) fun x9=>
 some (x9,true))
 (letm ((x6==0)) fun x10=>
 cond x10 (letm (((UInt32.toNat x7:Int)==(UInt32.toNat 0:Int))) fun x11=>
 some (x3,x11))
 (bnd (β:=Bool) (letm (decide (113≤x6)) fun x12=>
 cond x12 (letm (decide (x6≤142)) fun x13=>
 some x13)
 (some false)) fun v14=>
 cond v14 (letm ((aA (x6-112))) fun x15=>
 letm ((Gk.fX .u16 x15)) fun x16=>
 bnd (dO .u16 x16 (UInt64.toNat 10:Int)) fun x17=>
 letm ((aS .or .u16 x3 x17)) fun x18=>
 bnd ((cg .u32 (x7:UInt32) (UInt64.toNat 13:Int):Option UInt32)) fun(x19:UInt32)=>
 letm ((Gk.fX .u16 (UInt32.toNat x19:Int))) fun x20=>
 letm ((aS .or .u16 x18 x20)) fun x21=>
 letm ((aS .and .u32 (x7:UInt32) (8191:UInt32):UInt32)) fun x22=>
 letm (((UInt32.toNat x22:Int)==(UInt32.toNat 0:Int))) fun x23=>
 some (x21,x23))
 (bnd (β:=Bool) (letm (decide (103≤x6)) fun x24=>
 cond x24 (letm (decide (x6<113)) fun x25=>
 some x25)
 (some false)) fun v26=>
 cond v26 (letm ((aA (126-x6))) fun x27=>
 letm ((aB x27)) fun x28=>
 letm ((aS .or .u32 (x7:UInt32) (8388608:UInt32):UInt32)) fun x29=>
 bnd ((cg .u32 (x29:UInt32) (UInt64.toNat x28:Int):Option UInt32)) fun(x30:UInt32)=>
 letm ((Gk.fX .u16 (UInt32.toNat x30:Int))) fun x31=>
 letm ((aS .or .u16 x3 x31)) fun x32=>
 bnd ((dO .u32 (1:UInt32) (UInt64.toNat x28:Int):Option UInt32)) fun(x33:UInt32)=>
 letm ((x33-1)) fun x34=>
 letm ((aS .and .u32 (x29:UInt32) (x34:UInt32):UInt32)) fun x35=>
 letm (((UInt32.toNat x35:Int)==(UInt32.toNat 0:Int))) fun x36=>
 some (x32,x36))
 (some (0,false)))))
def ef(a0:UInt64):Option (List UInt8):=
 bif feq a0 a0 then(match oh a0.toNat with
  |none=>bnd (nC a0) fun x=>app [251] x
  |some s=>bnd (lm (UInt32.ofNat s)) fun x=>some (bif x.2 then [249,av (x.1/256),av x.1]else [250,av ((s:Int)/16777216),av ((s:Int)/65536),av ((s:Int)/256),av (s:Int)]))
 else some [249,126,0]
def jp(a0:Go.Gk.Tr):Option (UInt8×UInt64):=
 bnd (β:=Bool) (letm ((a0.k==2)) fun x1=>
 cond x1 (some true)
 (letm ((a0.k==3)) fun x2=>
 some x2)) fun v3=>
 cond v3 (letm ((av a0.k)) fun x4=>
 letm ((aB (a0.b.length:Int))) fun x5=>
 some (x4,x5))
 (letm ((a0.k==4)) fun x6=>
 cond x6 (letm ((aB (a0.l.length:Int))) fun x7=>
 some (4,x7))
 (letm ((a0.k==5)) fun x8=>
 cond x8 (bnd (quo (a0.l.length:Int) 2) fun x9=>
 letm ((aB x9)) fun x10=>
 some (5,x10))
 (letm ((av a0.k)) fun x11=>
 some (x11,a0.n))))
def cj(a0:UInt8)(a1:UInt64):Option (List UInt8):=
 bnd (dO .u8 a0 (UInt64.toNat 5:Int)) fun x2=>
 letm (decide ((UInt64.toNat a1:Int)<(UInt64.toNat 24:Int))) fun x3=>
 cond x3 (letm ((av (UInt64.toNat a1:Int))) fun x4=>
 letm ((av (bits .or .u8 (UInt8.toNat x2) (UInt8.toNat x4)))) fun x5=>
 some [x5])
 (letm (decide ((UInt64.toNat a1:Int)<(UInt64.toNat 256:Int))) fun x6=>
 cond x6 (letm ((av (bits .or .u8 (UInt8.toNat x2) (UInt8.toNat 24)))) fun x7=>
 letm ((av (UInt64.toNat a1:Int))) fun x8=>
 some [x7,x8])
 (letm (decide ((UInt64.toNat a1:Int)<(UInt64.toNat 65536:Int))) fun x9=>
 cond x9 (letm ((av (bits .or .u8 (UInt8.toNat x2) (UInt8.toNat 25)))) fun x10=>
 bnd ((cg .u64 (a1:UInt64) (UInt64.toNat 8:Int):Option UInt64)) fun(x11:UInt64)=>
 letm ((av (UInt64.toNat x11:Int))) fun x12=>
 letm ((av (UInt64.toNat a1:Int))) fun x13=>
 some [x10,x12,x13])
 (letm (decide ((UInt64.toNat a1:Int)<(UInt64.toNat 4294967296:Int))) fun x14=>
 cond x14 (letm ((av (bits .or .u8 (UInt8.toNat x2) (UInt8.toNat 26)))) fun x15=>
 bnd ((cg .u64 (a1:UInt64) (UInt64.toNat 24:Int):Option UInt64)) fun(x16:UInt64)=>
 letm ((av (UInt64.toNat x16:Int))) fun x17=>
 bnd ((cg .u64 (a1:UInt64) (UInt64.toNat 16:Int):Option UInt64)) fun(x18:UInt64)=>
 letm ((av (UInt64.toNat x18:Int))) fun x19=>
 bnd ((cg .u64 (a1:UInt64) (UInt64.toNat 8:Int):Option UInt64)) fun(x20:UInt64)=>
 letm ((av (UInt64.toNat x20:Int))) fun x21=>
 letm ((av (UInt64.toNat a1:Int))) fun x22=>
 some [x15,x17,x19,x21,x22])
 (letm ((av (bits .or .u8 (UInt8.toNat x2) (UInt8.toNat 27)))) fun x23=>
 aM (R:=(List UInt8)) (S:=((List UInt8)×Int)) (fun self25 s24=>
 letm (decide (0≤s24.2)) fun x26=>
 cond x26 (bnd ((cg .u64 (a1:UInt64) s24.2:Option UInt64)) fun(x27:UInt64)=>
 letm ((av (UInt64.toNat x27:Int))) fun x28=>
 bnd (app s24.1 [x28]) fun x29=>
 letm ((aA (s24.2-8))) fun x30=>
 self25 (x29,x30))
 (some s24.1)) bA ([x23],56)))))
def dN(a0:aH)(a1:Go.Gk.Tr):Option (Bool×aH):=
 bnd (β:=aH) (letm ((a1.k==8)) fun x2=>
 cond x2 (bnd (ef a1.n) fun x3=>
 letm ((aA (a0.2+(x3.length:Int)))) fun x4=>
 some (a0.1,x4))
 (letm ((a1.k==7)) fun x5=>
 cond x5 (letm ((aA (a0.2+1))) fun x6=>
 letm (decide ((UInt64.toNat 24:Int)≤(UInt64.toNat a1.n:Int))) fun x7=>
 cond x7 (letm ((aA (x6+1))) fun x8=>
 some (a0.1,x8))
 (some (a0.1,x6)))
 (bnd (jp a1) fun x9=>
 bnd (cj x9.1 x9.2) fun x10=>
 letm ((aA ((x10.length:Int)+(a1.b.length:Int)))) fun x11=>
 letm ((aA (a0.2+x11))) fun x12=>
 some (a0.1,x12)))) fun v13=>
 letm (decide (v13.2≤4096)) fun x14=>
 some (x14,v13)
def l_(mc:((List UInt8))→(Go.Gk.Tr)→Option (List UInt8))(a0:(List UInt8))(a1:Go.Gk.Tr):Option (List UInt8):=
 letm ((a1.k==8)) fun x2=>
 cond x2 (bnd (ef a1.n) fun x3=>
 bnd (app a0 x3) fun x4=>
 some x4)
 (bnd (β:=Bool) (letm ((a1.k==7)) fun x5=>
 cond x5 (letm (decide ((UInt64.toNat 24:Int)≤(UInt64.toNat a1.n:Int))) fun x6=>
 some x6)
 (some false)) fun v7=>
 cond v7 (letm ((av (UInt64.toNat a1.n:Int))) fun x8=>
 bnd (app a0 [248,x8]) fun x9=>
 some x9)
 (bnd (jp a1) fun x10=>
 bnd (cj x10.1 x10.2) fun x11=>
 bnd (app a0 x11) fun x12=>
 bnd (app x12 a1.b) fun x13=>
 cF (R:=(List UInt8)) (S:=(List UInt8)) (α:=Go.Gk.Tr) (fun _ s15=>
 some s15)
 (fun x16 _ s18 self19=>
 bnd (mc s18 x16) fun x20=>
 self19 x20) a1.l 0 x13))
def mm(n:Nat):((List UInt8))→(Go.Gk.Tr)→Option (List UInt8):=Nat.rec (motive:=fun _=>((List UInt8))→(Go.Gk.Tr)→Option (List UInt8)) (fun _ _=>none) (fun _ ih=>l_ ih) n
def mc(a0:(List UInt8))(a1:Go.Gk.Tr):Option (List UInt8):=mm 40 a0 a1
def db(a0:(List UInt8))(a1:Go.Gk.Tr):Option (List UInt8):=
 letm ((a1.k==8)) fun x2=>
 cond x2 (bnd (ef a1.n) fun x3=>
 bnd (app a0 x3) fun x4=>
 some x4)
 (bnd (β:=Bool) (letm ((a1.k==7)) fun x5=>
 cond x5 (letm (decide ((UInt64.toNat 24:Int)≤(UInt64.toNat a1.n:Int))) fun x6=>
 some x6)
 (some false)) fun v7=>
 cond v7 (letm ((av (UInt64.toNat a1.n:Int))) fun x8=>
 bnd (app a0 [248,x8]) fun x9=>
 some x9)
 (bnd (jp a1) fun x10=>
 bnd (cj x10.1 x10.2) fun x11=>
 bnd (app a0 x11) fun x12=>
 bnd (app x12 a1.b) fun x13=>
 cF (R:=(List UInt8)) (S:=(List UInt8)) (α:=Go.Gk.Tr) (fun _ s15=>
 some s15)
 (fun x16 _ s18 self19=>
 bnd (mc s18 x16) fun x20=>
 self19 x20) a1.l 0 x13))
def dl(a0 a1:List UInt8):Option Int:=some (Lib.compareBytes a0 a1)
def gJ(a0:(List Go.Gk.Tr)):Option Bool:=
 aM (R:=Bool) (S:=Int) (fun self2 s1=>
 letm (decide (s1<(a0.length:Int))) fun x3=>
 cond x3 (letm ((aA (s1-2))) fun x4=>
 bnd (aI a0 x4) fun x5=>
 bnd (db [] x5) fun x6=>
 bnd (aI a0 s1) fun x7=>
 bnd (db [] x7) fun x8=>
 bnd (dl x6 x8) fun x9=>
 letm (decide (0≤x9)) fun x10=>
 cond x10 (some false)
 (letm ((aA (s1+2))) fun x11=>
 self2 x11))
 (some true)) bA 2
def gB(eV:(aH)→(Go.Gk.Tr)→(Int)→Option (Bool×aH))(a0:aH)(a1:Go.Gk.Tr)(a2:Int):Option (Bool×aH):=
 letm ((aA (a0.1+1))) fun x3=>
 bnd (β:=Bool) (letm (decide (256<x3)) fun x4=>
 cond x4 (some true)
 (letm (decide (4096<(a1.b.length:Int))) fun x5=>
 cond x5 (some true)
 (letm (decide (256<(a1.l.length:Int))) fun x6=>
 some x6))) fun v7=>
 cond v7 (some (false,(x3,a0.2)))
 (bnd (lX a1) fun x8=>
 cond x8.2 (bnd (β:=(Bool×aH)) (cond x8.1 (bnd (dN (x3,a0.2) a1) fun x9=>
 some (x9.1,x9.2))
 (some (false,(x3,a0.2)))) fun v10=>
 some (v10.1,v10.2))
 (bnd (β:=Bool) (letm (decide (a1.k<4)) fun x11=>
 cond x11 (some true)
 (letm (decide (6<a1.k)) fun x12=>
 cond x12 (some true)
 (letm (decide (8≤a2)) fun x13=>
 cond x13 (some true)
 (letm (decide (0<(a1.b.length:Int))) fun x14=>
 some x14)))) fun v15=>
 cond v15 (some (false,(x3,a0.2)))
 (bnd (β:=Bool) (letm ((a1.k==6)) fun x16=>
 cond x16 (letm (((a1.l.length:Int) != 1)) fun x17=>
 cond x17 (some true)
 (letm ((a1.k != 6)) fun x18=>
 cond x18 (letm (((UInt64.toNat a1.n:Int) != (UInt64.toNat 0:Int))) fun x19=>
 cond x19 (some true)
 (letm ((a1.k==5)) fun x20=>
 cond x20 (bnd (Gk.rem (a1.l.length:Int) 2) fun x21=>
 letm ((x21==1)) fun x22=>
 some x22)
 (some false)))
 (letm ((a1.k==5)) fun x23=>
 cond x23 (bnd (Gk.rem (a1.l.length:Int) 2) fun x24=>
 letm ((x24==1)) fun x25=>
 some x25)
 (some false))))
 (letm ((a1.k != 6)) fun x26=>
 cond x26 (letm (((UInt64.toNat a1.n:Int) != (UInt64.toNat 0:Int))) fun x27=>
 cond x27 (some true)
 (letm ((a1.k==5)) fun x28=>
 cond x28 (bnd (Gk.rem (a1.l.length:Int) 2) fun x29=>
 letm ((x29==1)) fun x30=>
 some x30)
 (some false)))
 (letm ((a1.k==5)) fun x31=>
 cond x31 (bnd (Gk.rem (a1.l.length:Int) 2) fun x32=>
 letm ((x32==1)) fun x33=>
 some x33)
 (some false)))) fun v34=>
 cond v34 (some (false,(x3,a0.2)))
 (bnd (dN (x3,a0.2) a1) fun x35=>
 letm ((!x35.1)) fun x36=>
 cond x36 (some (false,x35.2))
 (cF (R:=(Bool×aH)) (S:=aH) (α:=Go.Gk.Tr) (fun _ s38=>
 bnd (β:=Bool) (letm ((a1.k != 5)) fun x39=>
 cond x39 (some true)
 (bnd (gJ a1.l) fun x40=>
 some x40)) fun v41=>
 some (v41,s38))
 (fun x42 _ s44 self45=>
 letm ((aA (a2+1))) fun x46=>
 bnd (eV s44 x42 x46) fun x47=>
 letm ((!x47.1)) fun x48=>
 cond x48 (some (false,x47.2))
 (self45 x47.2)) a1.l 0 x35.2)))))
def gq(n:Nat):(aH)→(Go.Gk.Tr)→(Int)→Option (Bool×aH):=Nat.rec (motive:=fun _=>(aH)→(Go.Gk.Tr)→(Int)→Option (Bool×aH)) (fun _ _ _=>none) (fun _ ih=>gB ih) n
def eV(a0:aH)(a1:Go.Gk.Tr)(a2:Int):Option (Bool×aH):=gq 40 a0 a1 a2
def bG(a0:Go.Gk.Tr):Option Bool:=
 bnd (eV (0,0) a0 0) fun x1=>
 some x1.1
def bY(a0:List UInt8)(a1:UInt64)(a2:Int):Option (List UInt8):=bif a2==10&&decide (a1.toNat<100)then app a0 (Lib.decDigits a1.toNat)else none
def bj(a0:(List UInt8))(a1:UInt64)(a2:Int):Option (List UInt8):=
 bnd (bY a0 a1 a2) fun x3=>
 some x3
def ky(a0:(List UInt8))(a1:(List UInt8)):Option (List UInt8):=
 cF (R:=(List UInt8)) (S:=(List UInt8)) (α:=UInt8) (fun _ s3=>
 some s3)
 (fun x4 _ s6 self7=>
 bnd (cg .u8 x4 (UInt64.toNat 4:Int)) fun x8=>
 bnd (aI [48,49,50,51,52,53,54,55,56,57,97,98,99,100,101,102] (UInt8.toNat x8:Int)) fun x9=>
 letm ((av (bits .and .u8 (UInt8.toNat x4) (UInt8.toNat 15)))) fun x10=>
 bnd (aI [48,49,50,51,52,53,54,55,56,57,97,98,99,100,101,102] (UInt8.toNat x10:Int)) fun x11=>
 bnd (app s6 [x9,x11]) fun x12=>
 self7 x12) a1 0 a0
def jn(fZ:((List UInt8))→(Go.Gk.Tr)→Option (List UInt8))(a0:(List UInt8))(a1:Go.Gk.Tr):Option (List UInt8):=
 letm ((a1.k==0)) fun x2=>
 cond x2 (bnd (bj a0 a1.n 10) fun x3=>
 some x3)
 (letm ((a1.k==1)) fun x4=>
 cond x4 (letm (((UInt64.toNat a1.n:Int)==(UInt64.toNat 18446744073709551615:Int))) fun x5=>
 cond x5 (bnd (app a0 [45,49,56,52,52,54,55,52,52,48,55,51,55,48,57,53,53,49,54,49,54]) fun x6=>
 some x6)
 (bnd (app a0 [45]) fun x7=>
 letm ((a1.n+1)) fun x8=>
 bnd (bj x7 x8 10) fun x9=>
 some x9))
 (letm ((a1.k==2)) fun x10=>
 cond x10 (bnd (app a0 [104,39]) fun x11=>
 bnd (ky x11 a1.b) fun x12=>
 bnd (app x12 [39]) fun x13=>
 some x13)
 (letm ((a1.k==3)) fun x14=>
 cond x14 (none)
 (letm ((a1.k==6)) fun x15=>
 cond x15 (bnd (bj a0 a1.n 10) fun x16=>
 bnd (app x16 [40]) fun x17=>
 bnd (aI a1.l 0) fun x18=>
 bnd (fZ x17 x18) fun x19=>
 bnd (app x19 [41]) fun x20=>
 some x20)
 (letm ((a1.k==7)) fun x21=>
 cond x21 (bnd (β:=Bool) (letm (decide ((UInt64.toNat 20:Int)≤(UInt64.toNat a1.n:Int))) fun x22=>
 cond x22 (letm (decide ((UInt64.toNat a1.n:Int)<(UInt64.toNat 24:Int))) fun x23=>
 some x23)
 (some false)) fun v24=>
 cond v24 (letm ((a1.n-20)) fun x25=>
 bnd (aI [[102,97,108,115,101],[116,114,117,101],[110,117,108,108],[117,110,100,101,102,105,110,101,100]] (UInt64.toNat x25:Int)) fun x26=>
 bnd (app a0 x26) fun x27=>
 some x27)
 (bnd (app a0 [115,105,109,112,108,101,40]) fun x28=>
 bnd (bj x28 a1.n 10) fun x29=>
 bnd (app x29 [41]) fun x30=>
 some x30))
 (letm ((a1.k==8)) fun x31=>
 cond x31 (bnd (app a0 [102,108,111,97,116,39]) fun x32=>
 aM (R:=(List UInt8)) (S:=((List UInt8)×Int)) (fun self34 s33=>
 letm (decide (0≤s33.2)) fun x35=>
 cond x35 (bnd ((cg .u64 (a1.n:UInt64) s33.2:Option UInt64)) fun(x36:UInt64)=>
 letm ((aS .and .u64 (x36:UInt64) (15:UInt64):UInt64)) fun x37=>
 bnd (aI [48,49,50,51,52,53,54,55,56,57,97,98,99,100,101,102] (UInt64.toNat x37:Int)) fun x38=>
 bnd (app s33.1 [x38]) fun x39=>
 letm ((aA (s33.2-4))) fun x40=>
 self34 (x39,x40))
 (bnd (app s33.1 [39]) fun x41=>
 some x41)) bA (x32,60))
 (bnd (β:=(UInt8×UInt8)) (letm ((a1.k==5)) fun x42=>
 cond x42 (some (123,125))
 (some (91,93))) fun v43=>
 bnd (app a0 [v43.1]) fun x44=>
 cF (R:=(List UInt8)) (S:=(List UInt8)) (α:=Go.Gk.Tr) (fun _ s46=>
 bnd (app s46 [v43.2]) fun x47=>
 some x47)
 (fun x48 k49 s50 self51=>
 bnd (β:=(List UInt8)) (bnd (β:=Bool) (letm ((a1.k==5)) fun x52=>
 cond x52 (bnd (Gk.rem (k49:Int) 2) fun x53=>
 letm ((x53==1)) fun x54=>
 some x54)
 (some false)) fun v55=>
 cond v55 (bnd (app s50 [58,32]) fun x56=>
 some x56)
 (letm (decide (0<(k49:Int))) fun x57=>
 cond x57 (bnd (app s50 [44,32]) fun x58=>
 some x58)
 (some s50))) fun v59=>
 bnd (fZ v59 x48) fun x60=>
 self51 x60) a1.l 0 x44)))))))
def l8(n:Nat):((List UInt8))→(Go.Gk.Tr)→Option (List UInt8):=Nat.rec (motive:=fun _=>((List UInt8))→(Go.Gk.Tr)→Option (List UInt8)) (fun _ _=>none) (fun _ ih=>jn ih) n
def fZ(a0:(List UInt8))(a1:Go.Gk.Tr):Option (List UInt8):=l8 40 a0 a1
def mY(a0:(List UInt8))(a1:Go.Gk.Tr):Option (List UInt8):=
 letm ((a1.k==0)) fun x2=>
 cond x2 (bnd (bj a0 a1.n 10) fun x3=>
 some x3)
 (letm ((a1.k==1)) fun x4=>
 cond x4 (letm (((UInt64.toNat a1.n:Int)==(UInt64.toNat 18446744073709551615:Int))) fun x5=>
 cond x5 (bnd (app a0 [45,49,56,52,52,54,55,52,52,48,55,51,55,48,57,53,53,49,54,49,54]) fun x6=>
 some x6)
 (bnd (app a0 [45]) fun x7=>
 letm ((a1.n+1)) fun x8=>
 bnd (bj x7 x8 10) fun x9=>
 some x9))
 (letm ((a1.k==2)) fun x10=>
 cond x10 (bnd (app a0 [104,39]) fun x11=>
 bnd (ky x11 a1.b) fun x12=>
 bnd (app x12 [39]) fun x13=>
 some x13)
 (letm ((a1.k==3)) fun x14=>
 cond x14 (none)
 (letm ((a1.k==6)) fun x15=>
 cond x15 (bnd (bj a0 a1.n 10) fun x16=>
 bnd (app x16 [40]) fun x17=>
 bnd (aI a1.l 0) fun x18=>
 bnd (fZ x17 x18) fun x19=>
 bnd (app x19 [41]) fun x20=>
 some x20)
 (letm ((a1.k==7)) fun x21=>
 cond x21 (bnd (β:=Bool) (letm (decide ((UInt64.toNat 20:Int)≤(UInt64.toNat a1.n:Int))) fun x22=>
 cond x22 (letm (decide ((UInt64.toNat a1.n:Int)<(UInt64.toNat 24:Int))) fun x23=>
 some x23)
 (some false)) fun v24=>
 cond v24 (letm ((a1.n-20)) fun x25=>
 bnd (aI [[102,97,108,115,101],[116,114,117,101],[110,117,108,108],[117,110,100,101,102,105,110,101,100]] (UInt64.toNat x25:Int)) fun x26=>
 bnd (app a0 x26) fun x27=>
 some x27)
 (bnd (app a0 [115,105,109,112,108,101,40]) fun x28=>
 bnd (bj x28 a1.n 10) fun x29=>
 bnd (app x29 [41]) fun x30=>
 some x30))
 (letm ((a1.k==8)) fun x31=>
 cond x31 (bnd (app a0 [102,108,111,97,116,39]) fun x32=>
 aM (R:=(List UInt8)) (S:=((List UInt8)×Int)) (fun self34 s33=>
 letm (decide (0≤s33.2)) fun x35=>
 cond x35 (bnd ((cg .u64 (a1.n:UInt64) s33.2:Option UInt64)) fun(x36:UInt64)=>
 letm ((aS .and .u64 (x36:UInt64) (15:UInt64):UInt64)) fun x37=>
 bnd (aI [48,49,50,51,52,53,54,55,56,57,97,98,99,100,101,102] (UInt64.toNat x37:Int)) fun x38=>
 bnd (app s33.1 [x38]) fun x39=>
 letm ((aA (s33.2-4))) fun x40=>
 self34 (x39,x40))
 (bnd (app s33.1 [39]) fun x41=>
 some x41)) bA (x32,60))
 (bnd (β:=(UInt8×UInt8)) (letm ((a1.k==5)) fun x42=>
 cond x42 (some (123,125))
 (some (91,93))) fun v43=>
 bnd (app a0 [v43.1]) fun x44=>
 cF (R:=(List UInt8)) (S:=(List UInt8)) (α:=Go.Gk.Tr) (fun _ s46=>
 bnd (app s46 [v43.2]) fun x47=>
 some x47)
 (fun x48 k49 s50 self51=>
 bnd (β:=(List UInt8)) (bnd (β:=Bool) (letm ((a1.k==5)) fun x52=>
 cond x52 (bnd (Gk.rem (k49:Int) 2) fun x53=>
 letm ((x53==1)) fun x54=>
 some x54)
 (some false)) fun v55=>
 cond v55 (bnd (app s50 [58,32]) fun x56=>
 some x56)
 (letm (decide (0<(k49:Int))) fun x57=>
 cond x57 (bnd (app s50 [44,32]) fun x58=>
 some x58)
 (some s50))) fun v59=>
 bnd (fZ v59 x48) fun x60=>
 self51 x60) a1.l 0 x44)))))))
def ju(a0:Go.Gk.Tr):Option ((List UInt8)×Int):=
 bnd (bG a0) fun x1=>
 letm ((!x1)) fun x2=>
 cond x2 (some ([],1))
 (bnd (mY [] a0) fun x3=>
 some (x3,0))
def fW(a0:(List UInt8))(a1:(List UInt8)):Option Bool:=
 bnd (β:=Bool) (letm (decide ((a1.length:Int)≤(a0.length:Int))) fun x2=>
 cond x2 (bnd (Gk.cut a0 0 (a1.length:Int)) fun x3=>
 letm ((x3==a1)) fun x4=>
 some x4)
 (some false)) fun v5=>
 some v5
def f9(a0:(List UInt8))(a1:(List UInt8)):Option ck:=
 bnd (fW a0 a1) fun x2=>
 letm ((!x2)) fun x3=>
 cond x3 (some (a0,false))
 (bnd (Gk.cut a0 (a1.length:Int) (a0.length:Int)) fun x4=>
 some (x4,true))
def lT(a0:(List UInt8))(a1:(List UInt8)):Option ck:=
 bnd (f9 a0 a1) fun x2=>
 some (x2.1,x2.2)
def bE(a0:aK)(a1:(List UInt8)):Option (Bool×aK):=
 bnd (lT a0.1 a1) fun x2=>
 bnd (β:=aK) (cond x2.2 (some (x2.1,a0.2))
 (some a0)) fun v3=>
 some (x2.2,v3)
def fx(a0:aK)(a1:(List UInt8)):Option aK:=
 cond a0.2.2 (some (a0.1,(a0.2.1,true)))
 (bnd (bE a0 a1) fun x2=>
 letm ((!x2.1)) fun x3=>
 some (x2.2.1,(x2.2.2.1,x3)))
def gw(a0:List UInt8)(a1 a2:Int):Option (UInt64×Bool):=
 bif decide (a0.length≤281474976710656)&&(a2==64&&a1==10)then(match Lib.parseUintB 64 a0 with | .ok n=>some (UInt64.ofNat n,false) |_=>none)else none
def f8(a0:aK):Option (UInt64×aK):=
 bnd (β:=Int) (aM (R:=Int) (S:=Int) (fun self2 s1=>
 bnd (β:=Bool) (letm (decide (s1<(a0.1.length:Int))) fun x3=>
 cond x3 (bnd (aI a0.1 s1) fun x4=>
 letm (decide ((UInt8.toNat 48:Int)≤(UInt8.toNat x4:Int))) fun x5=>
 cond x5 (bnd (aI a0.1 s1) fun x6=>
 letm (decide ((UInt8.toNat x6:Int)≤(UInt8.toNat 57:Int))) fun x7=>
 some x7)
 (some false))
 (some false)) fun v8=>
 cond v8 (letm ((aA (s1+1))) fun x9=>
 self2 x9)
 (some s1)) bA 0) fun v10=>
 bnd (Gk.cut a0.1 0 v10) fun x11=>
 bnd (gw x11 10 64) fun x12=>
 bnd (β:=aK) (cond a0.2.2 (some (a0.1,(a0.2.1,true)))
 (letm (x12.2) fun x13=>
 cond x13 (some (a0.1,(a0.2.1,true)))
 (letm (decide (1<v10)) fun x14=>
 cond x14 (bnd (aI a0.1 0) fun x15=>
 letm (((UInt8.toNat x15:Int)==(UInt8.toNat 48:Int))) fun x16=>
 some (a0.1,(a0.2.1,x16)))
 (some (a0.1,(a0.2.1,false)))))) fun v17=>
 bnd (Gk.cut v17.1 v10 (v17.1.length:Int)) fun x18=>
 some (x12.1,(x18,v17.2))
def jS(cN:(aK)→(Int)→Option (Go.Gk.Tr×aK))(a0:aK)(a1:(List UInt8))(a2:Bool)(a3:Int):Option ((List Go.Gk.Tr)×aK):=
 bnd (β:=((List Go.Gk.Tr)×aK)) (aM (R:=((List Go.Gk.Tr)×aK)) (S:=((List Go.Gk.Tr)×aK)) (fun self5 s4=>
 bnd (β:=(Bool×aK)) (letm ((!s4.2.2.2)) fun x6=>
 cond x6 (bnd (bE s4.2 a1) fun x7=>
 letm ((!x7.1)) fun x8=>
 some (x8,x7.2))
 (some (false,s4.2))) fun v9=>
 cond v9.1 (bnd (β:=aK) (letm (decide (0<(s4.1.length:Int))) fun x10=>
 cond x10 (bnd (fx v9.2 [44,32]) fun x11=>
 some x11)
 (some v9.2)) fun v12=>
 bnd (cN v12 a3) fun x13=>
 bnd (app s4.1 [x13.1]) fun x14=>
 cond a2 (bnd (fx x13.2 [58,32]) fun x15=>
 bnd (cN x15 a3) fun x16=>
 bnd (app x14 [x16.1]) fun x17=>
 self5 (x17,x16.2))
 (self5 (x14,x13.2)))
 (some (s4.1,v9.2))) bA ([],a0)) fun v18=>
 some (v18.1,v18.2)
def ng(cN:(aK)→(Int)→Option (Go.Gk.Tr×aK))(a0:aK)(a1:Int):Option (Go.Gk.Tr×aK):=
 letm ((aA (a0.2.1+1))) fun x2=>
 bnd (β:=Bool) (cond a0.2.2 (some true)
 (letm (decide (256<x2)) fun x3=>
 cond x3 (some true)
 (letm (decide (8<a1)) fun x4=>
 some x4))) fun v5=>
 cond v5 (some ((Tr.mk 0 0 [] []),(a0.1,(x2,true))))
 (bnd (bE (a0.1,(x2,a0.2.2)) [104,39]) fun x6=>
 cond x6.1 (none)
 (bnd (bE x6.2 [34]) fun x7=>
 cond x7.1 (none)
 (bnd (bE x7.2 [91]) fun x8=>
 cond x8.1 (letm ((aA (a1+1))) fun x9=>
 bnd (jS cN x8.2 [93] false x9) fun x10=>
 some ((Tr.mk 4 0 [] x10.1),x10.2))
 (bnd (bE x8.2 [123]) fun x11=>
 cond x11.1 (letm ((aA (a1+1))) fun x12=>
 bnd (jS cN x11.2 [125] true x12) fun x13=>
 some ((Tr.mk 5 0 [] x13.1),x13.2))
 (bnd (bE x11.2 [115,105,109,112,108,101,40]) fun x14=>
 cond x14.1 (bnd (f8 x14.2) fun x15=>
 bnd (fx x15.2 [41]) fun x16=>
 some ((Tr.mk 7 x15.1 [] []),x16))
 (bnd (bE x14.2 [102,108,111,97,116,39]) fun x17=>
 cond x17.1 (none)
 (bnd (bE x17.2 [45]) fun x18=>
 cond x18.1 (bnd (bE x18.2 [49,56,52,52,54,55,52,52,48,55,51,55,48,57,53,53,49,54,49,54]) fun x19=>
 cond x19.1 (some ((Tr.mk 1 18446744073709551615 [] []),x19.2))
 (bnd (f8 x19.2) fun x20=>
 bnd (β:=aK) (cond x20.2.2.2 (some (x20.2.1,(x20.2.2.1,true)))
 (letm (((UInt64.toNat x20.1:Int)==(UInt64.toNat 0:Int))) fun x21=>
 some (x20.2.1,(x20.2.2.1,x21)))) fun v22=>
 letm ((x20.1-1)) fun x23=>
 some ((Tr.mk 1 x23 [] []),v22)))
 (aM (R:=(Go.Gk.Tr×aK)) (S:=(Int×(aK×Go.Gk.Tr))) (fun self25 s24=>
 letm (decide (s24.1<4)) fun x26=>
 cond x26 (bnd (aI [[102,97,108,115,101],[116,114,117,101],[110,117,108,108],[117,110,100,101,102,105,110,101,100]] s24.1) fun x27=>
 bnd (bE s24.2.1 x27) fun x28=>
 cond x28.1 (letm ((aA (20+s24.1))) fun x29=>
 letm ((aB x29)) fun x30=>
 some ((Tr.mk 7 x30 [] []),x28.2))
 (letm ((aA (s24.1+1))) fun x31=>
 self25 (x31,(x28.2,s24.2.2))))
 (bnd (f8 s24.2.1) fun x32=>
 bnd (bE x32.2 [40]) fun x33=>
 letm ((!x33.1)) fun x34=>
 cond x34 (some ((Tr.mk 0 x32.1 [] []),x33.2))
 (letm ((aA (a1+1))) fun x35=>
 bnd (cN x33.2 x35) fun x36=>
 bnd (fx x36.2 [41]) fun x37=>
 some ((Tr.mk 6 x32.1 [] [x36.1]),x37)))) bA (0,(x18.2,(Tr.mk 0 0 [] [])))))))))))
def jU(n:Nat):(aK)→(Int)→Option (Go.Gk.Tr×aK):=Nat.rec (motive:=fun _=>(aK)→(Int)→Option (Go.Gk.Tr×aK)) (fun _ _=>none) (fun _ ih=>ng ih) n
def cN(a0:aK)(a1:Int):Option (Go.Gk.Tr×aK):=jU 40 a0 a1
def tt(a0:(List UInt8)):Option (Go.Gk.Tr×Int):=
 bnd (cN (a0,(0,false)) 0) fun x1=>
 bnd (β:=Bool) (cond x1.2.2.2 (some true)
 (letm ((x1.2.1 != [])) fun x2=>
 cond x2 (some true)
 (bnd (bG x1.1) fun x3=>
 letm ((!x3)) fun x4=>
 some x4))) fun v5=>
 cond v5 (some ((Tr.mk 0 0 [] []),17))
 (bnd (mY [] x1.1) fun x6=>
 letm ((x6 != a0)) fun x7=>
 cond x7 (some ((Tr.mk 0 0 [] []),17))
 (some (x1.1,0)))
def fD:Option Bool:=
 bnd (cy (-3)) fun x0=>
 bnd (ju x0) fun x1=>
 bnd (tt [91,49,93]) fun x2=>
 bnd (β:=Bool) (letm ((x1.1 == [45,51])) fun x3=>
 cond x3 (letm ((x1.2==0)) fun x4=>
 cond x4 (letm ((x2.2==0)) fun x5=>
 cond x5 (letm (((x2.1.l.length:Int)==1)) fun x6=>
 some x6)
 (some false))
 (some false))
 (some false)) fun v7=>
 some v7
def nB(a0:(List Int)):Option ah:=
 some (a0,0)
def iO(a0:Int)(a1:Int):Option Int:=
 bnd (Gk.rem a0 a1) fun x2=>
 bnd (β:=Int) (letm (decide (x2<0)) fun x3=>
 cond x3 (letm ((aA (x2+a1))) fun x4=>
 some x4)
 (some x2)) fun v5=>
 some v5
def aj(a0:ah)(a1:Int):Option (Int×ah):=
 letm (decide ((a0.1.length:Int)≤a0.2)) fun x2=>
 cond x2 (some (0,a0))
 (letm ((aA (a0.2+1))) fun x3=>
 letm ((aA (x3-1))) fun x4=>
 bnd (aI a0.1 x4) fun x5=>
 bnd (iO x5 a1) fun x6=>
 some (x6,(a0.1,x3)))
def cw(a0:ah)(a1:Int):Option ((List UInt8)×ah):=
 letm ((aA (a1+1))) fun x2=>
 bnd (aj a0 x2) fun x3=>
 aM (R:=((List UInt8)×ah)) (S:=((List UInt8)×(Int×ah))) (fun self5 s4=>
 letm (decide (0<s4.2.1)) fun x6=>
 cond x6 (bnd (aj s4.2.2 256) fun x7=>
 letm ((av x7.1)) fun x8=>
 bnd (app s4.1 [x8]) fun x9=>
 letm ((aA (s4.2.1-1))) fun x10=>
 self5 (x9,(x10,x7.2)))
 (some (s4.1,s4.2.2))) bA ([],(x3.1,x3.2))
def ce(a0:ah)(a1:Int):Option ((List UInt8)×ah):=
 letm ((aA (a1+1))) fun x2=>
 bnd (aj a0 x2) fun x3=>
 aM (R:=((List UInt8)×ah)) (S:=((List UInt8)×(Int×ah))) (fun self5 s4=>
 letm (decide (0<s4.2.1)) fun x6=>
 cond x6 (bnd (aj s4.2.2 256) fun x7=>
 letm ((av x7.1)) fun x8=>
 bnd (app s4.1 [x8]) fun x9=>
 letm ((aA (s4.2.1-1))) fun x10=>
 self5 (x9,(x10,x7.2)))
 (some (s4.1,s4.2.2))) bA ([],(x3.1,x3.2))
def dH(a0:Int):Option (List UInt8):=
 aM (R:=(List UInt8)) (S:=((List UInt8)×Int)) (fun self2 s1=>
 letm (decide (s1.2<32)) fun x3=>
 cond x3 (letm ((aB a0)) fun x4=>
 bnd (Gk.rem s1.2 8) fun x5=>
 letm ((aB x5)) fun x6=>
 letm ((8*x6)) fun x7=>
 bnd ((cg .u64 (x4:UInt64) (UInt64.toNat x7:Int):Option UInt64)) fun(x8:UInt64)=>
 letm ((av (UInt64.toNat x8:Int))) fun x9=>
 bnd (quo s1.2 8) fun x10=>
 letm ((aA (37*x10))) fun x11=>
 letm ((av x11)) fun x12=>
 letm ((av (bits .xor .u8 (UInt8.toNat x9) (UInt8.toNat x12)))) fun x13=>
 bnd (app s1.1 [x13]) fun x14=>
 letm ((aA (s1.2+1))) fun x15=>
 self2 (x14,x15))
 (some s1.1)) bA ([],0)
def eZ(a0:ah):Option (aD×ah):=
 bnd (ce a0 4) fun x1=>
 bnd (aj x1.2 5) fun x2=>
 bnd (aI [0,0,10,(-8),5] x2.1) fun x3=>
 bnd (aj x2.2 3) fun x4=>
 letm ((x4.1==0)) fun x5=>
 cond x5 (bnd (ce x4.2 20) fun x6=>
 bnd (app x6.1 [7]) fun x7=>
 some ((4,(0,(x3,(x1.1,([],([],x7)))))),x6.2))
 (bnd (aj x4.2 2) fun x8=>
 bnd (aI [4,6] x8.1) fun x9=>
 bnd (β:=(ah×aD)) (bnd (aj x8.2 3) fun x10=>
 letm ((x10.1==0)) fun x11=>
 cond x11 (bnd (aj x10.2 1073741824) fun x12=>
 bnd (dH x12.1) fun x13=>
 some (x12.2,(1,(x9,(x3,(x1.1,(x13,([],[]))))))))
 (letm ((x10.1==1)) fun x14=>
 cond x14 (bnd (aj x10.2 1073741824) fun x15=>
 bnd (dH x15.1) fun x16=>
 some (x15.2,(1,(x9,(x3,(x1.1,([],(x16,[]))))))))
 (bnd (aj x10.2 1073741824) fun x17=>
 bnd (dH x17.1) fun x18=>
 bnd (aj x17.2 1073741824) fun x19=>
 bnd (dH x19.1) fun x20=>
 some (x19.2,(1,(x9,(x3,(x1.1,(x18,(x20,[])))))))))) fun v21=>
 some (v21.2,v21.1))
def f7(a0:(List UInt8)):Option Bool:=
 bnd (β:=Bool) (letm (((a0.length:Int)==0)) fun x1=>
 cond x1 (some true)
 (letm (((a0.length:Int)==32)) fun x2=>
 some x2)) fun v3=>
 some v3
def lq(a0:aD):Option Bool:=
 bnd (β:=Bool) (letm (decide (16<(a0.2.2.2.1.length:Int))) fun x1=>
 cond x1 (some true)
 (letm (decide (a0.2.2.1<(-65536))) fun x2=>
 cond x2 (some true)
 (letm (decide (65535<a0.2.2.1)) fun x3=>
 some x3))) fun v4=>
 cond v4 (some false)
 (letm ((a0.1==1)) fun x5=>
 cond x5 (bnd (β:=Bool) (letm ((a0.2.1==4)) fun x6=>
 cond x6 (bnd (f7 a0.2.2.2.2.1) fun x7=>
 cond x7 (bnd (f7 a0.2.2.2.2.2.1) fun x8=>
 cond x8 (letm ((aA ((a0.2.2.2.2.1.length:Int)+(a0.2.2.2.2.2.1.length:Int)))) fun x9=>
 letm (decide (0<x9)) fun x10=>
 cond x10 (letm (((a0.2.2.2.2.2.2.length:Int)==0)) fun x11=>
 some x11)
 (some false))
 (some false))
 (some false))
 (letm ((a0.2.1==6)) fun x12=>
 cond x12 (bnd (f7 a0.2.2.2.2.1) fun x13=>
 cond x13 (bnd (f7 a0.2.2.2.2.2.1) fun x14=>
 cond x14 (letm ((aA ((a0.2.2.2.2.1.length:Int)+(a0.2.2.2.2.2.1.length:Int)))) fun x15=>
 letm (decide (0<x15)) fun x16=>
 cond x16 (letm (((a0.2.2.2.2.2.2.length:Int)==0)) fun x17=>
 some x17)
 (some false))
 (some false))
 (some false))
 (some false))) fun v18=>
 some v18)
 (letm ((a0.1==4)) fun x19=>
 cond x19 (bnd (β:=Bool) (letm ((a0.2.1==0)) fun x20=>
 cond x20 (letm ((aA ((a0.2.2.2.2.1.length:Int)+(a0.2.2.2.2.2.1.length:Int)))) fun x21=>
 letm ((x21==0)) fun x22=>
 cond x22 (letm (decide (1≤(a0.2.2.2.2.2.2.length:Int))) fun x23=>
 cond x23 (letm (decide ((a0.2.2.2.2.2.2.length:Int)≤64)) fun x24=>
 some x24)
 (some false))
 (some false))
 (some false)) fun v25=>
 some v25)
 (some false)))
def cP(a0:List UInt8):Option (List UInt8):=app ([]:List UInt8) a0
def ej(a0:(List UInt8)):Option Go.Gk.Tr:=
 bnd (cP a0) fun x1=>
 some (Tr.mk 2 0 x1 [])
def f_(a0:Int)(a1:(List UInt8))(a2:(List Go.Gk.Tr))(a3:(List Go.Gk.Tr)):Option ((List Go.Gk.Tr)×((List Go.Gk.Tr)×Unit)):=
 letm (decide (0<(a1.length:Int))) fun x4=>
 cond x4 (bnd (cy a0) fun x5=>
 bnd (ej a1) fun x6=>
 bnd (app a3 [(Tr.mk 0 0 [] []),(Tr.mk 0 0 [] [])]) fun x7=>
 bnd (aI x7 (a3.length:Int)) fun _=>
 bnd (aI x7 ((((a3.length:Int):Int)).toNat:Int)) fun _=>
 letm ((x7.set (((a3.length:Int):Int)).toNat x5)) fun x10=>
 letm ((aA ((a3.length:Int)+1))) fun x11=>
 bnd (aI x10 x11) fun _=>
 bnd (aI x10 (((x11:Int)).toNat:Int)) fun _=>
 letm ((x10.set ((x11:Int)).toNat x6)) fun x14=>
 some (a2,(x14,())))
 (some (a2,(a3,())))
def nF(a0:aD):Option (List Go.Gk.Tr):=
 bnd (cy 1) fun x1=>
 bnd (cy a0.1) fun x2=>
 bnd (f_ 2 a0.2.2.2.1 [] [x1,x2]) fun v3=>
 bnd (β:=((List Go.Gk.Tr)×(List Go.Gk.Tr))) (letm ((a0.2.2.1 != 0)) fun x4=>
 cond x4 (bnd (cy 3) fun x5=>
 bnd (cy a0.2.2.1) fun x6=>
 bnd (app v3.2.1 [(Tr.mk 0 0 [] []),(Tr.mk 0 0 [] [])]) fun x7=>
 bnd (aI x7 (v3.2.1.length:Int)) fun _=>
 bnd (aI x7 ((((v3.2.1.length:Int):Int)).toNat:Int)) fun _=>
 letm ((x7.set (((v3.2.1.length:Int):Int)).toNat x5)) fun x10=>
 letm ((aA ((v3.2.1.length:Int)+1))) fun x11=>
 bnd (aI x10 x11) fun _=>
 bnd (aI x10 (((x11:Int)).toNat:Int)) fun _=>
 letm ((x10.set ((x11:Int)).toNat x6)) fun x14=>
 some (v3.1,x14))
 (some (v3.1,v3.2.1))) fun v15=>
 letm ((a0.1==4)) fun x16=>
 cond x16 (bnd (f_ (-1) a0.2.2.2.2.2.2 v15.1 v15.2) fun v17=>
 some v17.2.1)
 (bnd (cy (-1)) fun x18=>
 bnd (cy a0.2.1) fun x19=>
 bnd (app v15.2 [(Tr.mk 0 0 [] []),(Tr.mk 0 0 [] [])]) fun x20=>
 bnd (aI x20 (v15.2.length:Int)) fun _=>
 bnd (aI x20 ((((v15.2.length:Int):Int)).toNat:Int)) fun _=>
 letm ((x20.set (((v15.2.length:Int):Int)).toNat x18)) fun x23=>
 letm ((aA ((v15.2.length:Int)+1))) fun x24=>
 bnd (aI x23 x24) fun _=>
 bnd (aI x23 (((x24:Int)).toNat:Int)) fun _=>
 letm ((x23.set ((x24:Int)).toNat x19)) fun x27=>
 bnd (f_ (-2) a0.2.2.2.2.1 v15.1 x27) fun v28=>
 bnd (f_ (-4) a0.2.2.2.2.2.1 v28.1 v28.2.1) fun v29=>
 some v29.2.1)
theorem ri(a b:UInt8)(x y:List UInt8):Lib.compareBytes (a::x) (b::y)=if a.toNat<b.toNat then -1 else if b.toNat<a.toNat then 1 else Lib.compareBytes x y:=by
 rw[Lib.compareBytes]
 simp only[UInt8.lt_iff_toNat_lt]
theorem yu : ∀a b:List UInt8,Lib.compareBytes b a = - Lib.compareBytes a b
 | [],[]=>rfl
 | [],_::_=>rfl
 |_::_,[]=>rfl
 |a::x,b::y=>by
  rw[ri,ri,yu x y]
  split<;>split<;>first |rfl |omega
theorem ws : ∀a b c:List UInt8,Lib.compareBytes a b≤0→Lib.compareBytes b c≤0→Lib.compareBytes a c≤0∧(Lib.compareBytes a b<0∨Lib.compareBytes b c<0→Lib.compareBytes a c<0)
 | [],[],[],_,_=>⟨Int.le_refl 0,fun h=>by rcases h with h |h<;>cases h⟩
 | [],[],_::_,_,_=>⟨by show(-1:Int)≤0;omega,fun _=>by show(-1:Int)<0;omega⟩
 | [],_::_,[],_,h=>absurd (show(1:Int)≤0 from h) (by omega)
 | [],_::_,_::_,_,_=>⟨by show(-1:Int)≤0;omega,fun _=>by show(-1:Int)<0;omega⟩
 |_::_,[],_,h,_=>absurd (show(1:Int)≤0 from h) (by omega)
 |_::_,_::_,[],_,h=>absurd (show(1:Int)≤0 from h) (by omega)
 |a::x,b::y,c::z,h1,h2=>by
  rw[ri]at h1 h2
  rw[ri,ri,ri]
  by_cases e1:a.toNat<b.toNat
  ·by_cases e2:b.toNat<c.toNat
   ·rw[if_pos (show a.toNat<c.toNat by omega)];exact⟨by omega,fun _=>by omega⟩
   ·rw[if_neg e2]at h2
    by_cases e3:c.toNat<b.toNat
    ·rw[if_pos e3]at h2;omega
    ·rw[if_pos (show a.toNat<c.toNat by omega)];exact⟨by omega,fun _=>by omega⟩
  ·rw[if_neg e1]at h1
   by_cases e3:b.toNat<a.toNat
   ·rw[if_pos e3]at h1;omega
   ·rw[if_neg e3]at h1
    by_cases e2:b.toNat<c.toNat
    ·rw[if_pos (show a.toNat<c.toNat by omega)];exact⟨by omega,fun _=>by omega⟩
    ·rw[if_neg e2]at h2
     by_cases e4:c.toNat<b.toNat
     ·rw[if_pos e4]at h2;omega
     ·rw[if_neg e4]at h2
      rw[if_neg (show ¬a.toNat<c.toNat by omega),if_neg (show ¬c.toNat<a.toNat by omega),if_neg e1,if_neg e3,if_neg e2,if_neg e4]
      exact ws x y z h1 h2
theorem L6(a:List UInt8):Lib.compareBytes a a=0:=by have:=yu a a;omega
def vZ(a b:aU):Bool:=decide (Lib.compareBytes a.1 b.1<0)
def pT(xs ys:List aU):Prop:=N6 vZ xs ys
theorem IF:Sort.SWO vZ:=by
 refine⟨fun x=>?_,fun x y z h1 h2=>?_,fun x y z h1 h2=>?_⟩
 ·exact decide_eq_false (by rw[L6];omega)
 ·have a1:=of_decide_eq_true h1
  have a2:=of_decide_eq_true h2
  exact decide_eq_true ((ws _ _ _ (by omega) (by omega)).2 (.inl a1))
 ·have a1:=of_decide_eq_false h1
  have a2:=of_decide_eq_false h2
  have r1:=yu x.1 y.1
  have r2:=yu y.1 z.1
  have r3:=yu x.1 z.1
  have:=(ws z.1 y.1 x.1 (by omega) (by omega)).1
  exact decide_eq_false (by omega)
def bF(a0:(List UInt8))(a1:(List UInt8)):Option Bool:=
 letm ((a0==a1)) fun x2=>
 some x2
def aJ(a0:List UInt8):Option (List UInt8):=app ([]:List UInt8) a0
def lf(dm:(Go.Gk.Tr)→Option Go.Gk.Tr)(a0:Go.Gk.Tr):Option Go.Gk.Tr:=
 bnd (aJ a0.b) fun x1=>
 bnd (LA (a0.l.length:Int) (Tr.mk 0 0 [] [])) fun x2=>
 cF (R:=Go.Gk.Tr) (S:=(List Go.Gk.Tr)) (α:=Go.Gk.Tr) (fun _ s4=>
 bnd (β:=Go.Gk.Tr) (letm (((s4.length:Int)==0)) fun x5=>
 cond x5 (some (Tr.mk a0.k a0.n x1 []))
 (some (Tr.mk a0.k a0.n x1 s4))) fun v6=>
 some v6)
 (fun x7 k8 s9 self10=>
 bnd (dm x7) fun x11=>
 bnd (aI s9 (k8:Int)) fun _=>
 bnd (aI s9 ((((k8:Int):Int)).toNat:Int)) fun _=>
 letm ((s9.set (((k8:Int):Int)).toNat x11)) fun x14=>
 self10 x14) a0.l 0 x2
def lc(n:Nat):(Go.Gk.Tr)→Option Go.Gk.Tr:=Nat.rec (motive:=fun _=>(Go.Gk.Tr)→Option Go.Gk.Tr) (fun _=>none) (fun _ ih=>lf ih) n
def dm(a0:Go.Gk.Tr):Option Go.Gk.Tr:=lc 40 a0
def jy(a0:(List Go.Gk.Tr)):Option (Go.Gk.Tr×Int):=
 bnd (Gk.rem (a0.length:Int) 2) fun x1=>
 letm ((x1==1)) fun x2=>
 cond x2 (some ((Tr.mk 0 0 [] []),1))
 (cF (R:=(Go.Gk.Tr×Int)) (S:=Go.Gk.Tr) (α:=Go.Gk.Tr) (fun _ s4=>
 bnd (quo (a0.length:Int) 2) fun x5=>
 bnd (LB x5 ([],((Tr.mk 0 0 [] []),(Tr.mk 0 0 [] [])))) fun x6=>
 aM (R:=(Go.Gk.Tr×Int)) (S:=(Int×((List aU)×(List aU)))) (fun self8 s7=>
 letm (decide (s7.1<(a0.length:Int))) fun x9=>
 cond x9 (bnd (aI a0 s7.1) fun x10=>
 bnd (db [] x10) fun x11=>
 bnd (aI a0 s7.1) fun x12=>
 letm ((aA (s7.1+1))) fun x13=>
 bnd (aI a0 x13) fun x14=>
 bnd (app s7.2.2 [(x11,(x12,x14))]) fun x15=>
 letm ((aA (s7.1+2))) fun x16=>
 self8 (x16,(s7.2.1,x15)))
 (cond (Nat.ble (List.length s7.2.2) 4294967296) (BG (pT s7.2.2) fun v17=>
 cF (R:=(Go.Gk.Tr×Int)) (S:=(Go.Gk.Tr×(Go.Gk.Tr×(List Go.Gk.Tr)))) (α:=aU) (fun _ s19=>
 bnd (bG (Tr.mk s19.2.1.k s19.2.1.n s19.2.1.b s19.2.2)) fun x20=>
 letm ((!x20)) fun x21=>
 cond x21 (some ((Tr.mk 0 0 [] []),8))
 (bnd (dm (Tr.mk s19.2.1.k s19.2.1.n s19.2.1.b s19.2.2)) fun x22=>
 some (x22,0)))
 (fun x23 k24 s25 self26=>
 bnd (β:=Bool) (letm (decide (0<(k24:Int))) fun x27=>
 cond x27 (letm ((aA ((k24:Int)-1))) fun x28=>
 bnd (aI v17 x28) fun x29=>
 bnd (bF x29.1 x23.1) fun x30=>
 some x30)
 (some false)) fun v31=>
 cond v31 (some ((Tr.mk 0 0 [] []),7))
 (bnd (app s25.2.2 [x23.2.1,x23.2.2]) fun x32=>
 self26 (s25.1,(s25.2.1,x32)))) v17 0 (s4,((Tr.mk 5 0 [] []),[]))) none)) bA (0,([],x6)))
 (fun x33 _ s35 self36=>
 bnd (bG x33) fun x37=>
 letm ((!x37)) fun x38=>
 cond x38 (some ((Tr.mk 0 0 [] []),1))
 (self36 s35)) a0 0 (Tr.mk 0 0 [] []))
def ic(a0:aD):Option (Go.Gk.Tr×Int):=
 bnd (lq a0) fun x1=>
 letm ((!x1)) fun x2=>
 cond x2 (some ((Tr.mk 0 0 [] []),1))
 (bnd (nF a0) fun x3=>
 bnd (jy x3) fun x4=>
 some (x4.1,x4.2))
def dP(a0:Go.Gk.Tr):Option ((List UInt8)×Int):=
 bnd (bG a0) fun x1=>
 letm ((!x1)) fun x2=>
 cond x2 (some ([],1))
 (bnd (db [] a0) fun x3=>
 some (x3,0))
def jm(a0:aD):Option ((List UInt8)×Int):=
 bnd (ic a0) fun x1=>
 letm ((x1.2 != 0)) fun x2=>
 cond x2 (some ([],x1.2))
 (bnd (dP x1.1) fun x3=>
 some (x3.1,x3.2))
def je:Option ax:=
 some ((Tr.mk 5 0 [] []),(Tr.mk 5 0 [] []))
def ay(a0:Int):Option Go.Gk.Tr:=
 letm (decide (a0<0)) fun x1=>
 cond x1 (letm ((aA ((-1)-a0))) fun x2=>
 letm ((aB x2)) fun x3=>
 some (Tr.mk 1 x3 [] []))
 (letm ((aB a0)) fun x4=>
 some (Tr.mk 0 x4 [] []))
def dK(a0:UInt64):Option Bool:=
 bnd (β:=Bool) (bnd ((cg .u64 (a0:UInt64) (UInt64.toNat 52:Int):Option UInt64)) fun(x1:UInt64)=>
 letm ((aS .and .u64 (x1:UInt64) (2047:UInt64):UInt64)) fun x2=>
 letm (((UInt64.toNat x2:Int)==(UInt64.toNat 2047:Int))) fun x3=>
 cond x3 (letm ((aS .and .u64 (a0:UInt64) (4503599627370495:UInt64):UInt64)) fun x4=>
 letm (((UInt64.toNat x4:Int) != (UInt64.toNat 0:Int))) fun x5=>
 some x5)
 (some false)) fun v6=>
 some v6
def az(a0:Int)(a1:UInt64):Option (List UInt8):=
 letm ((aA (32*a0))) fun x2=>
 letm ((aA (x2+24))) fun x3=>
 letm ((av x3)) fun x4=>
 fg (ρ:=(List UInt8)) (ρ':=(List UInt8)) (Y:=((List UInt8)×Int)) (letm (decide ((UInt64.toNat a1:Int)<(UInt64.toNat 24:Int))) fun x5=>
 cond x5 (letm ((aA (32*a0))) fun x6=>
 letm ((av x6)) fun x7=>
 letm ((av (UInt64.toNat a1:Int))) fun x8=>
 letm ((x7+x8)) fun x9=>
 some (.inl [x9]))
 (letm (decide ((UInt64.toNat a1:Int)<(UInt64.toNat 256:Int))) fun x10=>
 cond x10 (some (.inr ([x4],1)))
 (letm (decide ((UInt64.toNat a1:Int)<(UInt64.toNat 65536:Int))) fun x11=>
 cond x11 (bnd (aI [x4] 0) fun _=>
 bnd (aI [x4] (((0:Int)).toNat:Int)) fun x13=>
 letm ((x13+1)) fun x14=>
 bnd (aI [x4] 0) fun _=>
 bnd (aI [x4] (((0:Int)).toNat:Int)) fun _=>
 letm ([x14]) fun x17=>
 some (.inr (x17,2)))
 (letm (decide ((UInt64.toNat a1:Int)<(UInt64.toNat 4294967296:Int))) fun x18=>
 cond x18 (bnd (aI [x4] 0) fun _=>
 bnd (aI [x4] (((0:Int)).toNat:Int)) fun x20=>
 letm ((x20+2)) fun x21=>
 bnd (aI [x4] 0) fun _=>
 bnd (aI [x4] (((0:Int)).toNat:Int)) fun _=>
 letm ([x21]) fun x24=>
 some (.inr (x24,4)))
 (bnd (aI [x4] 0) fun _=>
 bnd (aI [x4] (((0:Int)).toNat:Int)) fun x26=>
 letm ((x26+3)) fun x27=>
 bnd (aI [x4] 0) fun _=>
 bnd (aI [x4] (((0:Int)).toNat:Int)) fun _=>
 letm ([x27]) fun x30=>
 some (.inr (x30,8))))))) (fun q=>q) fun v31=>
 letm ((aA (v31.2-1))) fun x32=>
 aM (R:=(List UInt8)) (S:=((List UInt8)×Int)) (fun self34 s33=>
 letm (decide (0≤s33.2)) fun x35=>
 cond x35 (letm ((aB s33.2)) fun x36=>
 letm ((8*x36)) fun x37=>
 bnd ((cg .u64 (a1:UInt64) (UInt64.toNat x37:Int):Option UInt64)) fun(x38:UInt64)=>
 letm ((av (UInt64.toNat x38:Int))) fun x39=>
 bnd (app s33.1 [x39]) fun x40=>
 letm ((aA (s33.2-1))) fun x41=>
 self34 (x40,x41))
 (some s33.1)) bA (v31.1,x32)
def cS(a0:UInt64)(a1:Int)(a2:Int):Option (UInt64×Bool):=
 bnd ((cg .u64 (a0:UInt64) (UInt64.toNat 63:Int):Option UInt64)) fun(x3:UInt64)=>
 letm ((aA (a1+a2))) fun x4=>
 letm ((aB x4)) fun x5=>
 bnd ((dO .u64 (x3:UInt64) (UInt64.toNat x5:Int):Option UInt64)) fun(x6:UInt64)=>
 bnd ((cg .u64 (a0:UInt64) (UInt64.toNat 52:Int):Option UInt64)) fun(x7:UInt64)=>
 letm ((aS .and .u64 (x7:UInt64) (2047:UInt64):UInt64)) fun x8=>
 letm ((aA (UInt64.toNat x8:Int))) fun x9=>
 letm ((aS .and .u64 (a0:UInt64) (4503599627370495:UInt64):UInt64)) fun x10=>
 letm ((aB a1)) fun x11=>
 bnd (Gk.shl 1 (UInt64.toNat x11:Int)) fun x12=>
 letm ((aA (x12-1))) fun x13=>
 letm ((aA (a1-1))) fun x14=>
 letm ((aB x14)) fun x15=>
 bnd (Gk.shl 1 (UInt64.toNat x15:Int)) fun x16=>
 letm ((aA (x16-1))) fun x17=>
 letm ((x9==2047)) fun x18=>
 cond x18 (letm ((aB x13)) fun x19=>
 letm ((aB a2)) fun x20=>
 bnd ((dO .u64 (x19:UInt64) (UInt64.toNat x20:Int):Option UInt64)) fun(x21:UInt64)=>
 letm ((aS .or .u64 (x6:UInt64) (x21:UInt64):UInt64)) fun x22=>
 letm (((UInt64.toNat x10:Int)==(UInt64.toNat 0:Int))) fun x23=>
 some (x22,x23))
 (letm ((x9==0)) fun x24=>
 cond x24 (letm (((UInt64.toNat x10:Int)==(UInt64.toNat 0:Int))) fun x25=>
 some (x6,x25))
 (letm ((aA (x9-1023))) fun x26=>
 letm ((aA (x26+x17))) fun x27=>
 letm (decide (x13≤x27)) fun x28=>
 cond x28 (some (0,false))
 (letm (decide (0<x27)) fun x29=>
 cond x29 (letm ((aB x27)) fun x30=>
 letm ((aB a2)) fun x31=>
 bnd ((dO .u64 (x30:UInt64) (UInt64.toNat x31:Int):Option UInt64)) fun(x32:UInt64)=>
 letm ((aS .or .u64 (x6:UInt64) (x32:UInt64):UInt64)) fun x33=>
 letm ((aA (52-a2))) fun x34=>
 letm ((aB x34)) fun x35=>
 bnd ((cg .u64 (x10:UInt64) (UInt64.toNat x35:Int):Option UInt64)) fun(x36:UInt64)=>
 letm ((aS .or .u64 (x33:UInt64) (x36:UInt64):UInt64)) fun x37=>
 letm ((aA (52-a2))) fun x38=>
 letm ((aB x38)) fun x39=>
 bnd ((dO .u64 (1:UInt64) (UInt64.toNat x39:Int):Option UInt64)) fun(x40:UInt64)=>
 letm ((x40-1)) fun x41=>
 letm ((aS .and .u64 (x10:UInt64) (x41:UInt64):UInt64)) fun x42=>
 letm (((UInt64.toNat x42:Int)==(UInt64.toNat 0:Int))) fun x43=>
 some (x37,x43))
 (letm ((aS .or .u64 (x10:UInt64) (4503599627370496:UInt64):UInt64)) fun x44=>
 letm ((aA (53-a2))) fun x45=>
 letm ((aA (x45-x27))) fun x46=>
 letm (decide (52<x46)) fun x47=>
 cond x47 (some (0,false))
 (letm ((aB x46)) fun x48=>
 bnd ((cg .u64 (x44:UInt64) (UInt64.toNat x48:Int):Option UInt64)) fun(x49:UInt64)=>
 letm ((aS .or .u64 (x6:UInt64) (x49:UInt64):UInt64)) fun x50=>
 letm ((aB x46)) fun x51=>
 bnd ((dO .u64 (1:UInt64) (UInt64.toNat x51:Int):Option UInt64)) fun(x52:UInt64)=>
 letm ((x52-1)) fun x53=>
 letm ((aS .and .u64 (x44:UInt64) (x53:UInt64):UInt64)) fun x54=>
 letm (((UInt64.toNat x54:Int)==(UInt64.toNat 0:Int))) fun x55=>
 some (x50,x55))))))
def eH(a0:UInt64):Option (List UInt8):=
 bnd (dK a0) fun x1=>
 cond x1 (some [249,126,0])
 (bnd (cS a0 5 10) fun x2=>
 cond x2.2 (bnd ((cg .u64 (x2.1:UInt64) (UInt64.toNat 8:Int):Option UInt64)) fun(x3:UInt64)=>
 letm ((av (UInt64.toNat x3:Int))) fun x4=>
 letm ((av (UInt64.toNat x2.1:Int))) fun x5=>
 some [249,x4,x5])
 (bnd (cS a0 8 23) fun x6=>
 cond x6.2 (bnd ((cg .u64 (x6.1:UInt64) (UInt64.toNat 24:Int):Option UInt64)) fun(x7:UInt64)=>
 letm ((av (UInt64.toNat x7:Int))) fun x8=>
 bnd ((cg .u64 (x6.1:UInt64) (UInt64.toNat 16:Int):Option UInt64)) fun(x9:UInt64)=>
 letm ((av (UInt64.toNat x9:Int))) fun x10=>
 bnd ((cg .u64 (x6.1:UInt64) (UInt64.toNat 8:Int):Option UInt64)) fun(x11:UInt64)=>
 letm ((av (UInt64.toNat x11:Int))) fun x12=>
 letm ((av (UInt64.toNat x6.1:Int))) fun x13=>
 some [250,x8,x10,x12,x13])
 (aM (R:=(List UInt8)) (S:=((List UInt8)×Int)) (fun self15 s14=>
 letm (decide (0≤s14.2)) fun x16=>
 cond x16 (letm ((aB s14.2)) fun x17=>
 letm ((8*x17)) fun x18=>
 bnd ((cg .u64 (a0:UInt64) (UInt64.toNat x18:Int):Option UInt64)) fun(x19:UInt64)=>
 letm ((av (UInt64.toNat x19:Int))) fun x20=>
 bnd (app s14.1 [x20]) fun x21=>
 letm ((aA (s14.2-1))) fun x22=>
 self15 (x21,x22))
 (some s14.1)) bA ([251],7))))
def g9(aZ:(Go.Gk.Tr)→Option (List UInt8))(a0:Go.Gk.Tr):Option (List UInt8):=
 fg (ρ:=(List UInt8)) (ρ':=(List UInt8)) (Y:=(List UInt8)) (bnd (β:=Bool) (letm ((a0.k==0)) fun x1=>
 cond x1 (some true)
 (letm ((a0.k==1)) fun x2=>
 some x2)) fun v3=>
 cond v3 (bnd (az a0.k a0.n) fun x4=>
 some (.inl x4))
 (bnd (β:=Bool) (letm ((a0.k==2)) fun x5=>
 cond x5 (some true)
 (letm ((a0.k==3)) fun x6=>
 some x6)) fun v7=>
 cond v7 (letm ((aB (a0.b.length:Int))) fun x8=>
 bnd (az a0.k x8) fun x9=>
 bnd (app x9 a0.b) fun x10=>
 some (.inl x10))
 (letm ((a0.k==4)) fun x11=>
 cond x11 (letm ((aB (a0.l.length:Int))) fun x12=>
 bnd (az 4 x12) fun x13=>
 some (.inr x13))
 (letm ((a0.k==5)) fun x14=>
 cond x14 (bnd (quo (a0.l.length:Int) 2) fun x15=>
 letm ((aB x15)) fun x16=>
 bnd (az 5 x16) fun x17=>
 some (.inr x17))
 (letm ((a0.k==6)) fun x18=>
 cond x18 (bnd (az 6 a0.n) fun x19=>
 some (.inr x19))
 (letm ((a0.k==7)) fun x20=>
 cond x20 (letm (decide ((UInt64.toNat a0.n:Int)<(UInt64.toNat 24:Int))) fun x21=>
 cond x21 (letm ((224+a0.n)) fun x22=>
 letm ((av (UInt64.toNat x22:Int))) fun x23=>
 some (.inl [x23]))
 (letm ((av (UInt64.toNat a0.n:Int))) fun x24=>
 some (.inl [248,x24])))
 (bnd (eH a0.n) fun x25=>
 some (.inl x25)))))))) (fun q=>q) fun v26=>
 cF (R:=(List UInt8)) (S:=(List UInt8)) (α:=Go.Gk.Tr) (fun _ s28=>
 some s28)
 (fun x29 _ s31 self32=>
 bnd (aZ x29) fun x33=>
 bnd (app s31 x33) fun x34=>
 self32 x34) a0.l 0 v26
def ij(n:Nat):(Go.Gk.Tr)→Option (List UInt8):=Nat.rec (motive:=fun _=>(Go.Gk.Tr)→Option (List UInt8)) (fun _=>none) (fun _ ih=>g9 ih) n
def aZ(a0:Go.Gk.Tr):Option (List UInt8):=ij 40 a0
def bi(a0:(List UInt8))(a1:(List UInt8)):Option Int:=
 aM (R:=Int) (S:=Int) (fun self3 s2=>
 bnd (β:=Bool) (letm (decide (s2<(a0.length:Int))) fun x4=>
 cond x4 (letm (decide (s2<(a1.length:Int))) fun x5=>
 some x5)
 (some false)) fun v6=>
 cond v6 (bnd (aI a0 s2) fun x7=>
 bnd (aI a1 s2) fun x8=>
 letm (((UInt8.toNat x7:Int) != (UInt8.toNat x8:Int))) fun x9=>
 cond x9 (bnd (aI a0 s2) fun x10=>
 bnd (aI a1 s2) fun x11=>
 letm (decide ((UInt8.toNat x10:Int)<(UInt8.toNat x11:Int))) fun x12=>
 cond x12 (some (-1))
 (some 1))
 (letm ((aA (s2+1))) fun x13=>
 self3 x13))
 (letm (decide ((a0.length:Int)<(a1.length:Int))) fun x14=>
 cond x14 (some (-1))
 (letm (decide ((a1.length:Int)<(a0.length:Int))) fun x15=>
 cond x15 (some 1)
 (some 0)))) bA 0
def gF(eW:(Go.Gk.Tr)→(Int)→(Int)→Option Int)(a0:Go.Gk.Tr)(a1:Int)(a2:Int):Option Int:=
 letm (decide (a1<1)) fun x3=>
 cond x3 (some (-1))
 (letm ((aA (a1-1))) fun x4=>
 bnd (β:=Bool) (letm ((a0.k==4)) fun x5=>
 cond x5 (some true)
 (letm ((a0.k==5)) fun x6=>
 cond x6 (some true)
 (letm ((a0.k==6)) fun x7=>
 some x7))) fun v8=>
 bnd (β:=Bool) (letm ((a0.k==2)) fun x9=>
 cond x9 (some true)
 (letm ((a0.k==3)) fun x10=>
 some x10)) fun v11=>
 bnd (β:=Bool) (bnd (β:=Bool) (letm (decide (a0.k<0)) fun x12=>
 cond x12 (some true)
 (letm (decide (8<a0.k)) fun x13=>
 some x13)) fun v14=>
 cond v14 (some true)
 (bnd (β:=Bool) (letm (decide (0<(a0.b.length:Int))) fun x15=>
 cond x15 (letm ((!v11)) fun x16=>
 some x16)
 (some false)) fun v17=>
 cond v17 (some true)
 (bnd (β:=Bool) (letm (decide (0<(a0.l.length:Int))) fun x18=>
 cond x18 (letm ((!v8)) fun x19=>
 some x19)
 (some false)) fun v20=>
 cond v20 (some true)
 (letm (((UInt64.toNat a0.n:Int) != (UInt64.toNat 0:Int))) fun x21=>
 cond x21 (cond v11 (some true)
 (letm ((a0.k==4)) fun x22=>
 cond x22 (some true)
 (letm ((a0.k==5)) fun x23=>
 some x23)))
 (some false))))) fun v24=>
 cond v24 (some (-1))
 (bnd (β:=Bool) (letm (decide (4096<(a0.b.length:Int))) fun x25=>
 cond x25 (some true)
 (letm ((a0.k==3)) fun x26=>
 cond x26 (bnd (bw a0.b) fun x27=>
 letm ((!x27)) fun x28=>
 some x28)
 (some false))) fun v29=>
 cond v29 (some (-1))
 (bnd (β:=Bool) (bnd (β:=Bool) (letm ((a0.k==7)) fun x30=>
 cond x30 (letm (decide ((UInt64.toNat 255:Int)<(UInt64.toNat a0.n:Int))) fun x31=>
 cond x31 (some true)
 (letm (decide ((UInt64.toNat 23:Int)<(UInt64.toNat a0.n:Int))) fun x32=>
 cond x32 (letm (decide ((UInt64.toNat a0.n:Int)<(UInt64.toNat 32:Int))) fun x33=>
 some x33)
 (some false)))
 (some false)) fun v34=>
 cond v34 (some true)
 (letm ((a0.k==8)) fun x35=>
 cond x35 (bnd (dK a0.n) fun x36=>
 cond x36 (letm (((UInt64.toNat a0.n:Int) != (UInt64.toNat 9221120237041090560:Int))) fun x37=>
 some x37)
 (some false))
 (some false))) fun v38=>
 cond v38 (some (-1))
 (bnd (β:=Bool) (bnd (β:=Bool) (cond v8 (letm (decide (8≤a2)) fun x39=>
 some x39)
 (some false)) fun v40=>
 cond v40 (some true)
 (bnd (β:=Bool) (letm ((a0.k==6)) fun x41=>
 cond x41 (letm (((a0.l.length:Int) != 1)) fun x42=>
 some x42)
 (some false)) fun v43=>
 cond v43 (some true)
 (bnd (β:=Bool) (letm ((a0.k==5)) fun x44=>
 cond x44 (bnd (Gk.rem (a0.l.length:Int) 2) fun x45=>
 letm ((x45 != 0)) fun x46=>
 some x46)
 (some false)) fun v47=>
 cond v47 (some true)
 (letm (decide (x4<(a0.l.length:Int))) fun x48=>
 some x48)))) fun v49=>
 cond v49 (some (-1))
 (fg (ρ:=Int) (ρ':=Int) (Y:=Int) (cF (R:=(Int⊕Int)) (S:=Int) (α:=Go.Gk.Tr) (fun _ s51=>
 some (.inr s51))
 (fun x52 _ s54 self55=>
 letm ((aA (a2+1))) fun x56=>
 bnd (eW x52 s54 x56) fun x57=>
 letm (decide (x57<0)) fun x58=>
 cond x58 (some (.inl (-1)))
 (self55 x57)) a0.l 0 x4) (fun q=>q) fun v59=>
 aM (R:=Int) (S:=Int) (fun self61 s60=>
 bnd (β:=Bool) (letm ((a0.k==5)) fun x62=>
 cond x62 (letm (decide (s60<(a0.l.length:Int))) fun x63=>
 some x63)
 (some false)) fun v64=>
 cond v64 (letm ((aA (s60-2))) fun x65=>
 bnd (aI a0.l x65) fun x66=>
 bnd (aZ x66) fun x67=>
 bnd (aI a0.l s60) fun x68=>
 bnd (aZ x68) fun x69=>
 bnd (bi x67 x69) fun x70=>
 letm (decide (0≤x70)) fun x71=>
 cond x71 (some (-1))
 (letm ((aA (s60+2))) fun x72=>
 self61 x72))
 (some v59)) bA 2)))))
def gC(n:Nat):(Go.Gk.Tr)→(Int)→(Int)→Option Int:=Nat.rec (motive:=fun _=>(Go.Gk.Tr)→(Int)→(Int)→Option Int) (fun _ _ _=>none) (fun _ ih=>gF ih) n
def eW(a0:Go.Gk.Tr)(a1:Int)(a2:Int):Option Int:=gC 40 a0 a1 a2
def bv(a0:Go.Gk.Tr):Option Bool:=
 bnd (β:=Bool) (bnd (eW a0 256 0) fun x1=>
 letm (decide (0≤x1)) fun x2=>
 cond x2 (bnd (aZ a0) fun x3=>
 letm (decide ((x3.length:Int)≤4096)) fun x4=>
 some x4)
 (some false)) fun v5=>
 some v5
def dL(a0:Go.Gk.Tr):Option Bool:=
 bnd (β:=Bool) (letm ((a0.k==3)) fun x1=>
 cond x1 (some true)
 (letm ((a0.k==0)) fun x2=>
 cond x2 (letm (decide ((UInt64.toNat a0.n:Int)≤(UInt64.toNat 65535:Int))) fun x3=>
 some x3)
 (letm ((a0.k==1)) fun x4=>
 cond x4 (letm (decide ((UInt64.toNat a0.n:Int)≤(UInt64.toNat 65535:Int))) fun x5=>
 some x5)
 (some false)))) fun v6=>
 some v6
def gH(aR:(Go.Gk.Tr)→(Go.Gk.Tr)→Option Bool)(a0:Go.Gk.Tr)(a1:Go.Gk.Tr):Option Bool:=
 bnd (β:=Bool) (letm ((a0.k != a1.k)) fun x2=>
 cond x2 (some true)
 (letm (((UInt64.toNat a0.n:Int) != (UInt64.toNat a1.n:Int))) fun x3=>
 cond x3 (some true)
 (bnd (bi a0.b a1.b) fun x4=>
 letm ((x4 != 0)) fun x5=>
 cond x5 (some true)
 (letm (((a0.l.length:Int) != (a1.l.length:Int))) fun x6=>
 some x6)))) fun v7=>
 cond v7 (some false)
 (cF (R:=Bool) (S:=Unit) (α:=Go.Gk.Tr) (fun _ _=>
 some true)
 (fun x10 k11 _ self13=>
 bnd (aI a1.l (k11:Int)) fun x14=>
 bnd (aR x10 x14) fun x15=>
 letm ((!x15)) fun x16=>
 cond x16 (some false)
 (self13 ())) a0.l 0 ())
def gv(n:Nat):(Go.Gk.Tr)→(Go.Gk.Tr)→Option Bool:=Nat.rec (motive:=fun _=>(Go.Gk.Tr)→(Go.Gk.Tr)→Option Bool) (fun _ _=>none) (fun _ ih=>gH ih) n
def aR(a0:Go.Gk.Tr)(a1:Go.Gk.Tr):Option Bool:=gv 40 a0 a1
def bO(a0:Go.Gk.Tr)(a1:Go.Gk.Tr):Option (Go.Gk.Tr×Bool):=
 aM (R:=(Go.Gk.Tr×Bool)) (S:=(Int×Go.Gk.Tr)) (fun self3 s2=>
 letm ((aA (s2.1+1))) fun x4=>
 letm (decide (x4<(a0.l.length:Int))) fun x5=>
 cond x5 (bnd (aI a0.l s2.1) fun x6=>
 bnd (aR x6 a1) fun x7=>
 cond x7 (letm ((aA (s2.1+1))) fun x8=>
 bnd (aI a0.l x8) fun x9=>
 some (x9,true))
 (letm ((aA (s2.1+2))) fun x10=>
 self3 (x10,s2.2)))
 (some ((Tr.mk 0 0 [] []),false))) bA (0,(Tr.mk 0 0 [] []))
def dc(a0:Go.Gk.Tr)(a1:Go.Gk.Tr)(a2:Go.Gk.Tr):Option Bool:=
 bnd (ay 1) fun x3=>
 bnd (aR a0 x3) fun x4=>
 cond x4 (bnd (β:=Bool) (letm ((a1.k==0)) fun x5=>
 cond x5 (letm (decide ((UInt64.toNat 0:Int)<(UInt64.toNat a1.n:Int))) fun x6=>
 cond x6 (letm (decide ((UInt64.toNat a1.n:Int)≤(UInt64.toNat 65535:Int))) fun x7=>
 some x7)
 (letm ((a1.k==1)) fun x8=>
 cond x8 (letm (decide ((UInt64.toNat a1.n:Int)≤(UInt64.toNat 65535:Int))) fun x9=>
 some x9)
 (some false)))
 (letm ((a1.k==1)) fun x10=>
 cond x10 (letm (decide ((UInt64.toNat a1.n:Int)≤(UInt64.toNat 65535:Int))) fun x11=>
 some x11)
 (some false))) fun v12=>
 some v12)
 (bnd (ay 2) fun x13=>
 bnd (aR a0 x13) fun x14=>
 cond x14 (bnd (β:=Bool) (letm ((a1.k != 4)) fun x15=>
 cond x15 (some true)
 (letm (((a1.l.length:Int)==0)) fun x16=>
 some x16)) fun v17=>
 cond v17 (some false)
 (cF (R:=Bool) (S:=Unit) (α:=Go.Gk.Tr) (fun _ _=>
 some true)
 (fun x20 _ _ self23=>
 bnd (bO a2 x20) fun x24=>
 letm ((!x24.2)) fun x25=>
 cond x25 (some false)
 (self23 ())) a1.l 0 ()))
 (cF (R:=Bool) (S:=Unit) (α:=Int) (fun _ _=>
 some true)
 (fun x28 _ _ self31=>
 bnd (ay x28) fun x32=>
 bnd (aR a0 x32) fun x33=>
 cond x33 (letm ((a1.k==2)) fun x34=>
 some x34)
 (self31 ())) [4,5,6,12] 0 ()))
def cR(a0:ax)(a1:Int):Option (Go.Gk.Tr×Bool):=
 bnd (ay a1) fun x2=>
 bnd (bO a0.1 x2) fun x3=>
 cond x3.2 (some (x3.1,true))
 (bnd (ay a1) fun x4=>
 bnd (bO a0.2 x4) fun x5=>
 some (x5.1,x5.2))
def dg(a0:ax):Option Bool:=
 bnd (β:=Bool) (letm ((a0.1.k != 5)) fun x1=>
 cond x1 (some true)
 (letm ((a0.2.k != 5)) fun x2=>
 cond x2 (some true)
 (bnd (bv a0.1) fun x3=>
 letm ((!x3)) fun x4=>
 cond x4 (some true)
 (bnd (bv a0.2) fun x5=>
 letm ((!x5)) fun x6=>
 some x6)))) fun v7=>
 cond v7 (some false)
 (fg (ρ:=Bool) (ρ':=Bool) (Y:=Unit) (cF (R:=(Bool⊕Unit)) (S:=Unit) (α:=Go.Gk.Tr) (fun _ _=>
 some (.inr ()))
 (fun x10 _ _ self13=>
 fg (ρ:=(Bool⊕Unit)) (ρ':=(Bool⊕Unit)) (Y:=Unit) (aM (R:=((Bool⊕Unit)⊕Unit)) (S:=Int) (fun self15 s14=>
 letm (decide (s14<(x10.l.length:Int))) fun x16=>
 cond x16 (bnd (β:=Bool) (bnd (aI x10.l s14) fun x17=>
 bnd (dL x17) fun x18=>
 letm ((!x18)) fun x19=>
 cond x19 (some true)
 (bnd (aI x10.l s14) fun x20=>
 letm ((aA (s14+1))) fun x21=>
 bnd (aI x10.l x21) fun x22=>
 bnd (dc x20 x22 x10) fun x23=>
 letm ((!x23)) fun x24=>
 some x24)) fun v25=>
 cond v25 (some (.inl (.inl false)))
 (letm ((aA (s14+2))) fun x26=>
 self15 x26))
 (some (.inr ()))) bA 0) (fun q=>q) fun _=>
 self13 ()) [a0.1,a0.2] 0 ()) (fun q=>q) fun _=>
 fg (ρ:=Bool) (ρ':=Bool) (Y:=Unit) (aM (R:=(Bool⊕Unit)) (S:=Int) (fun self30 s29=>
 letm (decide (s29<(a0.2.l.length:Int))) fun x31=>
 cond x31 (bnd (aI a0.2.l s29) fun x32=>
 bnd (bO a0.1 x32) fun x33=>
 bnd (β:=Bool) (cond x33.2 (some true)
 (bnd (aI a0.2.l s29) fun x34=>
 bnd (ay 2) fun x35=>
 bnd (aR x34 x35) fun x36=>
 some x36)) fun v37=>
 cond v37 (some (.inl false))
 (letm ((aA (s29+2))) fun x38=>
 self30 x38))
 (some (.inr ()))) bA 0) (fun q=>q) fun _=>
 bnd (cR a0 5) fun x40=>
 bnd (cR a0 6) fun x41=>
 bnd (β:=Bool) (letm ((!x40.2)) fun x42=>
 cond x42 (some true)
 (letm ((!x41.2)) fun x43=>
 some x43)) fun v44=>
 some v44)
def gD(cQ:(Go.Gk.Tr)→Option Go.Gk.Tr)(a0:Go.Gk.Tr):Option Go.Gk.Tr:=
 bnd (app [] a0.b) fun x1=>
 cF (R:=Go.Gk.Tr) (S:=(List Go.Gk.Tr)) (α:=Go.Gk.Tr) (fun _ s3=>
 some (Tr.mk a0.k a0.n x1 s3))
 (fun x4 _ s6 self7=>
 bnd (cQ x4) fun x8=>
 bnd (app s6 [x8]) fun x9=>
 self7 x9) a0.l 0 []
def gA(n:Nat):(Go.Gk.Tr)→Option Go.Gk.Tr:=Nat.rec (motive:=fun _=>(Go.Gk.Tr)→Option Go.Gk.Tr) (fun _=>none) (fun _ ih=>gD ih) n
def cQ(a0:Go.Gk.Tr):Option Go.Gk.Tr:=gA 40 a0
def gz(a0:ax):Option ax:=
 bnd (cQ a0.1) fun x1=>
 bnd (cQ a0.2) fun x2=>
 some (x1,x2)
def eG(a0:(List Go.Gk.Tr)):Option (Go.Gk.Tr×Int):=
 bnd (Gk.rem (a0.length:Int) 2) fun x1=>
 letm ((x1 != 0)) fun x2=>
 cond x2 (some ((Tr.mk 0 0 [] []),1))
 (fg (ρ:=(Go.Gk.Tr×Int)) (ρ':=(Go.Gk.Tr×Int)) (Y:=Go.Gk.Tr) (cF (R:=((Go.Gk.Tr×Int)⊕Go.Gk.Tr)) (S:=Go.Gk.Tr) (α:=Go.Gk.Tr) (fun _ s4=>
 some (.inr s4))
 (fun x5 _ s7 self8=>
 bnd (bv x5) fun x9=>
 letm ((!x9)) fun x10=>
 cond x10 (some (.inl ((Tr.mk 0 0 [] []),1)))
 (self8 s7)) a0 0 (Tr.mk 0 0 [] [])) (fun q=>q) fun _=>
 bnd (β:=((List Go.Gk.Tr)×Bool)) (aM (R:=((List Go.Gk.Tr)×Bool)) (S:=((List Go.Gk.Tr)×(Bool×Int))) (fun self13 s12=>
 letm (decide (s12.2.2<(a0.length:Int))) fun x14=>
 cond x14 (bnd (β:=((List Go.Gk.Tr)×Bool)) (bnd (β:=Int) (aM (R:=Int) (S:=Int) (fun self16 s15=>
 bnd (β:=Bool) (letm (decide (0<s15)) fun x17=>
 cond x17 (letm ((aA (s15-2))) fun x18=>
 bnd (aI s12.1 x18) fun x19=>
 bnd (aZ x19) fun x20=>
 bnd (aI a0 s12.2.2) fun x21=>
 bnd (aZ x21) fun x22=>
 bnd (bi x20 x22) fun x23=>
 letm (decide (0<x23)) fun x24=>
 some x24)
 (some false)) fun v25=>
 cond v25 (letm ((aA (s15-2))) fun x26=>
 self16 x26)
 (some s15)) bA (s12.1.length:Int)) fun v27=>
 bnd (β:=Bool) (cond s12.2.1 (some true)
 (letm (decide (0<v27)) fun x28=>
 cond x28 (letm ((aA (v27-2))) fun x29=>
 bnd (aI s12.1 x29) fun x30=>
 bnd (aZ x30) fun x31=>
 bnd (aI a0 s12.2.2) fun x32=>
 bnd (aZ x32) fun x33=>
 bnd (bi x31 x33) fun x34=>
 letm ((x34==0)) fun x35=>
 some x35)
 (some false))) fun v36=>
 bnd (Gk.cut s12.1 0 v27) fun x37=>
 bnd (app [] x37) fun x38=>
 bnd (aI a0 s12.2.2) fun x39=>
 letm ((aA (s12.2.2+1))) fun x40=>
 bnd (aI a0 x40) fun x41=>
 bnd (app x38 [x39,x41]) fun x42=>
 bnd (Gk.cut s12.1 v27 (s12.1.length:Int)) fun x43=>
 bnd (app x42 x43) fun x44=>
 some (x44,v36)) fun v45=>
 letm ((aA (s12.2.2+2))) fun x46=>
 self13 (v45.1,(v45.2,x46)))
 (some (s12.1,s12.2.1))) bA ([],(false,0))) fun v47=>
 cond v47.2 (some ((Tr.mk 0 0 [] []),7))
 (bnd (bv (Tr.mk 5 0 [] v47.1)) fun x48=>
 letm ((!x48)) fun x49=>
 cond x49 (some ((Tr.mk 0 0 [] []),8))
 (bnd (cQ (Tr.mk 5 0 [] v47.1)) fun x50=>
 some (x50,0))))
def bZ(a0:ax)(a1:Bool)(a2:Int)(a3:Go.Gk.Tr):Option (ax×Int):=
 bnd (β:=Bool) (bnd (dg a0) fun x4=>
 letm ((!x4)) fun x5=>
 cond x5 (some true)
 (bnd (bv a3) fun x6=>
 letm ((!x6)) fun x7=>
 some x7)) fun v8=>
 cond v8 (some (((Tr.mk 0 0 [] []),(Tr.mk 0 0 [] [])),1))
 (bnd (cR a0 a2) fun x9=>
 cond x9.2 (some (((Tr.mk 0 0 [] []),(Tr.mk 0 0 [] [])),7))
 (bnd (gz a0) fun x10=>
 bnd (β:=Go.Gk.Tr) (cond a1 (some x10.1)
 (some x10.2)) fun v11=>
 bnd (app [] v11.l) fun x12=>
 bnd (ay a2) fun x13=>
 bnd (app x12 [x13,a3]) fun x14=>
 bnd (eG x14) fun x15=>
 letm ((x15.2 != 0)) fun x16=>
 cond x16 (some (((Tr.mk 0 0 [] []),(Tr.mk 0 0 [] [])),4))
 (bnd (β:=ax) (cond a1 (some (x15.1,x10.2))
 (some (x10.1,x15.1))) fun v17=>
 bnd (dg v17) fun x18=>
 letm ((!x18)) fun x19=>
 cond x19 (some (((Tr.mk 0 0 [] []),(Tr.mk 0 0 [] [])),4))
 (some (v17,0)))))
def eF(a0:(List UInt8)):Option Go.Gk.Tr:=
 bnd (app [] a0) fun x1=>
 some (Tr.mk 2 0 x1 [])
def dv(a0:ah):Option (UInt64×ah):=
 bnd (aj a0 6) fun x1=>
 letm ((x1.1==0)) fun x2=>
 cond x2 (bnd (aj x1.2 9) fun x3=>
 bnd (aI [23,24,255,256,65535,65536,4294967295,4294967296,18446744073709551615] x3.1) fun x4=>
 some (x4,x3.2))
 (letm ((x1.1==1)) fun x5=>
 cond x5 (bnd (aj x1.2 1073741824) fun x6=>
 letm ((aB x6.1)) fun x7=>
 some (x7,x6.2))
 (bnd (aj x1.2 30) fun x8=>
 letm ((aB x8.1)) fun x9=>
 some (x9,x8.2)))
def eO(a0:ah)(a1:Int):Option ((List UInt8)×ah):=
 letm ((aA (a1+1))) fun x2=>
 bnd (aj a0 x2) fun x3=>
 aM (R:=((List UInt8)×ah)) (S:=((List UInt8)×(Int×ah))) (fun self5 s4=>
 letm (decide (0<s4.2.1)) fun x6=>
 cond x6 (bnd (aj s4.2.2 10) fun x7=>
 bnd (aI [[97],[98],[47],[34],[92],[10],[127],[37],[195,169],[226,130,172]] x7.1) fun x8=>
 bnd (app s4.1 x8) fun x9=>
 letm ((aA (s4.2.1-1))) fun x10=>
 self5 (x9,(x10,x7.2)))
 (some (s4.1,s4.2.2))) bA ([],(x3.1,x3.2))
def gE(a0:(List UInt8)):Option Go.Gk.Tr:=
 bnd (app [] a0) fun x1=>
 some (Tr.mk 3 0 x1 [])
def dY(a0:Go.Gk.Tr):Option Go.Gk.Tr:=
 bnd (bv a0) fun x1=>
 letm ((!x1)) fun x2=>
 cond x2 (some (Tr.mk 0 0 [] []))
 (some a0)
def eL(a0:UInt64)(a1:Int)(a2:Int):Option UInt64:=
 letm ((aA (a1+a2))) fun x3=>
 letm ((aB x3)) fun x4=>
 bnd ((cg .u64 (a0:UInt64) (UInt64.toNat x4:Int):Option UInt64)) fun(x5:UInt64)=>
 bnd ((dO .u64 (x5:UInt64) (UInt64.toNat 63:Int):Option UInt64)) fun(x6:UInt64)=>
 letm ((aB a2)) fun x7=>
 bnd ((cg .u64 (a0:UInt64) (UInt64.toNat x7:Int):Option UInt64)) fun(x8:UInt64)=>
 letm ((aA (UInt64.toNat x8:Int))) fun x9=>
 letm ((aB a1)) fun x10=>
 bnd (Gk.shl 1 (UInt64.toNat x10:Int)) fun x11=>
 letm ((aA (x11-1))) fun x12=>
 letm ((sS .and x9 x12)) fun x13=>
 letm ((aB a2)) fun x14=>
 bnd ((dO .u64 (1:UInt64) (UInt64.toNat x14:Int):Option UInt64)) fun(x15:UInt64)=>
 letm ((x15-1)) fun x16=>
 letm ((aS .and .u64 (a0:UInt64) (x16:UInt64):UInt64)) fun x17=>
 letm ((aB a1)) fun x18=>
 bnd (Gk.shl 1 (UInt64.toNat x18:Int)) fun x19=>
 letm ((aA (x19-1))) fun x20=>
 letm ((aA (a1-1))) fun x21=>
 letm ((aB x21)) fun x22=>
 bnd (Gk.shl 1 (UInt64.toNat x22:Int)) fun x23=>
 letm ((aA (x23-1))) fun x24=>
 letm ((x13==x20)) fun x25=>
 cond x25 (letm ((aS .or .u64 (x6:UInt64) (9218868437227405312:UInt64):UInt64)) fun x26=>
 letm ((aA (52-a2))) fun x27=>
 letm ((aB x27)) fun x28=>
 bnd ((dO .u64 (x17:UInt64) (UInt64.toNat x28:Int):Option UInt64)) fun(x29:UInt64)=>
 letm ((aS .or .u64 (x26:UInt64) (x29:UInt64):UInt64)) fun x30=>
 some x30)
 (bnd (β:=Bool) (letm ((x13==0)) fun x31=>
 cond x31 (letm (((UInt64.toNat x17:Int)==(UInt64.toNat 0:Int))) fun x32=>
 some x32)
 (some false)) fun v33=>
 cond v33 (some x6)
 (letm ((x13==0)) fun x34=>
 cond x34 (bnd (β:=Int) (aM (R:=Int) (S:=Int) (fun self36 s35=>
 letm ((aA (s35+1))) fun x37=>
 letm ((aB x37)) fun x38=>
 bnd ((cg .u64 (x17:UInt64) (UInt64.toNat x38:Int):Option UInt64)) fun(x39:UInt64)=>
 letm (decide ((UInt64.toNat 0:Int)<(UInt64.toNat x39:Int))) fun x40=>
 cond x40 (letm ((aA (s35+1))) fun x41=>
 self36 x41)
 (some s35)) bA 0) fun v42=>
 letm ((aA (v42+1))) fun x43=>
 letm ((aA (x43-x24))) fun x44=>
 letm ((aA (x44-a2))) fun x45=>
 letm ((aA (x45+1023))) fun x46=>
 letm ((aB x46)) fun x47=>
 bnd ((dO .u64 (x47:UInt64) (UInt64.toNat 52:Int):Option UInt64)) fun(x48:UInt64)=>
 letm ((aS .or .u64 (x6:UInt64) (x48:UInt64):UInt64)) fun x49=>
 letm ((aA (52-v42))) fun x50=>
 letm ((aB x50)) fun x51=>
 bnd ((dO .u64 (x17:UInt64) (UInt64.toNat x51:Int):Option UInt64)) fun(x52:UInt64)=>
 letm ((aS .and .u64 (x52:UInt64) (4503599627370495:UInt64):UInt64)) fun x53=>
 letm ((aS .or .u64 (x49:UInt64) (x53:UInt64):UInt64)) fun x54=>
 some x54)
 (letm ((aA (x13-x24))) fun x55=>
 letm ((aA (x55+1023))) fun x56=>
 letm ((aB x56)) fun x57=>
 bnd ((dO .u64 (x57:UInt64) (UInt64.toNat 52:Int):Option UInt64)) fun(x58:UInt64)=>
 letm ((aS .or .u64 (x6:UInt64) (x58:UInt64):UInt64)) fun x59=>
 letm ((aA (52-a2))) fun x60=>
 letm ((aB x60)) fun x61=>
 bnd ((dO .u64 (x17:UInt64) (UInt64.toNat x61:Int):Option UInt64)) fun(x62:UInt64)=>
 letm ((aS .or .u64 (x59:UInt64) (x62:UInt64):UInt64)) fun x63=>
 some x63)))
def eo(a0:ah):Option (UInt64×ah):=
 bnd (aj a0 1073741824) fun x1=>
 letm ((aB x1.1)) fun x2=>
 bnd (aj x1.2 5) fun x3=>
 letm ((x3.1==0)) fun x4=>
 cond x4 (letm ((aS .and .u64 (x2:UInt64) (31743:UInt64):UInt64)) fun x5=>
 bnd ((cg .u64 (x2:UInt64) (UInt64.toNat 14:Int):Option UInt64)) fun(x6:UInt64)=>
 letm ((aS .and .u64 (x6:UInt64) (32768:UInt64):UInt64)) fun x7=>
 letm ((aS .or .u64 (x5:UInt64) (x7:UInt64):UInt64)) fun x8=>
 bnd (eL x8 5 10) fun x9=>
 some (x9,x3.2))
 (letm ((x3.1==1)) fun x10=>
 cond x10 (letm ((aS .and .u64 (x2:UInt64) (2139095039:UInt64):UInt64)) fun x11=>
 bnd (eL x11 8 23) fun x12=>
 some (x12,x3.2))
 (letm ((x3.1==2)) fun x13=>
 cond x13 (bnd (aj x3.2 7) fun x14=>
 bnd (aI [9221120237041090560,9218868437227405312,18442240474082181120,9223372036854775808,0,1,4609434218613702656] x14.1) fun x15=>
 some (x15,x14.2))
 (bnd ((dO .u64 (x2:UInt64) (UInt64.toNat 34:Int):Option UInt64)) fun(x16:UInt64)=>
 bnd (aj x3.2 1073741824) fun x17=>
 letm ((aB x17.1)) fun x18=>
 bnd ((dO .u64 (x18:UInt64) (UInt64.toNat 4:Int):Option UInt64)) fun(x19:UInt64)=>
 letm ((aS .or .u64 (x16:UInt64) (x19:UInt64):UInt64)) fun x20=>
 bnd (dK x20) fun x21=>
 cond x21 (some (9221120237041090560,x17.2))
 (some (x20,x17.2)))))
def eR(cI:(ah)→(Int)→Option (Go.Gk.Tr×ah))(a0:ah)(a1:Int):Option (Go.Gk.Tr×ah):=
 bnd (aj a0 9) fun x2=>
 bnd (β:=Int) (bnd (β:=Bool) (letm ((a1==0)) fun x3=>
 cond x3 (letm (decide (4≤x2.1)) fun x4=>
 cond x4 (letm (decide (x2.1≤6)) fun x5=>
 some x5)
 (some false))
 (some false)) fun v6=>
 cond v6 (some 0)
 (some x2.1)) fun v7=>
 bnd (β:=Bool) (letm ((v7==0)) fun x8=>
 cond x8 (some true)
 (letm ((v7==1)) fun x9=>
 some x9)) fun v10=>
 cond v10 (bnd (dv x2.2) fun x11=>
 some ((Tr.mk v7 x11.1 [] []),x11.2))
 (letm ((v7==2)) fun x12=>
 cond x12 (bnd (cw x2.2 30) fun x13=>
 bnd (eF x13.1) fun x14=>
 some (x14,x13.2))
 (letm ((v7==3)) fun x15=>
 cond x15 (bnd (eO x2.2 8) fun x16=>
 bnd (gE x16.1) fun x17=>
 some (x17,x16.2))
 (letm ((v7==6)) fun x18=>
 cond x18 (bnd (dv x2.2) fun x19=>
 letm ((aA (a1-1))) fun x20=>
 bnd (cI x19.2 x20) fun x21=>
 bnd (dY (Tr.mk v7 x19.1 [] [x21.1])) fun x22=>
 some (x22,x21.2))
 (letm ((v7==7)) fun x23=>
 cond x23 (bnd (aj x2.2 8) fun x24=>
 bnd (aI [20,21,22,23,0,19,32,255] x24.1) fun x25=>
 some ((Tr.mk v7 x25 [] []),x24.2))
 (letm ((v7==8)) fun x26=>
 cond x26 (bnd (eo x2.2) fun x27=>
 some ((Tr.mk v7 x27.1 [] []),x27.2))
 (bnd (β:=((List Go.Gk.Tr)×ah)) (bnd (aj x2.2 4) fun x28=>
 aM (R:=((List Go.Gk.Tr)×ah)) (S:=((List Go.Gk.Tr)×(Int×ah))) (fun self30 s29=>
 letm (decide (0<s29.2.1)) fun x31=>
 cond x31 (bnd (β:=((List Go.Gk.Tr)×ah)) (letm ((aA (a1-1))) fun x32=>
 bnd (cI s29.2.2 x32) fun x33=>
 bnd (app s29.1 [x33.1]) fun x34=>
 letm ((v7==5)) fun x35=>
 cond x35 (letm ((aA (a1-1))) fun x36=>
 bnd (cI x33.2 x36) fun x37=>
 bnd (app x34 [x37.1]) fun x38=>
 some (x38,x37.2))
 (some (x34,x33.2))) fun v39=>
 letm ((aA (s29.2.1-1))) fun x40=>
 self30 (v39.1,(x40,v39.2)))
 (some (s29.1,s29.2.2))) bA ([],(x28.1,x28.2))) fun v41=>
 letm ((v7==4)) fun x42=>
 cond x42 (bnd (dY (Tr.mk v7 0 [] v41.1)) fun x43=>
 some (x43,v41.2))
 (bnd (eG v41.1) fun x44=>
 letm ((x44.2 != 0)) fun x45=>
 cond x45 (some ((Tr.mk 5 0 [] []),v41.2))
 (some (x44.1,v41.2)))))))))
def cZ(n:Nat):(ah)→(Int)→Option (Go.Gk.Tr×ah):=Nat.rec (motive:=fun _=>(ah)→(Int)→Option (Go.Gk.Tr×ah)) (fun _ _=>none) (fun _ ih=>eR ih) n
def cI(a0:ah)(a1:Int):Option (Go.Gk.Tr×ah):=cZ 40 a0 a1
def jF(a0:(List Go.Gk.Tr)):Option Go.Gk.Tr:=
 bnd (cQ (Tr.mk 4 0 [] a0)) fun x1=>
 some x1
def dW(a0:ah)(a1:Int):Option (ax×ah):=
 bnd (je) fun x2=>
 bnd (β:=(ah×ax)) (letm ((a1 != 0)) fun x3=>
 cond x3 (bnd (aj a0 4) fun x4=>
 letm (decide (0<x4.1)) fun x5=>
 bnd (ay a1) fun x6=>
 bnd (bZ x2 x5 1 x6) fun x7=>
 some (x4.2,x7.1))
 (some (a0,x2))) fun v8=>
 bnd (aj v8.1 3) fun x9=>
 aM (R:=(ax×ah)) (S:=(Int×(ah×ax))) (fun self11 s10=>
 letm (decide (0<s10.1)) fun x12=>
 cond x12 (bnd (β:=(ah×ax)) (bnd (aj s10.2.1 5) fun x13=>
 bnd (aI [4,6,3,99,(-7)] x13.1) fun x14=>
 bnd (cw x13.2 5) fun x15=>
 bnd (eF x15.1) fun x16=>
 bnd (β:=(ah×Go.Gk.Tr)) (letm ((x14==99)) fun x17=>
 cond x17 (bnd (cI x15.2 1) fun x18=>
 some (x18.2,x18.1))
 (some (x15.2,x16))) fun v19=>
 bnd (aj v19.1 2) fun x20=>
 letm ((x20.1==0)) fun x21=>
 bnd (bZ s10.2.2 x21 x14 v19.2) fun x22=>
 letm ((x22.2==0)) fun x23=>
 cond x23 (some (x20.2,x22.1))
 (some (x20.2,s10.2.2))) fun v24=>
 letm ((aA (s10.1-1))) fun x25=>
 self11 (x25,(v24.1,v24.2)))
 (bnd (β:=(ah×ax)) (bnd (ay 1) fun x26=>
 bnd (bZ s10.2.2 true 98 x26) fun x27=>
 bnd (β:=(Bool×ah)) (bnd (aj s10.2.1 6) fun x28=>
 letm ((x28.1==5)) fun x29=>
 cond x29 (letm ((x27.2==0)) fun x30=>
 some (x30,x28.2))
 (some (false,x28.2))) fun v31=>
 cond v31.1 (bnd (ay 98) fun x32=>
 bnd (jF [x32]) fun x33=>
 bnd (bZ x27.1 true 2 x33) fun x34=>
 letm ((x34.2==0)) fun x35=>
 cond x35 (some (v31.2,x34.1))
 (some (v31.2,x27.1)))
 (some (v31.2,s10.2.2))) fun v36=>
 some (v36.2,v36.1))) bA (x9.1,(x9.2,v8.2))
def gO(a0:Go.Gk.Tr):Option (List ax):=
 aM (R:=(List ax)) (S:=((List ax)×Int)) (fun self2 s1=>
 letm ((aA (s1.2+1))) fun x3=>
 letm (decide (x3<(a0.l.length:Int))) fun x4=>
 cond x4 (bnd (aI a0.l s1.2) fun x5=>
 letm ((aA (s1.2+1))) fun x6=>
 bnd (aI a0.l x6) fun x7=>
 bnd (app s1.1 [(x5,x7)]) fun x8=>
 letm ((aA (s1.2+2))) fun x9=>
 self2 (x8,x9))
 (some s1.1)) bA ([],0)
def eS(a0:Go.Gk.Tr):Option Bool:=
 bnd (β:=Bool) (letm ((a0.k==0)) fun x1=>
 cond x1 (letm (decide ((UInt64.toNat a0.n:Int)≤(UInt64.toNat 65535:Int))) fun x2=>
 some x2)
 (letm ((a0.k==1)) fun x3=>
 cond x3 (letm (decide ((UInt64.toNat a0.n:Int)≤(UInt64.toNat 65535:Int))) fun x4=>
 some x4)
 (some false))) fun v5=>
 some v5
def fu(a0:ax):Option Bool:=
 letm ((a0.1.k==3)) fun x1=>
 cond x1 (some true)
 (bnd (eS a0.1) fun x2=>
 letm ((!x2)) fun x3=>
 cond x3 (some false)
 (letm ((a0.1.k==1)) fun x4=>
 cond x4 (some true)
 (letm (((UInt64.toNat a0.1.n:Int)==(UInt64.toNat 1:Int))) fun x5=>
 cond x5 (bnd (β:=Bool) (bnd (eS a0.2) fun x6=>
 cond x6 (letm ((a0.2.k==1)) fun x7=>
 cond x7 (some true)
 (letm (((UInt64.toNat a0.2.n:Int) != (UInt64.toNat 0:Int))) fun x8=>
 some x8))
 (some false)) fun v9=>
 some v9)
 (bnd (β:=Bool) (letm (((UInt64.toNat a0.1.n:Int)==(UInt64.toNat 4:Int))) fun x10=>
 cond x10 (some true)
 (letm (((UInt64.toNat a0.1.n:Int)==(UInt64.toNat 5:Int))) fun x11=>
 cond x11 (some true)
 (letm (((UInt64.toNat a0.1.n:Int)==(UInt64.toNat 6:Int))) fun x12=>
 cond x12 (some true)
 (letm (((UInt64.toNat a0.1.n:Int)==(UInt64.toNat 12:Int))) fun x13=>
 some x13)))) fun v14=>
 cond v14 (letm ((a0.2.k==2)) fun x15=>
 some x15)
 (some true)))))
def fT(a0:Go.Gk.Tr)(a1:Go.Gk.Tr):Option (Go.Gk.Tr×Bool):=
 bnd (β:=Bool) (letm ((a0.k != 5)) fun x2=>
 cond x2 (some true)
 (bnd (bG a0) fun x3=>
 letm ((!x3)) fun x4=>
 cond x4 (some true)
 (bnd (bG a1) fun x5=>
 letm ((!x5)) fun x6=>
 some x6))) fun v7=>
 cond v7 (some ((Tr.mk 0 0 [] []),false))
 (bnd (db [] a1) fun x8=>
 aM (R:=(Go.Gk.Tr×Bool)) (S:=(Int×Go.Gk.Tr)) (fun self10 s9=>
 letm (decide (s9.1<(a0.l.length:Int))) fun x11=>
 cond x11 (bnd (aI a0.l s9.1) fun x12=>
 bnd (db [] x12) fun x13=>
 bnd (bF x13 x8) fun x14=>
 cond x14 (letm ((aA (s9.1+1))) fun x15=>
 bnd (aI a0.l x15) fun x16=>
 bnd (dm x16) fun x17=>
 some (x17,true))
 (letm ((aA (s9.1+2))) fun x18=>
 self10 (x18,s9.2)))
 (some ((Tr.mk 0 0 [] []),false))) bA (0,(Tr.mk 0 0 [] [])))
def iA(a0:ax)(a1:Int):Option (Go.Gk.Tr×Bool):=
 bnd (cy a1) fun x2=>
 bnd (fT a0.1 x2) fun x3=>
 cond x3.2 (some (x3.1,true))
 (bnd (cy a1) fun x4=>
 bnd (fT a0.2 x4) fun x5=>
 some (x5.1,x5.2))
def fq(a0:ax):Option Bool:=
 fg (ρ:=Bool) (ρ':=Bool) (Y:=Unit) (cF (R:=(Bool⊕Unit)) (S:=Unit) (α:=Go.Gk.Tr) (fun _ _=>
 some (.inr ()))
 (fun x3 _ _ self6=>
 fg (ρ:=(Bool⊕Unit)) (ρ':=(Bool⊕Unit)) (Y:=Unit) (bnd (β:=Bool) (letm ((x3.k != 5)) fun x7=>
 cond x7 (some true)
 (bnd (bG x3) fun x8=>
 letm ((!x8)) fun x9=>
 some x9)) fun v10=>
 cond v10 (some (.inl (.inl false)))
 (bnd (gO x3) fun x11=>
 cF (R:=((Bool⊕Unit)⊕Unit)) (S:=Unit) (α:=ax) (fun _ _=>
 some (.inr ()))
 (fun x14 _ _ self17=>
 bnd (fu x14) fun x18=>
 letm ((!x18)) fun x19=>
 cond x19 (some (.inl (.inl false)))
 (self17 ())) x11 0 ())) (fun q=>q) fun _=>
 self6 ()) [a0.1,a0.2] 0 ()) (fun q=>q) fun _=>
 fg (ρ:=Bool) (ρ':=Bool) (Y:=Unit) (bnd (gO a0.1) fun x22=>
 cF (R:=(Bool⊕Unit)) (S:=Unit) (α:=ax) (fun _ _=>
 some (.inr ()))
 (fun x25 _ _ self28=>
 bnd (fT a0.2 x25.1) fun x29=>
 cond x29.2 (some (.inl false))
 (self28 ())) x22 0 ()) (fun q=>q) fun _=>
 bnd (iA a0 5) fun x31=>
 bnd (iA a0 6) fun x32=>
 bnd (cy 2) fun x33=>
 bnd (fT a0.2 x33) fun x34=>
 bnd (β:=Bool) (cond x34.2 (some true)
 (cond x31.2 (some x32.2)
 (some false))) fun v35=>
 cond v35 (some false)
 (bnd (cy 2) fun x36=>
 bnd (fT a0.1 x36) fun x37=>
 letm ((!x37.2)) fun x38=>
 cond x38 (some true)
 (fg (ρ:=Bool) (ρ':=Bool) (Y:=Unit) (cF (R:=(Bool⊕Unit)) (S:=Unit) (α:=Go.Gk.Tr) (fun _ _=>
 some (.inr ()))
 (fun x41 _ _ self44=>
 bnd (fT a0.1 x41) fun x45=>
 letm ((!x45.2)) fun x46=>
 cond x46 (some (.inl false))
 (self44 ())) x37.1.l 0 ()) (fun q=>q) fun _=>
 bnd (β:=Bool) (letm ((x37.1.k==4)) fun x48=>
 cond x48 (letm (decide (0<(x37.1.l.length:Int))) fun x49=>
 some x49)
 (some false)) fun v50=>
 some v50))
def o_(a0:ax)(a1:Int):Option (Go.Gk.Tr×Bool):=
 bnd (fq a0) fun x2=>
 letm ((!x2)) fun x3=>
 cond x3 (some ((Tr.mk 0 0 [] []),false))
 (bnd (iA a0 a1) fun x4=>
 some (x4.1,x4.2))
def ml(a0:ax):Option Int:=
 bnd (o_ a0 1) fun x1=>
 letm ((!x1.2)) fun x2=>
 cond x2 (some 0)
 (letm ((x1.1.k==1)) fun x3=>
 cond x3 (letm ((aA (UInt64.toNat x1.1.n:Int))) fun x4=>
 letm ((aA ((-1)-x4))) fun x5=>
 some x5)
 (letm ((aA (UInt64.toNat x1.1.n:Int))) fun x6=>
 some x6))
def fo(a0:ax):Option ((List UInt8)×Int):=
 bnd (fq a0) fun x1=>
 letm ((!x1)) fun x2=>
 cond x2 (some ([],1))
 (letm (((a0.1.l.length:Int)==0)) fun x3=>
 cond x3 (some ([],0))
 (bnd (dP a0.1) fun x4=>
 some (x4.1,x4.2)))
def bL(a0:(List UInt8)):Option UInt64:=
 bnd (aI a0 0) fun x1=>
 letm ((aB (UInt8.toNat x1:Int))) fun x2=>
 bnd (aI a0 1) fun x3=>
 letm ((aB (UInt8.toNat x3:Int))) fun x4=>
 bnd ((dO .u64 (x4:UInt64) (UInt64.toNat 8:Int):Option UInt64)) fun(x5:UInt64)=>
 letm ((aS .or .u64 (x2:UInt64) (x5:UInt64):UInt64)) fun x6=>
 bnd (aI a0 2) fun x7=>
 letm ((aB (UInt8.toNat x7:Int))) fun x8=>
 bnd ((dO .u64 (x8:UInt64) (UInt64.toNat 16:Int):Option UInt64)) fun(x9:UInt64)=>
 letm ((aS .or .u64 (x6:UInt64) (x9:UInt64):UInt64)) fun x10=>
 bnd (aI a0 3) fun x11=>
 letm ((aB (UInt8.toNat x11:Int))) fun x12=>
 bnd ((dO .u64 (x12:UInt64) (UInt64.toNat 24:Int):Option UInt64)) fun(x13:UInt64)=>
 letm ((aS .or .u64 (x10:UInt64) (x13:UInt64):UInt64)) fun x14=>
 bnd (aI a0 4) fun x15=>
 letm ((aB (UInt8.toNat x15:Int))) fun x16=>
 bnd ((dO .u64 (x16:UInt64) (UInt64.toNat 32:Int):Option UInt64)) fun(x17:UInt64)=>
 letm ((aS .or .u64 (x14:UInt64) (x17:UInt64):UInt64)) fun x18=>
 bnd (aI a0 5) fun x19=>
 letm ((aB (UInt8.toNat x19:Int))) fun x20=>
 bnd ((dO .u64 (x20:UInt64) (UInt64.toNat 40:Int):Option UInt64)) fun(x21:UInt64)=>
 letm ((aS .or .u64 (x18:UInt64) (x21:UInt64):UInt64)) fun x22=>
 bnd (aI a0 6) fun x23=>
 letm ((aB (UInt8.toNat x23:Int))) fun x24=>
 bnd ((dO .u64 (x24:UInt64) (UInt64.toNat 48:Int):Option UInt64)) fun(x25:UInt64)=>
 letm ((aS .or .u64 (x22:UInt64) (x25:UInt64):UInt64)) fun x26=>
 bnd (aI a0 7) fun x27=>
 letm ((aB (UInt8.toNat x27:Int))) fun x28=>
 bnd ((dO .u64 (x28:UInt64) (UInt64.toNat 56:Int):Option UInt64)) fun(x29:UInt64)=>
 letm ((aS .or .u64 (x26:UInt64) (x29:UInt64):UInt64)) fun x30=>
 some x30
def fG(a0:(List UInt8)):Option Bool:=
 fg (ρ:=Bool) (ρ':=Bool) (Y:=Unit) (aM (R:=(Bool⊕Unit)) (S:=(List UInt8)) (fun self2 s1=>
 letm (decide (0<(s1.length:Int))) fun x3=>
 cond x3 (bnd (aI s1 0) fun x4=>
 letm (decide ((UInt8.toNat x4:Int)<(UInt8.toNat 128:Int))) fun x5=>
 cond x5 (bnd (Gk.cut s1 1 (s1.length:Int)) fun x6=>
 bnd (β:=Bool) (letm (decide (8<(x6.length:Int))) fun x7=>
 cond x7 (bnd (bL x6) fun x8=>
 letm ((aS .and .u64 (x8:UInt64) (9259542123273814144:UInt64):UInt64)) fun x9=>
 letm (((UInt64.toNat x9:Int)==(UInt64.toNat 0:Int))) fun x10=>
 some x10)
 (some false)) fun v11=>
 cond v11 (bnd (Gk.cut x6 8 (x6.length:Int)) fun x12=>
 bnd (β:=Bool) (letm (decide (16<(x12.length:Int))) fun x13=>
 cond x13 (bnd (bL x12) fun x14=>
 bnd (Gk.cut x12 8 (x12.length:Int)) fun x15=>
 bnd (bL x15) fun x16=>
 letm ((aS .or .u64 (x14:UInt64) (x16:UInt64):UInt64)) fun x17=>
 letm ((aS .and .u64 (x17:UInt64) (9259542123273814144:UInt64):UInt64)) fun x18=>
 letm (((UInt64.toNat x18:Int)==(UInt64.toNat 0:Int))) fun x19=>
 some x19)
 (some false)) fun v20=>
 cond v20 (bnd (Gk.cut x12 16 (x12.length:Int)) fun x21=>
 aM (R:=(Bool⊕Unit)) (S:=(List UInt8)) (fun self23 s22=>
 bnd (β:=Bool) (letm (decide (32<(s22.length:Int))) fun x24=>
 cond x24 (bnd (bL s22) fun x25=>
 bnd (Gk.cut s22 8 (s22.length:Int)) fun x26=>
 bnd (bL x26) fun x27=>
 letm ((aS .or .u64 (x25:UInt64) (x27:UInt64):UInt64)) fun x28=>
 bnd (Gk.cut s22 16 (s22.length:Int)) fun x29=>
 bnd (bL x29) fun x30=>
 bnd (Gk.cut s22 24 (s22.length:Int)) fun x31=>
 bnd (bL x31) fun x32=>
 letm ((aS .or .u64 (x30:UInt64) (x32:UInt64):UInt64)) fun x33=>
 letm ((aS .or .u64 (x28:UInt64) (x33:UInt64):UInt64)) fun x34=>
 letm ((aS .and .u64 (x34:UInt64) (9259542123273814144:UInt64):UInt64)) fun x35=>
 letm (((UInt64.toNat x35:Int)==(UInt64.toNat 0:Int))) fun x36=>
 some x36)
 (some false)) fun v37=>
 cond v37 (bnd (Gk.cut s22 32 (s22.length:Int)) fun x38=>
 self23 x38)
 (self2 s22)) bA x21)
 (self2 x12))
 (self2 x6))
 (bnd (aI ql (UInt8.toNat x4:Int)) fun x39=>
 letm ((av (bits .and .u8 (UInt8.toNat x39) (UInt8.toNat 7)))) fun x40=>
 letm ((aA (UInt8.toNat x40:Int))) fun x41=>
 bnd (cg .u8 x39 (UInt64.toNat 4:Int)) fun x42=>
 bnd (aI qN (UInt8.toNat x42:Int)) fun x43=>
 letm ((x41==2)) fun x44=>
 cond x44 (bnd (β:=Bool) (letm (decide ((s1.length:Int)<2)) fun x45=>
 cond x45 (some true)
 (bnd (aI s1 1) fun x46=>
 letm (decide ((UInt8.toNat x46:Int)<(UInt8.toNat x43.1:Int))) fun x47=>
 cond x47 (some true)
 (bnd (aI s1 1) fun x48=>
 letm (decide ((UInt8.toNat x43.2:Int)<(UInt8.toNat x48:Int))) fun x49=>
 some x49))) fun v50=>
 cond v50 (some (.inl false))
 (bnd (Gk.cut s1 2 (s1.length:Int)) fun x51=>
 self2 x51))
 (letm ((x41==3)) fun x52=>
 cond x52 (bnd (β:=Bool) (letm (decide ((s1.length:Int)<3)) fun x53=>
 cond x53 (some true)
 (bnd (aI s1 1) fun x54=>
 letm (decide ((UInt8.toNat x54:Int)<(UInt8.toNat x43.1:Int))) fun x55=>
 cond x55 (some true)
 (bnd (aI s1 1) fun x56=>
 letm (decide ((UInt8.toNat x43.2:Int)<(UInt8.toNat x56:Int))) fun x57=>
 cond x57 (some true)
 (bnd (aI s1 2) fun x58=>
 letm (decide ((UInt8.toNat x58:Int)<(UInt8.toNat 128:Int))) fun x59=>
 cond x59 (some true)
 (bnd (aI s1 2) fun x60=>
 letm (decide ((UInt8.toNat 191:Int)<(UInt8.toNat x60:Int))) fun x61=>
 some x61))))) fun v62=>
 cond v62 (some (.inl false))
 (bnd (Gk.cut s1 3 (s1.length:Int)) fun x63=>
 self2 x63))
 (letm ((x41==4)) fun x64=>
 cond x64 (bnd (β:=Bool) (letm (decide ((s1.length:Int)<4)) fun x65=>
 cond x65 (some true)
 (bnd (aI s1 1) fun x66=>
 letm (decide ((UInt8.toNat x66:Int)<(UInt8.toNat x43.1:Int))) fun x67=>
 cond x67 (some true)
 (bnd (aI s1 1) fun x68=>
 letm (decide ((UInt8.toNat x43.2:Int)<(UInt8.toNat x68:Int))) fun x69=>
 cond x69 (some true)
 (bnd (aI s1 2) fun x70=>
 letm (decide ((UInt8.toNat x70:Int)<(UInt8.toNat 128:Int))) fun x71=>
 cond x71 (some true)
 (bnd (aI s1 2) fun x72=>
 letm (decide ((UInt8.toNat 191:Int)<(UInt8.toNat x72:Int))) fun x73=>
 cond x73 (some true)
 (bnd (aI s1 3) fun x74=>
 letm (decide ((UInt8.toNat x74:Int)<(UInt8.toNat 128:Int))) fun x75=>
 cond x75 (some true)
 (bnd (aI s1 3) fun x76=>
 letm (decide ((UInt8.toNat 191:Int)<(UInt8.toNat x76:Int))) fun x77=>
 some x77))))))) fun v78=>
 cond v78 (some (.inl false))
 (bnd (Gk.cut s1 4 (s1.length:Int)) fun x79=>
 self2 x79))
 (some (.inl false))))))
 (some (.inr ()))) bA a0) (fun q=>q) fun _=>
 some true
def qw(a0:(List UInt8)):Option Go.Gk.Tr:=
 bnd (app [] a0) fun x1=>
 some (Tr.mk 3 0 x1 [])
def mb(a0:(List Go.Gk.Tr)):Option Go.Gk.Tr:=
 cF (R:=Go.Gk.Tr) (S:=(Go.Gk.Tr×(List Go.Gk.Tr))) (α:=Go.Gk.Tr) (fun _ s2=>
 some (Tr.mk s2.1.k s2.1.n s2.1.b s2.2))
 (fun x3 _ s5 self6=>
 bnd (dm x3) fun x7=>
 bnd (app s5.2 [x7]) fun x8=>
 self6 (s5.1,x8)) a0 0 ((Tr.mk 4 0 [] []),[])
def jk(a0:(List UInt8))(a1:ax)(a2:(List UInt8))(a3:(List (List UInt8))):Option ((List UInt8)×Int):=
 bnd (fo a1) fun x4=>
 letm ((x4.2 != 0)) fun x5=>
 cond x5 (some ([],x4.2))
 (bnd (fG a0) fun x6=>
 letm ((!x6)) fun x7=>
 cond x7 (some ([],5))
 (bnd (qw a0) fun x8=>
 bnd (ej x4.1) fun x9=>
 bnd (ej a2) fun x10=>
 cF (R:=((List UInt8)×Int)) (S:=(List Go.Gk.Tr)) (α:=(List UInt8)) (fun _ s12=>
 bnd (mb s12) fun x13=>
 bnd (dP x13) fun x14=>
 letm ((x14.2 != 0)) fun x15=>
 cond x15 (some ([],8))
 (some (x14.1,0)))
 (fun x16 _ s18 self19=>
 bnd (ej x16) fun x20=>
 bnd (app s18 [x20]) fun x21=>
 self19 x21) a3 0 [x8,x9,x10]))
def jh(a0:ax):Option ax:=
 bnd (jy a0.1.l) fun x1=>
 bnd (jy a0.2.l) fun x2=>
 some (x1.1,x2.1)
def ub(a0:Int):Option (List UInt64):=
 aM (R:=(List UInt64)) (S:=((List UInt64)×UInt64)) (fun self2 s1=>
 letm (decide ((s1.1.length:Int)<a0)) fun x3=>
 cond x3 (bnd (β:=(List UInt64)) (bnd (rng (s1.1.length:Int)) fun j14=>
 jB (R:=(List UInt64)) (S:=Bool) (fun _ s5=>
 cond s5 (bnd (app s1.1 [s1.2]) fun x6=>
 some x6)
 (some s1.1))
 (fun k7 s8 self9=>
 bnd (aI s1.1 (k7:Int)) fun _=>
 bnd (aI s1.1 ((((k7:Int):Int)).toNat:Int)) fun x11=>
 cond s8 (bnd ((HM .u64 (s1.2:UInt64) (x11:UInt64):Option UInt64)) fun(x12:UInt64)=>
 letm (((UInt64.toNat x12:Int) != (UInt64.toNat 0:Int))) fun x13=>
 self9 x13)
 (self9 false)) j14 0 true) fun v15=>
 letm ((s1.2+1)) fun x16=>
 self2 (v15,x16))
 (some s1.1)) bA ([],2)
def vg(a0:UInt64):Option UInt64:=
 bnd (C6 a0) fun x1=>
 some x1
def vK(_a0:UInt64):Option (UInt64):=none
def jt(a0:UInt64):Option Bool:=
 letm ((!(feq a0 a0))) fun x1=>
 some x1
def kX(a0:UInt64):Option UInt64:=
 letm (a0) fun x1=>
 letm ((aS .andNot .u64 (x1:UInt64) (9223372036854775808:UInt64):UInt64)) fun x2=>
 letm (x2) fun x3=>
 some x3
def jo(a0:UInt64)(a1:Int):Option Bool:=
 bnd (β:=UInt64) (letm ((a1==0)) fun x2=>
 cond x2 (bnd (kX a0) fun x3=>
 some x3)
 (letm (decide (a1<0)) fun x4=>
 cond x4 (none)
 (some a0))) fun v5=>
 letm ((Sq v5 (9218868437227405311:UInt64))) fun x6=>
 some x6
def vz(a0:UInt64):Option UInt64:=
 bnd (β:=Bool) (letm ((feq a0 (0:UInt64))) fun x1=>
 cond x1 (some true)
 (bnd (jt a0) fun x2=>
 cond x2 (some true)
 (bnd (jo a0 0) fun x3=>
 some x3))) fun v4=>
 cond v4 (some a0)
 (bnd (β:=(UInt64×Bool)) (letm ((MZ a0 (0:UInt64))) fun x5=>
 cond x5 (none)
 (some (a0,false))) fun v6=>
 letm (v6.1) fun x7=>
 bnd ((IQ .u64 (x7:UInt64) (3:UInt64):Option UInt64)) fun(x8:UInt64)=>
 letm ((x8+3071306043645493248)) fun x9=>
 letm (x9) fun x10=>
 bnd (β:=UInt64) (letm ((MZ v6.1 (4503599627370496:UInt64))) fun x11=>
 cond x11 (bnd (gM .mul (4850376798678024192:UInt64) v6.1) fun x12=>
 letm (x12) fun x13=>
 bnd ((IQ .u64 (x13:UInt64) (3:UInt64):Option UInt64)) fun(x14:UInt64)=>
 letm ((x14+2990241250352824320)) fun x15=>
 letm (x15) fun x16=>
 some x16)
 (some x10)) fun v17=>
 bnd (gM .mul v17 v17) fun x18=>
 bnd (gM .quo x18 v6.1) fun x19=>
 bnd (gM .mul x19 v17) fun x20=>
 bnd (gM .add (4603064841997850097:UInt64) x20) fun x21=>
 bnd (gM .add x21 (4609048195788499471:UInt64)) fun x22=>
 bnd (gM .quo (13827900089180538932:UInt64) x21) fun x23=>
 bnd (gM .add x22 x23) fun x24=>
 bnd (gM .quo (4609916747145206638:UInt64) x24) fun x25=>
 bnd (gM .add (4600105333671292343:UInt64) x25) fun x26=>
 bnd (gM .mul v17 x26) fun x27=>
 letm (x27) fun x28=>
 letm ((aS .and .u64 (x28:UInt64) (18446744072635809792:UInt64):UInt64)) fun(x29:UInt64)=>
 letm ((x29+1073741824)) fun x30=>
 letm (x30) fun x31=>
 bnd (gM .mul x31 x31) fun x32=>
 bnd (gM .quo v6.1 x32) fun x33=>
 bnd (gM .add x31 x31) fun x34=>
 bnd (gM .sub x33 x31) fun x35=>
 bnd (gM .add x34 x33) fun x36=>
 bnd (gM .quo x35 x36) fun x37=>
 bnd (gM .mul x31 x37) fun x38=>
 bnd (gM .add x31 x38) fun x39=>
 bnd (β:=UInt64) (cond v6.2 (none)
 (some x39)) fun v40=>
 some v40)
def vx(a0:UInt64):Option UInt64:=
 bnd (vz a0) fun x1=>
 some x1
def dF(a0:UInt64)(a1:UInt64):Option UInt64:=
 letm (a0) fun x2=>
 letm ((aS .andNot .u64 (x2:UInt64) (9223372036854775808:UInt64):UInt64)) fun x3=>
 letm (a1) fun x4=>
 letm ((aS .and .u64 (x4:UInt64) (9223372036854775808:UInt64):UInt64)) fun x5=>
 letm ((aS .or .u64 (x3:UInt64) (x5:UInt64):UInt64)) fun x6=>
 letm (x6) fun x7=>
 some x7
def Bo(a0:UInt64):Option UInt64:=
 bnd (kX a0) fun x1=>
 letm ((MZ x1 (4607182418800017408:UInt64))) fun x2=>
 cond x2 (bnd (dF (0:UInt64) a0) fun x3=>
 some x3)
 (letm (a0) fun x4=>
 bnd ((cg .u64 (x4:UInt64) (UInt64.toNat 52:Int):Option UInt64)) fun(x5:UInt64)=>
 letm ((aS .and .u64 (x5:UInt64) (2047:UInt64):UInt64)) fun(x6:UInt64)=>
 letm ((x6-1023)) fun x7=>
 bnd (β:=UInt64) (letm (decide ((UInt64.toNat x7:Int)<(UInt64.toNat 52:Int))) fun x8=>
 cond x8 (letm ((52-x7)) fun x9=>
 bnd ((dO .u64 (1:UInt64) (UInt64.toNat x9:Int):Option UInt64)) fun(x10:UInt64)=>
 letm ((x10-1)) fun x11=>
 letm ((aS .andNot .u64 (x4:UInt64) (x11:UInt64):UInt64)) fun(x12:UInt64)=>
 some x12)
 (some x4)) fun v13=>
 letm (v13) fun x14=>
 some x14)
def uj(a0:UInt64):Option UInt64:=
 bnd (sK .zero a0) fun x1=>
 some x1
def vo(a0:UInt64):Option (UInt64×UInt64):=
 bnd (uj a0) fun x1=>
 bnd (gM .sub a0 x1) fun x2=>
 bnd (dF x2 a0) fun x3=>
 some (x1,x3)
def A4(a0:UInt64):Option UInt64:=
 bnd (β:=Bool) (letm ((feq a0 (0:UInt64))) fun x1=>
 cond x1 (some true)
 (bnd (jt a0) fun x2=>
 cond x2 (some true)
 (bnd (jo a0 0) fun x3=>
 some x3))) fun v4=>
 cond v4 (some a0)
 (letm ((MZ a0 (0:UInt64))) fun x5=>
 cond x5 (none)
 (bnd (vo a0) fun x6=>
 some x6.1))
def tU(a0:UInt64):Option UInt64:=
 bnd (sK .down a0) fun x1=>
 some x1
def jz(a0:(List UInt64)):Option UInt64:=
 aM (R:=UInt64) (S:=(UInt64×Int)) (fun self2 s1=>
 letm (decide (0≤s1.2)) fun x3=>
 cond x3 (bnd (gM .mul s1.1 (4895412794951729152:UInt64)) fun x4=>
 bnd (kL 4 s1.2) fun x5=>
 bnd (aI a0 ((0+x5):Int)) fun x6=>
 letm ((EJ (UInt64.toNat x6:Int))) fun x7=>
 bnd (gM .add x4 x7) fun x8=>
 letm ((aA (s1.2-1))) fun x9=>
 self2 (x8,x9))
 (some s1.1)) bA ((0:UInt64),3)
def nL(a0:UInt64)(a1:UInt64):Option (UInt64×UInt64):=
 letm ((aS .and .u64 (a0:UInt64) (4294967295:UInt64):UInt64)) fun(x2:UInt64)=>
 bnd ((cg .u64 (a0:UInt64) (UInt64.toNat 32:Int):Option UInt64)) fun(x3:UInt64)=>
 letm ((aS .and .u64 (a1:UInt64) (4294967295:UInt64):UInt64)) fun(x4:UInt64)=>
 bnd ((cg .u64 (a1:UInt64) (UInt64.toNat 32:Int):Option UInt64)) fun(x5:UInt64)=>
 letm ((x2*x4)) fun x6=>
 letm ((x3*x4)) fun x7=>
 bnd ((cg .u64 (x6:UInt64) (UInt64.toNat 32:Int):Option UInt64)) fun(x8:UInt64)=>
 letm ((x7+x8)) fun x9=>
 letm ((aS .and .u64 (x9:UInt64) (4294967295:UInt64):UInt64)) fun(x10:UInt64)=>
 bnd ((cg .u64 (x9:UInt64) (UInt64.toNat 32:Int):Option UInt64)) fun(x11:UInt64)=>
 letm ((x2*x5)) fun x12=>
 letm ((x10+x12)) fun x13=>
 letm ((x3*x5)) fun x14=>
 letm ((x14+x11)) fun x15=>
 bnd ((cg .u64 (x13:UInt64) (UInt64.toNat 32:Int):Option UInt64)) fun(x16:UInt64)=>
 letm ((x15+x16)) fun x17=>
 letm ((a0*a1)) fun x18=>
 some (x17,x18)
def vh(a0:(List UInt64))(a1:(List UInt64)):Option (List UInt64):=
 aM (R:=(List UInt64)) (S:=(Int×(List UInt64))) (fun self3 s2=>
 letm (decide (s2.1<4)) fun x4=>
 cond x4 (aM (R:=(List UInt64)) (S:=(UInt64×(Int×(List UInt64)))) (fun self6 s5=>
 letm ((aA (s2.1+s5.2.1))) fun x7=>
 letm (decide (x7<4)) fun x8=>
 cond x8 (bnd (kL 4 s2.1) fun x9=>
 bnd (aI a0 ((0+x9):Int)) fun x10=>
 bnd (kL 4 s5.2.1) fun x11=>
 bnd (aI a1 ((0+x11):Int)) fun x12=>
 bnd (nL x10 x12) fun x13=>
 bnd (xK x13.2 s5.1 0) fun x14=>
 letm ((x13.1+x14.2)) fun x15=>
 letm ((aA (s2.1+s5.2.1))) fun x16=>
 letm ((aA (s2.1+s5.2.1))) fun x17=>
 bnd (kL 4 x17) fun x18=>
 bnd (aI s5.2.2 ((0+x18):Int)) fun x19=>
 bnd (xK x19 x14.1 0) fun x20=>
 bnd (kL 4 x16) fun x21=>
 bnd (aI s5.2.2 ((0+x21):Int)) fun _=>
 letm ((s5.2.2.set (0+x21) x20.1)) fun x23=>
 letm ((x15+x20.2)) fun x24=>
 letm ((aA (s5.2.1+1))) fun x25=>
 self6 (x24,(x25,x23)))
 (letm ((aA (s2.1+1))) fun x26=>
 self3 (x26,s5.2.2))) bA (0,(0,s2.2)))
 (some s2.2)) bA (0,[(aB 0),(aB 0),(aB 0),(aB 0)])
def nw(a0:(List UInt64))(a1:Int):Option (List UInt64):=
 bnd (rng a1) fun j8=>
 jB (R:=(List UInt64)) (S:=(List UInt64)) (fun _ s3=>
 some s3)
 (fun _ s5 self6=>
 bnd (vh s5 a0) fun x7=>
 self6 x7) j8 0 [1,(aB 0),(aB 0),(aB 0)]
def oM(a0:(List UInt64))(a1:(List UInt64)):Option Bool:=
 aM (R:=Bool) (S:=Int) (fun self3 s2=>
 letm (decide (0≤s2)) fun x4=>
 cond x4 (bnd (kL 4 s2) fun x5=>
 bnd (aI a0 ((0+x5):Int)) fun x6=>
 bnd (kL 4 s2) fun x7=>
 bnd (aI a1 ((0+x7):Int)) fun x8=>
 letm (((UInt64.toNat x6:Int) != (UInt64.toNat x8:Int))) fun x9=>
 cond x9 (bnd (kL 4 s2) fun x10=>
 bnd (aI a0 ((0+x10):Int)) fun x11=>
 bnd (kL 4 s2) fun x12=>
 bnd (aI a1 ((0+x12):Int)) fun x13=>
 letm (decide ((UInt64.toNat x11:Int)<(UInt64.toNat x13:Int))) fun x14=>
 some x14)
 (letm ((aA (s2-1))) fun x15=>
 self3 x15))
 (some false)) bA 3
def pY(a0:(List UInt64))(a1:(List UInt64)):Option (List UInt64):=
 aM (R:=(List UInt64)) (S:=(UInt64×(Int×(List UInt64)))) (fun self3 s2=>
 letm (decide (s2.2.1<4)) fun x4=>
 cond x4 (bnd (kL 4 s2.2.1) fun x5=>
 bnd (aI s2.2.2 ((0+x5):Int)) fun x6=>
 bnd (kL 4 s2.2.1) fun x7=>
 bnd (aI a1 ((0+x7):Int)) fun x8=>
 bnd (zM x6 x8 s2.1) fun x9=>
 bnd (kL 4 s2.2.1) fun x10=>
 bnd (aI s2.2.2 ((0+x10):Int)) fun _=>
 letm ((s2.2.2.set (0+x10) x9.1)) fun x12=>
 letm ((aA (s2.2.1+1))) fun x13=>
 self3 (x9.2,(x13,x12)))
 (some s2.2.2)) bA (0,(0,a0))
def p_(a0:(List UInt64))(a1:UInt64):Option (List UInt64):=
 bnd (kL 4 0) fun x2=>
 bnd (aI a0 ((0+x2):Int)) fun x3=>
 bnd (zM x3 a1 0) fun x4=>
 bnd (kL 4 0) fun x5=>
 bnd (aI a0 ((0+x5):Int)) fun _=>
 letm ((a0.set (0+x5) x4.1)) fun x7=>
 bnd (kL 4 1) fun x8=>
 bnd (aI x7 ((0+x8):Int)) fun x9=>
 letm ((x9-x4.2)) fun x10=>
 bnd (kL 4 1) fun x11=>
 bnd (aI x7 ((0+x11):Int)) fun _=>
 letm ((x7.set (0+x11) x10)) fun x13=>
 some x13
def nn(a0:(List UInt64))(a1:UInt64):Option (List UInt64):=
 bnd (kL 4 0) fun x2=>
 bnd (aI a0 ((0+x2):Int)) fun x3=>
 bnd (xK x3 a1 0) fun x4=>
 bnd (kL 4 0) fun x5=>
 bnd (aI a0 ((0+x5):Int)) fun _=>
 letm ((a0.set (0+x5) x4.1)) fun x7=>
 bnd (kL 4 1) fun x8=>
 bnd (aI x7 ((0+x8):Int)) fun x9=>
 letm ((x9+x4.2)) fun x10=>
 bnd (kL 4 1) fun x11=>
 bnd (aI x7 ((0+x11):Int)) fun _=>
 letm ((x7.set (0+x11) x10)) fun x13=>
 some x13
def mG(a0:UInt64)(a1:Int):Option UInt64:=
 bnd (kL 4 a1) fun x2=>
 bnd (aI (List.replicate 4 (0:UInt64)) ((0+x2):Int)) fun _=>
 letm (((List.replicate 4 (0:UInt64)).set (0+x2) a0)) fun x4=>
 letm ((EJ (UInt64.toNat a0:Int))) fun x5=>
 bnd (vg x5) fun x6=>
 bnd (β:=UInt64) (letm ((a1==3)) fun x7=>
 cond x7 (letm ((EJ (UInt64.toNat a0:Int))) fun x8=>
 bnd (vx x8) fun x9=>
 some x9)
 (some x6)) fun v10=>
 bnd (tU v10) fun x11=>
 bnd (gM .sub v10 x11) fun x12=>
 bnd (gM .mul x12 (4890909195324358656:UInt64)) fun x13=>
 bnd ((wI .u64 x13:Option UInt64)) fun(x14:UInt64)=>
 bnd ((dO .u64 (x14:UInt64) (UInt64.toNat 1:Int):Option UInt64)) fun(x15:UInt64)=>
 bnd ((wI .u64 x11:Option UInt64)) fun(x16:UInt64)=>
 letm ((EJ a1)) fun x17=>
 letm ((aA (a1-1))) fun x18=>
 bnd (rng x18) fun j55=>
 jB (R:=UInt64) (S:=UInt64) (fun _ s20=>
 bnd (β:=(List UInt64)) (bnd (nw [x15,x16,(aB 0),(aB 0)] a1) fun x21=>
 bnd (oM x4 x21) fun x22=>
 cond x22 (bnd (pY x21 x4) fun x23=>
 bnd (jz x23) fun x24=>
 bnd (gM .quo x24 s20) fun x25=>
 bnd ((wI .u64 x25:Option UInt64)) fun(x26:UInt64)=>
 bnd (p_ [x15,x16,(aB 0),(aB 0)] x26) fun x27=>
 some x27)
 (bnd (pY x4 x21) fun x28=>
 bnd (jz x28) fun x29=>
 bnd (gM .quo x29 s20) fun x30=>
 bnd ((wI .u64 x30:Option UInt64)) fun(x31:UInt64)=>
 bnd (nn [x15,x16,(aB 0),(aB 0)] x31) fun x32=>
 some x32)) fun v33=>
 bnd (β:=(List UInt64)) (aM (R:=(List UInt64)) (S:=(List UInt64)) (fun self35 s34=>
 bnd (nw s34 a1) fun x36=>
 bnd (oM x4 x36) fun x37=>
 cond x37 (bnd (p_ s34 1) fun x38=>
 self35 x38)
 (some s34)) bA v33) fun v39=>
 bnd (β:=(List UInt64)) (aM (R:=(List UInt64)) (S:=(List UInt64)) (fun self41 s40=>
 bnd (nn s40 1) fun x42=>
 bnd (nw x42 a1) fun x43=>
 bnd (oM x4 x43) fun x44=>
 letm ((!x44)) fun x45=>
 cond x45 (bnd (nn s40 1) fun x46=>
 self41 x46)
 (some s40)) bA v39) fun v47=>
 bnd (kL 4 0) fun x48=>
 bnd (aI v47 ((0+x48):Int)) fun x49=>
 some x49)
 (fun _ s51 self52=>
 bnd (jz [x15,x16,(aB 0),(aB 0)]) fun x53=>
 bnd (gM .mul s51 x53) fun x54=>
 self52 x54) j55 0 x17
def iu(a0:Int):Option ((List UInt64)×(List UInt64)):=
 bnd (ub a0) fun x1=>
 cF (R:=((List UInt64)×(List UInt64))) (S:=((List UInt64)×(List UInt64))) (α:=UInt64) (fun _ s3=>
 some (s3.1,s3.2))
 (fun x4 k5 s6 self7=>
 bnd (β:=((List UInt64)×(List UInt64))) (bnd (mG x4 3) fun x8=>
 bnd (app s6.1 [x8]) fun x9=>
 letm (decide ((k5:Int)<8)) fun x10=>
 cond x10 (bnd (mG x4 2) fun x11=>
 bnd (kL 8 (k5:Int)) fun x12=>
 bnd (aI s6.2 ((0+x12):Int)) fun _=>
 letm ((s6.2.set (0+x12) x11)) fun x14=>
 some (x9,x14))
 (some (x9,s6.2))) fun v15=>
 self7 (v15.1,v15.2)) x1 0 ([],[(aB 0),(aB 0),(aB 0),(aB 0),(aB 0),(aB 0),(aB 0),(aB 0)])
def mg(a0:(List UInt8))(a1:Int)(a2:Int):Option (List UInt8):=
 letm ((aA (2*a1))) fun x3=>
 letm ((aA ((a0.length:Int)+x3))) fun x4=>
 bnd (LB x4 0) fun x5=>
 bnd (app x5 a0) fun x6=>
 bnd (app x6 [128]) fun x7=>
 bnd (β:=(List UInt8)) (aM (R:=(List UInt8)) (S:=(List UInt8)) (fun self9 s8=>
 letm ((aA ((s8.length:Int)+a2))) fun x10=>
 bnd (Gk.rem x10 a1) fun x11=>
 letm ((x11 != 0)) fun x12=>
 cond x12 (bnd (app s8 [0]) fun x13=>
 self9 x13)
 (some s8)) bA x7) fun v14=>
 letm ((aB (a0.length:Int))) fun x15=>
 letm ((aA (8*a2))) fun x16=>
 letm ((aA (x16-8))) fun x17=>
 aM (R:=(List UInt8)) (S:=((List UInt8)×Int)) (fun self19 s18=>
 letm (decide (0≤s18.2)) fun x20=>
 cond x20 (bnd (β:=(List UInt8)) (letm (decide (72≤s18.2)) fun x21=>
 cond x21 (bnd (app s18.1 [0]) fun x22=>
 some x22)
 (letm ((s18.2==64)) fun x23=>
 cond x23 (bnd ((cg .u64 (x15:UInt64) (UInt64.toNat 61:Int):Option UInt64)) fun(x24:UInt64)=>
 letm ((av (UInt64.toNat x24:Int))) fun x25=>
 bnd (app s18.1 [x25]) fun x26=>
 some x26)
 (bnd ((dO .u64 (x15:UInt64) (UInt64.toNat 3:Int):Option UInt64)) fun(x27:UInt64)=>
 bnd ((cg .u64 (x27:UInt64) s18.2:Option UInt64)) fun(x28:UInt64)=>
 letm ((av (UInt64.toNat x28:Int))) fun x29=>
 bnd (app s18.1 [x29]) fun x30=>
 some x30))) fun v31=>
 letm ((aA (s18.2-8))) fun x32=>
 self19 (v31,x32))
 (some s18.1)) bA (v14,x17)
def gf(a0:UInt32)(a1:Int):Option UInt32:=
 letm ((aB a1)) fun x2=>
 letm ((aS .and .u64 (x2:UInt64) (31:UInt64):UInt64)) fun(x3:UInt64)=>
 bnd ((dO .u32 (a0:UInt32) (UInt64.toNat x3:Int):Option UInt32)) fun(x4:UInt32)=>
 letm ((32-x3)) fun x5=>
 bnd ((cg .u32 (a0:UInt32) (UInt64.toNat x5:Int):Option UInt32)) fun(x6:UInt32)=>
 letm ((aS .or .u32 (x4:UInt32) (x6:UInt32):UInt32)) fun(x7:UInt32)=>
 some x7
def b_(a0:UInt32)(a1:Int):Option UInt32:=
 letm ((aA ((aA 0)-a1))) fun x2=>
 bnd (gf a0 x2) fun x3=>
 some x3
def kZ(a0:(List UInt32))(a1:(Option (List UInt32)))(a2:(List UInt8)):Option (List UInt32):=
 aM (R:=(List UInt32)) (S:=(Int×(List UInt32))) (fun self4 s3=>
 letm (decide (s3.1<64)) fun x5=>
 cond x5 (bnd (β:=(List UInt32)) (letm (decide (s3.1<16)) fun x6=>
 cond x6 (letm ((aA (4*s3.1))) fun x7=>
 bnd (aI a2 x7) fun x8=>
 letm ((aq (UInt8.toNat x8:Int))) fun x9=>
 bnd ((dO .u32 (x9:UInt32) (UInt64.toNat 24:Int):Option UInt32)) fun(x10:UInt32)=>
 letm ((aA (4*s3.1))) fun x11=>
 letm ((aA (x11+1))) fun x12=>
 bnd (aI a2 x12) fun x13=>
 letm ((aq (UInt8.toNat x13:Int))) fun x14=>
 bnd ((dO .u32 (x14:UInt32) (UInt64.toNat 16:Int):Option UInt32)) fun(x15:UInt32)=>
 letm ((aS .or .u32 (x10:UInt32) (x15:UInt32):UInt32)) fun(x16:UInt32)=>
 letm ((aA (4*s3.1))) fun x17=>
 letm ((aA (x17+2))) fun x18=>
 bnd (aI a2 x18) fun x19=>
 letm ((aq (UInt8.toNat x19:Int))) fun x20=>
 bnd ((dO .u32 (x20:UInt32) (UInt64.toNat 8:Int):Option UInt32)) fun(x21:UInt32)=>
 letm ((aS .or .u32 (x16:UInt32) (x21:UInt32):UInt32)) fun(x22:UInt32)=>
 letm ((aA (4*s3.1))) fun x23=>
 letm ((aA (x23+3))) fun x24=>
 bnd (aI a2 x24) fun x25=>
 letm ((aq (UInt8.toNat x25:Int))) fun x26=>
 letm ((aS .or .u32 (x22:UInt32) (x26:UInt32):UInt32)) fun(x27:UInt32)=>
 bnd (kL 64 s3.1) fun x28=>
 bnd (aI s3.2 ((0+x28):Int)) fun _=>
 letm ((s3.2.set (0+x28) x27)) fun x30=>
 some x30)
 (letm ((aA (s3.1-15))) fun x31=>
 bnd (kL 64 x31) fun x32=>
 bnd (aI s3.2 ((0+x32):Int)) fun x33=>
 letm ((aA (s3.1-2))) fun x34=>
 bnd (kL 64 x34) fun x35=>
 bnd (aI s3.2 ((0+x35):Int)) fun x36=>
 bnd (b_ x36 17) fun x37=>
 bnd (b_ x36 19) fun x38=>
 letm ((aS .xor .u32 (x37:UInt32) (x38:UInt32):UInt32)) fun(x39:UInt32)=>
 bnd ((cg .u32 (x36:UInt32) (UInt64.toNat 10:Int):Option UInt32)) fun(x40:UInt32)=>
 letm ((aS .xor .u32 (x39:UInt32) (x40:UInt32):UInt32)) fun(x41:UInt32)=>
 letm ((aA (s3.1-7))) fun x42=>
 bnd (kL 64 x42) fun x43=>
 bnd (aI s3.2 ((0+x43):Int)) fun x44=>
 letm ((x41+x44)) fun x45=>
 bnd (b_ x33 7) fun x46=>
 bnd (b_ x33 18) fun x47=>
 letm ((aS .xor .u32 (x46:UInt32) (x47:UInt32):UInt32)) fun(x48:UInt32)=>
 bnd ((cg .u32 (x33:UInt32) (UInt64.toNat 3:Int):Option UInt32)) fun(x49:UInt32)=>
 letm ((aS .xor .u32 (x48:UInt32) (x49:UInt32):UInt32)) fun(x50:UInt32)=>
 letm ((x45+x50)) fun x51=>
 letm ((aA (s3.1-16))) fun x52=>
 bnd (kL 64 x52) fun x53=>
 bnd (aI s3.2 ((0+x53):Int)) fun x54=>
 letm ((x51+x54)) fun x55=>
 bnd (kL 64 s3.1) fun x56=>
 bnd (aI s3.2 ((0+x56):Int)) fun _=>
 letm ((s3.2.set (0+x56) x55)) fun x58=>
 some x58)) fun v59=>
 letm ((aA (s3.1+1))) fun x60=>
 self4 (x60,v59))
 (aM (R:=(List UInt32)) (S:=(Int×(List UInt32))) (fun self62 s61=>
 letm (decide (s61.1<64)) fun x63=>
 cond x63 (bnd (kL 8 0) fun x64=>
 bnd (aI s61.2 ((0+x64):Int)) fun x65=>
 bnd (kL 8 4) fun x66=>
 bnd (aI s61.2 ((0+x66):Int)) fun x67=>
 bnd (kL 8 7) fun x68=>
 bnd (aI s61.2 ((0+x68):Int)) fun x69=>
 bnd (b_ x67 6) fun x70=>
 bnd (b_ x67 11) fun x71=>
 letm ((aS .xor .u32 (x70:UInt32) (x71:UInt32):UInt32)) fun(x72:UInt32)=>
 bnd (b_ x67 25) fun x73=>
 letm ((aS .xor .u32 (x72:UInt32) (x73:UInt32):UInt32)) fun(x74:UInt32)=>
 letm ((x69+x74)) fun x75=>
 bnd (kL 8 5) fun x76=>
 bnd (aI s61.2 ((0+x76):Int)) fun x77=>
 letm ((aS .and .u32 (x67:UInt32) (x77:UInt32):UInt32)) fun(x78:UInt32)=>
 letm ((La .u32 (x67:UInt32):UInt32)) fun(x79:UInt32)=>
 bnd (kL 8 6) fun x80=>
 bnd (aI s61.2 ((0+x80):Int)) fun x81=>
 letm ((aS .and .u32 (x79:UInt32) (x81:UInt32):UInt32)) fun(x82:UInt32)=>
 letm ((aS .xor .u32 (x78:UInt32) (x82:UInt32):UInt32)) fun(x83:UInt32)=>
 letm ((x75+x83)) fun x84=>
 bnd (a1) fun _=>
 bnd (a1) fun x86=>
 bnd (aI x86 s61.1) fun x87=>
 letm ((x84+x87)) fun x88=>
 bnd (kL 64 s61.1) fun x89=>
 bnd (aI s3.2 ((0+x89):Int)) fun x90=>
 letm ((x88+x90)) fun x91=>
 bnd (b_ x65 2) fun x92=>
 bnd (b_ x65 13) fun x93=>
 letm ((aS .xor .u32 (x92:UInt32) (x93:UInt32):UInt32)) fun(x94:UInt32)=>
 bnd (b_ x65 22) fun x95=>
 letm ((aS .xor .u32 (x94:UInt32) (x95:UInt32):UInt32)) fun(x96:UInt32)=>
 bnd (kL 8 1) fun x97=>
 bnd (aI s61.2 ((0+x97):Int)) fun x98=>
 letm ((aS .and .u32 (x65:UInt32) (x98:UInt32):UInt32)) fun(x99:UInt32)=>
 bnd (kL 8 2) fun x100=>
 bnd (aI s61.2 ((0+x100):Int)) fun x101=>
 letm ((aS .and .u32 (x65:UInt32) (x101:UInt32):UInt32)) fun(x102:UInt32)=>
 letm ((aS .xor .u32 (x99:UInt32) (x102:UInt32):UInt32)) fun(x103:UInt32)=>
 bnd (kL 8 1) fun x104=>
 bnd (aI s61.2 ((0+x104):Int)) fun x105=>
 bnd (kL 8 2) fun x106=>
 bnd (aI s61.2 ((0+x106):Int)) fun x107=>
 letm ((aS .and .u32 (x105:UInt32) (x107:UInt32):UInt32)) fun(x108:UInt32)=>
 letm ((aS .xor .u32 (x103:UInt32) (x108:UInt32):UInt32)) fun(x109:UInt32)=>
 letm ((x96+x109)) fun x110=>
 letm ((x91+x110)) fun x111=>
 bnd (kL 8 1) fun x112=>
 bnd (aI s61.2 ((0+x112):Int)) fun x113=>
 bnd (kL 8 2) fun x114=>
 bnd (aI s61.2 ((0+x114):Int)) fun x115=>
 bnd (kL 8 3) fun x116=>
 bnd (aI s61.2 ((0+x116):Int)) fun x117=>
 letm ((x117+x91)) fun x118=>
 bnd (kL 8 5) fun x119=>
 bnd (aI s61.2 ((0+x119):Int)) fun x120=>
 bnd (kL 8 6) fun x121=>
 bnd (aI s61.2 ((0+x121):Int)) fun x122=>
 letm ((aA (s61.1+1))) fun x123=>
 self62 (x123,[x111,x65,x113,x115,x118,x67,x120,x122]))
 (aM (R:=(List UInt32)) (S:=(Int×(List UInt32))) (fun self125 s124=>
 letm (decide (s124.1<8)) fun x126=>
 cond x126 (bnd (kL 8 s124.1) fun x127=>
 bnd (aI s124.2 ((0+x127):Int)) fun x128=>
 bnd (kL 8 s124.1) fun x129=>
 bnd (aI s61.2 ((0+x129):Int)) fun x130=>
 letm ((x128+x130)) fun x131=>
 bnd (kL 8 s124.1) fun x132=>
 bnd (aI s124.2 ((0+x132):Int)) fun _=>
 letm ((s124.2.set (0+x132) x131)) fun x134=>
 letm ((aA (s124.1+1))) fun x135=>
 self125 (x135,x134))
 (some s124.2)) bA (0,a0))) bA (0,a0))) bA (0,[(aq 0),(aq 0),(aq 0),(aq 0),(aq 0),(aq 0),(aq 0),(aq 0),(aq 0),(aq 0),(aq 0),(aq 0),(aq 0),(aq 0),(aq 0),(aq 0),(aq 0),(aq 0),(aq 0),(aq 0),(aq 0),(aq 0),(aq 0),(aq 0),(aq 0),(aq 0),(aq 0),(aq 0),(aq 0),(aq 0),(aq 0),(aq 0),(aq 0),(aq 0),(aq 0),(aq 0),(aq 0),(aq 0),(aq 0),(aq 0),(aq 0),(aq 0),(aq 0),(aq 0),(aq 0),(aq 0),(aq 0),(aq 0),(aq 0),(aq 0),(aq 0),(aq 0),(aq 0),(aq 0),(aq 0),(aq 0),(aq 0),(aq 0),(aq 0),(aq 0),(aq 0),(aq 0),(aq 0),(aq 0)])
def f0(a0:(List UInt8)):Option (List UInt8):=
 bnd (iu 64) fun x1=>
 aM (R:=(List UInt8)) (S:=(Int×(List UInt32))) (fun self3 s2=>
 letm (decide (s2.1<64)) fun x4=>
 cond x4 (bnd (aI x1.1 s2.1) fun x5=>
 bnd ((cg .u64 (x5:UInt64) (UInt64.toNat 32:Int):Option UInt64)) fun(x6:UInt64)=>
 letm ((aq (UInt64.toNat x6:Int))) fun x7=>
 bnd (kL 64 s2.1) fun x8=>
 bnd (aI s2.2 ((0+x8):Int)) fun _=>
 letm ((s2.2.set (0+x8) x7)) fun x10=>
 letm ((aA (s2.1+1))) fun x11=>
 self3 (x11,x10))
 (aM (R:=(List UInt8)) (S:=(Int×(List UInt32))) (fun self13 s12=>
 letm (decide (s12.1<8)) fun x14=>
 cond x14 (bnd (kL 8 s12.1) fun x15=>
 bnd (aI x1.2 ((0+x15):Int)) fun x16=>
 bnd ((cg .u64 (x16:UInt64) (UInt64.toNat 32:Int):Option UInt64)) fun(x17:UInt64)=>
 letm ((aq (UInt64.toNat x17:Int))) fun x18=>
 bnd (kL 8 s12.1) fun x19=>
 bnd (aI s12.2 ((0+x19):Int)) fun _=>
 letm ((s12.2.set (0+x19) x18)) fun x21=>
 letm ((aA (s12.1+1))) fun x22=>
 self13 (x22,x21))
 (bnd (mg a0 64 8) fun x23=>
 aM (R:=(List UInt8)) (S:=((List UInt8)×((List UInt32)×(List UInt32)))) (fun self25 s24=>
 letm (decide (0<(s24.1.length:Int))) fun x26=>
 cond x26 (bnd (Gk.cut s24.1 0 64) fun x27=>
 bnd (kZ s24.2.2 (some s24.2.1) x27) fun x28=>
 bnd (Gk.cut s24.1 64 (s24.1.length:Int)) fun x29=>
 self25 (x29,(s24.2.1,x28)))
 (aM (R:=(List UInt8)) (S:=((List UInt8)×Int)) (fun self31 s30=>
 letm (decide (s30.2<8)) fun x32=>
 cond x32 (bnd (aI s24.2.2 s30.2) fun x33=>
 bnd ((cg .u32 (x33:UInt32) (UInt64.toNat 24:Int):Option UInt32)) fun(x34:UInt32)=>
 letm ((av (UInt32.toNat x34:Int))) fun x35=>
 bnd ((cg .u32 (x33:UInt32) (UInt64.toNat 16:Int):Option UInt32)) fun(x36:UInt32)=>
 letm ((av (UInt32.toNat x36:Int))) fun x37=>
 bnd ((cg .u32 (x33:UInt32) (UInt64.toNat 8:Int):Option UInt32)) fun(x38:UInt32)=>
 letm ((av (UInt32.toNat x38:Int))) fun x39=>
 letm ((av (UInt32.toNat x33:Int))) fun x40=>
 bnd (app s30.1 [x35,x37,x39,x40]) fun x41=>
 letm ((aA (s30.2+1))) fun x42=>
 self31 (x41,x42))
 (some s30.1)) bA ([],0))) bA (x23,(s2.2,s12.2)))) bA (0,[(aq 0),(aq 0),(aq 0),(aq 0),(aq 0),(aq 0),(aq 0),(aq 0)]))) bA (0,[(aq 0),(aq 0),(aq 0),(aq 0),(aq 0),(aq 0),(aq 0),(aq 0),(aq 0),(aq 0),(aq 0),(aq 0),(aq 0),(aq 0),(aq 0),(aq 0),(aq 0),(aq 0),(aq 0),(aq 0),(aq 0),(aq 0),(aq 0),(aq 0),(aq 0),(aq 0),(aq 0),(aq 0),(aq 0),(aq 0),(aq 0),(aq 0),(aq 0),(aq 0),(aq 0),(aq 0),(aq 0),(aq 0),(aq 0),(aq 0),(aq 0),(aq 0),(aq 0),(aq 0),(aq 0),(aq 0),(aq 0),(aq 0),(aq 0),(aq 0),(aq 0),(aq 0),(aq 0),(aq 0),(aq 0),(aq 0),(aq 0),(aq 0),(aq 0),(aq 0),(aq 0),(aq 0),(aq 0),(aq 0)])
def ki(a0:(List UInt8))(a1:UInt8):Option (List UInt8):=
 bnd (β:=(List UInt8)) (letm (decide (64<(a0.length:Int))) fun x2=>
 cond x2 (bnd (f0 a0) fun x3=>
 some x3)
 (some a0)) fun v4=>
 bnd (LA 64 0) fun x5=>
 letm ((FG x5 v4)) fun x6=>
 bnd (rng (x6.length:Int)) fun j18=>
 jB (R:=(List UInt8)) (S:=(List UInt8)) (fun _ s8=>
 some s8)
 (fun k9 s10 self11=>
 bnd (aI s10 (k9:Int)) fun _=>
 bnd (aI s10 ((((k9:Int):Int)).toNat:Int)) fun x13=>
 letm ((av (bits .xor .u8 (UInt8.toNat x13) (UInt8.toNat a1)))) fun x14=>
 bnd (aI s10 (k9:Int)) fun _=>
 bnd (aI s10 ((((k9:Int):Int)).toNat:Int)) fun _=>
 letm ((s10.set (((k9:Int):Int)).toNat x14)) fun x17=>
 self11 x17) j18 0 x6
def mM(a0:(List (List UInt8))):Option (List UInt8):=
 cF (R:=(List UInt8)) (S:=(List UInt8)) (α:=(List UInt8)) (fun _ s2=>
 some s2)
 (fun x3 _ s5 self6=>
 bnd (app s5 x3) fun x7=>
 self6 x7) a0 0 []
def pq(a0:(List UInt8))(a1:(List UInt8)):Option (List UInt8):=
 bnd (ki a0 92) fun x2=>
 bnd (ki a0 54) fun x3=>
 bnd (mM [x3,a1]) fun x4=>
 bnd (f0 x4) fun x5=>
 bnd (mM [x2,x5]) fun x6=>
 bnd (f0 x6) fun x7=>
 some x7
def gQ(a0:ax)(a1:(List UInt8))(a2:(List UInt8))(a3:(List UInt8)):Option (dT×Int):=
 bnd (fq a0) fun x4=>
 letm ((!x4)) fun x5=>
 cond x5 (some ((((Tr.mk 0 0 [] []),(Tr.mk 0 0 [] [])),([],[])),1))
 (bnd (β:=Int) (bnd (ml a0) fun x6=>
 letm ((x6==4)) fun x7=>
 cond x7 (some 8)
 (letm ((x6==5)) fun x8=>
 cond x8 (some 32)
 (some 0))) fun v9=>
 bnd (β:=Bool) (letm ((v9==0)) fun x10=>
 cond x10 (some true)
 (letm (((a3.length:Int)==0)) fun x11=>
 some x11)) fun v12=>
 cond v12 (some ((((Tr.mk 0 0 [] []),(Tr.mk 0 0 [] [])),([],[])),12))
 (letm (decide (4096<(a2.length:Int))) fun x13=>
 cond x13 (some ((((Tr.mk 0 0 [] []),(Tr.mk 0 0 [] [])),([],[])),8))
 (bnd (jk [77,65,67,48] a0 a1 [a2]) fun x14=>
 letm ((x14.2 != 0)) fun x15=>
 cond x15 (some ((((Tr.mk 0 0 [] []),(Tr.mk 0 0 [] [])),([],[])),x14.2))
 (bnd (jh a0) fun x16=>
 bnd (aJ a2) fun x17=>
 bnd (pq a3 x14.1) fun x18=>
 bnd (Gk.cut x18 0 v9) fun x19=>
 bnd (Gk.cut x19 0 v9) fun x20=>
 some ((x16,(x17,x20)),0)))))
def iP(a0:Int)(a1:dT):Option ((List UInt8)×Int):=
 bnd (fo a1.1) fun x2=>
 bnd (β:=Bool) (letm ((x2.2 != 0)) fun x3=>
 cond x3 (some true)
 (letm (decide (a0<16)) fun x4=>
 cond x4 (some true)
 (letm (decide (18<a0)) fun x5=>
 cond x5 (some true)
 (letm ((a0==16)) fun x6=>
 cond x6 (letm (decide (0<(a1.2.2.length:Int))) fun x7=>
 some x7)
 (some false))))) fun v8=>
 cond v8 (some ([],1))
 (bnd (ej x2.1) fun x9=>
 bnd (ej a1.2.1) fun x10=>
 bnd (β:=(List Go.Gk.Tr)) (letm ((a0 != 16)) fun x11=>
 cond x11 (bnd (ej a1.2.2) fun x12=>
 bnd (app [x9,a1.1.2,x10] [x12]) fun x13=>
 some x13)
 (some [x9,a1.1.2,x10])) fun v14=>
 letm ((aB a0)) fun x15=>
 bnd (dP (Tr.mk 6 x15 [] [(Tr.mk 4 0 [] v14)])) fun x16=>
 letm ((x16.2 != 0)) fun x17=>
 cond x17 (some ([],8))
 (some (x16.1,0)))
def il(a0:aW):Option Bool:=
 bnd (Gk.shr a0.2.1 (UInt64.toNat 5:Int)) fun x1=>
 bnd (β:=Bool) (letm (decide (a0.1<0)) fun x2=>
 cond x2 (some true)
 (letm (decide (3<a0.1)) fun x3=>
 cond x3 (some true)
 (letm (decide (a0.2.1<0)) fun x4=>
 cond x4 (some true)
 (letm (decide (255<a0.2.1)) fun x5=>
 cond x5 (some true)
 (letm ((x1 != 0)) fun x6=>
 cond x6 (letm ((x1 != 2)) fun x7=>
 cond x7 (letm ((x1 != 4)) fun x8=>
 cond x8 (letm ((x1 != 5)) fun x9=>
 some x9)
 (some false))
 (some false))
 (some false)))))) fun v10=>
 cond v10 (some false)
 (bnd (β:=Bool) (letm (decide (a0.2.2.1<0)) fun x11=>
 cond x11 (some true)
 (letm (decide (65535<a0.2.2.1)) fun x12=>
 cond x12 (some true)
 (letm (decide (8<(a0.2.2.2.1.length:Int))) fun x13=>
 cond x13 (some true)
 (letm (decide (32<(a0.2.2.2.2.1.length:Int))) fun x14=>
 some x14)))) fun v15=>
 cond v15 (some false)
 (cF (R:=Bool) (S:=Int) (α:=a6) (fun _ _=>
 bnd (β:=Bool) (letm ((a0.2.1==0)) fun x18=>
 cond x18 (letm ((aA ((a0.2.2.2.1.length:Int)+(a0.2.2.2.2.1.length:Int)))) fun x19=>
 letm ((aA (x19+(a0.2.2.2.2.2.length:Int)))) fun x20=>
 letm (decide (0<x20)) fun x21=>
 some x21)
 (some false)) fun v22=>
 cond v22 (some false)
 (bnd (β:=Bool) (letm ((a0.1 != 3)) fun x23=>
 cond x23 (letm (decide ((a0.2.2.2.2.2.length:Int)≤4096)) fun x24=>
 some x24)
 (letm ((a0.2.1==0)) fun x25=>
 cond x25 (letm (decide ((a0.2.2.2.2.2.length:Int)≤4096)) fun x26=>
 some x26)
 (some false))) fun v27=>
 some v27))
 (fun x28 _ s30 self31=>
 bnd (β:=Bool) (letm (decide (x28.1<s30)) fun x32=>
 cond x32 (some true)
 (letm (decide (65535<x28.1)) fun x33=>
 cond x33 (some true)
 (letm (decide (1034<(x28.2.length:Int))) fun x34=>
 some x34))) fun v35=>
 cond v35 (some false)
 (self31 x28.1)) a0.2.2.2.2.1 0 0))
def gW(a0:Int):Option (UInt8×(List UInt8)):=
 letm (decide (a0<13)) fun x1=>
 cond x1 (letm ((av a0)) fun x2=>
 some (x2,[]))
 (letm (decide (a0<269)) fun x3=>
 cond x3 (letm ((aA (a0-13))) fun x4=>
 letm ((av x4)) fun x5=>
 some (13,[x5]))
 (letm ((aA (a0-269))) fun x6=>
 bnd (Gk.shr x6 (UInt64.toNat 8:Int)) fun x7=>
 letm ((av x7)) fun x8=>
 letm ((aA (a0-269))) fun x9=>
 letm ((av x9)) fun x10=>
 some (14,[x8,x10])))
def gk(a0:aW):Option (List UInt8):=
 bnd (Gk.shl a0.1 (UInt64.toNat 4:Int)) fun x1=>
 letm ((sS .or 64 x1)) fun x2=>
 letm ((sS .or x2 (a0.2.2.2.1.length:Int))) fun x3=>
 letm ((av x3)) fun x4=>
 letm ((av a0.2.1)) fun x5=>
 bnd (Gk.shr a0.2.2.1 (UInt64.toNat 8:Int)) fun x6=>
 letm ((av x6)) fun x7=>
 letm ((av a0.2.2.1)) fun x8=>
 bnd (app [x4,x5,x7,x8] a0.2.2.2.1) fun x9=>
 cF (R:=(List UInt8)) (S:=((List UInt8)×Int)) (α:=a6) (fun _ s11=>
 bnd (β:=(List UInt8)) (letm (decide (0<(a0.2.2.2.2.2.length:Int))) fun x12=>
 cond x12 (bnd (app s11.1 [255]) fun x13=>
 bnd (app x13 a0.2.2.2.2.2) fun x14=>
 some x14)
 (some s11.1)) fun v15=>
 some v15)
 (fun x16 _ s18 self19=>
 letm ((aA (x16.1-s18.2))) fun x20=>
 bnd (gW x20) fun x21=>
 bnd (gW (x16.2.length:Int)) fun x22=>
 bnd (dO .u8 x21.1 (UInt64.toNat 4:Int)) fun x23=>
 letm ((av (bits .or .u8 (UInt8.toNat x23) (UInt8.toNat x22.1)))) fun x24=>
 bnd (app s18.1 [x24]) fun x25=>
 bnd (app x25 x21.2) fun x26=>
 bnd (app x26 x22.2) fun x27=>
 bnd (app x27 x16.2) fun x28=>
 self19 (x28,x16.1)) a0.2.2.2.2.1 0 (x9,0)
def la(a0:aW):Option ((List UInt8)×Int):=
 bnd (il a0) fun x1=>
 letm ((!x1)) fun x2=>
 cond x2 (some ([],1))
 (bnd (gk a0) fun x3=>
 letm (decide (4096<(x3.length:Int))) fun x4=>
 cond x4 (some ([],1))
 (some (x3,0)))
def bD(a0:ck)(a1:Int):Option ((List UInt8)×ck):=
 letm (decide ((a0.1.length:Int)<a1)) fun x2=>
 cond x2 (letm ((min a1 4)) fun x3=>
 bnd (LA x3 0) fun x4=>
 some (x4,(a0.1,true)))
 (bnd (Gk.cut a0.1 0 a1) fun x5=>
 bnd (Gk.cut x5 0 a1) fun x6=>
 bnd (Gk.cut a0.1 a1 (a0.1.length:Int)) fun x7=>
 some (x6,(x7,a0.2)))
def cr(a0:ck)(a1:UInt8):Option (Int×ck):=
 fg (ρ:=(Int×ck)) (ρ':=(Int×ck)) (Y:=ck) (letm (((UInt8.toNat a1:Int)==(UInt8.toNat 13:Int))) fun x2=>
 cond x2 (bnd (bD a0 1) fun x3=>
 bnd (aI x3.1 0) fun x4=>
 letm ((aA (UInt8.toNat x4:Int))) fun x5=>
 letm ((aA (x5+13))) fun x6=>
 some (.inl (x6,x3.2)))
 (letm (((UInt8.toNat a1:Int)==(UInt8.toNat 14:Int))) fun x7=>
 cond x7 (bnd (bD a0 2) fun x8=>
 bnd (aI x8.1 0) fun x9=>
 letm ((aA (UInt8.toNat x9:Int))) fun x10=>
 bnd (Gk.shl x10 (UInt64.toNat 8:Int)) fun x11=>
 bnd (aI x8.1 1) fun x12=>
 letm ((aA (UInt8.toNat x12:Int))) fun x13=>
 letm ((aA (x11+x13))) fun x14=>
 letm ((aA (x14+269))) fun x15=>
 some (.inl (x15,x8.2)))
 (letm (((UInt8.toNat a1:Int)==(UInt8.toNat 15:Int))) fun x16=>
 cond x16 (some (.inr (a0.1,true)))
 (some (.inr a0))))) (fun q=>q) fun v17=>
 letm ((aA (UInt8.toNat a1:Int))) fun x18=>
 some (x18,v17)
def k_(a0:(List UInt8)):Option (aW×Int):=
 letm (decide (4096<(a0.length:Int))) fun x1=>
 cond x1 (some ((0,(0,(0,([],([],[]))))),8))
 (letm (decide ((a0.length:Int)<4)) fun x2=>
 cond x2 (some ((0,(0,(0,([],([],[]))))),2))
 (bnd (aI a0 0) fun x3=>
 bnd (cg .u8 x3 (UInt64.toNat 4:Int)) fun x4=>
 letm ((av (bits .and .u8 (UInt8.toNat x4) (UInt8.toNat 3)))) fun x5=>
 letm ((aA (UInt8.toNat x5:Int))) fun x6=>
 bnd (aI a0 1) fun x7=>
 letm ((aA (UInt8.toNat x7:Int))) fun x8=>
 bnd (aI a0 2) fun x9=>
 letm ((aA (UInt8.toNat x9:Int))) fun x10=>
 bnd (Gk.shl x10 (UInt64.toNat 8:Int)) fun x11=>
 bnd (aI a0 3) fun x12=>
 letm ((aA (UInt8.toNat x12:Int))) fun x13=>
 letm ((sS .or x11 x13)) fun x14=>
 bnd (Gk.cut a0 4 (a0.length:Int)) fun x15=>
 bnd (aI a0 0) fun x16=>
 letm ((av (bits .and .u8 (UInt8.toNat x16) (UInt8.toNat 15)))) fun x17=>
 letm ((aA (UInt8.toNat x17:Int))) fun x18=>
 bnd (bD (x15,false) x18) fun x19=>
 bnd (aJ x19.1) fun x20=>
 bnd (β:=((aW×(List a6))×ck)) (aM (R:=((aW×(List a6))×ck)) (S:=(Int×((aW×(List a6))×ck))) (fun self22 s21=>
 letm ((!s21.2.2.2)) fun x23=>
 cond x23 (letm (decide (0<(s21.2.2.1.length:Int))) fun x24=>
 cond x24 (bnd (aI s21.2.2.1 0) fun x25=>
 letm (((UInt8.toNat x25:Int) != (UInt8.toNat 255:Int))) fun x26=>
 cond x26 (bnd (bD s21.2.2 1) fun x27=>
 bnd (aI x27.1 0) fun x28=>
 bnd (cg .u8 x28 (UInt64.toNat 4:Int)) fun x29=>
 bnd (cr x27.2 x29) fun x30=>
 letm ((aA (s21.1+x30.1))) fun x31=>
 letm ((av (bits .and .u8 (UInt8.toNat x28) (UInt8.toNat 15)))) fun x32=>
 bnd (cr x30.2 x32) fun x33=>
 bnd (bD x33.2 x33.1) fun x34=>
 bnd (aJ x34.1) fun x35=>
 bnd (app s21.2.1.2 [(x31,x35)]) fun x36=>
 self22 (x31,((s21.2.1.1,x36),x34.2)))
 (some ((s21.2.1.1,s21.2.1.2),s21.2.2)))
 (some ((s21.2.1.1,s21.2.1.2),s21.2.2)))
 (some ((s21.2.1.1,s21.2.1.2),s21.2.2))) bA (0,(((x6,(x8,(x14,(x20,([],[]))))),[]),x19.2))) fun v37=>
 bnd (β:=(aW×(List a6))) (letm (decide (0<(v37.2.1.length:Int))) fun x38=>
 cond x38 (bnd (Gk.cut v37.2.1 1 (v37.2.1.length:Int)) fun x39=>
 bnd (aJ x39) fun x40=>
 some ((v37.1.1.1,(v37.1.1.2.1,(v37.1.1.2.2.1,(v37.1.1.2.2.2.1,(v37.1.1.2.2.2.2.1,x40))))),v37.1.2))
 (some (v37.1.1,v37.1.2))) fun v41=>
 cond v37.2.2 (some ((0,(0,(0,([],([],[]))))),4))
 (bnd (il (v41.1.1,(v41.1.2.1,(v41.1.2.2.1,(v41.1.2.2.2.1,(v41.2,v41.1.2.2.2.2.2)))))) fun x42=>
 letm ((!x42)) fun x43=>
 cond x43 (some ((0,(0,(0,([],([],[]))))),4))
 (bnd (gk (v41.1.1,(v41.1.2.1,(v41.1.2.2.1,(v41.1.2.2.2.1,(v41.2,v41.1.2.2.2.2.2)))))) fun x44=>
 bnd (bF x44 a0) fun x45=>
 letm ((!x45)) fun x46=>
 cond x46 (some ((0,(0,(0,([],([],[]))))),4))
 (some ((v41.1.1,(v41.1.2.1,(v41.1.2.2.1,(v41.1.2.2.2.1,(v41.2,v41.1.2.2.2.2.2))))),0))))))
def f5(a0:ak)(a1:Int):Option (UInt64×(Bool×ak)):=
 letm ((aA ((a0.1.length:Int)-a0.2.1))) fun x2=>
 letm (decide (x2<a1)) fun x3=>
 cond x3 (some (0,(false,a0)))
 (letm ((aA (a0.2.1+a1))) fun x4=>
 bnd (Gk.cut a0.1 a0.2.1 x4) fun x5=>
 bnd (rng (x5.length:Int)) fun j16=>
 jB (R:=(UInt64×(Bool×ak))) (S:=UInt64) (fun _ s7=>
 letm ((aA (a0.2.1+a1))) fun x8=>
 some (s7,(true,(a0.1,(x8,a0.2.2)))))
 (fun k9 s10 self11=>
 bnd (aI x5 (k9:Int)) fun x12=>
 bnd ((dO .u64 (s10:UInt64) (UInt64.toNat 8:Int):Option UInt64)) fun(x13:UInt64)=>
 letm ((aB (UInt8.toNat x12:Int))) fun x14=>
 letm ((aS .or .u64 (x13:UInt64) (x14:UInt64):UInt64)) fun x15=>
 self11 x15) j16 0 0)
def cf(a0:ak):Option (UInt8×(UInt64×(Int×ak))):=
 letm ((a0.2.1==(a0.1.length:Int))) fun x1=>
 cond x1 (some (0,(0,(2,a0))))
 (bnd (aI a0.1 a0.2.1) fun x2=>
 letm ((av (bits .and .u8 (UInt8.toNat x2) (UInt8.toNat 31)))) fun x3=>
 letm (decide ((UInt8.toNat 27:Int)<(UInt8.toNat x3:Int))) fun x4=>
 cond x4 (some (0,(0,(3,a0))))
 (letm ((aA (a0.2.1+1))) fun x5=>
 letm (decide ((UInt8.toNat x3:Int)<(UInt8.toNat 24:Int))) fun x6=>
 cond x6 (letm ((aB (UInt8.toNat x3:Int))) fun x7=>
 some (x2,(x7,(0,(a0.1,(x5,a0.2.2))))))
 (letm ((x3-24)) fun x8=>
 bnd (Gk.shl 1 (UInt8.toNat x8:Int)) fun x9=>
 bnd (f5 (a0.1,(x5,a0.2.2)) x9) fun x10=>
 letm ((!x10.2.1)) fun x11=>
 cond x11 (some (0,(0,(2,x10.2.2))))
 (bnd (β:=Bool) (bnd (cg .u8 x2 (UInt64.toNat 5:Int)) fun x12=>
 letm (decide ((UInt8.toNat x12:Int)<(UInt8.toNat 7:Int))) fun x13=>
 cond x13 (bnd (cj 0 x10.1) fun x14=>
 letm ((x3-24)) fun x15=>
 bnd (Gk.shl 1 (UInt8.toNat x15:Int)) fun x16=>
 letm ((aA (1+x16))) fun x17=>
 letm (((x14.length:Int) != x17)) fun x18=>
 some x18)
 (some false)) fun v19=>
 cond v19 (some (0,(0,(4,x10.2.2))))
 (some (x2,(x10.1,(0,x10.2.2))))))))
def kY(a0:Int):Option UInt64:=
 bnd (β:=UInt64) (letm (decide (0≤a0)) fun x1=>
 cond x1 (some 9218868437227405312)
 (some 18442240474082181120)) fun v2=>
 letm (v2) fun x3=>
 some x3
def uM(_a0:UInt64)(_a1:Int):Option (UInt64):=none
def jv(a0:UInt64):Option (UInt64×Int):=
 bnd (kX a0) fun x1=>
 letm ((MZ x1 (4503599627370496:UInt64))) fun x2=>
 cond x2 (bnd (gM .mul a0 (4841369599423283200:UInt64)) fun x3=>
 some (x3,(-52)))
 (some (a0,0))
def oU(a0:UInt64)(a1:Int):Option UInt64:=
 letm ((feq a0 (0:UInt64))) fun x2=>
 cond x2 (some a0)
 (bnd (β:=Bool) (bnd (jo a0 0) fun x3=>
 cond x3 (some true)
 (bnd (jt a0) fun x4=>
 some x4)) fun v5=>
 cond v5 (some a0)
 (bnd (jv a0) fun x6=>
 letm ((aA (a1+x6.2))) fun x7=>
 letm (x6.1) fun x8=>
 bnd ((cg .u64 (x8:UInt64) (UInt64.toNat 52:Int):Option UInt64)) fun(x9:UInt64)=>
 letm ((aA (UInt64.toNat x9:Int))) fun x10=>
 letm ((sS .and x10 2047)) fun x11=>
 letm ((aA (x11-1023))) fun x12=>
 letm ((aA (x7+x12))) fun x13=>
 letm (decide (x13<(-1075))) fun x14=>
 cond x14 (bnd (dF (0:UInt64) x6.1) fun x15=>
 some x15)
 (letm (decide (1023<x13)) fun x16=>
 cond x16 (letm ((MZ x6.1 (0:UInt64))) fun x17=>
 cond x17 (bnd (kY (-1)) fun x18=>
 some x18)
 (bnd (kY 1) fun x19=>
 some x19))
 (bnd (β:=(Int×UInt64)) (letm (decide (x13<(-1022))) fun x20=>
 cond x20 (letm ((aA (x13+53))) fun x21=>
 some (x21,(4368491638549381120:UInt64)))
 (some (x13,(4607182418800017408:UInt64)))) fun v22=>
 letm ((aS .andNot .u64 (x8:UInt64) (9218868437227405312:UInt64):UInt64)) fun x23=>
 letm ((aA (v22.1+1023))) fun x24=>
 letm ((aB x24)) fun x25=>
 bnd ((dO .u64 (x25:UInt64) (UInt64.toNat 52:Int):Option UInt64)) fun(x26:UInt64)=>
 letm ((aS .or .u64 (x23:UInt64) (x26:UInt64):UInt64)) fun x27=>
 letm (x27) fun x28=>
 bnd (gM .mul v22.2 x28) fun x29=>
 some x29))))
def fh(a0:UInt64)(a1:Int):Option UInt64:=
 bnd (oU a0 a1) fun x2=>
 some x2
def g_(a0:Int):Option UInt64:=
 letm ((aS .and .u16 a0 1023)) fun x1=>
 letm ((EJ (Gk.cO .u16 x1))) fun x2=>
 bnd (cg .u16 a0 (UInt64.toNat 10:Int)) fun x3=>
 letm ((aS .and .u16 x3 31)) fun x4=>
 letm ((aA (Gk.cO .u16 x4))) fun x5=>
 fg (ρ:=UInt64) (ρ':=UInt64) (Y:=UInt64) (letm ((x5==31)) fun x6=>
 cond x6 (letm ((aS .and .u16 a0 1023)) fun x7=>
 letm (((Gk.cO .u16 x7) != (Gk.cO .u16 0))) fun x8=>
 cond x8 (some (.inl 9221120237041090560))
 (bnd (kY 1) fun x9=>
 some (.inr x9)))
 (letm ((x5==0)) fun x10=>
 cond x10 (bnd (fh x2 (-24)) fun x11=>
 some (.inr x11))
 (bnd (gM .add x2 (4652218415073722368:UInt64)) fun x12=>
 letm ((aA (x5-25))) fun x13=>
 bnd (fh x12 x13) fun x14=>
 some (.inr x14)))) (fun q=>q) fun v15=>
 bnd (β:=UInt64) (bnd (cg .u16 a0 (UInt64.toNat 15:Int)) fun x16=>
 letm (((Gk.cO .u16 x16)==(Gk.cO .u16 1))) fun x17=>
 cond x17 (bnd (dF v15 (13830554455654793216:UInt64)) fun x18=>
 some x18)
 (some v15)) fun v19=>
 letm (v19) fun x20=>
 some x20
def cW(a0:UInt8)(a1:UInt64):Option (Go.Gk.Tr×Int):=
 fg (ρ:=(Go.Gk.Tr×Int)) (ρ':=(Go.Gk.Tr×Int)) (Y:=(UInt64×Go.Gk.Tr)) (letm ((av (bits .and .u8 (UInt8.toNat a0) (UInt8.toNat 31)))) fun x2=>
 letm (((UInt8.toNat x2:Int)==(UInt8.toNat 24:Int))) fun x3=>
 cond x3 (letm (decide ((UInt64.toNat a1:Int)<(UInt64.toNat 32:Int))) fun x4=>
 cond x4 (some (.inl ((Tr.mk 0 0 [] []),4)))
 (some (.inl ((Tr.mk 7 a1 [] []),0))))
 (letm (((UInt8.toNat x2:Int)==(UInt8.toNat 25:Int))) fun x5=>
 cond x5 (letm ((Gk.fX .u16 (UInt64.toNat a1:Int))) fun x6=>
 bnd (g_ x6) fun x7=>
 bnd (β:=Bool) (letm (((UInt64.toNat x7:Int)==(UInt64.toNat 9221120237041090560:Int))) fun x8=>
 cond x8 (letm (((UInt64.toNat a1:Int) != (UInt64.toNat 32256:Int))) fun x9=>
 some x9)
 (some false)) fun v10=>
 cond v10 (some (.inl ((Tr.mk 0 0 [] []),4)))
 (some (.inr (x7,(Tr.mk 0 0 [] [])))))
 (letm (((UInt8.toNat x2:Int)==(UInt8.toNat 26:Int))) fun x11=>
 cond x11 (letm ((aq (UInt64.toNat a1:Int))) fun x12=>
 letm (x12) fun x13=>
 bnd (vm x13) fun x14=>
 letm (x14) fun x15=>
 some (.inr (x15,(Tr.mk 0 0 [] []))))
 (letm (((UInt8.toNat x2:Int)==(UInt8.toNat 27:Int))) fun x16=>
 cond x16 (some (.inr (a1,(Tr.mk 0 0 [] []))))
 (some (.inl ((Tr.mk 7 a1 [] []),0))))))) (fun q=>q) fun v17=>
 bnd (ef v17.1) fun x18=>
 letm ((av (bits .and .u8 (UInt8.toNat a0) (UInt8.toNat 31)))) fun x19=>
 letm ((x19-24)) fun x20=>
 bnd (Gk.shl 1 (UInt8.toNat x20:Int)) fun x21=>
 letm ((aA (1+x21))) fun x22=>
 letm (((x18.length:Int) != x22)) fun x23=>
 cond x23 (some ((Tr.mk 0 0 [] []),4))
 (some ((Tr.mk 8 v17.1 [] []),0))
def jG(cz:(ak)→(Int)→Option (Go.Gk.Tr×(Int×ak)))(a0:ak)(a1:UInt64)(a2:Int):Option (Go.Gk.Tr×(Int×ak)):=
 aM (R:=(Go.Gk.Tr×(Int×ak))) (S:=((List UInt8)×(UInt64×(ak×(Go.Gk.Tr×(Go.Gk.Tr×(List Go.Gk.Tr))))))) (fun self4 s3=>
 letm (decide ((UInt64.toNat s3.2.1:Int)<(UInt64.toNat a1:Int))) fun x5=>
 cond x5 (bnd (cz s3.2.2.1 a2) fun x6=>
 letm ((x6.2.1 != 0)) fun x7=>
 cond x7 (some ((Tr.mk 0 0 [] []),(x6.2.1,x6.2.2)))
 (bnd (Gk.cut x6.2.2.1 s3.2.2.1.2.1 x6.2.2.2.1) fun x8=>
 fg (ρ:=(Go.Gk.Tr×(Int×ak))) (ρ':=(Go.Gk.Tr×(Int×ak))) (Y:=Go.Gk.Tr) (letm (decide ((UInt64.toNat 0:Int)<(UInt64.toNat s3.2.1:Int))) fun x9=>
 cond x9 (bnd (dl x8 s3.1) fun x10=>
 letm ((x10==0)) fun x11=>
 cond x11 (some (.inl ((Tr.mk 0 0 [] []),(7,x6.2.2))))
 (letm (decide (x10<0)) fun x12=>
 cond x12 (some (.inl ((Tr.mk 0 0 [] []),(6,x6.2.2))))
 (some (.inr s3.2.2.2.1))))
 (some (.inr s3.2.2.2.1))) (fun q=>q) fun v13=>
 bnd (cz x6.2.2 a2) fun x14=>
 letm ((x14.2.1 != 0)) fun x15=>
 cond x15 (some ((Tr.mk 0 0 [] []),(x14.2.1,x14.2.2)))
 (bnd (app s3.2.2.2.2.2 [x6.1,x14.1]) fun x16=>
 letm ((s3.2.1+1)) fun x17=>
 self4 (x8,(x17,(x14.2.2,(v13,(s3.2.2.2.2.1,x16))))))))
 (some ((Tr.mk s3.2.2.2.2.1.k s3.2.2.2.2.1.n s3.2.2.2.2.1.b s3.2.2.2.2.2),(0,s3.2.2.1)))) bA ([],(0,(a0,((Tr.mk 0 0 [] []),((Tr.mk 5 0 [] []),[])))))
def gZ(cz:(ak)→(Int)→Option (Go.Gk.Tr×(Int×ak)))(a0:ak)(a1:Int):Option (Go.Gk.Tr×(Int×ak)):=
 letm ((a0.2.2==256)) fun x2=>
 cond x2 (some ((Tr.mk 0 0 [] []),(8,a0)))
 (letm ((aA (a0.2.2+1))) fun x3=>
 bnd (cf (a0.1,(a0.2.1,x3))) fun x4=>
 letm ((x4.2.2.1 != 0)) fun x5=>
 cond x5 (some ((Tr.mk 0 0 [] []),(x4.2.2.1,x4.2.2.2)))
 (bnd (cg .u8 x4.1 (UInt64.toNat 5:Int)) fun x6=>
 letm ((aA (UInt8.toNat x6:Int))) fun x7=>
 bnd (β:=Bool) (letm ((x7==0)) fun x8=>
 cond x8 (some true)
 (letm ((x7==1)) fun x9=>
 some x9)) fun v10=>
 cond v10 (some ((Tr.mk x7 x4.2.1 [] []),(0,x4.2.2.2)))
 (bnd (β:=Bool) (letm ((x7==2)) fun x11=>
 cond x11 (some true)
 (letm ((x7==3)) fun x12=>
 some x12)) fun v13=>
 cond v13 (letm ((aA ((x4.2.2.2.1.length:Int)-x4.2.2.2.2.1))) fun x14=>
 letm ((aB x14)) fun x15=>
 letm (decide ((UInt64.toNat x15:Int)<(UInt64.toNat x4.2.1:Int))) fun x16=>
 cond x16 (some ((Tr.mk 0 0 [] []),(2,x4.2.2.2)))
 (letm ((aA (UInt64.toNat x4.2.1:Int))) fun x17=>
 letm ((aA (x4.2.2.2.2.1+x17))) fun x18=>
 bnd (Gk.cut x4.2.2.2.1 x4.2.2.2.2.1 x18) fun x19=>
 bnd (aJ x19) fun x20=>
 letm ((aA (UInt64.toNat x4.2.1:Int))) fun x21=>
 letm ((aA (x4.2.2.2.2.1+x21))) fun x22=>
 bnd (β:=Bool) (letm ((x7==3)) fun x23=>
 cond x23 (bnd (bw x20) fun x24=>
 letm ((!x24)) fun x25=>
 some x25)
 (some false)) fun v26=>
 cond v26 (some ((Tr.mk 0 0 [] []),(5,(x4.2.2.2.1,(x22,x4.2.2.2.2.2)))))
 (some ((Tr.mk x7 0 x20 []),(0,(x4.2.2.2.1,(x22,x4.2.2.2.2.2)))))))
 (letm ((x7==7)) fun x27=>
 cond x27 (bnd (cW x4.1 x4.2.1) fun x28=>
 some (x28.1,(x28.2,x4.2.2.2)))
 (letm (decide (8≤a1)) fun x29=>
 cond x29 (some ((Tr.mk 0 0 [] []),(8,x4.2.2.2)))
 (letm ((x7==5)) fun x30=>
 cond x30 (letm ((aA (a1+1))) fun x31=>
 bnd (jG cz x4.2.2.2 x4.2.1 x31) fun x32=>
 some (x32.1,(x32.2.1,x32.2.2)))
 (letm ((x7==6)) fun x33=>
 cond x33 (letm ((aA (a1+1))) fun x34=>
 bnd (cz x4.2.2.2 x34) fun x35=>
 letm ((x35.2.1 != 0)) fun x36=>
 cond x36 (some ((Tr.mk 0 0 [] []),(x35.2.1,x35.2.2)))
 (some ((Tr.mk x7 x4.2.1 [] [x35.1]),(0,x35.2.2))))
 (fg (ρ:=(Go.Gk.Tr×(Int×ak))) (ρ':=(Go.Gk.Tr×(Int×ak))) (Y:=(ak×(Go.Gk.Tr×(Go.Gk.Tr×(List Go.Gk.Tr))))) (aM (R:=((Go.Gk.Tr×(Int×ak))⊕(ak×(Go.Gk.Tr×(Go.Gk.Tr×(List Go.Gk.Tr)))))) (S:=(UInt64×(ak×(Go.Gk.Tr×(Go.Gk.Tr×(List Go.Gk.Tr)))))) (fun self38 s37=>
 letm (decide ((UInt64.toNat 0:Int)<(UInt64.toNat s37.1:Int))) fun x39=>
 cond x39 (letm ((aA (a1+1))) fun x40=>
 bnd (cz s37.2.1 x40) fun x41=>
 letm ((x41.2.1 != 0)) fun x42=>
 cond x42 (some (.inl ((Tr.mk 0 0 [] []),(x41.2.1,x41.2.2))))
 (bnd (app s37.2.2.2.2 [x41.1]) fun x43=>
 letm ((s37.1-1)) fun x44=>
 self38 (x44,(x41.2.2,(s37.2.2.1,(s37.2.2.2.1,x43))))))
 (some (.inr (s37.2.1,(s37.2.2.1,(s37.2.2.2.1,s37.2.2.2.2)))))) bA (x4.2.1,(x4.2.2.2,((Tr.mk 0 0 [] []),((Tr.mk x7 0 [] []),[]))))) (fun q=>q) fun v45=>
 some ((Tr.mk v45.2.2.1.k v45.2.2.1.n v45.2.2.1.b v45.2.2.2),(0,v45.1))))))))))
def gV(n:Nat):(ak)→(Int)→Option (Go.Gk.Tr×(Int×ak)):=Nat.rec (motive:=fun _=>(ak)→(Int)→Option (Go.Gk.Tr×(Int×ak))) (fun _ _=>none) (fun _ ih=>gZ ih) n
def cz(a0:ak)(a1:Int):Option (Go.Gk.Tr×(Int×ak)):=gV 40 a0 a1
def lb(a0:(List UInt8)):Option (Go.Gk.Tr×aH):=
 letm ((min (a0.length:Int) 4096)) fun x1=>
 bnd (Gk.cut a0 0 x1) fun x2=>
 bnd (cz (x2,(0,0)) 0) fun x3=>
 letm ((x3.2.1 != 0)) fun x4=>
 cond x4 (some ((Tr.mk 0 0 [] []),(0,x3.2.1)))
 (some (x3.1,(x3.2.2.2.1,0)))
def iz(a0:(List UInt8)):Option (Go.Gk.Tr×Int):=
 letm (decide (4096<(a0.length:Int))) fun x1=>
 cond x1 (some ((Tr.mk 0 0 [] []),8))
 (bnd (lb a0) fun x2=>
 letm ((x2.2.2 != 0)) fun x3=>
 cond x3 (some ((Tr.mk 0 0 [] []),x2.2.2))
 (letm (decide (x2.2.1<(a0.length:Int))) fun x4=>
 cond x4 (some ((Tr.mk 0 0 [] []),9))
 (some (x2.1,0))))
def iR(a0:Go.Gk.Tr):Option (Int×(List Go.Gk.Tr)):=
 bnd (β:=Bool) (letm ((a0.k != 6)) fun x1=>
 cond x1 (some true)
 (letm (decide ((UInt64.toNat a0.n:Int)<(UInt64.toNat 16:Int))) fun x2=>
 cond x2 (some true)
 (letm (decide ((UInt64.toNat 18:Int)<(UInt64.toNat a0.n:Int))) fun x3=>
 cond x3 (some true)
 (bnd (aI a0.l 0) fun x4=>
 letm ((x4.k != 4)) fun x5=>
 some x5)))) fun v6=>
 cond v6 (some (0,[]))
 (bnd (β:=(List Int)) (letm (((UInt64.toNat a0.n:Int)==(UInt64.toNat 16:Int))) fun x7=>
 cond x7 (bnd (Gk.cut [2,5,2,2] 0 3) fun x8=>
 some x8)
 (some [2,5,2,2])) fun v9=>
 bnd (aI a0.l 0) fun x10=>
 letm (((x10.l.length:Int) != (v9.length:Int))) fun x11=>
 cond x11 (some (0,[]))
 (cF (R:=(Int×(List Go.Gk.Tr))) (S:=Unit) (α:=Int) (fun _ _=>
 letm ((aA (UInt64.toNat a0.n:Int))) fun x14=>
 some (x14,x10.l))
 (fun x15 k16 _ self18=>
 bnd (aI x10.l (k16:Int)) fun x19=>
 letm ((x19.k != x15)) fun x20=>
 cond x20 (some (0,[]))
 (self18 ())) v9 0 ()))
def pW:Option ax:=
 some ((Tr.mk 5 0 [] []),(Tr.mk 5 0 [] []))
def iS(a0:(List UInt8)):Option (Int×(dT×Int)):=
 bnd (iz a0) fun x1=>
 letm ((x1.2 != 0)) fun x2=>
 cond x2 (some (0,((((Tr.mk 0 0 [] []),(Tr.mk 0 0 [] [])),([],[])),x1.2)))
 (bnd (iR x1.1) fun x3=>
 bnd ((PU false x3.2)) fun x4=>
 cond x4 (some (0,((((Tr.mk 0 0 [] []),(Tr.mk 0 0 [] [])),([],[])),4)))
 (bnd (pW) fun x5=>
 bnd (aI x3.2 2) fun x6=>
 bnd (aI x3.2 1) fun x7=>
 fg (ρ:=(Int×(dT×Int))) (ρ':=(Int×(dT×Int))) (Y:=(dT×dT)) (bnd (aI x3.2 0) fun x8=>
 letm (decide (0<(x8.b.length:Int))) fun x9=>
 cond x9 (bnd (aI x3.2 0) fun x10=>
 bnd (iz x10.b) fun x11=>
 bnd (β:=Bool) (letm ((x11.2 != 0)) fun x12=>
 cond x12 (some true)
 (letm (((x11.1.l.length:Int)==0)) fun x13=>
 some x13)) fun v14=>
 cond v14 (some (.inl (0,((((Tr.mk 0 0 [] []),(Tr.mk 0 0 [] [])),([],[])),4))))
 (some (.inr ((((Tr.mk 0 0 [] []),(Tr.mk 0 0 [] [])),([],[])),((x11.1,x7),(x6.b,[]))))))
 (some (.inr ((((Tr.mk 0 0 [] []),(Tr.mk 0 0 [] [])),([],[])),((x5.1,x7),(x6.b,[])))))) (fun q=>q) fun v15=>
 bnd (β:=dT) (letm (((x3.2.length:Int)==4)) fun x16=>
 cond x16 (bnd (aI x3.2 3) fun x17=>
 some (v15.2.1,(v15.2.2.1,x17.b)))
 (some v15.2)) fun v18=>
 bnd (fq v18.1) fun x19=>
 letm ((!x19)) fun x20=>
 cond x20 (some (0,((((Tr.mk 0 0 [] []),(Tr.mk 0 0 [] [])),([],[])),4)))
 (some (x3.1,(v18,0)))))
def h_(a0:Go.Gk.Tr):Option (Int×Bool):=
 letm (decide ((UInt64.toNat 1048576:Int)<(UInt64.toNat a0.n:Int))) fun x1=>
 cond x1 (some (0,false))
 (letm ((a0.k==0)) fun x2=>
 cond x2 (letm ((aA (UInt64.toNat a0.n:Int))) fun x3=>
 some (x3,true))
 (letm ((a0.k==1)) fun x4=>
 cond x4 (letm ((aA (UInt64.toNat a0.n:Int))) fun x5=>
 letm ((aA ((-1)-x5))) fun x6=>
 some (x6,true))
 (some (0,false))))
def mB(a0:Go.Gk.Tr)(a1:Go.Gk.Tr):Option Int:=
 bnd (β:=Bool) (bnd (bG a0) fun x2=>
 letm ((!x2)) fun x3=>
 cond x3 (some true)
 (bnd (bG a1) fun x4=>
 letm ((!x4)) fun x5=>
 some x5)) fun v6=>
 cond v6 (some 0)
 (bnd (db [] a0) fun x7=>
 bnd (db [] a1) fun x8=>
 bnd (dl x7 x8) fun x9=>
 some x9)
def jf(a0:Go.Gk.Tr):Option (aD×Int):=
 bnd (bG a0) fun x1=>
 letm ((!x1)) fun x2=>
 cond x2 (some ((0,(0,(0,([],([],([],[])))))),1))
 (letm ((a0.k != 5)) fun x3=>
 cond x3 (some ((0,(0,(0,([],([],([],[])))))),12))
 (aM (R:=(aD×Int)) (S:=(Int×(aD×aD))) (fun self5 s4=>
 letm (decide (s4.1<(a0.l.length:Int))) fun x6=>
 cond x6 (fg (ρ:=(aD×Int)) (ρ':=(aD×Int)) (Y:=(aD×aD)) (bnd (aI a0.l s4.1) fun x7=>
 bnd (h_ x7) fun x8=>
 letm ((aA (s4.1+1))) fun x9=>
 bnd (aI a0.l x9) fun x10=>
 bnd (h_ x10) fun x11=>
 bnd (β:=Bool) (cond x8.2 (cond x11.2 (cond (x8.1==1) (letm ((!false)) fun x12=>
 some x12)
 (cond (x8.1==3) (letm ((!false)) fun x13=>
 some x13)
 (cond (x8.1==(-1)) (letm ((!false)) fun x14=>
 some x14)
 (letm ((!true)) fun x15=>
 some x15))))
 (some false))
 (some false)) fun v16=>
 cond v16 (cond (x8.1==1) (some (.inr (s4.2.1,(x11.1,s4.2.2.2))))
 (cond (x8.1==3) (some (.inr (s4.2.1,(s4.2.2.1,(s4.2.2.2.1,(x11.1,s4.2.2.2.2.2))))))
 (cond (x8.1==(-1)) (some (.inr (s4.2.1,(s4.2.2.1,(x11.1,s4.2.2.2.2)))))
 (none))))
 (cond (x8.1==2) (bnd (β:=Bool) (cond x8.2 (letm ((!false)) fun x17=>
 cond x17 (letm ((x10.k==2)) fun x18=>
 some x18)
 (some false))
 (some false)) fun v19=>
 cond v19 (bnd (aJ x10.b) fun x20=>
 some (.inr (s4.2.1,(s4.2.2.1,(s4.2.2.2.1,(s4.2.2.2.2.1,(x20,s4.2.2.2.2.2.2)))))))
 (some (.inl ((0,(0,(0,([],([],([],[])))))),12))))
 (cond (x8.1==(-1)) (bnd (β:=Bool) (cond x8.2 (letm ((!false)) fun x21=>
 cond x21 (letm ((x10.k==2)) fun x22=>
 some x22)
 (some false))
 (some false)) fun v23=>
 cond v23 (bnd (aJ x10.b) fun x24=>
 some (.inr (s4.2.1,(s4.2.2.1,(s4.2.2.2.1,(s4.2.2.2.2.1,(s4.2.2.2.2.2.1,(s4.2.2.2.2.2.2.1,(s4.2.2.2.2.2.2.2.1,x24)))))))))
 (some (.inl ((0,(0,(0,([],([],([],[])))))),12))))
 (cond (x8.1==(-2)) (bnd (β:=Bool) (cond x8.2 (letm ((!false)) fun x25=>
 cond x25 (letm ((x10.k==2)) fun x26=>
 some x26)
 (some false))
 (some false)) fun v27=>
 cond v27 (bnd (aJ x10.b) fun x28=>
 some (.inr (s4.2.1,(s4.2.2.1,(s4.2.2.2.1,(s4.2.2.2.2.1,(s4.2.2.2.2.2.1,(x28,s4.2.2.2.2.2.2.2))))))))
 (some (.inl ((0,(0,(0,([],([],([],[])))))),12))))
 (cond (x8.1==(-4)) (bnd (β:=Bool) (cond x8.2 (letm ((!false)) fun x29=>
 cond x29 (letm ((x10.k==2)) fun x30=>
 some x30)
 (some false))
 (some false)) fun v31=>
 cond v31 (bnd (aJ x10.b) fun x32=>
 some (.inr (s4.2.1,(s4.2.2.1,(s4.2.2.2.1,(s4.2.2.2.2.1,(s4.2.2.2.2.2.1,(s4.2.2.2.2.2.2.1,(x32,s4.2.2.2.2.2.2.2.2)))))))))
 (some (.inl ((0,(0,(0,([],([],([],[])))))),12))))
 (bnd (β:=Bool) (cond x8.2 (letm ((!true)) fun x33=>
 cond x33 (letm ((x10.k==2)) fun x34=>
 some x34)
 (some false))
 (some false)) fun v35=>
 cond v35 (bnd (aJ x10.b) fun _=>
 none)
 (some (.inl ((0,(0,(0,([],([],([],[])))))),12))))))))) (fun q=>q) fun v37=>
 letm ((aA (s4.1+2))) fun x38=>
 self5 (x38,(v37.1,v37.2)))
 (bnd (ic s4.2.2) fun x39=>
 bnd (β:=Bool) (letm ((x39.2 != 0)) fun x40=>
 cond x40 (some true)
 (bnd (mB a0 x39.1) fun x41=>
 letm ((x41 != 0)) fun x42=>
 some x42)) fun v43=>
 cond v43 (some ((0,(0,(0,([],([],([],[])))))),12))
 (some (s4.2.2,0)))) bA (0,((0,(0,(0,([],([],([],[])))))),(0,(0,(0,([],([],([],[]))))))))))
def ma(a0:(List UInt8)):Option (aD×Int):=
 bnd (iz a0) fun x1=>
 letm ((x1.2 != 0)) fun x2=>
 cond x2 (some ((0,(0,(0,([],([],([],[])))))),x1.2))
 (bnd (jf x1.1) fun x3=>
 some (x3.1,x3.2))
def dX(a0:UInt64):Option Int:=
 letm (decide ((UInt64.toNat a0:Int)<(UInt64.toNat 24:Int))) fun x1=>
 cond x1 (some 1)
 (letm (decide ((UInt64.toNat a0:Int)<(UInt64.toNat 256:Int))) fun x2=>
 cond x2 (some 2)
 (letm (decide ((UInt64.toNat a0:Int)<(UInt64.toNat 65536:Int))) fun x3=>
 cond x3 (some 3)
 (letm (decide ((UInt64.toNat a0:Int)<(UInt64.toNat 4294967296:Int))) fun x4=>
 cond x4 (some 5)
 (some 9))))
def bk(a0:ai)(a1:UInt8):Option (aO×(Int×ai)):=
 letm ((a0.2.2.1==256)) fun x2=>
 cond x2 (some ((0,(0,(0,0))),(8,a0)))
 (letm ((aA (a0.2.2.1+1))) fun x3=>
 letm ((a0.2.1==(a0.1.length:Int))) fun x4=>
 cond x4 (some ((0,(0,(0,0))),(2,(a0.1,(a0.2.1,(x3,a0.2.2.2))))))
 (bnd (aI a0.1 a0.2.1) fun x5=>
 bnd (cg .u8 x5 (UInt64.toNat 5:Int)) fun x6=>
 bnd (aI a0.1 a0.2.1) fun x7=>
 letm ((av (bits .and .u8 (UInt8.toNat x7) (UInt8.toNat 31)))) fun x8=>
 bnd (β:=Bool) (letm (decide ((UInt8.toNat 27:Int)<(UInt8.toNat x8:Int))) fun x9=>
 cond x9 (letm (decide ((UInt8.toNat x8:Int)<(UInt8.toNat 31:Int))) fun x10=>
 cond x10 (some true)
 (letm (decide ((UInt8.toNat x6:Int)<(UInt8.toNat 2:Int))) fun x11=>
 cond x11 (some true)
 (letm (decide ((UInt8.toNat 5:Int)<(UInt8.toNat x6:Int))) fun x12=>
 some x12)))
 (some false)) fun v13=>
 cond v13 (some ((0,(0,(0,0))),(3,(a0.1,(a0.2.1,(x3,a0.2.2.2))))))
 (bnd (β:=Bool) (letm (decide ((UInt8.toNat a1:Int)<(UInt8.toNat 8:Int))) fun x14=>
 cond x14 (letm (((UInt8.toNat x6:Int) != (UInt8.toNat a1:Int))) fun x15=>
 cond x15 (some true)
 (letm (((UInt8.toNat x8:Int)==(UInt8.toNat 31:Int))) fun x16=>
 some x16))
 (some false)) fun v17=>
 cond v17 (some ((0,(0,(0,0))),(4,(a0.1,(a0.2.1,(x3,a0.2.2.2))))))
 (letm ((aA (a0.2.1+1))) fun x18=>
 letm (((UInt8.toNat x8:Int)==(UInt8.toNat 31:Int))) fun x19=>
 cond x19 (some ((x6,(x8,(0,1))),(0,(a0.1,(x18,(x3,(true,a0.2.2.2.2)))))))
 (letm ((aB (UInt8.toNat x8:Int))) fun x20=>
 fg (ρ:=(aO×(Int×ai))) (ρ':=(aO×(Int×ai))) (Y:=(ai×(aO×aO))) (letm (decide ((UInt8.toNat 24:Int)≤(UInt8.toNat x8:Int))) fun x21=>
 cond x21 (letm ((x8-24)) fun x22=>
 bnd (Gk.shl 1 (UInt8.toNat x22:Int)) fun x23=>
 letm ((aA ((a0.1.length:Int)-x18))) fun x24=>
 letm (decide (x24<x23)) fun x25=>
 cond x25 (some (.inl ((0,(0,(0,0))),(2,(a0.1,(x18,(x3,a0.2.2.2)))))))
 (letm ((aA (x18+x23))) fun x26=>
 bnd (Gk.cut a0.1 x18 x26) fun x27=>
 bnd (rng (x27.length:Int)) fun j39=>
 jB (R:=((aO×(Int×ai))⊕(ai×(aO×aO)))) (S:=aO) (fun _ s29=>
 letm ((aA (x18+x23))) fun x30=>
 letm ((aA (1+x23))) fun x31=>
 some (.inr ((a0.1,(x30,(x3,a0.2.2.2))),((0,(0,(0,0))),(s29.1,(s29.2.1,(s29.2.2.1,x31)))))))
 (fun k32 s33 self34=>
 bnd (aI x27 (k32:Int)) fun x35=>
 bnd ((dO .u64 (s33.2.2.1:UInt64) (UInt64.toNat 8:Int):Option UInt64)) fun(x36:UInt64)=>
 letm ((aB (UInt8.toNat x35:Int))) fun x37=>
 letm ((aS .or .u64 (x36:UInt64) (x37:UInt64):UInt64)) fun(x38:UInt64)=>
 self34 (s33.1,(s33.2.1,(x38,s33.2.2.2)))) j39 0 (x6,(x8,(0,1)))))
 (some (.inr ((a0.1,(x18,(x3,a0.2.2.2))),((0,(0,(0,0))),(x6,(x8,(x20,1)))))))) (fun q=>q) fun v40=>
 bnd (β:=Bool) (letm (((UInt8.toNat v40.2.2.1:Int)==(UInt8.toNat 7:Int))) fun x41=>
 cond x41 (letm (((UInt8.toNat v40.2.2.2.1:Int)==(UInt8.toNat 24:Int))) fun x42=>
 cond x42 (letm (decide ((UInt64.toNat v40.2.2.2.2.1:Int)<(UInt64.toNat 32:Int))) fun x43=>
 some x43)
 (some false))
 (some false)) fun v44=>
 cond v44 (some ((0,(0,(0,0))),(4,v40.1)))
 (bnd (β:=ai) (bnd (β:=Bool) (letm (decide ((UInt8.toNat v40.2.2.1:Int)<(UInt8.toNat 7:Int))) fun x45=>
 cond x45 (bnd (dX v40.2.2.2.2.1) fun x46=>
 letm ((v40.2.2.2.2.2 != x46)) fun x47=>
 some x47)
 (some false)) fun v48=>
 cond v48 (some (v40.1.1,(v40.1.2.1,(v40.1.2.2.1,(true,v40.1.2.2.2.2)))))
 (some v40.1)) fun v49=>
 some (v40.2.2,(0,v49))))))))
def ct(a0:ai)(a1:aO):Option ((List UInt8)×(Int×ai)):=
 letm ((aA ((a0.1.length:Int)-a0.2.1))) fun x2=>
 letm ((aB x2)) fun x3=>
 letm (decide ((UInt64.toNat x3:Int)<(UInt64.toNat a1.2.2.1:Int))) fun x4=>
 cond x4 (some ([],(2,a0)))
 (letm ((aA (UInt64.toNat a1.2.2.1:Int))) fun x5=>
 letm ((aA (a0.2.1+x5))) fun x6=>
 bnd (Gk.cut a0.1 a0.2.1 x6) fun x7=>
 bnd (aJ x7) fun x8=>
 letm ((aA (UInt64.toNat a1.2.2.1:Int))) fun x9=>
 letm ((aA (a0.2.1+x9))) fun x10=>
 bnd (β:=ai) (bnd (β:=Bool) (letm (((UInt8.toNat a1.1:Int)==(UInt8.toNat 3:Int))) fun x11=>
 cond x11 (bnd (bw x8) fun x12=>
 letm ((!x12)) fun x13=>
 some x13)
 (some false)) fun v14=>
 cond v14 (some (a0.1,(x10,(a0.2.2.1,(a0.2.2.2.1,true)))))
 (some (a0.1,(x10,a0.2.2)))) fun v15=>
 some (x8,(0,v15)))
def cM(a0:ai):Option (Bool×ai):=
 bnd (β:=Bool) (letm (decide (a0.2.1<(a0.1.length:Int))) fun x1=>
 cond x1 (bnd (aI a0.1 a0.2.1) fun x2=>
 letm (((UInt8.toNat x2:Int)==(UInt8.toNat 255:Int))) fun x3=>
 some x3)
 (some false)) fun v4=>
 cond v4 (letm ((aA (a0.2.1+1))) fun x5=>
 some (true,(a0.1,(x5,a0.2.2))))
 (some (false,a0))
def dR(a0:ai)(a1:aO):Option (Go.Gk.Tr×(Int×ai)):=
 letm ((aA (UInt8.toNat a1.1:Int))) fun x2=>
 letm (decide ((UInt8.toNat a1.2.1:Int)<(UInt8.toNat 31:Int))) fun x3=>
 cond x3 (bnd (ct a0 a1) fun x4=>
 some ((Tr.mk x2 0 x4.1 []),(x4.2.1,x4.2.2)))
 (fg (ρ:=(Go.Gk.Tr×(Int×ai))) (ρ':=(Go.Gk.Tr×(Int×ai))) (Y:=(ai×ax)) (aM (R:=((Go.Gk.Tr×(Int×ai))⊕(ai×ax))) (S:=(ai×ax)) (fun _ s5=>
 bnd (cM s5.1) fun x7=>
 letm ((!x7.1)) fun x8=>
 cond x8 (bnd (bk x7.2 a1.1) fun x9=>
 letm ((x9.2.1 != 0)) fun x10=>
 cond x10 (some (.inl ((Tr.mk 0 0 [] []),(x9.2.1,x9.2.2))))
 (bnd (ct x9.2.2 x9.1) fun x11=>
 letm ((x11.2.1 != 0)) fun x12=>
 cond x12 (some (.inl ((Tr.mk 0 0 [] []),(x11.2.1,x11.2.2))))
 (none)))
 (some (.inr (x7.2,(s5.2.1,s5.2.2))))) bA (a0,((Tr.mk 0 0 [] []),(Tr.mk x2 0 [] [])))) (fun q=>q) fun v13=>
 some (v13.2.2,(0,v13.1)))
def jK(a0:ai)(a1:aO):Option ((Go.Gk.Tr×(List Go.Gk.Tr))×(Int×ai)):=
 letm ((aA (UInt8.toNat a1.1:Int))) fun x2=>
 letm (decide ((UInt8.toNat a1.2.1:Int)<(UInt8.toNat 31:Int))) fun x3=>
 cond x3 (bnd (ct a0 a1) fun x4=>
 some (((Tr.mk x2 0 x4.1 []),[]),(x4.2.1,x4.2.2)))
 (fg (ρ:=((Go.Gk.Tr×(List Go.Gk.Tr))×(Int×ai))) (ρ':=((Go.Gk.Tr×(List Go.Gk.Tr))×(Int×ai))) (Y:=(ai×(Go.Gk.Tr×(Go.Gk.Tr×(List Go.Gk.Tr))))) (aM (R:=(((Go.Gk.Tr×(List Go.Gk.Tr))×(Int×ai))⊕(ai×(Go.Gk.Tr×(Go.Gk.Tr×(List Go.Gk.Tr)))))) (S:=(ai×(Go.Gk.Tr×(Go.Gk.Tr×(List Go.Gk.Tr))))) (fun _ s5=>
 bnd (cM s5.1) fun x7=>
 letm ((!x7.1)) fun x8=>
 cond x8 (bnd (bk x7.2 a1.1) fun x9=>
 letm ((x9.2.1 != 0)) fun x10=>
 cond x10 (none)
 (bnd (ct x9.2.2 x9.1) fun x11=>
 letm ((x11.2.1 != 0)) fun x12=>
 cond x12 (none)
 (none)))
 (some (.inr (x7.2,(s5.2.1,(s5.2.2.1,s5.2.2.2)))))) bA (a0,((Tr.mk 0 0 [] []),((Tr.mk x2 0 [] []),[])))) (fun q=>q) fun v13=>
 some ((v13.2.2.1,v13.2.2.2),(0,v13.1)))
def oy(a0:Int):Option UInt64:=
 letm ((aS .and .u16 a0 1023)) fun x1=>
 letm ((EJ (Gk.cO .u16 x1))) fun x2=>
 bnd (cg .u16 a0 (UInt64.toNat 10:Int)) fun x3=>
 letm ((aS .and .u16 x3 31)) fun x4=>
 letm ((aA (Gk.cO .u16 x4))) fun x5=>
 fg (ρ:=UInt64) (ρ':=UInt64) (Y:=UInt64) (bnd (β:=Bool) (letm ((x5==31)) fun x6=>
 cond x6 (letm ((!(feq x2 (0:UInt64)))) fun x7=>
 some x7)
 (some false)) fun v8=>
 cond v8 (some (.inl 9221120237041090560))
 (letm ((x5==31)) fun x9=>
 cond x9 (bnd (kY 1) fun x10=>
 some (.inr x10))
 (letm ((x5==0)) fun x11=>
 cond x11 (bnd (fh x2 (-24)) fun x12=>
 some (.inr x12))
 (bnd (gM .add x2 (4652218415073722368:UInt64)) fun x13=>
 letm ((aA (x5-25))) fun x14=>
 bnd (fh x13 x14) fun x15=>
 some (.inr x15))))) (fun q=>q) fun v16=>
 bnd (β:=UInt64) (bnd (cg .u16 a0 (UInt64.toNat 15:Int)) fun x17=>
 letm (((Gk.cO .u16 x17)==(Gk.cO .u16 1))) fun x18=>
 cond x18 (bnd (dF v16 (13830554455654793216:UInt64)) fun x19=>
 some x19)
 (some v16)) fun v20=>
 letm (v20) fun x21=>
 some x21
def vi(a0:Go.Gk.Tr):Option Int:=
 bnd (bG a0) fun x1=>
 letm ((!x1)) fun x2=>
 cond x2 (some 0)
 (bnd (db [] a0) fun x3=>
 some (x3.length:Int))
def gN(a0:ai)(a1:aO):Option (Go.Gk.Tr×ai):=
 fg (ρ:=(Go.Gk.Tr×ai)) (ρ':=(Go.Gk.Tr×ai)) (Y:=(ai×ax)) (letm (((UInt8.toNat a1.2.1:Int)==(UInt8.toNat 25:Int))) fun x2=>
 cond x2 (letm ((Gk.fX .u16 (UInt64.toNat a1.2.2.1:Int))) fun x3=>
 bnd (oy x3) fun x4=>
 cond a0.2.2.2.1 (some (.inr ((a0.1,(a0.2.1,(a0.2.2.1,(true,a0.2.2.2.2)))),((Tr.mk 0 0 [] []),(Tr.mk 8 x4 [] [])))))
 (letm (((UInt64.toNat x4:Int)==(UInt64.toNat 9221120237041090560:Int))) fun x5=>
 cond x5 (letm (((UInt64.toNat a1.2.2.1:Int) != (UInt64.toNat 32256:Int))) fun x6=>
 some (.inr ((a0.1,(a0.2.1,(a0.2.2.1,(x6,a0.2.2.2.2)))),((Tr.mk 0 0 [] []),(Tr.mk 8 x4 [] [])))))
 (some (.inr ((a0.1,(a0.2.1,(a0.2.2.1,(false,a0.2.2.2.2)))),((Tr.mk 0 0 [] []),(Tr.mk 8 x4 [] [])))))))
 (letm (((UInt8.toNat a1.2.1:Int)==(UInt8.toNat 26:Int))) fun x7=>
 cond x7 (letm ((aq (UInt64.toNat a1.2.2.1:Int))) fun x8=>
 letm (x8) fun x9=>
 bnd (vm x9) fun x10=>
 letm (x10) fun x11=>
 some (.inr (a0,((Tr.mk 0 0 [] []),(Tr.mk 8 x11 [] [])))))
 (letm (((UInt8.toNat a1.2.1:Int)==(UInt8.toNat 27:Int))) fun x12=>
 cond x12 (some (.inr (a0,((Tr.mk 0 0 [] []),(Tr.mk 8 a1.2.2.1 [] [])))))
 (some (.inl ((Tr.mk 7 a1.2.2.1 [] []),a0)))))) (fun q=>q) fun v13=>
 bnd (β:=Go.Gk.Tr) (letm (v13.2.2.n) fun x14=>
 letm ((!(feq x14 x14))) fun x15=>
 cond x15 (some (Tr.mk v13.2.2.k 9221120237041090560 v13.2.2.b v13.2.2.l))
 (some v13.2.2)) fun v16=>
 bnd (β:=ai) (bnd (vi v16) fun x17=>
 letm ((x17 != a1.2.2.2)) fun x18=>
 cond x18 (some (v13.1.1,(v13.1.2.1,(v13.1.2.2.1,(true,v13.1.2.2.2.2)))))
 (some v13.1)) fun v19=>
 some (v16,v19)
def ff(dh:(ai)→(aO)→(Int)→Option ((List Go.Gk.Tr)×(Int×ai)))(a0:ai)(a1:Int):Option (Go.Gk.Tr×(Int×ai)):=
 bnd (bk a0 8) fun x2=>
 letm ((x2.2.1 != 0)) fun x3=>
 cond x3 (some ((Tr.mk 0 0 [] []),(x2.2.1,x2.2.2)))
 (letm ((aA (UInt8.toNat x2.1.1:Int))) fun x4=>
 bnd (β:=Bool) (letm ((x4==0)) fun x5=>
 cond x5 (some true)
 (letm ((x4==1)) fun x6=>
 some x6)) fun v7=>
 cond v7 (some ((Tr.mk x4 x2.1.2.2.1 [] []),(0,x2.2.2)))
 (bnd (β:=Bool) (letm ((x4==2)) fun x8=>
 cond x8 (some true)
 (letm ((x4==3)) fun x9=>
 some x9)) fun v10=>
 cond v10 (bnd (dR x2.2.2 x2.1) fun x11=>
 some (x11.1,(x11.2.1,x11.2.2)))
 (letm ((x4==7)) fun x12=>
 cond x12 (bnd (gN x2.2.2 x2.1) fun x13=>
 some (x13.1,(0,x13.2)))
 (letm (decide (8≤a1)) fun x14=>
 cond x14 (some ((Tr.mk 0 0 [] []),(8,x2.2.2)))
 (bnd (β:=(aO×Go.Gk.Tr)) (letm ((x4==6)) fun x15=>
 cond x15 (some ((x2.1.1,(x2.1.2.1,(1,x2.1.2.2.2))),(Tr.mk x4 x2.1.2.2.1 [] [])))
 (some (x2.1,(Tr.mk x4 0 [] [])))) fun v16=>
 letm ((aA (a1+1))) fun x17=>
 bnd (dh x2.2.2 v16.1 x17) fun x18=>
 letm ((x18.2.1 != 0)) fun x19=>
 cond x19 (some ((Tr.mk 0 0 [] []),(x18.2.1,x18.2.2)))
 (some ((Tr.mk v16.2.k v16.2.n v16.2.b x18.1),(0,x18.2.2))))))))
def i7(dh:(ai)→(aO)→(Int)→Option ((List Go.Gk.Tr)×(Int×ai)))(a0:ai)(a1:aO)(a2:Int):Option ((List Go.Gk.Tr)×(Int×ai)):=
 letm (((UInt8.toNat a1.2.1:Int)==(UInt8.toNat 31:Int))) fun x3=>
 aM (R:=((List Go.Gk.Tr)×(Int×ai))) (S:=((List Go.Gk.Tr)×(UInt64×ai))) (fun self5 s4=>
 bnd (β:=Bool) (cond x3 (some true)
 (letm (decide ((UInt64.toNat s4.2.1:Int)<(UInt64.toNat a1.2.2.1:Int))) fun x6=>
 some x6)) fun v7=>
 cond v7 (fg (ρ:=((List Go.Gk.Tr)×(Int×ai))) (ρ':=((List Go.Gk.Tr)×(Int×ai))) (Y:=((List Go.Gk.Tr)×ai)) (bnd (β:=(Bool×ai)) (cond x3 (bnd (cM s4.2.2) fun x8=>
 some (x8.1,x8.2))
 (some (false,s4.2.2))) fun v9=>
 cond v9.1 (some (.inl (s4.1,(0,v9.2))))
 (aM (R:=(((List Go.Gk.Tr)×(Int×ai))⊕((List Go.Gk.Tr)×ai))) (S:=((List Go.Gk.Tr)×(Int×ai))) (fun self11 s10=>
 letm (decide (s10.2.1<2)) fun x12=>
 cond x12 (bnd (β:=Bool) (letm ((s10.2.1==1)) fun x13=>
 cond x13 (letm (((UInt8.toNat a1.1:Int) != (UInt8.toNat 5:Int))) fun x14=>
 some x14)
 (some false)) fun v15=>
 cond v15 (some (.inr (s10.1,s10.2.2)))
 (bnd (β:=(Bool×ai)) (letm ((s10.2.1==1)) fun x16=>
 cond x16 (cond x3 (bnd (cM s10.2.2) fun x17=>
 some (x17.1,x17.2))
 (some (false,s10.2.2)))
 (some (false,s10.2.2))) fun v18=>
 cond v18.1 (some (.inl ([],(4,v18.2))))
 (bnd (ff dh v18.2 a2) fun x19=>
 letm ((x19.2.1 != 0)) fun x20=>
 cond x20 (some (.inl ([],(x19.2.1,x19.2.2))))
 (bnd (app s10.1 [x19.1]) fun x21=>
 letm ((aA (s10.2.1+1))) fun x22=>
 self11 (x21,(x22,x19.2.2))))))
 (some (.inr (s10.1,s10.2.2)))) bA (s4.1,(0,v9.2)))) (fun q=>q) fun v23=>
 letm ((s4.2.1+1)) fun x24=>
 self5 (v23.1,(x24,v23.2)))
 (some (s4.1,(0,s4.2.2)))) bA ([],(0,a0))
def da(n:Nat):(ai)→(aO)→(Int)→Option ((List Go.Gk.Tr)×(Int×ai)):=Nat.rec (motive:=fun _=>(ai)→(aO)→(Int)→Option ((List Go.Gk.Tr)×(Int×ai))) (fun _ _ _=>none) (fun _ ih=>i7 ih) n
def dh(a0:ai)(a1:aO)(a2:Int):Option ((List Go.Gk.Tr)×(Int×ai)):=da 40 a0 a1 a2
def dQ(a0:ai)(a1:Int):Option (Go.Gk.Tr×(Int×ai)):=ff (da 40) a0 a1
def dE(a0:ai)(a1:aO)(a2:Int):Option ((List Go.Gk.Tr)×(Int×ai)):=
 letm (((UInt8.toNat a1.2.1:Int)==(UInt8.toNat 31:Int))) fun x3=>
 aM (R:=((List Go.Gk.Tr)×(Int×ai))) (S:=((List Go.Gk.Tr)×(UInt64×ai))) (fun self5 s4=>
 bnd (β:=Bool) (cond x3 (some true)
 (letm (decide ((UInt64.toNat s4.2.1:Int)<(UInt64.toNat a1.2.2.1:Int))) fun x6=>
 some x6)) fun v7=>
 cond v7 (fg (ρ:=((List Go.Gk.Tr)×(Int×ai))) (ρ':=((List Go.Gk.Tr)×(Int×ai))) (Y:=((List Go.Gk.Tr)×ai)) (bnd (β:=(Bool×ai)) (cond x3 (bnd (cM s4.2.2) fun x8=>
 some (x8.1,x8.2))
 (some (false,s4.2.2))) fun v9=>
 cond v9.1 (some (.inl (s4.1,(0,v9.2))))
 (aM (R:=(((List Go.Gk.Tr)×(Int×ai))⊕((List Go.Gk.Tr)×ai))) (S:=((List Go.Gk.Tr)×(Int×ai))) (fun self11 s10=>
 letm (decide (s10.2.1<2)) fun x12=>
 cond x12 (bnd (β:=Bool) (letm ((s10.2.1==1)) fun x13=>
 cond x13 (letm (((UInt8.toNat a1.1:Int) != (UInt8.toNat 5:Int))) fun x14=>
 some x14)
 (some false)) fun v15=>
 cond v15 (some (.inr (s10.1,s10.2.2)))
 (bnd (β:=(Bool×ai)) (letm ((s10.2.1==1)) fun x16=>
 cond x16 (cond x3 (bnd (cM s10.2.2) fun x17=>
 some (x17.1,x17.2))
 (some (false,s10.2.2)))
 (some (false,s10.2.2))) fun v18=>
 cond v18.1 (bnd (none) fun r=>some (.inl r))
 (bnd (dQ v18.2 a2) fun x19=>
 letm ((x19.2.1 != 0)) fun x20=>
 cond x20 (bnd (none) fun r=>some (.inl r))
 (bnd (app s10.1 [x19.1]) fun x21=>
 letm ((aA (s10.2.1+1))) fun x22=>
 self11 (x21,(x22,x19.2.2))))))
 (some (.inr (s10.1,s10.2.2)))) bA (s4.1,(0,v9.2)))) (fun q=>q) fun v23=>
 letm ((s4.2.1+1)) fun x24=>
 self5 (v23.1,(x24,v23.2)))
 (some (s4.1,(0,s4.2.2)))) bA ([],(0,a0))
def gg(a0:ai)(a1:Int):Option ((Go.Gk.Tr×(List Go.Gk.Tr))×(Int×ai)):=
 bnd (bk a0 8) fun x2=>
 letm ((x2.2.1 != 0)) fun x3=>
 cond x3 (none)
 (letm ((aA (UInt8.toNat x2.1.1:Int))) fun x4=>
 bnd (β:=Bool) (letm ((x4==0)) fun x5=>
 cond x5 (some true)
 (letm ((x4==1)) fun x6=>
 some x6)) fun v7=>
 cond v7 (none)
 (bnd (β:=Bool) (letm ((x4==2)) fun x8=>
 cond x8 (some true)
 (letm ((x4==3)) fun x9=>
 some x9)) fun v10=>
 cond v10 (bnd (jK x2.2.2 x2.1) fun x11=>
 some ((x11.1.1,x11.1.2),(x11.2.1,x11.2.2)))
 (letm ((x4==7)) fun x12=>
 cond x12 (bnd (gN x2.2.2 x2.1) fun _=>
 none)
 (letm (decide (8≤a1)) fun x14=>
 cond x14 (none)
 (bnd (β:=(aO×(Go.Gk.Tr×(List Go.Gk.Tr)))) (letm ((x4==6)) fun x15=>
 cond x15 (some ((x2.1.1,(x2.1.2.1,(1,x2.1.2.2.2))),((Tr.mk x4 x2.1.2.2.1 [] []),[])))
 (some (x2.1,((Tr.mk x4 0 [] []),[])))) fun v16=>
 letm ((aA (a1+1))) fun x17=>
 bnd (dE x2.2.2 v16.1 x17) fun x18=>
 letm ((x18.2.1 != 0)) fun x19=>
 cond x19 (none)
 (some ((v16.2.1,x18.1),(0,x18.2.2))))))))
def fY(a0:(List UInt8)):Option ((Option ai)×((Go.Gk.Tr×(List Go.Gk.Tr))×Int)):=
 letm ((min (a0.length:Int) 4096)) fun x1=>
 bnd (Gk.cut a0 0 x1) fun x2=>
 bnd (gg (x2,(0,(0,(false,false)))) 0) fun x3=>
 some ((some x3.2.2),((x3.1.1,x3.1.2),x3.2.1))
def tD(a0:UInt32):Option Int:=
 bnd (β:=(UInt32×Int)) (letm (decide ((UInt32.toNat 65536:Int)≤(UInt32.toNat a0:Int))) fun x1=>
 cond x1 (bnd ((cg .u32 (a0:UInt32) (UInt64.toNat 16:Int):Option UInt32)) fun(x2:UInt32)=>
 some (x2,16))
 (some (a0,0))) fun v3=>
 bnd (β:=(UInt32×Int)) (letm (decide ((UInt32.toNat 256:Int)≤(UInt32.toNat v3.1:Int))) fun x4=>
 cond x4 (bnd ((cg .u32 (v3.1:UInt32) (UInt64.toNat 8:Int):Option UInt32)) fun(x5:UInt32)=>
 letm ((aA (v3.2+8))) fun x6=>
 some (x5,x6))
 (some (v3.1,v3.2))) fun v7=>
 letm ((av (UInt32.toNat v7.1:Int))) fun x8=>
 bnd (aI [0,1,2,2,3,3,3,3,4,4,4,4,4,4,4,4,5,5,5,5,5,5,5,5,5,5,5,5,5,5,5,5,6,6,6,6,6,6,6,6,6,6,6,6,6,6,6,6,6,6,6,6,6,6,6,6,6,6,6,6,6,6,6,6,7,7,7,7,7,7,7,7,7,7,7,7,7,7,7,7,7,7,7,7,7,7,7,7,7,7,7,7,7,7,7,7,7,7,7,7,7,7,7,7,7,7,7,7,7,7,7,7,7,7,7,7,7,7,7,7,7,7,7,7,7,7,7,7,8,8,8,8,8,8,8,8,8,8,8,8,8,8,8,8,8,8,8,8,8,8,8,8,8,8,8,8,8,8,8,8,8,8,8,8,8,8,8,8,8,8,8,8,8,8,8,8,8,8,8,8,8,8,8,8,8,8,8,8,8,8,8,8,8,8,8,8,8,8,8,8,8,8,8,8,8,8,8,8,8,8,8,8,8,8,8,8,8,8,8,8,8,8,8,8,8,8,8,8,8,8,8,8,8,8,8,8,8,8,8,8,8,8,8,8,8,8,8,8,8,8,8,8,8,8,8,8] (UInt8.toNat x8:Int)) fun x9=>
 letm ((aA (UInt8.toNat x9:Int))) fun x10=>
 letm ((aA (v7.2+x10))) fun x11=>
 some x11
def nu(a0:UInt64):Option Int:=
 bnd (β:=(UInt64×Int)) (letm (decide ((UInt64.toNat 4294967296:Int)≤(UInt64.toNat a0:Int))) fun x1=>
 cond x1 (bnd ((cg .u64 (a0:UInt64) (UInt64.toNat 32:Int):Option UInt64)) fun(x2:UInt64)=>
 some (x2,32))
 (some (a0,0))) fun v3=>
 bnd (β:=(UInt64×Int)) (letm (decide ((UInt64.toNat 65536:Int)≤(UInt64.toNat v3.1:Int))) fun x4=>
 cond x4 (bnd ((cg .u64 (v3.1:UInt64) (UInt64.toNat 16:Int):Option UInt64)) fun(x5:UInt64)=>
 letm ((aA (v3.2+16))) fun x6=>
 some (x5,x6))
 (some (v3.1,v3.2))) fun v7=>
 bnd (β:=(UInt64×Int)) (letm (decide ((UInt64.toNat 256:Int)≤(UInt64.toNat v7.1:Int))) fun x8=>
 cond x8 (bnd ((cg .u64 (v7.1:UInt64) (UInt64.toNat 8:Int):Option UInt64)) fun(x9:UInt64)=>
 letm ((aA (v7.2+8))) fun x10=>
 some (x9,x10))
 (some (v7.1,v7.2))) fun v11=>
 letm ((av (UInt64.toNat v11.1:Int))) fun x12=>
 bnd (aI [0,1,2,2,3,3,3,3,4,4,4,4,4,4,4,4,5,5,5,5,5,5,5,5,5,5,5,5,5,5,5,5,6,6,6,6,6,6,6,6,6,6,6,6,6,6,6,6,6,6,6,6,6,6,6,6,6,6,6,6,6,6,6,6,7,7,7,7,7,7,7,7,7,7,7,7,7,7,7,7,7,7,7,7,7,7,7,7,7,7,7,7,7,7,7,7,7,7,7,7,7,7,7,7,7,7,7,7,7,7,7,7,7,7,7,7,7,7,7,7,7,7,7,7,7,7,7,7,8,8,8,8,8,8,8,8,8,8,8,8,8,8,8,8,8,8,8,8,8,8,8,8,8,8,8,8,8,8,8,8,8,8,8,8,8,8,8,8,8,8,8,8,8,8,8,8,8,8,8,8,8,8,8,8,8,8,8,8,8,8,8,8,8,8,8,8,8,8,8,8,8,8,8,8,8,8,8,8,8,8,8,8,8,8,8,8,8,8,8,8,8,8,8,8,8,8,8,8,8,8,8,8,8,8,8,8,8,8,8,8,8,8,8,8,8,8,8,8,8,8,8,8,8,8,8,8] (UInt8.toNat x12:Int)) fun x13=>
 letm ((aA (UInt8.toNat x13:Int))) fun x14=>
 letm ((aA (v11.2+x14))) fun x15=>
 some x15
def lG(a0:UInt64):Option Int:=
 bnd (nu a0) fun x1=>
 some x1
def jJ(a0:aU)(a1:aU):Option Int:=
 bnd (dl a0.1 a1.1) fun x2=>
 some x2
def bW(a0:(List aU))(a1:Int)(a2:Int)(a3:(Option Unit)):Option Unit:=
 letm ((aA (a1+1))) fun x4=>
 aM (R:=Unit) (S:=((List aU)×Int)) (fun self6 s5=>
 letm (decide (s5.2<a2)) fun x7=>
 cond x7 (aM (R:=Unit) (S:=((List aU)×Int)) (fun _ s8=>
 bnd (β:=Bool) (letm (decide (a1<s8.2)) fun x10=>
 cond x10 (bnd (aI s8.1 s8.2) fun x11=>
 letm ((aA (s8.2-1))) fun x12=>
 bnd (aI s8.1 x12) fun x13=>
 bnd (a3) fun _=>
 bnd (jJ x11 x13) fun x15=>
 letm (decide (x15<0)) fun x16=>
 some x16)
 (some false)) fun v17=>
 cond v17 (letm ((aA (s8.2-1))) fun _=>
 letm ((aA (s8.2-1))) fun x19=>
 bnd (aI s8.1 x19) fun _=>
 bnd (aI s8.1 s8.2) fun _=>
 bnd (aI s8.1 s8.2) fun _=>
 none)
 (letm ((aA (s5.2+1))) fun x23=>
 self6 (s8.1,x23))) bA (s5.1,s5.2))
 (some ())) bA (a0,x4)
def cA(dq:((List aU))→(Int)→(Int)→(Int)→((Option Unit))→Option Unit)(a0:(List aU))(a1:Int)(a2:Int)(a3:Int)(a4:(Option Unit)):Option Unit:=
 aM (R:=Unit) (S:=(Int×(Int×(Int×(Bool×Bool))))) (fun _ s5=>
 letm ((aA (s5.2.1-s5.1))) fun x7=>
 letm (decide (x7≤12)) fun x8=>
 cond x8 (bnd (bW a0 s5.1 s5.2.1 a4) fun _=>
 some ())
 (letm ((s5.2.2.1==0)) fun x10=>
 cond x10 (none)
 (bnd (β:=Int) (letm ((!s5.2.2.2.1)) fun x11=>
 cond x11 (none)
 (some s5.2.2.1)) fun _=>
 none))) bA (a1,(a2,(a3,(true,true))))
def cC(n:Nat):((List aU))→(Int)→(Int)→(Int)→((Option Unit))→Option Unit:=Nat.rec (motive:=fun _=>((List aU))→(Int)→(Int)→(Int)→((Option Unit))→Option Unit) (fun _ _ _ _ _=>none) (fun _ ih=>cA ih) n
def dq(a0:(List aU))(a1:Int)(a2:Int)(a3:Int)(a4:(Option Unit)):Option Unit:=cC 40 a0 a1 a2 a3 a4
def aT(a0:(List aU))(a1:(Option Unit)):Option Unit:=
 letm ((aB (a0.length:Int))) fun x2=>
 bnd (lG x2) fun x3=>
 bnd (dq a0 0 (a0.length:Int) x3 a1) fun _=>
 some ()
def nt(eN:((Option Go.Gk.Tr))→Option Bool)(a0:(Option Go.Gk.Tr)):Option Bool:=
 bnd (a0) fun _=>
 bnd (a0) fun x2=>
 bnd (rng (x2.l.length:Int)) fun j55=>
 jB (R:=Bool) (S:=Unit) (fun _ _=>
 bnd (a0) fun _=>
 bnd (a0) fun x6=>
 letm ((x6.k != 5)) fun x7=>
 cond x7 (some true)
 (aM (R:=Bool) (S:=((List aU)×Int)) (fun self9 s8=>
 bnd (a0) fun _=>
 bnd (a0) fun x11=>
 letm (decide (s8.2<(x11.l.length:Int))) fun x12=>
 cond x12 (bnd (a0) fun _=>
 bnd (a0) fun x14=>
 bnd (aI x14.l s8.2) fun x15=>
 bnd (dP x15) fun x16=>
 bnd (a0) fun _=>
 bnd (a0) fun x18=>
 bnd (aI x18.l s8.2) fun x19=>
 bnd (a0) fun _=>
 bnd (a0) fun x21=>
 letm ((aA (s8.2+1))) fun x22=>
 bnd (aI x21.l x22) fun x23=>
 bnd (app s8.1 [(x16.1,(x19,x23))]) fun x24=>
 letm ((aA (s8.2+2))) fun x25=>
 self9 (x24,x25))
 (bnd (aT s8.1 (some ())) fun _=>
 bnd (rng (s8.1.length:Int)) fun j48=>
 jB (R:=Bool) (S:=Unit) (fun _ _=>
 some true)
 (fun k29 _ _=>
 bnd (aI s8.1 (k29:Int)) fun _=>
 bnd (aI s8.1 ((((k29:Int):Int)).toNat:Int)) fun x33=>
 bnd (β:=Bool) (letm (decide (0<(k29:Int))) fun x34=>
 cond x34 (letm ((aA ((k29:Int)-1))) fun x35=>
 bnd (aI s8.1 x35) fun _=>
 bnd (aI s8.1 (((x35:Int)).toNat:Int)) fun x37=>
 bnd (bF x37.1 x33.1) fun x38=>
 some x38)
 (some false)) fun v39=>
 cond v39 (some false)
 (bnd (a0) fun _=>
 bnd (a0) fun x41=>
 letm ((aA (2*(k29:Int)))) fun x42=>
 bnd (a0) fun _=>
 bnd (a0) fun _=>
 letm ((aA (2*(k29:Int)))) fun x45=>
 letm ((aA (x45+1))) fun _=>
 bnd (aI x41.l x42) fun _=>
 none)) j48 0 ())) bA ([],0)))
 (fun k49 _ _=>
 bnd (a0) fun _=>
 bnd (a0) fun x53=>
 bnd (aI x53.l (k49:Int)) fun _=>
 none) j55 0 ()
def kj(n:Nat):((Option Go.Gk.Tr))→Option Bool:=Nat.rec (motive:=fun _=>((Option Go.Gk.Tr))→Option Bool) (fun _=>none) (fun _ ih=>nt ih) n
def eN(a0:(Option Go.Gk.Tr)):Option Bool:=kj 40 a0
def gI(a0:Go.Gk.Tr)(a1:(List Go.Gk.Tr)):Option (Go.Gk.Tr×((List Go.Gk.Tr)×Bool)):=
 bnd (rng (a1.length:Int)) fun j48=>
 jB (R:=(Go.Gk.Tr×((List Go.Gk.Tr)×Bool))) (S:=Unit) (fun _ _=>
 letm ((a0.k != 5)) fun x4=>
 cond x4 (some (a0,(a1,true)))
 (aM (R:=(Go.Gk.Tr×((List Go.Gk.Tr)×Bool))) (S:=((List aU)×Int)) (fun self6 s5=>
 letm (decide (s5.2<(a1.length:Int))) fun x7=>
 cond x7 (bnd (aI a1 s5.2) fun _=>
 bnd (aI a1 (((s5.2:Int)).toNat:Int)) fun x9=>
 bnd (dP x9) fun x10=>
 bnd (aI a1 s5.2) fun _=>
 bnd (aI a1 (((s5.2:Int)).toNat:Int)) fun x12=>
 letm ((aA (s5.2+1))) fun x13=>
 bnd (aI a1 x13) fun _=>
 bnd (aI a1 (((x13:Int)).toNat:Int)) fun x15=>
 bnd (app s5.1 [(x10.1,(x12,x15))]) fun x16=>
 letm ((aA (s5.2+2))) fun x17=>
 self6 (x16,x17))
 (bnd (aT s5.1 (some ())) fun _=>
 bnd (rng (s5.1.length:Int)) fun j41=>
 jB (R:=(Go.Gk.Tr×((List Go.Gk.Tr)×Bool))) (S:=(Go.Gk.Tr×(List Go.Gk.Tr))) (fun _ s20=>
 some (s20.1,(s20.2,true)))
 (fun k21 s22 self23=>
 bnd (aI s5.1 (k21:Int)) fun _=>
 bnd (aI s5.1 ((((k21:Int):Int)).toNat:Int)) fun x25=>
 bnd (β:=Bool) (letm (decide (0<(k21:Int))) fun x26=>
 cond x26 (letm ((aA ((k21:Int)-1))) fun x27=>
 bnd (aI s5.1 x27) fun _=>
 bnd (aI s5.1 (((x27:Int)).toNat:Int)) fun x29=>
 bnd (bF x29.1 x25.1) fun x30=>
 some x30)
 (some false)) fun v31=>
 cond v31 (some (s22.1,(s22.2,false)))
 (letm ((aA (2*(k21:Int)))) fun x32=>
 letm ((aA (2*(k21:Int)))) fun x33=>
 letm ((aA (x33+1))) fun x34=>
 bnd (aI s22.2 x32) fun _=>
 bnd (aI s22.2 (((x32:Int)).toNat:Int)) fun _=>
 letm ((s22.2.set ((x32:Int)).toNat x25.2.1)) fun x37=>
 bnd (aI x37 x34) fun _=>
 bnd (aI x37 (((x34:Int)).toNat:Int)) fun _=>
 letm ((x37.set ((x34:Int)).toNat x25.2.2)) fun x40=>
 self23 (s22.1,x40))) j41 0 (a0,a1))) bA ([],0)))
 (fun k42 _ self44=>
 bnd (aI a1 (k42:Int)) fun _=>
 bnd (eN (some (a1.getD (((k42:Int):Int)).toNat (Tr.mk 0 0 [] [])))) fun x46=>
 letm ((!x46)) fun x47=>
 cond x47 (some (a0,(a1,false)))
 (self44 ())) j48 0 ()
def jR(a0:(List UInt8)):Option (Go.Gk.Tr×Int):=
 letm (decide (4096<(a0.length:Int))) fun x1=>
 cond x1 (some ((Tr.mk 0 0 [] []),8))
 (bnd (fY a0) fun x2=>
 letm ((x2.2.2 != 0)) fun x3=>
 cond x3 (some ((Tr.mk 0 0 [] []),x2.2.2))
 (bnd (x2.1) fun _=>
 bnd (x2.1) fun x5=>
 letm (decide (x5.2.1<(a0.length:Int))) fun x6=>
 cond x6 (some ((Tr.mk 0 0 [] []),9))
 (bnd (x2.1) fun _=>
 bnd (x2.1) fun x8=>
 cond x8.2.2.2.2 (some ((Tr.mk 0 0 [] []),5))
 (bnd (gI x2.2.1.1 x2.2.1.2) fun v9=>
 letm ((!v9.2.2)) fun x10=>
 cond x10 (some ((Tr.mk 0 0 [] []),7))
 (bnd (bG (Tr.mk v9.1.k v9.1.n v9.1.b v9.2.1)) fun x11=>
 letm ((!x11)) fun x12=>
 cond x12 (some ((Tr.mk 0 0 [] []),8))
 (some ((Tr.mk v9.1.k v9.1.n v9.1.b v9.2.1),0)))))))
def lz(a0:aD):Option ((List UInt8)×Int):=
 bnd (lq a0) fun x1=>
 letm ((!x1)) fun x2=>
 cond x2 (some ([],1))
 (bnd (β:=Bool) (letm ((a0.1==1)) fun x3=>
 cond x3 (letm (((a0.2.2.2.2.1.length:Int)==0)) fun x4=>
 some x4)
 (some false)) fun v5=>
 cond v5 (some ([],12))
 (bnd (jm (a0.1,(a0.2.1,(0,([],(a0.2.2.2.2.1,([],a0.2.2.2.2.2.2))))))) fun x6=>
 bnd (f0 x6.1) fun x7=>
 some (x7,0)))
def gL(a0:dT)(a1:(List UInt8))(a2:(List UInt8)):Option Int:=
 bnd (gQ a0.1 a1 a0.2.1 a2) fun x3=>
 letm ((x3.2 != 0)) fun x4=>
 cond x4 (some x3.2)
 (bnd (bF a0.2.2 x3.1.2.2) fun x5=>
 letm ((!x5)) fun x6=>
 cond x6 (some 11)
 (some 0))
def jc(a0:(List Int))(a1:(List UInt8)):Option Bool:=
 bnd (β:=Bool) (bnd (jD a1) fun x2=>
 letm ((!x2)) fun x3=>
 cond x3 (some true)
 (letm (((a1.length:Int)==0)) fun x4=>
 some x4)) fun v5=>
 cond v5 (bnd (fD) fun x6=>
 some x6)
 (bnd (nB a0) fun x7=>
 bnd (eZ x7) fun x8=>
 bnd (jm x8.1) fun x9=>
 bnd (dW x8.2 5) fun x10=>
 bnd (gQ x10.1 [1] x9.1 a1) fun x11=>
 bnd (iP 17 x11.1) fun x12=>
 bnd (la (0,(2,(0,([],([],x12.1)))))) fun x13=>
 bnd (β:=Bool) (letm ((x9.2 != 0)) fun x14=>
 cond x14 (some true)
 (letm ((x11.2 != 0)) fun x15=>
 cond x15 (some true)
 (letm ((x12.2 != 0)) fun x16=>
 cond x16 (some true)
 (letm ((x13.2 != 0)) fun x17=>
 some x17)))) fun v18=>
 cond v18 (some false)
 (bnd (k_ x13.1) fun x19=>
 bnd (iS x19.1.2.2.2.2.2) fun x20=>
 bnd (ma x20.2.1.2.1) fun x21=>
 bnd (ic x21.1) fun x22=>
 bnd (ju x22.1) fun x23=>
 bnd (jR x9.1) fun x24=>
 bnd (ju x24.1) fun x25=>
 bnd (lz x8.1) fun x26=>
 bnd (lz x21.1) fun x27=>
 bnd (β:=Bool) (letm ((x19.2==0)) fun x28=>
 cond x28 (letm ((x20.2.2==0)) fun x29=>
 cond x29 (letm ((x21.2==0)) fun x30=>
 cond x30 (letm ((x22.2==0)) fun x31=>
 cond x31 (letm ((x23.2==0)) fun x32=>
 cond x32 (letm ((x24.2==0)) fun x33=>
 cond x33 (letm ((x25.2==0)) fun x34=>
 cond x34 (letm ((x20.1==17)) fun x35=>
 cond x35 (bnd (gL x20.2.1 [1] a1) fun x36=>
 letm ((x36==0)) fun x37=>
 cond x37 (letm ((x23.1==x25.1)) fun x38=>
 cond x38 (letm ((x26.2==x27.2)) fun x39=>
 cond x39 (letm ((x26.1==x27.1)) fun x40=>
 cond x40 (bnd (fD) fun x41=>
 some x41)
 (some false))
 (some false))
 (some false))
 (some false))
 (some false))
 (some false))
 (some false))
 (some false))
 (some false))
 (some false))
 (some false))
 (some false)) fun v42=>
 some v42))
end
end Go.Proofs.YtiilbonamnegaaaGreatDoor
