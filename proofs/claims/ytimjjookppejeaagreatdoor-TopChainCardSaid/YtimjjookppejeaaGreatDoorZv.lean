/- A part of the proof of TopChain. No condition. -/
import Derived.Test.YtimjjookppejeaaGreatDoorZq
import Derived.Test.YtimjjookppejeaaGreatDoorZu
namespace Go.Proofs.YtimjjookppejeaaGreatDoor
open Go.Gk Go.RowKit
noncomputable section
set_option maxRecDepth 100000
def mw(a0:(List Int)):Option eA:=
 some (a0,0)
def eS(a0:Int)(a1:Int):Option Int:=
 bnd (Gk.rem a0 a1) fun x2=>
 bnd (β:=Int) (letm (decide (x2<0)) fun x3=>
 cond x3 (letm ((aP (x2+a1))) fun x4=>
 some x4)
 (some x2)) fun v5=>
 some v5
def cR(a0:eA)(a1:Int):Option (Int×eA):=
 letm (decide ((a0.1.length:Int)≤a0.2)) fun x2=>
 cond x2 (some (0,a0))
 (letm ((aP (a0.2+1))) fun x3=>
 letm ((aP (x3-1))) fun x4=>
 bnd (az a0.1 x4) fun x5=>
 bnd (eS x5 a1) fun x6=>
 some (x6,(a0.1,x3)))
def dz(a0:Int):Option (List UInt8):=
 aM (R:=(List UInt8)) (S:=((List UInt8)×Int)) (fun self2 s1=>
 letm (decide (s1.2<32)) fun x3=>
 cond x3 (letm ((ab a0)) fun x4=>
 bnd (Gk.rem s1.2 8) fun x5=>
 letm ((ab x5)) fun x6=>
 letm ((8*x6)) fun x7=>
 bnd ((dW .u64 (x4:UInt64) (UInt64.toNat x7:Int):Option UInt64)) fun(x8:UInt64)=>
 letm ((aj (UInt64.toNat x8:Int))) fun x9=>
 bnd (quo s1.2 8) fun x10=>
 letm ((aP (37*x10))) fun x11=>
 letm ((aj x11)) fun x12=>
 letm ((aj (bits .xor .u8 (UInt8.toNat x9) (UInt8.toNat x12)))) fun x13=>
 bnd (app s1.1 [x13]) fun x14=>
 letm ((aP (s1.2+1))) fun x15=>
 self2 (x14,x15))
 (some s1.1)) bk ([],0)
def nC(a0:Int):Option (List UInt64):=
 aM (R:=(List UInt64)) (S:=((List UInt64)×UInt64)) (fun self2 s1=>
 letm (decide ((s1.1.length:Int)<a0)) fun x3=>
 cond x3 (bnd (β:=(List UInt64)) (bnd (rng (s1.1.length:Int)) fun j14=>
 mV (R:=(List UInt64)) (S:=Bool) (fun _ s5=>
 cond s5 (bnd (app s1.1 [s1.2]) fun x6=>
 some x6)
 (some s1.1))
 (fun k7 s8 self9=>
 bnd (az s1.1 (k7:Int)) fun _=>
 bnd (az s1.1 ((((k7:Int):Int)).toNat:Int)) fun x11=>
 cond s8 (bnd ((Fr .u64 (s1.2:UInt64) (x11:UInt64):Option UInt64)) fun(x12:UInt64)=>
 letm (((UInt64.toNat x12:Int) != (UInt64.toNat 0:Int))) fun x13=>
 self9 x13)
 (self9 false)) j14 0 true) fun v15=>
 letm ((s1.2+1)) fun x16=>
 self2 (v15,x16))
 (some s1.1)) bk ([],2)
def uc(a0:UInt64):Option UInt64:=
 bnd (AB a0) fun x1=>
 some x1
def ui(_a0:UInt64):Option (UInt64):=none
def nX(a0:UInt64):Option Bool:=
 letm ((!(Np a0 a0))) fun x1=>
 some x1
def qK(a0:UInt64):Option UInt64:=
 letm (a0) fun x1=>
 letm ((bB .andNot .u64 (x1:UInt64) (9223372036854775808:UInt64):UInt64)) fun(x2:UInt64)=>
 letm (x2) fun x3=>
 some x3
def nv(a0:UInt64)(a1:Int):Option Bool:=
 bnd (β:=UInt64) (letm ((a1==0)) fun x2=>
 cond x2 (bnd (qK a0) fun x3=>
 some x3)
 (letm (decide (a1<0)) fun x4=>
 cond x4 (none)
 (some a0))) fun v5=>
 letm ((SJ v5 (9218868437227405311:UInt64))) fun x6=>
 some x6
def ua(a0:UInt64):Option UInt64:=
 bnd (β:=Bool) (letm ((Np a0 (0:UInt64))) fun x1=>
 cond x1 (some true)
 (bnd (nX a0) fun x2=>
 cond x2 (some true)
 (bnd (nv a0 0) fun x3=>
 some x3))) fun v4=>
 cond v4 (some a0)
 (bnd (β:=(UInt64×Bool)) (letm ((PG a0 (0:UInt64))) fun x5=>
 cond x5 (none)
 (some (a0,false))) fun v6=>
 letm (v6.1) fun x7=>
 bnd ((H' .u64 (x7:UInt64) (3:UInt64):Option UInt64)) fun(x8:UInt64)=>
 letm ((x8+3071306043645493248)) fun x9=>
 letm (x9) fun x10=>
 bnd (β:=UInt64) (letm ((PG v6.1 (4503599627370496:UInt64))) fun x11=>
 cond x11 (bnd (h_ .mul (4850376798678024192:UInt64) v6.1) fun x12=>
 letm (x12) fun x13=>
 bnd ((H' .u64 (x13:UInt64) (3:UInt64):Option UInt64)) fun(x14:UInt64)=>
 letm ((x14+2990241250352824320)) fun x15=>
 letm (x15) fun x16=>
 some x16)
 (some x10)) fun v17=>
 bnd (h_ .mul v17 v17) fun x18=>
 bnd (h_ .quo x18 v6.1) fun x19=>
 bnd (h_ .mul x19 v17) fun x20=>
 bnd (h_ .add (4603064841997850097:UInt64) x20) fun x21=>
 bnd (h_ .add x21 (4609048195788499471:UInt64)) fun x22=>
 bnd (h_ .quo (13827900089180538932:UInt64) x21) fun x23=>
 bnd (h_ .add x22 x23) fun x24=>
 bnd (h_ .quo (4609916747145206638:UInt64) x24) fun x25=>
 bnd (h_ .add (4600105333671292343:UInt64) x25) fun x26=>
 bnd (h_ .mul v17 x26) fun x27=>
 letm (x27) fun x28=>
 letm ((bB .and .u64 (x28:UInt64) (18446744072635809792:UInt64):UInt64)) fun(x29:UInt64)=>
 letm ((x29+1073741824)) fun x30=>
 letm (x30) fun x31=>
 bnd (h_ .mul x31 x31) fun x32=>
 bnd (h_ .quo v6.1 x32) fun x33=>
 bnd (h_ .add x31 x31) fun x34=>
 bnd (h_ .sub x33 x31) fun x35=>
 bnd (h_ .add x34 x33) fun x36=>
 bnd (h_ .quo x35 x36) fun x37=>
 bnd (h_ .mul x31 x37) fun x38=>
 bnd (h_ .add x31 x38) fun x39=>
 bnd (β:=UInt64) (cond v6.2 (none)
 (some x39)) fun v40=>
 some v40)
def tU(a0:UInt64):Option UInt64:=
 bnd (ua a0) fun x1=>
 some x1
def kA(a0:UInt64)(a1:UInt64):Option UInt64:=
 letm (a0) fun x2=>
 letm ((bB .andNot .u64 (x2:UInt64) (9223372036854775808:UInt64):UInt64)) fun(x3:UInt64)=>
 letm (a1) fun x4=>
 letm ((bB .and .u64 (x4:UInt64) (9223372036854775808:UInt64):UInt64)) fun(x5:UInt64)=>
 letm ((bB .or .u64 (x3:UInt64) (x5:UInt64):UInt64)) fun(x6:UInt64)=>
 letm (x6) fun x7=>
 some x7
def zi(a0:UInt64):Option UInt64:=
 bnd (qK a0) fun x1=>
 letm ((PG x1 (4607182418800017408:UInt64))) fun x2=>
 cond x2 (bnd (kA (0:UInt64) a0) fun x3=>
 some x3)
 (letm (a0) fun x4=>
 bnd ((dW .u64 (x4:UInt64) (UInt64.toNat 52:Int):Option UInt64)) fun(x5:UInt64)=>
 letm ((bB .and .u64 (x5:UInt64) (2047:UInt64):UInt64)) fun(x6:UInt64)=>
 letm ((x6-1023)) fun x7=>
 bnd (β:=UInt64) (letm (decide ((UInt64.toNat x7:Int)<(UInt64.toNat 52:Int))) fun x8=>
 cond x8 (letm ((52-x7)) fun x9=>
 bnd ((gE .u64 (1:UInt64) (UInt64.toNat x9:Int):Option UInt64)) fun(x10:UInt64)=>
 letm ((x10-1)) fun x11=>
 letm ((bB .andNot .u64 (x4:UInt64) (x11:UInt64):UInt64)) fun(x12:UInt64)=>
 some x12)
 (some x4)) fun v13=>
 letm (v13) fun x14=>
 some x14)
def sF(a0:UInt64):Option UInt64:=
 bnd (qT .zero a0) fun x1=>
 some x1
def ud(a0:UInt64):Option (UInt64×UInt64):=
 bnd (sF a0) fun x1=>
 bnd (h_ .sub a0 x1) fun x2=>
 bnd (kA x2 a0) fun x3=>
 some (x1,x3)
def zb(a0:UInt64):Option UInt64:=
 bnd (β:=Bool) (letm ((Np a0 (0:UInt64))) fun x1=>
 cond x1 (some true)
 (bnd (nX a0) fun x2=>
 cond x2 (some true)
 (bnd (nv a0 0) fun x3=>
 some x3))) fun v4=>
 cond v4 (some a0)
 (letm ((PG a0 (0:UInt64))) fun x5=>
 cond x5 (none)
 (bnd (ud a0) fun x6=>
 some x6.1))
def rU(a0:UInt64):Option UInt64:=
 bnd (qT .down a0) fun x1=>
 some x1
def gW(a0:(List UInt64)):Option UInt64:=
 aM (R:=UInt64) (S:=(UInt64×Int)) (fun self2 s1=>
 letm (decide (0≤s1.2)) fun x3=>
 cond x3 (bnd (h_ .mul s1.1 (4895412794951729152:UInt64)) fun x4=>
 bnd (b_ 4 s1.2) fun x5=>
 bnd (az a0 ((0+x5):Int)) fun x6=>
 letm ((Nz (UInt64.toNat x6:Int))) fun x7=>
 bnd (h_ .add x4 x7) fun x8=>
 letm ((aP (s1.2-1))) fun x9=>
 self2 (x8,x9))
 (some s1.1)) bk ((0:UInt64),3)
def au(a0:UInt64)(a1:UInt64):Option (UInt64×UInt64):=some (UInt64.ofNat (a0.toNat*a1.toNat/18446744073709551616),UInt64.ofNat (a0.toNat*a1.toNat%18446744073709551616))
def tV(a0:(List UInt64))(a1:(List UInt64)):Option (List UInt64):=
 aM (R:=(List UInt64)) (S:=(Int×(List UInt64))) (fun self3 s2=>
 letm (decide (s2.1<4)) fun x4=>
 cond x4 (aM (R:=(List UInt64)) (S:=(UInt64×(Int×(List UInt64)))) (fun self6 s5=>
 letm ((aP (s2.1+s5.2.1))) fun x7=>
 letm (decide (x7<4)) fun x8=>
 cond x8 (bnd (b_ 4 s2.1) fun x9=>
 bnd (az a0 ((0+x9):Int)) fun x10=>
 bnd (b_ 4 s5.2.1) fun x11=>
 bnd (az a1 ((0+x11):Int)) fun x12=>
 bnd (au x10 x12) fun x13=>
 bnd (bl x13.2 s5.1 0) fun x14=>
 letm ((x13.1+x14.2)) fun x15=>
 letm ((aP (s2.1+s5.2.1))) fun x16=>
 letm ((aP (s2.1+s5.2.1))) fun x17=>
 bnd (b_ 4 x17) fun x18=>
 bnd (az s5.2.2 ((0+x18):Int)) fun x19=>
 bnd (bl x19 x14.1 0) fun x20=>
 bnd (b_ 4 x16) fun x21=>
 bnd (az s5.2.2 ((0+x21):Int)) fun _=>
 letm ((s5.2.2.set (0+x21) x20.1)) fun x23=>
 letm ((x15+x20.2)) fun x24=>
 letm ((aP (s5.2.1+1))) fun x25=>
 self6 (x24,(x25,x23)))
 (letm ((aP (s2.1+1))) fun x26=>
 self3 (x26,s5.2.2))) bk (0,(0,s2.2)))
 (some s2.2)) bk (0,[(ab 0),(ab 0),(ab 0),(ab 0)])
def mm(a0:(List UInt64))(a1:Int):Option (List UInt64):=
 bnd (rng a1) fun j8=>
 mV (R:=(List UInt64)) (S:=(List UInt64)) (fun _ s3=>
 some s3)
 (fun _ s5 self6=>
 bnd (tV s5 a0) fun x7=>
 self6 x7) j8 0 [1,(ab 0),(ab 0),(ab 0)]
def nV(a0:(List UInt64))(a1:(List UInt64)):Option Bool:=
 aM (R:=Bool) (S:=Int) (fun self3 s2=>
 letm (decide (0≤s2)) fun x4=>
 cond x4 (bnd (b_ 4 s2) fun x5=>
 bnd (az a0 ((0+x5):Int)) fun x6=>
 bnd (b_ 4 s2) fun x7=>
 bnd (az a1 ((0+x7):Int)) fun x8=>
 letm (((UInt64.toNat x6:Int) != (UInt64.toNat x8:Int))) fun x9=>
 cond x9 (bnd (b_ 4 s2) fun x10=>
 bnd (az a0 ((0+x10):Int)) fun x11=>
 bnd (b_ 4 s2) fun x12=>
 bnd (az a1 ((0+x12):Int)) fun x13=>
 letm (decide ((UInt64.toNat x11:Int)<(UInt64.toNat x13:Int))) fun x14=>
 some x14)
 (letm ((aP (s2-1))) fun x15=>
 self3 x15))
 (some false)) bk 3
def ph(a0:(List UInt64))(a1:(List UInt64)):Option (List UInt64):=
 aM (R:=(List UInt64)) (S:=(UInt64×(Int×(List UInt64)))) (fun self3 s2=>
 letm (decide (s2.2.1<4)) fun x4=>
 cond x4 (bnd (b_ 4 s2.2.1) fun x5=>
 bnd (az s2.2.2 ((0+x5):Int)) fun x6=>
 bnd (b_ 4 s2.2.1) fun x7=>
 bnd (az a1 ((0+x7):Int)) fun x8=>
 bnd (jK x6 x8 s2.1) fun x9=>
 bnd (b_ 4 s2.2.1) fun x10=>
 bnd (az s2.2.2 ((0+x10):Int)) fun _=>
 letm ((s2.2.2.set (0+x10) x9.1)) fun x12=>
 letm ((aP (s2.2.1+1))) fun x13=>
 self3 (x9.2,(x13,x12)))
 (some s2.2.2)) bk (0,(0,a0))
def pe(a0:(List UInt64))(a1:UInt64):Option (List UInt64):=
 bnd (b_ 4 0) fun x2=>
 bnd (az a0 ((0+x2):Int)) fun x3=>
 bnd (jK x3 a1 0) fun x4=>
 bnd (b_ 4 0) fun x5=>
 bnd (az a0 ((0+x5):Int)) fun _=>
 letm ((a0.set (0+x5) x4.1)) fun x7=>
 bnd (b_ 4 1) fun x8=>
 bnd (az x7 ((0+x8):Int)) fun x9=>
 letm ((x9-x4.2)) fun x10=>
 bnd (b_ 4 1) fun x11=>
 bnd (az x7 ((0+x11):Int)) fun _=>
 letm ((x7.set (0+x11) x10)) fun x13=>
 some x13
def mi(a0:(List UInt64))(a1:UInt64):Option (List UInt64):=
 bnd (b_ 4 0) fun x2=>
 bnd (az a0 ((0+x2):Int)) fun x3=>
 bnd (bl x3 a1 0) fun x4=>
 bnd (b_ 4 0) fun x5=>
 bnd (az a0 ((0+x5):Int)) fun _=>
 letm ((a0.set (0+x5) x4.1)) fun x7=>
 bnd (b_ 4 1) fun x8=>
 bnd (az x7 ((0+x8):Int)) fun x9=>
 letm ((x9+x4.2)) fun x10=>
 bnd (b_ 4 1) fun x11=>
 bnd (az x7 ((0+x11):Int)) fun _=>
 letm ((x7.set (0+x11) x10)) fun x13=>
 some x13
def ac(a0:UInt64)(a1:Int):Option UInt64:=
 bnd (b_ 4 a1) fun x2=>
 bnd (az (List.replicate 4 (0:UInt64)) ((0+x2):Int)) fun _=>
 letm (((List.replicate 4 (0:UInt64)).set (0+x2) a0)) fun x4=>
 letm ((Nz (UInt64.toNat a0:Int))) fun x5=>
 bnd (uc x5) fun x6=>
 bnd (β:=UInt64) (letm ((a1==3)) fun x7=>
 cond x7 (letm ((Nz (UInt64.toNat a0:Int))) fun x8=>
 bnd (tU x8) fun x9=>
 some x9)
 (some x6)) fun v10=>
 bnd (rU v10) fun x11=>
 bnd (h_ .sub v10 x11) fun x12=>
 bnd (h_ .mul x12 (4890909195324358656:UInt64)) fun x13=>
 bnd ((vD .u64 x13:Option UInt64)) fun(x14:UInt64)=>
 bnd ((gE .u64 (x14:UInt64) (UInt64.toNat 1:Int):Option UInt64)) fun(x15:UInt64)=>
 bnd ((vD .u64 x11:Option UInt64)) fun(x16:UInt64)=>
 letm ((Nz a1)) fun x17=>
 letm ((aP (a1-1))) fun x18=>
 bnd (rng x18) fun j55=>
 mV (R:=UInt64) (S:=UInt64) (fun _ s20=>
 bnd (β:=(List UInt64)) (bnd (mm [x15,x16,(ab 0),(ab 0)] a1) fun x21=>
 bnd (nV x4 x21) fun x22=>
 cond x22 (bnd (ph x21 x4) fun x23=>
 bnd (gW x23) fun x24=>
 bnd (h_ .quo x24 s20) fun x25=>
 bnd ((vD .u64 x25:Option UInt64)) fun(x26:UInt64)=>
 bnd (pe [x15,x16,(ab 0),(ab 0)] x26) fun x27=>
 some x27)
 (bnd (ph x4 x21) fun x28=>
 bnd (gW x28) fun x29=>
 bnd (h_ .quo x29 s20) fun x30=>
 bnd ((vD .u64 x30:Option UInt64)) fun(x31:UInt64)=>
 bnd (mi [x15,x16,(ab 0),(ab 0)] x31) fun x32=>
 some x32)) fun v33=>
 bnd (β:=(List UInt64)) (aM (R:=(List UInt64)) (S:=(List UInt64)) (fun self35 s34=>
 bnd (mm s34 a1) fun x36=>
 bnd (nV x4 x36) fun x37=>
 cond x37 (bnd (pe s34 1) fun x38=>
 self35 x38)
 (some s34)) bk v33) fun v39=>
 bnd (β:=(List UInt64)) (aM (R:=(List UInt64)) (S:=(List UInt64)) (fun self41 s40=>
 bnd (mi s40 1) fun x42=>
 bnd (mm x42 a1) fun x43=>
 bnd (nV x4 x43) fun x44=>
 letm ((!x44)) fun x45=>
 cond x45 (bnd (mi s40 1) fun x46=>
 self41 x46)
 (some s40)) bk v39) fun v47=>
 bnd (b_ 4 0) fun x48=>
 bnd (az v47 ((0+x48):Int)) fun x49=>
 some x49)
 (fun _ s51 self52=>
 bnd (gW [x15,x16,(ab 0),(ab 0)]) fun x53=>
 bnd (h_ .mul s51 x53) fun x54=>
 self52 x54) j55 0 x17
def iC(a0:Int):Option aJ:=
 bnd (nC a0) fun x1=>
 cS (R:=aJ) (S:=aJ) (α:=UInt64) (fun _ s3=>
 some (s3.1,s3.2))
 (fun x4 k5 s6 self7=>
 bnd (β:=aJ) (bnd (ac x4 3) fun x8=>
 bnd (app s6.1 [x8]) fun x9=>
 letm (decide ((k5:Int)<8)) fun x10=>
 cond x10 (bnd (ac x4 2) fun x11=>
 bnd (b_ 8 (k5:Int)) fun x12=>
 bnd (az s6.2 ((0+x12):Int)) fun _=>
 letm ((s6.2.set (0+x12) x11)) fun x14=>
 some (x9,x14))
 (some (x9,s6.2))) fun v15=>
 self7 (v15.1,v15.2)) x1 0 ([],[(ab 0),(ab 0),(ab 0),(ab 0),(ab 0),(ab 0),(ab 0),(ab 0)])
def lc(a0:(List UInt8))(a1:Int)(a2:Int):Option (List UInt8):=
 letm ((aP (2*a1))) fun x3=>
 letm ((aP ((a0.length:Int)+x3))) fun x4=>
 bnd (GS x4 0) fun x5=>
 bnd (app x5 a0) fun x6=>
 bnd (app x6 [128]) fun x7=>
 bnd (β:=(List UInt8)) (aM (R:=(List UInt8)) (S:=(List UInt8)) (fun self9 s8=>
 letm ((aP ((s8.length:Int)+a2))) fun x10=>
 bnd (Gk.rem x10 a1) fun x11=>
 letm ((x11 != 0)) fun x12=>
 cond x12 (bnd (app s8 [0]) fun x13=>
 self9 x13)
 (some s8)) bk x7) fun v14=>
 letm ((ab (a0.length:Int))) fun x15=>
 letm ((aP (8*a2))) fun x16=>
 letm ((aP (x16-8))) fun x17=>
 aM (R:=(List UInt8)) (S:=((List UInt8)×Int)) (fun self19 s18=>
 letm (decide (0≤s18.2)) fun x20=>
 cond x20 (bnd (β:=(List UInt8)) (letm (decide (72≤s18.2)) fun x21=>
 cond x21 (bnd (app s18.1 [0]) fun x22=>
 some x22)
 (letm ((s18.2==64)) fun x23=>
 cond x23 (bnd ((dW .u64 (x15:UInt64) (UInt64.toNat 61:Int):Option UInt64)) fun(x24:UInt64)=>
 letm ((aj (UInt64.toNat x24:Int))) fun x25=>
 bnd (app s18.1 [x25]) fun x26=>
 some x26)
 (bnd ((gE .u64 (x15:UInt64) (UInt64.toNat 3:Int):Option UInt64)) fun(x27:UInt64)=>
 bnd ((dW .u64 (x27:UInt64) s18.2:Option UInt64)) fun(x28:UInt64)=>
 letm ((aj (UInt64.toNat x28:Int))) fun x29=>
 bnd (app s18.1 [x29]) fun x30=>
 some x30))) fun v31=>
 letm ((aP (s18.2-8))) fun x32=>
 self19 (v31,x32))
 (some s18.1)) bk (v14,x17)
def fh(a0:UInt64)(a1:Int):Option UInt64:=
 letm ((ab a1)) fun x2=>
 letm ((bB .and .u64 (x2:UInt64) (63:UInt64):UInt64)) fun(x3:UInt64)=>
 bnd ((gE .u64 (a0:UInt64) (UInt64.toNat x3:Int):Option UInt64)) fun(x4:UInt64)=>
 letm ((64-x3)) fun x5=>
 bnd ((dW .u64 (a0:UInt64) (UInt64.toNat x5:Int):Option UInt64)) fun(x6:UInt64)=>
 letm ((bB .or .u64 (x4:UInt64) (x6:UInt64):UInt64)) fun(x7:UInt64)=>
 some x7
def bv(a0:UInt64)(a1:Int):Option UInt64:=
 letm ((aP ((aP 0)-a1))) fun x2=>
 bnd (fh a0 x2) fun x3=>
 some x3
def j2(a0:(List UInt64))(a1:(List UInt64))(a2:(List UInt8)):Option (List UInt64):=
 aM (R:=(List UInt64)) (S:=(Int×(List UInt64))) (fun self4 s3=>
 letm (decide (s3.1<80)) fun x5=>
 cond x5 (bnd (β:=(List UInt64)) (letm (decide (s3.1<16)) fun x6=>
 cond x6 (letm ((aP (8*s3.1))) fun x7=>
 letm ((aP (8*s3.1))) fun x8=>
 letm ((aP (x8+8))) fun x9=>
 bnd (Gk.cut a2 x7 x9) fun x10=>
 cS (R:=(List UInt64)) (S:=(List UInt64)) (α:=UInt8) (fun _ s12=>
 some s12)
 (fun x13 _ s15 self16=>
 bnd (b_ 80 s3.1) fun x17=>
 bnd (az s15 ((0+x17):Int)) fun x18=>
 bnd ((gE .u64 (x18:UInt64) (UInt64.toNat 8:Int):Option UInt64)) fun(x19:UInt64)=>
 letm ((ab (UInt8.toNat x13:Int))) fun x20=>
 letm ((bB .or .u64 (x19:UInt64) (x20:UInt64):UInt64)) fun(x21:UInt64)=>
 bnd (b_ 80 s3.1) fun x22=>
 bnd (az s15 ((0+x22):Int)) fun _=>
 letm ((s15.set (0+x22) x21)) fun x24=>
 self16 x24) x10 0 s3.2)
 (letm ((aP (s3.1-15))) fun x25=>
 bnd (b_ 80 x25) fun x26=>
 bnd (az s3.2 ((0+x26):Int)) fun x27=>
 letm ((aP (s3.1-2))) fun x28=>
 bnd (b_ 80 x28) fun x29=>
 bnd (az s3.2 ((0+x29):Int)) fun x30=>
 bnd (bv x30 19) fun x31=>
 bnd (bv x30 61) fun x32=>
 letm ((bB .xor .u64 (x31:UInt64) (x32:UInt64):UInt64)) fun(x33:UInt64)=>
 bnd ((dW .u64 (x30:UInt64) (UInt64.toNat 6:Int):Option UInt64)) fun(x34:UInt64)=>
 letm ((bB .xor .u64 (x33:UInt64) (x34:UInt64):UInt64)) fun(x35:UInt64)=>
 letm ((aP (s3.1-7))) fun x36=>
 bnd (b_ 80 x36) fun x37=>
 bnd (az s3.2 ((0+x37):Int)) fun x38=>
 letm ((x35+x38)) fun x39=>
 bnd (bv x27 1) fun x40=>
 bnd (bv x27 8) fun x41=>
 letm ((bB .xor .u64 (x40:UInt64) (x41:UInt64):UInt64)) fun(x42:UInt64)=>
 bnd ((dW .u64 (x27:UInt64) (UInt64.toNat 7:Int):Option UInt64)) fun(x43:UInt64)=>
 letm ((bB .xor .u64 (x42:UInt64) (x43:UInt64):UInt64)) fun(x44:UInt64)=>
 letm ((x39+x44)) fun x45=>
 letm ((aP (s3.1-16))) fun x46=>
 bnd (b_ 80 x46) fun x47=>
 bnd (az s3.2 ((0+x47):Int)) fun x48=>
 letm ((x45+x48)) fun x49=>
 bnd (b_ 80 s3.1) fun x50=>
 bnd (az s3.2 ((0+x50):Int)) fun _=>
 letm ((s3.2.set (0+x50) x49)) fun x52=>
 some x52)) fun v53=>
 letm ((aP (s3.1+1))) fun x54=>
 self4 (x54,v53))
 (aM (R:=(List UInt64)) (S:=(Int×(List UInt64))) (fun self56 s55=>
 letm (decide (s55.1<80)) fun x57=>
 cond x57 (bnd (b_ 8 0) fun x58=>
 bnd (az s55.2 ((0+x58):Int)) fun x59=>
 bnd (b_ 8 4) fun x60=>
 bnd (az s55.2 ((0+x60):Int)) fun x61=>
 bnd (b_ 8 7) fun x62=>
 bnd (az s55.2 ((0+x62):Int)) fun x63=>
 bnd (bv x61 14) fun x64=>
 bnd (bv x61 18) fun x65=>
 letm ((bB .xor .u64 (x64:UInt64) (x65:UInt64):UInt64)) fun(x66:UInt64)=>
 bnd (bv x61 41) fun x67=>
 letm ((bB .xor .u64 (x66:UInt64) (x67:UInt64):UInt64)) fun(x68:UInt64)=>
 letm ((x63+x68)) fun x69=>
 bnd (b_ 8 5) fun x70=>
 bnd (az s55.2 ((0+x70):Int)) fun x71=>
 letm ((bB .and .u64 (x61:UInt64) (x71:UInt64):UInt64)) fun(x72:UInt64)=>
 letm ((ID .u64 (x61:UInt64):UInt64)) fun(x73:UInt64)=>
 bnd (b_ 8 6) fun x74=>
 bnd (az s55.2 ((0+x74):Int)) fun x75=>
 letm ((bB .and .u64 (x73:UInt64) (x75:UInt64):UInt64)) fun(x76:UInt64)=>
 letm ((bB .xor .u64 (x72:UInt64) (x76:UInt64):UInt64)) fun(x77:UInt64)=>
 letm ((x69+x77)) fun x78=>
 bnd (az a1 s55.1) fun x79=>
 letm ((x78+x79)) fun x80=>
 bnd (b_ 80 s55.1) fun x81=>
 bnd (az s3.2 ((0+x81):Int)) fun x82=>
 letm ((x80+x82)) fun x83=>
 bnd (bv x59 28) fun x84=>
 bnd (bv x59 34) fun x85=>
 letm ((bB .xor .u64 (x84:UInt64) (x85:UInt64):UInt64)) fun(x86:UInt64)=>
 bnd (bv x59 39) fun x87=>
 letm ((bB .xor .u64 (x86:UInt64) (x87:UInt64):UInt64)) fun(x88:UInt64)=>
 bnd (b_ 8 1) fun x89=>
 bnd (az s55.2 ((0+x89):Int)) fun x90=>
 letm ((bB .and .u64 (x59:UInt64) (x90:UInt64):UInt64)) fun(x91:UInt64)=>
 bnd (b_ 8 2) fun x92=>
 bnd (az s55.2 ((0+x92):Int)) fun x93=>
 letm ((bB .and .u64 (x59:UInt64) (x93:UInt64):UInt64)) fun(x94:UInt64)=>
 letm ((bB .xor .u64 (x91:UInt64) (x94:UInt64):UInt64)) fun(x95:UInt64)=>
 bnd (b_ 8 1) fun x96=>
 bnd (az s55.2 ((0+x96):Int)) fun x97=>
 bnd (b_ 8 2) fun x98=>
 bnd (az s55.2 ((0+x98):Int)) fun x99=>
 letm ((bB .and .u64 (x97:UInt64) (x99:UInt64):UInt64)) fun(x100:UInt64)=>
 letm ((bB .xor .u64 (x95:UInt64) (x100:UInt64):UInt64)) fun(x101:UInt64)=>
 letm ((x88+x101)) fun x102=>
 letm ((x83+x102)) fun x103=>
 bnd (b_ 8 1) fun x104=>
 bnd (az s55.2 ((0+x104):Int)) fun x105=>
 bnd (b_ 8 2) fun x106=>
 bnd (az s55.2 ((0+x106):Int)) fun x107=>
 bnd (b_ 8 3) fun x108=>
 bnd (az s55.2 ((0+x108):Int)) fun x109=>
 letm ((x109+x83)) fun x110=>
 bnd (b_ 8 5) fun x111=>
 bnd (az s55.2 ((0+x111):Int)) fun x112=>
 bnd (b_ 8 6) fun x113=>
 bnd (az s55.2 ((0+x113):Int)) fun x114=>
 letm ((aP (s55.1+1))) fun x115=>
 self56 (x115,[x103,x59,x105,x107,x110,x61,x112,x114]))
 (aM (R:=(List UInt64)) (S:=(Int×(List UInt64))) (fun self117 s116=>
 letm (decide (s116.1<8)) fun x118=>
 cond x118 (bnd (b_ 8 s116.1) fun x119=>
 bnd (az s116.2 ((0+x119):Int)) fun x120=>
 bnd (b_ 8 s116.1) fun x121=>
 bnd (az s55.2 ((0+x121):Int)) fun x122=>
 letm ((x120+x122)) fun x123=>
 bnd (b_ 8 s116.1) fun x124=>
 bnd (az s116.2 ((0+x124):Int)) fun _=>
 letm ((s116.2.set (0+x124) x123)) fun x126=>
 letm ((aP (s116.1+1))) fun x127=>
 self117 (x127,x126))
 (some s116.2)) bk (0,a0))) bk (0,a0))) bk (0,[(ab 0),(ab 0),(ab 0),(ab 0),(ab 0),(ab 0),(ab 0),(ab 0),(ab 0),(ab 0),(ab 0),(ab 0),(ab 0),(ab 0),(ab 0),(ab 0),(ab 0),(ab 0),(ab 0),(ab 0),(ab 0),(ab 0),(ab 0),(ab 0),(ab 0),(ab 0),(ab 0),(ab 0),(ab 0),(ab 0),(ab 0),(ab 0),(ab 0),(ab 0),(ab 0),(ab 0),(ab 0),(ab 0),(ab 0),(ab 0),(ab 0),(ab 0),(ab 0),(ab 0),(ab 0),(ab 0),(ab 0),(ab 0),(ab 0),(ab 0),(ab 0),(ab 0),(ab 0),(ab 0),(ab 0),(ab 0),(ab 0),(ab 0),(ab 0),(ab 0),(ab 0),(ab 0),(ab 0),(ab 0),(ab 0),(ab 0),(ab 0),(ab 0),(ab 0),(ab 0),(ab 0),(ab 0),(ab 0),(ab 0),(ab 0),(ab 0),(ab 0),(ab 0),(ab 0),(ab 0)])
def gY(a0:(List UInt8)):Option (List UInt8):=
 bnd (iC 80) fun x1=>
 bnd (lc a0 128 16) fun x2=>
 aM (R:=(List UInt8)) (S:=((List UInt8)×(List UInt64))) (fun self4 s3=>
 letm (decide (0<(s3.1.length:Int))) fun x5=>
 cond x5 (bnd (Gk.cut s3.1 0 128) fun x6=>
 bnd (j2 s3.2 x1.1 x6) fun x7=>
 bnd (Gk.cut s3.1 128 (s3.1.length:Int)) fun x8=>
 self4 (x8,x7))
 (aM (R:=(List UInt8)) (S:=((List UInt8)×Int)) (fun self10 s9=>
 letm (decide (s9.2<8)) fun x11=>
 cond x11 (bnd (az s3.2 s9.2) fun x12=>
 aM (R:=(List UInt8)) (S:=((List UInt8)×Int)) (fun self14 s13=>
 letm (decide (0≤s13.2)) fun x15=>
 cond x15 (bnd ((dW .u64 (x12:UInt64) s13.2:Option UInt64)) fun(x16:UInt64)=>
 letm ((aj (UInt64.toNat x16:Int))) fun x17=>
 bnd (app s13.1 [x17]) fun x18=>
 letm ((aP (s13.2-8))) fun x19=>
 self14 (x18,x19))
 (letm ((aP (s9.2+1))) fun x20=>
 self10 (s13.1,x20))) bk (s9.1,56))
 (some s9.1)) bk ([],0))) bk (x2,x1.2)
def iX(a0:(List UInt8)):Option (List UInt64):=
 aM (R:=(List UInt64)) (S:=(Int×(List UInt64))) (fun self2 s1=>
 letm (decide (0≤s1.1)) fun x3=>
 cond x3 (bnd (quo s1.1 8) fun x4=>
 bnd (quo s1.1 8) fun x5=>
 bnd (b_ 4 x5) fun x6=>
 bnd (az s1.2 ((0+x6):Int)) fun x7=>
 bnd ((gE .u64 (x7:UInt64) (UInt64.toNat 8:Int):Option UInt64)) fun(x8:UInt64)=>
 bnd (b_ 32 s1.1) fun x9=>
 bnd (az a0 ((0+x9):Int)) fun x10=>
 letm ((ab (UInt8.toNat x10:Int))) fun x11=>
 letm ((bB .or .u64 (x8:UInt64) (x11:UInt64):UInt64)) fun(x12:UInt64)=>
 bnd (b_ 4 x4) fun x13=>
 bnd (az s1.2 ((0+x13):Int)) fun _=>
 letm ((s1.2.set (0+x13) x12)) fun x15=>
 letm ((aP (s1.1-1))) fun x16=>
 self2 (x16,x15))
 (some s1.2)) bk (31,[(ab 0),(ab 0),(ab 0),(ab 0)])
def eh(a0:(List UInt8)):Option ((List UInt64)×(List UInt8)):=
 bnd (gY a0) fun x1=>
 bnd (Gk.cut x1 0 32) fun x2=>
 bnd (mP 32 x2) fun x3=>
 bnd (b_ 32 0) fun x4=>
 bnd (az x3 ((0+x4):Int)) fun x5=>
 letm ((aj (bits .and .u8 (UInt8.toNat x5) (UInt8.toNat 248)))) fun x6=>
 bnd (b_ 32 0) fun x7=>
 bnd (az x3 ((0+x7):Int)) fun _=>
 letm ((x3.set (0+x7) x6)) fun x9=>
 bnd (b_ 32 31) fun x10=>
 bnd (az x9 ((0+x10):Int)) fun x11=>
 letm ((aj (bits .and .u8 (UInt8.toNat x11) (UInt8.toNat 127)))) fun x12=>
 letm ((aj (bits .or .u8 (UInt8.toNat x12) (UInt8.toNat 64)))) fun x13=>
 bnd (b_ 32 31) fun x14=>
 bnd (az x9 ((0+x14):Int)) fun _=>
 letm ((x9.set (0+x14) x13)) fun x16=>
 bnd (iX x16) fun x17=>
 bnd (Gk.cut x1 32 (x1.length:Int)) fun x18=>
 some (x17,x18)
def bV(a0:(List UInt64))(a1:(List UInt64)):Option ((List UInt64)×UInt64):=
 aM (R:=((List UInt64)×UInt64)) (S:=(UInt64×(Int×(List UInt64)))) (fun self3 s2=>
 letm (decide (s2.2.1<4)) fun x4=>
 cond x4 (bnd (b_ 4 s2.2.1) fun x5=>
 bnd (az s2.2.2 ((0+x5):Int)) fun x6=>
 bnd (b_ 4 s2.2.1) fun x7=>
 bnd (az a1 ((0+x7):Int)) fun x8=>
 bnd (jK x6 x8 s2.1) fun x9=>
 bnd (b_ 4 s2.2.1) fun x10=>
 bnd (az s2.2.2 ((0+x10):Int)) fun _=>
 letm ((s2.2.2.set (0+x10) x9.1)) fun x12=>
 letm ((aP (s2.2.1+1))) fun x13=>
 self3 (x9.2,(x13,x12)))
 (some (s2.2.2,s2.1))) bk (0,(0,a0))
def bA(a0:(List UInt64))(a1:(List UInt64)):Option (List UInt64):=
 bnd (bV a0 a1) fun x2=>
 letm ((38*x2.2)) fun x3=>
 bnd (bV x2.1 [x3,(ab 0),(ab 0),(ab 0)]) fun x4=>
 letm ((38*x4.2)) fun x5=>
 bnd (bV x4.1 [x5,(ab 0),(ab 0),(ab 0)]) fun x6=>
 some x6.1
def ea:Option (List UInt64):=
 some [18446744073709551597,18446744073709551615,18446744073709551615,9223372036854775807]
def gF(a0:(List UInt64))(a1:(List UInt64)):Option (List UInt64):=
 aM (R:=(List UInt64)) (S:=(Int×(List UInt64))) (fun self3 s2=>
 letm (decide (s2.1<4)) fun x4=>
 cond x4 (bnd (az a0 s2.1) fun x5=>
 aM (R:=(List UInt64)) (S:=(UInt64×(Int×(List UInt64)))) (fun self7 s6=>
 letm (decide (s6.2.1<4)) fun x8=>
 cond x8 (bnd (az a1 s6.2.1) fun x9=>
 bnd (au x5 x9) fun x10=>
 letm ((aP (s2.1+s6.2.1))) fun x11=>
 bnd (b_ 8 x11) fun x12=>
 bnd (az s6.2.2 ((0+x12):Int)) fun x13=>
 bnd (bl x10.2 x13 0) fun x14=>
 letm ((x10.1+x14.2)) fun x15=>
 bnd (bl x14.1 s6.1 0) fun x16=>
 letm ((aP (s2.1+s6.2.1))) fun x17=>
 letm ((x15+x16.2)) fun x18=>
 bnd (b_ 8 x17) fun x19=>
 bnd (az s6.2.2 ((0+x19):Int)) fun _=>
 letm ((s6.2.2.set (0+x19) x16.1)) fun x21=>
 letm ((aP (s6.2.1+1))) fun x22=>
 self7 (x18,(x22,x21)))
 (letm ((aP (s2.1+4))) fun x23=>
 bnd (b_ 8 x23) fun x24=>
 bnd (az s6.2.2 ((0+x24):Int)) fun _=>
 letm ((s6.2.2.set (0+x24) s6.1)) fun x26=>
 letm ((aP (s2.1+1))) fun x27=>
 self3 (x27,x26))) bk (0,(0,s2.2)))
 (some s2.2)) bk (0,[(ab 0),(ab 0),(ab 0),(ab 0),(ab 0),(ab 0),(ab 0),(ab 0)])
def ck(a0:(List UInt64))(a1:(List UInt64)):Option ((List UInt64)×UInt64):=
 aM (R:=((List UInt64)×UInt64)) (S:=(UInt64×(Int×(List UInt64)))) (fun self3 s2=>
 letm (decide (s2.2.1<4)) fun x4=>
 cond x4 (bnd (b_ 4 s2.2.1) fun x5=>
 bnd (az s2.2.2 ((0+x5):Int)) fun x6=>
 bnd (b_ 4 s2.2.1) fun x7=>
 bnd (az a1 ((0+x7):Int)) fun x8=>
 bnd (bl x6 x8 s2.1) fun x9=>
 bnd (b_ 4 s2.2.1) fun x10=>
 bnd (az s2.2.2 ((0+x10):Int)) fun _=>
 letm ((s2.2.2.set (0+x10) x9.1)) fun x12=>
 letm ((aP (s2.2.1+1))) fun x13=>
 self3 (x9.2,(x13,x12)))
 (some (s2.2.2,s2.1))) bk (0,(0,a0))
def aB(a0:(List UInt64))(a1:(List UInt64)):Option (List UInt64):=
 bnd (gF a0 a1) fun x2=>
 aM (R:=(List UInt64)) (S:=(UInt64×(Int×(List UInt64)))) (fun self4 s3=>
 letm (decide (s3.2.1<4)) fun x5=>
 cond x5 (letm ((aP (s3.2.1+4))) fun x6=>
 bnd (b_ 8 x6) fun x7=>
 bnd (az x2 ((0+x7):Int)) fun x8=>
 bnd (au x8 38) fun x9=>
 bnd (b_ 8 s3.2.1) fun x10=>
 bnd (az x2 ((0+x10):Int)) fun x11=>
 bnd (bl x9.2 x11 0) fun x12=>
 letm ((x9.1+x12.2)) fun x13=>
 bnd (bl x12.1 s3.1 0) fun x14=>
 letm ((x13+x14.2)) fun x15=>
 bnd (b_ 4 s3.2.1) fun x16=>
 bnd (az s3.2.2 ((0+x16):Int)) fun _=>
 letm ((s3.2.2.set (0+x16) x14.1)) fun x18=>
 letm ((aP (s3.2.1+1))) fun x19=>
 self4 (x15,(x19,x18)))
 (letm ((38*s3.1)) fun x20=>
 bnd (ck s3.2.2 [x20,(ab 0),(ab 0),(ab 0)]) fun x21=>
 letm ((38*x21.2)) fun x22=>
 bnd (ck x21.1 [x22,(ab 0),(ab 0),(ab 0)]) fun x23=>
 some x23.1)) bk (0,(0,a0))
def dR(a0:(List UInt64))(a1:(List UInt64)):Option (List UInt64):=
 aM (R:=(List UInt64)) (S:=(Int×(List UInt64))) (fun self3 s2=>
 letm (decide (0≤s2.1)) fun x4=>
 cond x4 (bnd (β:=(List UInt64)) (bnd (aB s2.2 s2.2) fun x5=>
 bnd (quo s2.1 64) fun x6=>
 bnd (b_ 4 x6) fun x7=>
 bnd (az a1 ((0+x7):Int)) fun x8=>
 bnd (Gk.rem s2.1 64) fun x9=>
 bnd ((dW .u64 (x8:UInt64) x9:Option UInt64)) fun(x10:UInt64)=>
 letm ((bB .and .u64 (x10:UInt64) (1:UInt64):UInt64)) fun(x11:UInt64)=>
 letm (((UInt64.toNat x11:Int)==(UInt64.toNat 1:Int))) fun x12=>
 cond x12 (bnd (aB x5 a0) fun x13=>
 some x13)
 (some x5)) fun v14=>
 letm ((aP (s2.1-1))) fun x15=>
 self3 (x15,v14))
 (some s2.2)) bk (255,[1,(ab 0),(ab 0),(ab 0)])
def fg(a0:(List UInt64)):Option (List UInt64):=
 bnd (ea) fun x1=>
 bnd (bV x1 [2,(ab 0),(ab 0),(ab 0)]) fun x2=>
 bnd (dR a0 x2.1) fun x3=>
 some x3
def iz:Option (List UInt64):=
 bnd (bA (List.replicate 4 (0:UInt64)) [121665,(ab 0),(ab 0),(ab 0)]) fun x0=>
 bnd (fg [121666,(ab 0),(ab 0),(ab 0)]) fun x1=>
 bnd (aB x0 x1) fun x2=>
 some x2
def c_(a0:(List UInt64))(a1:(List UInt64)):Option (List UInt64):=
 bnd (ck a0 a1) fun x2=>
 letm ((38*x2.2)) fun x3=>
 bnd (ck x2.1 [x3,(ab 0),(ab 0),(ab 0)]) fun x4=>
 letm ((38*x4.2)) fun x5=>
 bnd (ck x4.1 [x5,(ab 0),(ab 0),(ab 0)]) fun x6=>
 some x6.1
def eM:Option aJ:=
 bnd (iz) fun x0=>
 bnd (c_ x0 x0) fun x1=>
 some (x0,x1)
def bt(a0:(List UInt64)):Option (List UInt64):=
 bnd (b_ 4 3) fun x1=>
 bnd (az a0 ((0+x1):Int)) fun x2=>
 bnd ((dW .u64 (x2:UInt64) (UInt64.toNat 63:Int):Option UInt64)) fun(x3:UInt64)=>
 bnd (b_ 4 3) fun x4=>
 bnd (az a0 ((0+x4):Int)) fun x5=>
 letm ((bB .and .u64 (x5:UInt64) (9223372036854775807:UInt64):UInt64)) fun(x6:UInt64)=>
 bnd (b_ 4 3) fun x7=>
 bnd (az a0 ((0+x7):Int)) fun _=>
 letm ((a0.set (0+x7) x6)) fun x9=>
 letm ((19*x3)) fun x10=>
 bnd (ck x9 [x10,(ab 0),(ab 0),(ab 0)]) fun x11=>
 bnd (ea) fun x12=>
 bnd (bV x11.1 x12) fun x13=>
 letm (((UInt64.toNat x13.2:Int)==(UInt64.toNat 0:Int))) fun x14=>
 cond x14 (some x13.1)
 (some x11.1)
def dp(a0:(List UInt64)):Option (List UInt8):=
 aM (R:=(List UInt8)) (S:=(Int×(List UInt8))) (fun self2 s1=>
 letm (decide (s1.1<32)) fun x3=>
 cond x3 (bnd (quo s1.1 8) fun x4=>
 bnd (b_ 4 x4) fun x5=>
 bnd (az a0 ((0+x5):Int)) fun x6=>
 bnd (Gk.rem s1.1 8) fun x7=>
 letm ((aP (8*x7))) fun x8=>
 bnd ((dW .u64 (x6:UInt64) x8:Option UInt64)) fun(x9:UInt64)=>
 letm ((aj (UInt64.toNat x9:Int))) fun x10=>
 bnd (b_ 32 s1.1) fun x11=>
 bnd (az s1.2 ((0+x11):Int)) fun _=>
 letm ((s1.2.set (0+x11) x10)) fun x13=>
 letm ((aP (s1.1+1))) fun x14=>
 self2 (x14,x13))
 (some s1.2)) bk (0,[(aj 0),(aj 0),(aj 0),(aj 0),(aj 0),(aj 0),(aj 0),(aj 0),(aj 0),(aj 0),(aj 0),(aj 0),(aj 0),(aj 0),(aj 0),(aj 0),(aj 0),(aj 0),(aj 0),(aj 0),(aj 0),(aj 0),(aj 0),(aj 0),(aj 0),(aj 0),(aj 0),(aj 0),(aj 0),(aj 0),(aj 0),(aj 0)])
def gR:Option (List UInt8):=
 bnd (fg [5,(ab 0),(ab 0),(ab 0)]) fun x0=>
 bnd (aB [4,(ab 0),(ab 0),(ab 0)] x0) fun x1=>
 bnd (bt x1) fun x2=>
 bnd (dp x2) fun x3=>
 some x3
def eU(a0:(List UInt64))(a1:(List UInt64)):Option Bool:=
 bnd (bV a0 a1) fun x2=>
 letm (((UInt64.toNat x2.2:Int)==(UInt64.toNat 1:Int))) fun x3=>
 some x3
def fF(a0:(List UInt64))(a1:Int):Option (List UInt64):=
 aM (R:=(List UInt64)) (S:=(Int×(List UInt64))) (fun self3 s2=>
 letm (decide (s2.1<4)) fun x4=>
 cond x4 (bnd (β:=(List UInt64)) (bnd (b_ 4 s2.1) fun x5=>
 bnd (az s2.2 ((0+x5):Int)) fun x6=>
 bnd ((dW .u64 (x6:UInt64) a1:Option UInt64)) fun(x7:UInt64)=>
 bnd (b_ 4 s2.1) fun x8=>
 bnd (az s2.2 ((0+x8):Int)) fun _=>
 letm ((s2.2.set (0+x8) x7)) fun x10=>
 letm ((aP (s2.1+1))) fun x11=>
 letm (decide (x11<4)) fun x12=>
 cond x12 (bnd (b_ 4 s2.1) fun x13=>
 bnd (az x10 ((0+x13):Int)) fun x14=>
 letm ((aP (s2.1+1))) fun x15=>
 bnd (b_ 4 x15) fun x16=>
 bnd (az x10 ((0+x16):Int)) fun x17=>
 letm ((aP (64-a1))) fun x18=>
 bnd ((gE .u64 (x17:UInt64) x18:Option UInt64)) fun(x19:UInt64)=>
 letm ((bB .or .u64 (x14:UInt64) (x19:UInt64):UInt64)) fun(x20:UInt64)=>
 bnd (b_ 4 s2.1) fun x21=>
 bnd (az x10 ((0+x21):Int)) fun _=>
 letm ((x10.set (0+x21) x20)) fun x23=>
 some x23)
 (some x10)) fun v24=>
 letm ((aP (s2.1+1))) fun x25=>
 self3 (x25,v24))
 (some s2.2)) bk (0,a0)
def cQ(a0:(List UInt64))(a1:(List UInt64)):Option Bool:=
 bnd (bt a0) fun x2=>
 bnd (bt a1) fun x3=>
 letm ((ut .u64 x2 x3)) fun x4=>
 some x4
def jC(a0:(List UInt64)):Option ((List UInt64)×Bool):=
 bnd (ea) fun x1=>
 bnd (ck x1 [3,(ab 0),(ab 0),(ab 0)]) fun x2=>
 bnd (fF x2.1 3) fun x3=>
 bnd (dR a0 x3) fun x4=>
 bnd (β:=(List UInt64)) (bnd (aB x4 x4) fun x5=>
 bnd (cQ x5 a0) fun x6=>
 letm ((!x6)) fun x7=>
 cond x7 (bnd (ea) fun x8=>
 bnd (bV x8 [1,(ab 0),(ab 0),(ab 0)]) fun x9=>
 bnd (fF x9.1 2) fun x10=>
 bnd (dR [2,(ab 0),(ab 0),(ab 0)] x10) fun x11=>
 bnd (aB x4 x11) fun x12=>
 some x12)
 (some x4)) fun v13=>
 bnd (aB v13 v13) fun x14=>
 bnd (cQ x14 a0) fun x15=>
 letm ((!x15)) fun x16=>
 cond x16 (some ((List.replicate 4 (0:UInt64)),false))
 (bnd (bt v13) fun x17=>
 bnd (β:=(List UInt64)) (bnd (b_ 4 0) fun x18=>
 bnd (az x17 ((0+x18):Int)) fun x19=>
 letm ((bB .and .u64 (x19:UInt64) (1:UInt64):UInt64)) fun(x20:UInt64)=>
 letm (((UInt64.toNat x20:Int)==(UInt64.toNat 1:Int))) fun x21=>
 cond x21 (bnd (bA (List.replicate 4 (0:UInt64)) x17) fun x22=>
 bnd (bt x22) fun x23=>
 some x23)
 (some x17)) fun v24=>
 some (v24,true))
def cC(a0:aJ)(a1:(List UInt8)):Option (ak×Bool):=
 bnd (b_ 32 31) fun x2=>
 bnd (az a1 ((0+x2):Int)) fun x3=>
 bnd (dW .u8 x3 (UInt64.toNat 7:Int)) fun x4=>
 bnd (b_ 32 31) fun x5=>
 bnd (az a1 ((0+x5):Int)) fun x6=>
 letm ((aj (bits .and .u8 (UInt8.toNat x6) (UInt8.toNat 127)))) fun x7=>
 bnd (b_ 32 31) fun x8=>
 bnd (az a1 ((0+x8):Int)) fun _=>
 letm ((a1.set (0+x8) x7)) fun x10=>
 bnd (iX x10) fun x11=>
 bnd (ea) fun x12=>
 bnd (eU x11 x12) fun x13=>
 letm ((!x13)) fun x14=>
 cond x14 (some (((List.replicate 4 (0:UInt64)),((List.replicate 4 (0:UInt64)),((List.replicate 4 (0:UInt64)),(List.replicate 4 (0:UInt64))))),false))
 (bnd (aB x11 x11) fun x15=>
 bnd (bA x15 [1,(ab 0),(ab 0),(ab 0)]) fun x16=>
 bnd (aB a0.1 x15) fun x17=>
 bnd (c_ x17 [1,(ab 0),(ab 0),(ab 0)]) fun x18=>
 bnd (fg x18) fun x19=>
 bnd (aB x16 x19) fun x20=>
 bnd (jC x20) fun x21=>
 bnd (β:=Bool) (letm ((!x21.2)) fun x22=>
 cond x22 (some true)
 (letm (((UInt8.toNat x4:Int)==(UInt8.toNat 1:Int))) fun x23=>
 cond x23 (letm ((ut .u64 x21.1 (List.replicate 4 (0:UInt64)))) fun x24=>
 some x24)
 (some false))) fun v25=>
 cond v25 (some (((List.replicate 4 (0:UInt64)),((List.replicate 4 (0:UInt64)),((List.replicate 4 (0:UInt64)),(List.replicate 4 (0:UInt64))))),false))
 (bnd (β:=(List UInt64)) (letm (((UInt8.toNat x4:Int)==(UInt8.toNat 1:Int))) fun x26=>
 cond x26 (bnd (bA (List.replicate 4 (0:UInt64)) x21.1) fun x27=>
 some x27)
 (some x21.1)) fun v28=>
 bnd (aB v28 x11) fun x29=>
 some ((v28,(x11,([1,(ab 0),(ab 0),(ab 0)],x29))),true)))
def jo:Option ak:=
 some ((List.replicate 4 (0:UInt64)),([1,(ab 0),(ab 0),(ab 0)],([1,(ab 0),(ab 0),(ab 0)],(List.replicate 4 (0:UInt64)))))
def bz(a0:aJ)(a1:ak)(a2:ak):Option ak:=
 bnd (bA a1.2.1 a1.1) fun x3=>
 bnd (bA a2.2.1 a2.1) fun x4=>
 bnd (aB x3 x4) fun x5=>
 bnd (c_ a1.2.1 a1.1) fun x6=>
 bnd (c_ a2.2.1 a2.1) fun x7=>
 bnd (aB x6 x7) fun x8=>
 bnd (aB a1.2.2.2 a0.2) fun x9=>
 bnd (aB x9 a2.2.2.2) fun x10=>
 bnd (aB a1.2.2.1 a2.2.2.1) fun x11=>
 bnd (c_ x11 x11) fun x12=>
 bnd (bA x8 x5) fun x13=>
 bnd (bA x12 x10) fun x14=>
 bnd (c_ x12 x10) fun x15=>
 bnd (c_ x8 x5) fun x16=>
 bnd (aB x13 x14) fun x17=>
 bnd (aB x15 x16) fun x18=>
 bnd (aB x14 x15) fun x19=>
 bnd (aB x13 x16) fun x20=>
 some (x17,(x18,(x19,x20)))
def cI(a0:aJ)(a1:(List UInt64))(a2:ak):Option ak:=
 bnd (jo) fun x3=>
 aM (R:=ak) (S:=(Int×ak)) (fun self5 s4=>
 letm (decide (0≤s4.1)) fun x6=>
 cond x6 (bnd (β:=ak) (bnd (bz a0 s4.2 s4.2) fun x7=>
 bnd (quo s4.1 64) fun x8=>
 bnd (b_ 4 x8) fun x9=>
 bnd (az a1 ((0+x9):Int)) fun x10=>
 bnd (Gk.rem s4.1 64) fun x11=>
 bnd ((dW .u64 (x10:UInt64) x11:Option UInt64)) fun(x12:UInt64)=>
 letm ((bB .and .u64 (x12:UInt64) (1:UInt64):UInt64)) fun(x13:UInt64)=>
 letm (((UInt64.toNat x13:Int)==(UInt64.toNat 1:Int))) fun x14=>
 cond x14 (bnd (bz a0 x7 a2) fun x15=>
 some x15)
 (some x7)) fun v16=>
 letm ((aP (s4.1-1))) fun x17=>
 self5 (x17,v16))
 (some s4.2)) bk (255,x3)
def db(a0:ak):Option (List UInt8):=
 bnd (fg a0.2.2.1) fun x1=>
 bnd (aB a0.1 x1) fun x2=>
 bnd (bt x2) fun x3=>
 bnd (aB a0.2.1 x1) fun x4=>
 bnd (bt x4) fun x5=>
 bnd (b_ 4 3) fun x6=>
 bnd (az x5 ((0+x6):Int)) fun x7=>
 bnd (b_ 4 0) fun x8=>
 bnd (az x3 ((0+x8):Int)) fun x9=>
 letm ((bB .and .u64 (x9:UInt64) (1:UInt64):UInt64)) fun(x10:UInt64)=>
 bnd ((gE .u64 (x10:UInt64) (UInt64.toNat 63:Int):Option UInt64)) fun(x11:UInt64)=>
 letm ((bB .or .u64 (x7:UInt64) (x11:UInt64):UInt64)) fun(x12:UInt64)=>
 bnd (b_ 4 3) fun x13=>
 bnd (az x5 ((0+x13):Int)) fun _=>
 letm ((x5.set (0+x13) x12)) fun x15=>
 bnd (dp x15) fun x16=>
 some x16
def cf(a0:aJ)(a1:(List UInt64)):Option (List UInt8):=
 bnd (gR) fun x2=>
 bnd (cC a0 x2) fun x3=>
 bnd (cI a0 a1 x3.1) fun x4=>
 bnd (db x4) fun x5=>
 some x5
def fC(a0:(List UInt8)):Option ((List UInt8)×Int):=
 letm (((a0.length:Int) != 32)) fun x1=>
 cond x1 (some ([],1))
 (bnd (eh a0) fun x2=>
 bnd (eM) fun x3=>
 bnd (cf x3 x2.1) fun x4=>
 some (x4,0))
def eW(a0:(List UInt8)):Option (List UInt8):=
 bnd (b_ 32 0) fun x1=>
 bnd (az a0 ((0+x1):Int)) fun x2=>
 letm ((aj (bits .and .u8 (UInt8.toNat x2) (UInt8.toNat 248)))) fun x3=>
 bnd (b_ 32 0) fun x4=>
 bnd (az a0 ((0+x4):Int)) fun _=>
 letm ((a0.set (0+x4) x3)) fun x6=>
 bnd (b_ 32 31) fun x7=>
 bnd (az x6 ((0+x7):Int)) fun x8=>
 letm ((aj (bits .and .u8 (UInt8.toNat x8) (UInt8.toNat 127)))) fun x9=>
 letm ((aj (bits .or .u8 (UInt8.toNat x9) (UInt8.toNat 64)))) fun x10=>
 bnd (b_ 32 31) fun x11=>
 bnd (az x6 ((0+x11):Int)) fun _=>
 letm ((x6.set (0+x11) x10)) fun x13=>
 some x13
def fq(a0:(List UInt8)):Option (List UInt64):=
 aM (R:=(List UInt64)) (S:=(Int×(List UInt64))) (fun self2 s1=>
 letm (decide (s1.1<32)) fun x3=>
 cond x3 (bnd (quo s1.1 8) fun x4=>
 bnd (b_ 4 x4) fun x5=>
 bnd (az s1.2 ((0+x5):Int)) fun x6=>
 bnd (b_ 32 s1.1) fun x7=>
 bnd (az a0 ((0+x7):Int)) fun x8=>
 letm ((ab (UInt8.toNat x8:Int))) fun x9=>
 bnd (Gk.rem s1.1 8) fun x10=>
 letm ((ab x10)) fun x11=>
 letm ((8*x11)) fun x12=>
 bnd ((gE .u64 (x9:UInt64) (UInt64.toNat x12:Int):Option UInt64)) fun(x13:UInt64)=>
 letm ((bB .or .u64 (x6:UInt64) (x13:UInt64):UInt64)) fun(x14:UInt64)=>
 bnd (b_ 4 x4) fun x15=>
 bnd (az s1.2 ((0+x15):Int)) fun _=>
 letm ((s1.2.set (0+x15) x14)) fun x17=>
 letm ((aP (s1.1+1))) fun x18=>
 self2 (x18,x17))
 (some s1.2)) bk (0,[(ab 0),(ab 0),(ab 0),(ab 0)])
def eo:Option (List UInt64):=
 some [18446744073709551597,18446744073709551615,18446744073709551615,9223372036854775807]
def cB(a0:(List UInt64))(a1:(List UInt64)):Option ((List UInt64)×UInt64):=
 aM (R:=((List UInt64)×UInt64)) (S:=(UInt64×(Int×(List UInt64)))) (fun self3 s2=>
 letm (decide (s2.2.1<4)) fun x4=>
 cond x4 (bnd (b_ 4 s2.2.1) fun x5=>
 bnd (az a0 ((0+x5):Int)) fun x6=>
 bnd (b_ 4 s2.2.1) fun x7=>
 bnd (az a1 ((0+x7):Int)) fun x8=>
 bnd (jK x6 x8 s2.1) fun x9=>
 bnd (b_ 4 s2.2.1) fun x10=>
 bnd (az s2.2.2 ((0+x10):Int)) fun _=>
 letm ((s2.2.2.set (0+x10) x9.1)) fun x12=>
 letm ((aP (s2.2.1+1))) fun x13=>
 self3 (x9.2,(x13,x12)))
 (some (s2.2.2,s2.1))) bk (0,(0,[(ab 0),(ab 0),(ab 0),(ab 0)]))
def eQ(a0:(List UInt64))(a1:(List UInt64)):Option Bool:=
 bnd (cB a0 a1) fun x2=>
 letm (((UInt64.toNat x2.2:Int)==(UInt64.toNat 1:Int))) fun x3=>
 some x3
def dx(a0:(List UInt64)):Option (List UInt64):=
 bnd (β:=(List UInt64)) (aM (R:=(List UInt64)) (S:=(List UInt64)) (fun self2 s1=>
 bnd (eo) fun x3=>
 bnd (eQ s1 x3) fun x4=>
 letm ((!x4)) fun x5=>
 cond x5 (bnd (eo) fun x6=>
 bnd (cB s1 x6) fun x7=>
 self2 x7.1)
 (some s1)) bk a0) fun v8=>
 some v8
def bG(a0:(List UInt64))(a1:(List UInt64)):Option ((List UInt64)×UInt64):=
 aM (R:=((List UInt64)×UInt64)) (S:=(UInt64×(Int×(List UInt64)))) (fun self3 s2=>
 letm (decide (s2.2.1<4)) fun x4=>
 cond x4 (bnd (b_ 4 s2.2.1) fun x5=>
 bnd (az a0 ((0+x5):Int)) fun x6=>
 bnd (b_ 4 s2.2.1) fun x7=>
 bnd (az a1 ((0+x7):Int)) fun x8=>
 bnd (bl x6 x8 s2.1) fun x9=>
 bnd (b_ 4 s2.2.1) fun x10=>
 bnd (az s2.2.2 ((0+x10):Int)) fun _=>
 letm ((s2.2.2.set (0+x10) x9.1)) fun x12=>
 letm ((aP (s2.2.1+1))) fun x13=>
 self3 (x9.2,(x13,x12)))
 (some (s2.2.2,s2.1))) bk (0,(0,[(ab 0),(ab 0),(ab 0),(ab 0)]))
def cj(a0:(List UInt64))(a1:(List UInt64)):Option (List UInt64):=
 bnd (bG a0 a1) fun x2=>
 bnd (dx x2.1) fun x3=>
 some x3
def bQ(a0:(List UInt64))(a1:(List UInt64)):Option (List UInt64):=
 bnd (cB a0 a1) fun x2=>
 bnd (β:=(List UInt64)) (letm (((UInt64.toNat x2.2:Int)==(UInt64.toNat 1:Int))) fun x3=>
 cond x3 (bnd (eo) fun x4=>
 bnd (bG x2.1 x4) fun x5=>
 some x5.1)
 (some x2.1)) fun v6=>
 some v6
def d_(a0:(List UInt64))(a1:(List UInt64)):Option (List UInt64):=
 aM (R:=(List UInt64)) (S:=(Int×(List UInt64))) (fun self3 s2=>
 letm (decide (s2.1<4)) fun x4=>
 cond x4 (aM (R:=(List UInt64)) (S:=(UInt64×(Int×(List UInt64)))) (fun self6 s5=>
 letm (decide (s5.2.1<4)) fun x7=>
 cond x7 (bnd (b_ 4 s2.1) fun x8=>
 bnd (az a0 ((0+x8):Int)) fun x9=>
 bnd (b_ 4 s5.2.1) fun x10=>
 bnd (az a1 ((0+x10):Int)) fun x11=>
 bnd (au x9 x11) fun x12=>
 letm ((aP (s2.1+s5.2.1))) fun x13=>
 bnd (b_ 8 x13) fun x14=>
 bnd (az s5.2.2 ((0+x14):Int)) fun x15=>
 bnd (bl x12.2 x15 0) fun x16=>
 letm ((x12.1+x16.2)) fun x17=>
 bnd (bl x16.1 s5.1 0) fun x18=>
 letm ((x17+x18.2)) fun x19=>
 letm ((aP (s2.1+s5.2.1))) fun x20=>
 bnd (b_ 8 x20) fun x21=>
 bnd (az s5.2.2 ((0+x21):Int)) fun _=>
 letm ((s5.2.2.set (0+x21) x18.1)) fun x23=>
 letm ((aP (s5.2.1+1))) fun x24=>
 self6 (x19,(x24,x23)))
 (letm ((aP (s2.1+4))) fun x25=>
 bnd (b_ 8 x25) fun x26=>
 bnd (az s5.2.2 ((0+x26):Int)) fun _=>
 letm ((s5.2.2.set (0+x26) s5.1)) fun x28=>
 letm ((aP (s2.1+1))) fun x29=>
 self3 (x29,x28))) bk (0,(0,s2.2)))
 (some s2.2)) bk (0,[(ab 0),(ab 0),(ab 0),(ab 0),(ab 0),(ab 0),(ab 0),(ab 0)])
def aD(a0:(List UInt64))(a1:(List UInt64)):Option (List UInt64):=
 bnd (d_ a0 a1) fun x2=>
 aM (R:=(List UInt64)) (S:=(UInt64×(Int×(List UInt64)))) (fun self4 s3=>
 letm (decide (s3.2.1<4)) fun x5=>
 cond x5 (letm ((aP (4+s3.2.1))) fun x6=>
 bnd (b_ 8 x6) fun x7=>
 bnd (az x2 ((0+x7):Int)) fun x8=>
 bnd (au x8 38) fun x9=>
 bnd (b_ 8 s3.2.1) fun x10=>
 bnd (az x2 ((0+x10):Int)) fun x11=>
 bnd (bl x9.2 x11 0) fun x12=>
 letm ((x9.1+x12.2)) fun x13=>
 bnd (bl x12.1 s3.1 0) fun x14=>
 letm ((x13+x14.2)) fun x15=>
 bnd (b_ 4 s3.2.1) fun x16=>
 bnd (az s3.2.2 ((0+x16):Int)) fun _=>
 letm ((s3.2.2.set (0+x16) x14.1)) fun x18=>
 letm ((aP (s3.2.1+1))) fun x19=>
 self4 (x15,(x19,x18)))
 (letm ((s3.1*38)) fun x20=>
 bnd (bG s3.2.2 [x20,(ab 0),(ab 0),(ab 0)]) fun x21=>
 bnd (β:=(List UInt64)) (letm (((UInt64.toNat x21.2:Int)==(UInt64.toNat 1:Int))) fun x22=>
 cond x22 (bnd (bG x21.1 [38,(ab 0),(ab 0),(ab 0)]) fun x23=>
 some x23.1)
 (some x21.1)) fun v24=>
 bnd (dx v24) fun x25=>
 some x25)) bk (0,(0,[(ab 0),(ab 0),(ab 0),(ab 0)]))
def eV(a0:(List UInt64))(a1:(List UInt64)):Option (List UInt64):=
 aM (R:=(List UInt64)) (S:=(Int×(List UInt64))) (fun self3 s2=>
 letm (decide (0≤s2.1)) fun x4=>
 cond x4 (bnd (β:=(List UInt64)) (bnd (aD s2.2 s2.2) fun x5=>
 bnd (quo s2.1 64) fun x6=>
 bnd (b_ 4 x6) fun x7=>
 bnd (az a1 ((0+x7):Int)) fun x8=>
 bnd (Gk.rem s2.1 64) fun x9=>
 letm ((ab x9)) fun x10=>
 bnd ((dW .u64 (x8:UInt64) (UInt64.toNat x10:Int):Option UInt64)) fun(x11:UInt64)=>
 letm ((bB .and .u64 (x11:UInt64) (1:UInt64):UInt64)) fun(x12:UInt64)=>
 letm (((UInt64.toNat x12:Int)==(UInt64.toNat 1:Int))) fun x13=>
 cond x13 (bnd (aD x5 a0) fun x14=>
 some x14)
 (some x5)) fun v15=>
 letm ((aP (s2.1-1))) fun x16=>
 self3 (x16,v15))
 (some s2.2)) bk (255,[1,(ab 0),(ab 0),(ab 0)])
def d9(a0:(List UInt64)):Option (List UInt64):=
 bnd (eo) fun x1=>
 bnd (cB x1 [2,(ab 0),(ab 0),(ab 0)]) fun x2=>
 bnd (eV a0 x2.1) fun x3=>
 some x3
def fb(a0:(List UInt64)):Option (List UInt8):=
 aM (R:=(List UInt8)) (S:=(Int×(List UInt8))) (fun self2 s1=>
 letm (decide (s1.1<32)) fun x3=>
 cond x3 (bnd (quo s1.1 8) fun x4=>
 bnd (b_ 4 x4) fun x5=>
 bnd (az a0 ((0+x5):Int)) fun x6=>
 bnd (Gk.rem s1.1 8) fun x7=>
 letm ((ab x7)) fun x8=>
 letm ((8*x8)) fun x9=>
 bnd ((dW .u64 (x6:UInt64) (UInt64.toNat x9:Int):Option UInt64)) fun(x10:UInt64)=>
 letm ((aj (UInt64.toNat x10:Int))) fun x11=>
 bnd (b_ 32 s1.1) fun x12=>
 bnd (az s1.2 ((0+x12):Int)) fun _=>
 letm ((s1.2.set (0+x12) x11)) fun x14=>
 letm ((aP (s1.1+1))) fun x15=>
 self2 (x15,x14))
 (some s1.2)) bk (0,[(aj 0),(aj 0),(aj 0),(aj 0),(aj 0),(aj 0),(aj 0),(aj 0),(aj 0),(aj 0),(aj 0),(aj 0),(aj 0),(aj 0),(aj 0),(aj 0),(aj 0),(aj 0),(aj 0),(aj 0),(aj 0),(aj 0),(aj 0),(aj 0),(aj 0),(aj 0),(aj 0),(aj 0),(aj 0),(aj 0),(aj 0),(aj 0)])
def fm(a0:(List UInt8))(a1:(List UInt8)):Option (List UInt8):=
 bnd (eW a0) fun x2=>
 bnd (b_ 32 31) fun x3=>
 bnd (az a1 ((0+x3):Int)) fun x4=>
 letm ((aj (bits .and .u8 (UInt8.toNat x4) (UInt8.toNat 127)))) fun x5=>
 bnd (b_ 32 31) fun x6=>
 bnd (az a1 ((0+x6):Int)) fun _=>
 letm ((a1.set (0+x6) x5)) fun x8=>
 bnd (fq x8) fun x9=>
 bnd (dx x9) fun x10=>
 aM (R:=(List UInt8)) (S:=(Int×ak)) (fun self12 s11=>
 letm (decide (0≤s11.1)) fun x13=>
 cond x13 (bnd (β:=ak) (bnd (quo s11.1 8) fun x14=>
 bnd (b_ 32 x14) fun x15=>
 bnd (az x2 ((0+x15):Int)) fun x16=>
 bnd (Gk.rem s11.1 8) fun x17=>
 letm ((ab x17)) fun x18=>
 bnd (dW .u8 x16 (UInt64.toNat x18:Int)) fun x19=>
 letm ((aj (bits .and .u8 (UInt8.toNat x19) (UInt8.toNat 1)))) fun x20=>
 letm (((UInt8.toNat x20:Int)==(UInt8.toNat 1:Int))) fun x21=>
 bnd (β:=ak) (cond x21 (some (s11.2.2.2.1,(s11.2.2.2.2,(s11.2.1,s11.2.2.1))))
 (some (s11.2.1,(s11.2.2.1,(s11.2.2.2.1,s11.2.2.2.2))))) fun v22=>
 bnd (cj v22.1 v22.2.1) fun x23=>
 bnd (bQ v22.1 v22.2.1) fun x24=>
 bnd (aD x23 x23) fun x25=>
 bnd (aD x24 x24) fun x26=>
 bnd (bQ x25 x26) fun x27=>
 bnd (bQ v22.2.2.1 v22.2.2.2) fun x28=>
 bnd (aD x28 x23) fun x29=>
 bnd (cj v22.2.2.1 v22.2.2.2) fun x30=>
 bnd (aD x30 x24) fun x31=>
 bnd (cj x29 x31) fun x32=>
 bnd (bQ x29 x31) fun x33=>
 bnd (aD x32 x32) fun x34=>
 bnd (aD x33 x33) fun x35=>
 bnd (aD x10 x35) fun x36=>
 bnd (aD x25 x26) fun x37=>
 bnd (aD [121665,(ab 0),(ab 0),(ab 0)] x27) fun x38=>
 bnd (cj x25 x38) fun x39=>
 bnd (aD x27 x39) fun x40=>
 cond x21 (some (x34,(x36,(x37,x40))))
 (some (x37,(x40,(x34,x36))))) fun v41=>
 letm ((aP (s11.1-1))) fun x42=>
 self12 (x42,(v41.1,(v41.2.1,(v41.2.2.1,v41.2.2.2)))))
 (bnd (d9 s11.2.2.1) fun x43=>
 bnd (aD s11.2.1 x43) fun x44=>
 bnd (fb x44) fun x45=>
 some x45)) bk (255,([1,(ab 0),(ab 0),(ab 0)],((List.replicate 4 (0:UInt64)),(x10,[1,(ab 0),(ab 0),(ab 0)]))))
def gg(a0:(List UInt8)):Option ((List UInt8)×Int):=
 letm (((a0.length:Int) != 32)) fun x1=>
 cond x1 (some ([],1))
 (bnd (mP 32 a0) fun x2=>
 bnd (fm x2 [9,(aj 0),(aj 0),(aj 0),(aj 0),(aj 0),(aj 0),(aj 0),(aj 0),(aj 0),(aj 0),(aj 0),(aj 0),(aj 0),(aj 0),(aj 0),(aj 0),(aj 0),(aj 0),(aj 0),(aj 0),(aj 0),(aj 0),(aj 0),(aj 0),(aj 0),(aj 0),(aj 0),(aj 0),(aj 0),(aj 0),(aj 0)]) fun x3=>
 bnd (app [] x3) fun x4=>
 some (x4,0))
def dQ(a0:Int):Option aY:=
 bnd (dz a0) fun x1=>
 bnd (gg x1) fun x2=>
 some (1,(4,(0,([],(x2.1,([],[]))))))
def ba(a0:(List UInt8)):Option UInt64:=
 bnd (az a0 0) fun x1=>
 letm ((ab (UInt8.toNat x1:Int))) fun x2=>
 bnd (az a0 1) fun x3=>
 letm ((ab (UInt8.toNat x3:Int))) fun x4=>
 bnd ((gE .u64 (x4:UInt64) (UInt64.toNat 8:Int):Option UInt64)) fun(x5:UInt64)=>
 letm ((bB .or .u64 (x2:UInt64) (x5:UInt64):UInt64)) fun(x6:UInt64)=>
 bnd (az a0 2) fun x7=>
 letm ((ab (UInt8.toNat x7:Int))) fun x8=>
 bnd ((gE .u64 (x8:UInt64) (UInt64.toNat 16:Int):Option UInt64)) fun(x9:UInt64)=>
 letm ((bB .or .u64 (x6:UInt64) (x9:UInt64):UInt64)) fun(x10:UInt64)=>
 bnd (az a0 3) fun x11=>
 letm ((ab (UInt8.toNat x11:Int))) fun x12=>
 bnd ((gE .u64 (x12:UInt64) (UInt64.toNat 24:Int):Option UInt64)) fun(x13:UInt64)=>
 letm ((bB .or .u64 (x10:UInt64) (x13:UInt64):UInt64)) fun(x14:UInt64)=>
 bnd (az a0 4) fun x15=>
 letm ((ab (UInt8.toNat x15:Int))) fun x16=>
 bnd ((gE .u64 (x16:UInt64) (UInt64.toNat 32:Int):Option UInt64)) fun(x17:UInt64)=>
 letm ((bB .or .u64 (x14:UInt64) (x17:UInt64):UInt64)) fun(x18:UInt64)=>
 bnd (az a0 5) fun x19=>
 letm ((ab (UInt8.toNat x19:Int))) fun x20=>
 bnd ((gE .u64 (x20:UInt64) (UInt64.toNat 40:Int):Option UInt64)) fun(x21:UInt64)=>
 letm ((bB .or .u64 (x18:UInt64) (x21:UInt64):UInt64)) fun(x22:UInt64)=>
 bnd (az a0 6) fun x23=>
 letm ((ab (UInt8.toNat x23:Int))) fun x24=>
 bnd ((gE .u64 (x24:UInt64) (UInt64.toNat 48:Int):Option UInt64)) fun(x25:UInt64)=>
 letm ((bB .or .u64 (x22:UInt64) (x25:UInt64):UInt64)) fun(x26:UInt64)=>
 bnd (az a0 7) fun x27=>
 letm ((ab (UInt8.toNat x27:Int))) fun x28=>
 bnd ((gE .u64 (x28:UInt64) (UInt64.toNat 56:Int):Option UInt64)) fun(x29:UInt64)=>
 letm ((bB .or .u64 (x26:UInt64) (x29:UInt64):UInt64)) fun(x30:UInt64)=>
 some x30
def eF(a0:(List UInt8)):Option Bool:=
 mG (ρ:=Bool) (ρ':=Bool) (Y:=Unit) (aM (R:=(Bool⊕Unit)) (S:=(List UInt8)) (fun self2 s1=>
 letm (decide (0<(s1.length:Int))) fun x3=>
 cond x3 (bnd (az s1 0) fun x4=>
 letm (decide ((UInt8.toNat x4:Int)<(UInt8.toNat 128:Int))) fun x5=>
 cond x5 (bnd (Gk.cut s1 1 (s1.length:Int)) fun x6=>
 bnd (β:=Bool) (letm (decide (8<(x6.length:Int))) fun x7=>
 cond x7 (bnd (ba x6) fun x8=>
 letm ((bB .and .u64 (x8:UInt64) (9259542123273814144:UInt64):UInt64)) fun(x9:UInt64)=>
 letm (((UInt64.toNat x9:Int)==(UInt64.toNat 0:Int))) fun x10=>
 some x10)
 (some false)) fun v11=>
 cond v11 (bnd (Gk.cut x6 8 (x6.length:Int)) fun x12=>
 bnd (β:=Bool) (letm (decide (16<(x12.length:Int))) fun x13=>
 cond x13 (bnd (ba x12) fun x14=>
 bnd (Gk.cut x12 8 (x12.length:Int)) fun x15=>
 bnd (ba x15) fun x16=>
 letm ((bB .or .u64 (x14:UInt64) (x16:UInt64):UInt64)) fun(x17:UInt64)=>
 letm ((bB .and .u64 (x17:UInt64) (9259542123273814144:UInt64):UInt64)) fun(x18:UInt64)=>
 letm (((UInt64.toNat x18:Int)==(UInt64.toNat 0:Int))) fun x19=>
 some x19)
 (some false)) fun v20=>
 cond v20 (bnd (Gk.cut x12 16 (x12.length:Int)) fun x21=>
 aM (R:=(Bool⊕Unit)) (S:=(List UInt8)) (fun self23 s22=>
 bnd (β:=Bool) (letm (decide (32<(s22.length:Int))) fun x24=>
 cond x24 (bnd (ba s22) fun x25=>
 bnd (Gk.cut s22 8 (s22.length:Int)) fun x26=>
 bnd (ba x26) fun x27=>
 letm ((bB .or .u64 (x25:UInt64) (x27:UInt64):UInt64)) fun(x28:UInt64)=>
 bnd (Gk.cut s22 16 (s22.length:Int)) fun x29=>
 bnd (ba x29) fun x30=>
 bnd (Gk.cut s22 24 (s22.length:Int)) fun x31=>
 bnd (ba x31) fun x32=>
 letm ((bB .or .u64 (x30:UInt64) (x32:UInt64):UInt64)) fun(x33:UInt64)=>
 letm ((bB .or .u64 (x28:UInt64) (x33:UInt64):UInt64)) fun(x34:UInt64)=>
 letm ((bB .and .u64 (x34:UInt64) (9259542123273814144:UInt64):UInt64)) fun(x35:UInt64)=>
 letm (((UInt64.toNat x35:Int)==(UInt64.toNat 0:Int))) fun x36=>
 some x36)
 (some false)) fun v37=>
 cond v37 (bnd (Gk.cut s22 32 (s22.length:Int)) fun x38=>
 self23 x38)
 (self2 s22)) bk x21)
 (self2 x12))
 (self2 x6))
 (bnd (az q_ (UInt8.toNat x4:Int)) fun x39=>
 letm ((aj (bits .and .u8 (UInt8.toNat x39) (UInt8.toNat 7)))) fun x40=>
 letm ((aP (UInt8.toNat x40:Int))) fun x41=>
 bnd (dW .u8 x39 (UInt64.toNat 4:Int)) fun x42=>
 bnd (az qY (UInt8.toNat x42:Int)) fun x43=>
 letm ((x41==2)) fun x44=>
 cond x44 (bnd (β:=Bool) (letm (decide ((s1.length:Int)<2)) fun x45=>
 cond x45 (some true)
 (bnd (az s1 1) fun x46=>
 letm (decide ((UInt8.toNat x46:Int)<(UInt8.toNat x43.1:Int))) fun x47=>
 cond x47 (some true)
 (bnd (az s1 1) fun x48=>
 letm (decide ((UInt8.toNat x43.2:Int)<(UInt8.toNat x48:Int))) fun x49=>
 some x49))) fun v50=>
 cond v50 (some (.inl false))
 (bnd (Gk.cut s1 2 (s1.length:Int)) fun x51=>
 self2 x51))
 (letm ((x41==3)) fun x52=>
 cond x52 (bnd (β:=Bool) (letm (decide ((s1.length:Int)<3)) fun x53=>
 cond x53 (some true)
 (bnd (az s1 1) fun x54=>
 letm (decide ((UInt8.toNat x54:Int)<(UInt8.toNat x43.1:Int))) fun x55=>
 cond x55 (some true)
 (bnd (az s1 1) fun x56=>
 letm (decide ((UInt8.toNat x43.2:Int)<(UInt8.toNat x56:Int))) fun x57=>
 cond x57 (some true)
 (bnd (az s1 2) fun x58=>
 letm (decide ((UInt8.toNat x58:Int)<(UInt8.toNat 128:Int))) fun x59=>
 cond x59 (some true)
 (bnd (az s1 2) fun x60=>
 letm (decide ((UInt8.toNat 191:Int)<(UInt8.toNat x60:Int))) fun x61=>
 some x61))))) fun v62=>
 cond v62 (some (.inl false))
 (bnd (Gk.cut s1 3 (s1.length:Int)) fun x63=>
 self2 x63))
 (letm ((x41==4)) fun x64=>
 cond x64 (bnd (β:=Bool) (letm (decide ((s1.length:Int)<4)) fun x65=>
 cond x65 (some true)
 (bnd (az s1 1) fun x66=>
 letm (decide ((UInt8.toNat x66:Int)<(UInt8.toNat x43.1:Int))) fun x67=>
 cond x67 (some true)
 (bnd (az s1 1) fun x68=>
 letm (decide ((UInt8.toNat x43.2:Int)<(UInt8.toNat x68:Int))) fun x69=>
 cond x69 (some true)
 (bnd (az s1 2) fun x70=>
 letm (decide ((UInt8.toNat x70:Int)<(UInt8.toNat 128:Int))) fun x71=>
 cond x71 (some true)
 (bnd (az s1 2) fun x72=>
 letm (decide ((UInt8.toNat 191:Int)<(UInt8.toNat x72:Int))) fun x73=>
 cond x73 (some true)
 (bnd (az s1 3) fun x74=>
 letm (decide ((UInt8.toNat x74:Int)<(UInt8.toNat 128:Int))) fun x75=>
 cond x75 (some true)
 (bnd (az s1 3) fun x76=>
 letm (decide ((UInt8.toNat 191:Int)<(UInt8.toNat x76:Int))) fun x77=>
 some x77))))))) fun v78=>
 cond v78 (some (.inl false))
 (bnd (Gk.cut s1 4 (s1.length:Int)) fun x79=>
 self2 x79))
 (some (.inl false))))))
 (some (.inr ()))) bk a0) (fun q=>q) fun _=>
 some true
def pq(a0:(List UInt8)):Option Bool:=
 bnd (β:=Bool) (letm (decide ((a0.length:Int)≤64)) fun x1=>
 cond x1 (bnd (eF a0) fun x2=>
 some x2)
 (some false)) fun v3=>
 some v3
def ka(a0:(List UInt8)):Option Bool:=
 bnd (β:=Bool) (letm (((a0.length:Int)==0)) fun x1=>
 cond x1 (some true)
 (letm (((a0.length:Int)==32)) fun x2=>
 some x2)) fun v3=>
 some v3
def l_(a0:aY):Option Bool:=
 bnd (β:=Bool) (letm (decide (16<(a0.2.2.2.1.length:Int))) fun x1=>
 cond x1 (some true)
 (letm (decide (a0.2.2.1<(-65536))) fun x2=>
 cond x2 (some true)
 (letm (decide (65535<a0.2.2.1)) fun x3=>
 some x3))) fun v4=>
 cond v4 (some false)
 (letm ((a0.1==1)) fun x5=>
 cond x5 (bnd (β:=Bool) (letm ((a0.2.1==4)) fun x6=>
 cond x6 (bnd (ka a0.2.2.2.2.1) fun x7=>
 cond x7 (bnd (ka a0.2.2.2.2.2.1) fun x8=>
 cond x8 (letm ((aP ((a0.2.2.2.2.1.length:Int)+(a0.2.2.2.2.2.1.length:Int)))) fun x9=>
 letm (decide (0<x9)) fun x10=>
 cond x10 (letm (((a0.2.2.2.2.2.2.length:Int)==0)) fun x11=>
 some x11)
 (some false))
 (some false))
 (some false))
 (letm ((a0.2.1==6)) fun x12=>
 cond x12 (bnd (ka a0.2.2.2.2.1) fun x13=>
 cond x13 (bnd (ka a0.2.2.2.2.2.1) fun x14=>
 cond x14 (letm ((aP ((a0.2.2.2.2.1.length:Int)+(a0.2.2.2.2.2.1.length:Int)))) fun x15=>
 letm (decide (0<x15)) fun x16=>
 cond x16 (letm (((a0.2.2.2.2.2.2.length:Int)==0)) fun x17=>
 some x17)
 (some false))
 (some false))
 (some false))
 (some false))) fun v18=>
 some v18)
 (letm ((a0.1==4)) fun x19=>
 cond x19 (bnd (β:=Bool) (letm ((a0.2.1==0)) fun x20=>
 cond x20 (letm ((aP ((a0.2.2.2.2.1.length:Int)+(a0.2.2.2.2.2.1.length:Int)))) fun x21=>
 letm ((x21==0)) fun x22=>
 cond x22 (letm (decide (1≤(a0.2.2.2.2.2.2.length:Int))) fun x23=>
 cond x23 (letm (decide ((a0.2.2.2.2.2.2.length:Int)≤64)) fun x24=>
 some x24)
 (some false))
 (some false))
 (some false)) fun v25=>
 some v25)
 (some false)))
def cM(a0:aq):Option Bool:=
 bnd (β:=Bool) (bnd (pq a0.1) fun x1=>
 letm ((!x1)) fun x2=>
 cond x2 (some true)
 (bnd (pq a0.2.1) fun x3=>
 letm ((!x3)) fun x4=>
 cond x4 (some true)
 (letm ((a0.2.1 == [])) fun x5=>
 some x5))) fun v6=>
 cond v6 (some false)
 (bnd (β:=Bool) (letm (decide (a0.2.2.1<0)) fun x7=>
 cond x7 (some true)
 (letm (decide (1073741824<a0.2.2.1)) fun x8=>
 cond x8 (some true)
 (letm (decide (a0.2.2.2.1<0)) fun x9=>
 cond x9 (some true)
 (letm (decide (1073741824<a0.2.2.2.1)) fun x10=>
 cond x10 (some true)
 (letm ((a0.2.2.2.1 != 0)) fun x11=>
 cond x11 (letm (decide (a0.2.2.2.1<a0.2.2.1)) fun x12=>
 some x12)
 (some false)))))) fun v13=>
 cond v13 (some false)
 (bnd (β:=Bool) (bnd (l_ a0.2.2.2.2) fun x14=>
 cond x14 (letm ((a0.2.2.2.2.1==1)) fun x15=>
 cond x15 (letm (decide (0<(a0.2.2.2.2.2.2.2.2.1.length:Int))) fun x16=>
 cond x16 (letm (((a0.2.2.2.2.2.2.2.2.2.1.length:Int)==0)) fun x17=>
 some x17)
 (some false))
 (some false))
 (some false)) fun v18=>
 some v18))
def t8(a0:UInt64):Option Go.Gk.Tr:=
 some (Tr.mk 0 a0 [] [])
def ax(a0:Int):Option Go.Gk.Tr:=
 letm (decide (a0<0)) fun x1=>
 cond x1 (letm ((aP ((-1)-a0))) fun x2=>
 letm ((ab x2)) fun x3=>
 some (Tr.mk 1 x3 [] []))
 (letm ((ab a0)) fun x4=>
 bnd (t8 x4) fun x5=>
 some x5)
def dF(a0:List UInt8):Option (List UInt8):=app ([]:List UInt8) a0
def dc(a0:(List UInt8)):Option Go.Gk.Tr:=
 bnd (dF a0) fun x1=>
 some (Tr.mk 2 0 x1 [])
def it(a0:Int)(a1:(List UInt8))(a2:(List Go.Gk.Tr))(a3:(List Go.Gk.Tr)):Option ((List Go.Gk.Tr)×((List Go.Gk.Tr)×Unit)):=
 letm (decide (0<(a1.length:Int))) fun x4=>
 cond x4 (bnd (ax a0) fun x5=>
 bnd (dc a1) fun x6=>
 bnd (app a3 [(Tr.mk 0 0 [] []),(Tr.mk 0 0 [] [])]) fun x7=>
 bnd (az x7 (a3.length:Int)) fun _=>
 bnd (az x7 ((((a3.length:Int):Int)).toNat:Int)) fun _=>
 letm ((x7.set (((a3.length:Int):Int)).toNat x5)) fun x10=>
 letm ((aP ((a3.length:Int)+1))) fun x11=>
 bnd (az x10 x11) fun _=>
 bnd (az x10 (((x11:Int)).toNat:Int)) fun _=>
 letm ((x10.set ((x11:Int)).toNat x6)) fun x14=>
 some (a2,(x14,())))
 (some (a2,(a3,())))
def pa(a0:aY):Option (List Go.Gk.Tr):=
 bnd (ax 1) fun x1=>
 bnd (ax a0.1) fun x2=>
 bnd (it 2 a0.2.2.2.1 [] [x1,x2]) fun v3=>
 bnd (β:=((List Go.Gk.Tr)×(List Go.Gk.Tr))) (letm ((a0.2.2.1 != 0)) fun x4=>
 cond x4 (bnd (ax 3) fun x5=>
 bnd (ax a0.2.2.1) fun x6=>
 bnd (app v3.2.1 [(Tr.mk 0 0 [] []),(Tr.mk 0 0 [] [])]) fun x7=>
 bnd (az x7 (v3.2.1.length:Int)) fun _=>
 bnd (az x7 ((((v3.2.1.length:Int):Int)).toNat:Int)) fun _=>
 letm ((x7.set (((v3.2.1.length:Int):Int)).toNat x5)) fun x10=>
 letm ((aP ((v3.2.1.length:Int)+1))) fun x11=>
 bnd (az x10 x11) fun _=>
 bnd (az x10 (((x11:Int)).toNat:Int)) fun _=>
 letm ((x10.set ((x11:Int)).toNat x6)) fun x14=>
 some (v3.1,x14))
 (some (v3.1,v3.2.1))) fun v15=>
 letm ((a0.1==4)) fun x16=>
 cond x16 (bnd (it (-1) a0.2.2.2.2.2.2 v15.1 v15.2) fun v17=>
 some v17.2.1)
 (bnd (ax (-1)) fun x18=>
 bnd (ax a0.2.1) fun x19=>
 bnd (app v15.2 [(Tr.mk 0 0 [] []),(Tr.mk 0 0 [] [])]) fun x20=>
 bnd (az x20 (v15.2.length:Int)) fun _=>
 bnd (az x20 ((((v15.2.length:Int):Int)).toNat:Int)) fun _=>
 letm ((x20.set (((v15.2.length:Int):Int)).toNat x18)) fun x23=>
 letm ((aP ((v15.2.length:Int)+1))) fun x24=>
 bnd (az x23 x24) fun _=>
 bnd (az x23 (((x24:Int)).toNat:Int)) fun _=>
 letm ((x23.set ((x24:Int)).toNat x19)) fun x27=>
 bnd (it (-2) a0.2.2.2.2.1 v15.1 x27) fun v28=>
 bnd (it (-4) a0.2.2.2.2.2.1 v28.1 v28.2.1) fun v29=>
 some v29.2.1)
def bq(a0:(List UInt8)):Option UInt64:=
 bnd (az a0 0) fun x1=>
 letm ((ab (UInt8.toNat x1:Int))) fun x2=>
 bnd (az a0 1) fun x3=>
 letm ((ab (UInt8.toNat x3:Int))) fun x4=>
 bnd ((gE .u64 (x4:UInt64) (UInt64.toNat 8:Int):Option UInt64)) fun(x5:UInt64)=>
 letm ((bB .or .u64 (x2:UInt64) (x5:UInt64):UInt64)) fun(x6:UInt64)=>
 bnd (az a0 2) fun x7=>
 letm ((ab (UInt8.toNat x7:Int))) fun x8=>
 bnd ((gE .u64 (x8:UInt64) (UInt64.toNat 16:Int):Option UInt64)) fun(x9:UInt64)=>
 letm ((bB .or .u64 (x6:UInt64) (x9:UInt64):UInt64)) fun(x10:UInt64)=>
 bnd (az a0 3) fun x11=>
 letm ((ab (UInt8.toNat x11:Int))) fun x12=>
 bnd ((gE .u64 (x12:UInt64) (UInt64.toNat 24:Int):Option UInt64)) fun(x13:UInt64)=>
 letm ((bB .or .u64 (x10:UInt64) (x13:UInt64):UInt64)) fun(x14:UInt64)=>
 bnd (az a0 4) fun x15=>
 letm ((ab (UInt8.toNat x15:Int))) fun x16=>
 bnd ((gE .u64 (x16:UInt64) (UInt64.toNat 32:Int):Option UInt64)) fun(x17:UInt64)=>
 letm ((bB .or .u64 (x14:UInt64) (x17:UInt64):UInt64)) fun(x18:UInt64)=>
 bnd (az a0 5) fun x19=>
 letm ((ab (UInt8.toNat x19:Int))) fun x20=>
 bnd ((gE .u64 (x20:UInt64) (UInt64.toNat 40:Int):Option UInt64)) fun(x21:UInt64)=>
 letm ((bB .or .u64 (x18:UInt64) (x21:UInt64):UInt64)) fun(x22:UInt64)=>
 bnd (az a0 6) fun x23=>
 letm ((ab (UInt8.toNat x23:Int))) fun x24=>
 bnd ((gE .u64 (x24:UInt64) (UInt64.toNat 48:Int):Option UInt64)) fun(x25:UInt64)=>
 letm ((bB .or .u64 (x22:UInt64) (x25:UInt64):UInt64)) fun(x26:UInt64)=>
 bnd (az a0 7) fun x27=>
 letm ((ab (UInt8.toNat x27:Int))) fun x28=>
 bnd ((gE .u64 (x28:UInt64) (UInt64.toNat 56:Int):Option UInt64)) fun(x29:UInt64)=>
 letm ((bB .or .u64 (x26:UInt64) (x29:UInt64):UInt64)) fun(x30:UInt64)=>
 some x30
def e_(a0:(List UInt8)):Option Bool:=
 bnd (Gk.cut a0 0 (a0.length:Int)) fun x1=>
 bnd (Gk.cut x1 0 (a0.length:Int)) fun x2=>
 mG (ρ:=Bool) (ρ':=Bool) (Y:=Unit) (aM (R:=(Bool⊕Unit)) (S:=(List UInt8)) (fun self4 s3=>
 letm (decide (0<(s3.length:Int))) fun x5=>
 cond x5 (bnd (az s3 0) fun x6=>
 letm (decide ((UInt8.toNat x6:Int)<(UInt8.toNat 128:Int))) fun x7=>
 cond x7 (bnd (Gk.cut s3 1 (s3.length:Int)) fun x8=>
 bnd (β:=Bool) (letm (decide (8<(x8.length:Int))) fun x9=>
 cond x9 (bnd (bq x8) fun x10=>
 letm ((bB .and .u64 (x10:UInt64) (9259542123273814144:UInt64):UInt64)) fun(x11:UInt64)=>
 letm (((UInt64.toNat x11:Int)==(UInt64.toNat 0:Int))) fun x12=>
 some x12)
 (some false)) fun v13=>
 cond v13 (bnd (Gk.cut x8 8 (x8.length:Int)) fun x14=>
 bnd (β:=Bool) (letm (decide (16<(x14.length:Int))) fun x15=>
 cond x15 (bnd (bq x14) fun x16=>
 bnd (Gk.cut x14 8 (x14.length:Int)) fun x17=>
 bnd (bq x17) fun x18=>
 letm ((bB .or .u64 (x16:UInt64) (x18:UInt64):UInt64)) fun(x19:UInt64)=>
 letm ((bB .and .u64 (x19:UInt64) (9259542123273814144:UInt64):UInt64)) fun(x20:UInt64)=>
 letm (((UInt64.toNat x20:Int)==(UInt64.toNat 0:Int))) fun x21=>
 some x21)
 (some false)) fun v22=>
 cond v22 (bnd (Gk.cut x14 16 (x14.length:Int)) fun x23=>
 aM (R:=(Bool⊕Unit)) (S:=(List UInt8)) (fun self25 s24=>
 bnd (β:=Bool) (letm (decide (32<(s24.length:Int))) fun x26=>
 cond x26 (bnd (bq s24) fun x27=>
 bnd (Gk.cut s24 8 (s24.length:Int)) fun x28=>
 bnd (bq x28) fun x29=>
 letm ((bB .or .u64 (x27:UInt64) (x29:UInt64):UInt64)) fun(x30:UInt64)=>
 bnd (Gk.cut s24 16 (s24.length:Int)) fun x31=>
 bnd (bq x31) fun x32=>
 bnd (Gk.cut s24 24 (s24.length:Int)) fun x33=>
 bnd (bq x33) fun x34=>
 letm ((bB .or .u64 (x32:UInt64) (x34:UInt64):UInt64)) fun(x35:UInt64)=>
 letm ((bB .or .u64 (x30:UInt64) (x35:UInt64):UInt64)) fun(x36:UInt64)=>
 letm ((bB .and .u64 (x36:UInt64) (9259542123273814144:UInt64):UInt64)) fun(x37:UInt64)=>
 letm (((UInt64.toNat x37:Int)==(UInt64.toNat 0:Int))) fun x38=>
 some x38)
 (some false)) fun v39=>
 cond v39 (bnd (Gk.cut s24 32 (s24.length:Int)) fun x40=>
 self25 x40)
 (self4 s24)) bk x23)
 (self4 x14))
 (self4 x8))
 (bnd (az q_ (UInt8.toNat x6:Int)) fun x41=>
 letm ((aj (bits .and .u8 (UInt8.toNat x41) (UInt8.toNat 7)))) fun x42=>
 letm ((aP (UInt8.toNat x42:Int))) fun x43=>
 bnd (dW .u8 x41 (UInt64.toNat 4:Int)) fun x44=>
 bnd (az qY (UInt8.toNat x44:Int)) fun x45=>
 letm ((x43==2)) fun x46=>
 cond x46 (bnd (β:=Bool) (letm (decide ((s3.length:Int)<2)) fun x47=>
 cond x47 (some true)
 (bnd (az s3 1) fun x48=>
 letm (decide ((UInt8.toNat x48:Int)<(UInt8.toNat x45.1:Int))) fun x49=>
 cond x49 (some true)
 (bnd (az s3 1) fun x50=>
 letm (decide ((UInt8.toNat x45.2:Int)<(UInt8.toNat x50:Int))) fun x51=>
 some x51))) fun v52=>
 cond v52 (some (.inl false))
 (bnd (Gk.cut s3 2 (s3.length:Int)) fun x53=>
 self4 x53))
 (letm ((x43==3)) fun x54=>
 cond x54 (bnd (β:=Bool) (letm (decide ((s3.length:Int)<3)) fun x55=>
 cond x55 (some true)
 (bnd (az s3 1) fun x56=>
 letm (decide ((UInt8.toNat x56:Int)<(UInt8.toNat x45.1:Int))) fun x57=>
 cond x57 (some true)
 (bnd (az s3 1) fun x58=>
 letm (decide ((UInt8.toNat x45.2:Int)<(UInt8.toNat x58:Int))) fun x59=>
 cond x59 (some true)
 (bnd (az s3 2) fun x60=>
 letm (decide ((UInt8.toNat x60:Int)<(UInt8.toNat 128:Int))) fun x61=>
 cond x61 (some true)
 (bnd (az s3 2) fun x62=>
 letm (decide ((UInt8.toNat 191:Int)<(UInt8.toNat x62:Int))) fun x63=>
 some x63))))) fun v64=>
 cond v64 (some (.inl false))
 (bnd (Gk.cut s3 3 (s3.length:Int)) fun x65=>
 self4 x65))
 (letm ((x43==4)) fun x66=>
 cond x66 (bnd (β:=Bool) (letm (decide ((s3.length:Int)<4)) fun x67=>
 cond x67 (some true)
 (bnd (az s3 1) fun x68=>
 letm (decide ((UInt8.toNat x68:Int)<(UInt8.toNat x45.1:Int))) fun x69=>
 cond x69 (some true)
 (bnd (az s3 1) fun x70=>
 letm (decide ((UInt8.toNat x45.2:Int)<(UInt8.toNat x70:Int))) fun x71=>
 cond x71 (some true)
 (bnd (az s3 2) fun x72=>
 letm (decide ((UInt8.toNat x72:Int)<(UInt8.toNat 128:Int))) fun x73=>
 cond x73 (some true)
 (bnd (az s3 2) fun x74=>
 letm (decide ((UInt8.toNat 191:Int)<(UInt8.toNat x74:Int))) fun x75=>
 cond x75 (some true)
 (bnd (az s3 3) fun x76=>
 letm (decide ((UInt8.toNat x76:Int)<(UInt8.toNat 128:Int))) fun x77=>
 cond x77 (some true)
 (bnd (az s3 3) fun x78=>
 letm (decide ((UInt8.toNat 191:Int)<(UInt8.toNat x78:Int))) fun x79=>
 some x79))))))) fun v80=>
 cond v80 (some (.inl false))
 (bnd (Gk.cut s3 4 (s3.length:Int)) fun x81=>
 self4 x81))
 (some (.inl false))))))
 (some (.inr ()))) bk x2) (fun q=>q) fun _=>
 some true
def rV(a0:Go.Gk.Tr):Option (Bool×Bool):=
 bnd (β:=Bool) (letm ((a0.k==0)) fun x1=>
 cond x1 (some true)
 (letm ((a0.k==1)) fun x2=>
 some x2)) fun v3=>
 cond v3 (bnd (β:=(Bool×Bool)) (letm (((a0.b.length:Int)==0)) fun x4=>
 cond x4 (letm (((a0.l.length:Int)==0)) fun x5=>
 some (x5,true))
 (some (false,true))) fun v6=>
 some (v6.1,v6.2))
 (letm ((a0.k==2)) fun x7=>
 cond x7 (bnd (β:=(Bool×Bool)) (letm (((UInt64.toNat a0.n:Int)==(UInt64.toNat 0:Int))) fun x8=>
 cond x8 (letm (((a0.l.length:Int)==0)) fun x9=>
 some (x9,true))
 (some (false,true))) fun v10=>
 some (v10.1,v10.2))
 (letm ((a0.k==3)) fun x11=>
 cond x11 (bnd (β:=(Bool×Bool)) (letm (((UInt64.toNat a0.n:Int)==(UInt64.toNat 0:Int))) fun x12=>
 cond x12 (letm (((a0.l.length:Int)==0)) fun x13=>
 cond x13 (bnd (e_ a0.b) fun x14=>
 some (x14,true))
 (some (false,true)))
 (some (false,true))) fun v15=>
 some (v15.1,v15.2))
 (letm ((a0.k==7)) fun x16=>
 cond x16 (bnd (β:=(Bool×Bool)) (letm (((a0.b.length:Int)==0)) fun x17=>
 cond x17 (letm (((a0.l.length:Int)==0)) fun x18=>
 cond x18 (letm (decide ((UInt64.toNat a0.n:Int)<(UInt64.toNat 24:Int))) fun x19=>
 cond x19 (some (true,true))
 (letm (decide ((UInt64.toNat 32:Int)≤(UInt64.toNat a0.n:Int))) fun x20=>
 cond x20 (letm (decide ((UInt64.toNat a0.n:Int)<(UInt64.toNat 256:Int))) fun x21=>
 some (x21,true))
 (some (false,true))))
 (some (false,true)))
 (some (false,true))) fun v22=>
 some (v22.1,v22.2))
 (letm ((a0.k==8)) fun x23=>
 cond x23 (letm (a0.n) fun x24=>
 bnd (β:=(Bool×Bool)) (letm (((a0.b.length:Int)==0)) fun x25=>
 cond x25 (letm (((a0.l.length:Int)==0)) fun x26=>
 cond x26 (letm ((Np x24 x24)) fun x27=>
 cond x27 (some (true,true))
 (letm (((UInt64.toNat a0.n:Int)==(UInt64.toNat 9221120237041090560:Int))) fun x28=>
 some (x28,true)))
 (some (false,true)))
 (some (false,true))) fun v29=>
 some (v29.1,v29.2))
 (some (false,false))))))
def kW(_a0:UInt64):Option (List UInt8):=none
def kZ(a0:Go.Gk.Tr):Option (UInt8×UInt64):=
 bnd (β:=Bool) (letm ((a0.k==2)) fun x1=>
 cond x1 (some true)
 (letm ((a0.k==3)) fun x2=>
 some x2)) fun v3=>
 cond v3 (letm ((aj a0.k)) fun x4=>
 letm ((ab (a0.b.length:Int))) fun x5=>
 some (x4,x5))
 (letm ((a0.k==4)) fun x6=>
 cond x6 (letm ((ab (a0.l.length:Int))) fun x7=>
 some (4,x7))
 (letm ((a0.k==5)) fun x8=>
 cond x8 (bnd (quo (a0.l.length:Int) 2) fun x9=>
 letm ((ab x9)) fun x10=>
 some (5,x10))
 (letm ((aj a0.k)) fun x11=>
 some (x11,a0.n))))
def j_(a0:UInt8)(a1:UInt64):Option (List UInt8):=
 bnd (gE .u8 a0 (UInt64.toNat 5:Int)) fun x2=>
 letm (decide ((UInt64.toNat a1:Int)<(UInt64.toNat 24:Int))) fun x3=>
 cond x3 (letm ((aj (UInt64.toNat a1:Int))) fun x4=>
 letm ((aj (bits .or .u8 (UInt8.toNat x2) (UInt8.toNat x4)))) fun x5=>
 some [x5])
 (letm (decide ((UInt64.toNat a1:Int)<(UInt64.toNat 256:Int))) fun x6=>
 cond x6 (letm ((aj (bits .or .u8 (UInt8.toNat x2) (UInt8.toNat 24)))) fun x7=>
 letm ((aj (UInt64.toNat a1:Int))) fun x8=>
 some [x7,x8])
 (letm (decide ((UInt64.toNat a1:Int)<(UInt64.toNat 65536:Int))) fun x9=>
 cond x9 (letm ((aj (bits .or .u8 (UInt8.toNat x2) (UInt8.toNat 25)))) fun x10=>
 bnd ((dW .u64 (a1:UInt64) (UInt64.toNat 8:Int):Option UInt64)) fun(x11:UInt64)=>
 letm ((aj (UInt64.toNat x11:Int))) fun x12=>
 letm ((aj (UInt64.toNat a1:Int))) fun x13=>
 some [x10,x12,x13])
 (letm (decide ((UInt64.toNat a1:Int)<(UInt64.toNat 4294967296:Int))) fun x14=>
 cond x14 (letm ((aj (bits .or .u8 (UInt8.toNat x2) (UInt8.toNat 26)))) fun x15=>
 bnd ((dW .u64 (a1:UInt64) (UInt64.toNat 24:Int):Option UInt64)) fun(x16:UInt64)=>
 letm ((aj (UInt64.toNat x16:Int))) fun x17=>
 bnd ((dW .u64 (a1:UInt64) (UInt64.toNat 16:Int):Option UInt64)) fun(x18:UInt64)=>
 letm ((aj (UInt64.toNat x18:Int))) fun x19=>
 bnd ((dW .u64 (a1:UInt64) (UInt64.toNat 8:Int):Option UInt64)) fun(x20:UInt64)=>
 letm ((aj (UInt64.toNat x20:Int))) fun x21=>
 letm ((aj (UInt64.toNat a1:Int))) fun x22=>
 some [x15,x17,x19,x21,x22])
 (letm ((aj (bits .or .u8 (UInt8.toNat x2) (UInt8.toNat 27)))) fun x23=>
 aM (R:=(List UInt8)) (S:=((List UInt8)×Int)) (fun self25 s24=>
 letm (decide (0≤s24.2)) fun x26=>
 cond x26 (bnd ((dW .u64 (a1:UInt64) s24.2:Option UInt64)) fun(x27:UInt64)=>
 letm ((aj (UInt64.toNat x27:Int))) fun x28=>
 bnd (app s24.1 [x28]) fun x29=>
 letm ((aP (s24.2-8))) fun x30=>
 self25 (x29,x30))
 (some s24.1)) bk ([x23],56)))))
def gM(a0:bc)(a1:Go.Gk.Tr):Option (Bool×bc):=
 bnd (β:=bc) (letm ((a1.k==8)) fun x2=>
 cond x2 (bnd (kW a1.n) fun x3=>
 letm ((aP (a0.2+(x3.length:Int)))) fun x4=>
 some (a0.1,x4))
 (letm ((a1.k==7)) fun x5=>
 cond x5 (letm ((aP (a0.2+1))) fun x6=>
 letm (decide ((UInt64.toNat 24:Int)≤(UInt64.toNat a1.n:Int))) fun x7=>
 cond x7 (letm ((aP (x6+1))) fun x8=>
 some (a0.1,x8))
 (some (a0.1,x6)))
 (bnd (kZ a1) fun x9=>
 bnd (j_ x9.1 x9.2) fun x10=>
 letm ((aP ((x10.length:Int)+(a1.b.length:Int)))) fun x11=>
 letm ((aP (a0.2+x11))) fun x12=>
 some (a0.1,x12)))) fun v13=>
 letm (decide (v13.2≤4096)) fun x14=>
 some (x14,v13)
def rQ(kY:((List UInt8))→(Go.Gk.Tr)→Option (List UInt8))(a0:(List UInt8))(a1:Go.Gk.Tr):Option (List UInt8):=
 letm ((a1.k==8)) fun x2=>
 cond x2 (bnd (kW a1.n) fun x3=>
 bnd (app a0 x3) fun x4=>
 some x4)
 (bnd (β:=Bool) (letm ((a1.k==7)) fun x5=>
 cond x5 (letm (decide ((UInt64.toNat 24:Int)≤(UInt64.toNat a1.n:Int))) fun x6=>
 some x6)
 (some false)) fun v7=>
 cond v7 (letm ((aj (UInt64.toNat a1.n:Int))) fun x8=>
 bnd (app a0 [248,x8]) fun x9=>
 some x9)
 (bnd (kZ a1) fun x10=>
 bnd (j_ x10.1 x10.2) fun x11=>
 bnd (app a0 x11) fun x12=>
 bnd (app x12 a1.b) fun x13=>
 cS (R:=(List UInt8)) (S:=(List UInt8)) (α:=Go.Gk.Tr) (fun _ s15=>
 some s15)
 (fun x16 _ s18 self19=>
 bnd (kY s18 x16) fun x20=>
 self19 x20) a1.l 0 x13))
def nt(n:Nat):((List UInt8))→(Go.Gk.Tr)→Option (List UInt8):=Nat.rec (motive:=fun _=>((List UInt8))→(Go.Gk.Tr)→Option (List UInt8)) (fun _ _=>none) (fun _ ih=>rQ ih) n
def kY(a0:(List UInt8))(a1:Go.Gk.Tr):Option (List UInt8):=nt 40 a0 a1
def bS(a0:(List UInt8))(a1:Go.Gk.Tr):Option (List UInt8):=
 letm ((a1.k==8)) fun x2=>
 cond x2 (bnd (kW a1.n) fun x3=>
 bnd (app a0 x3) fun x4=>
 some x4)
 (bnd (β:=Bool) (letm ((a1.k==7)) fun x5=>
 cond x5 (letm (decide ((UInt64.toNat 24:Int)≤(UInt64.toNat a1.n:Int))) fun x6=>
 some x6)
 (some false)) fun v7=>
 cond v7 (letm ((aj (UInt64.toNat a1.n:Int))) fun x8=>
 bnd (app a0 [248,x8]) fun x9=>
 some x9)
 (bnd (kZ a1) fun x10=>
 bnd (j_ x10.1 x10.2) fun x11=>
 bnd (app a0 x11) fun x12=>
 bnd (app x12 a1.b) fun x13=>
 cS (R:=(List UInt8)) (S:=(List UInt8)) (α:=Go.Gk.Tr) (fun _ s15=>
 some s15)
 (fun x16 _ s18 self19=>
 bnd (kY s18 x16) fun x20=>
 self19 x20) a1.l 0 x13))
def eN(a0 a1:List UInt8):Option Int:=some (Lib.compareBytes a0 a1)
def m_(a0:(List Go.Gk.Tr)):Option Bool:=
 aM (R:=Bool) (S:=Int) (fun self2 s1=>
 letm (decide (s1<(a0.length:Int))) fun x3=>
 cond x3 (letm ((aP (s1-2))) fun x4=>
 bnd (az a0 x4) fun x5=>
 bnd (bS [] x5) fun x6=>
 bnd (az a0 s1) fun x7=>
 bnd (bS [] x7) fun x8=>
 bnd (eN x6 x8) fun x9=>
 letm (decide (0≤x9)) fun x10=>
 cond x10 (some false)
 (letm ((aP (s1+2))) fun x11=>
 self2 x11))
 (some true)) bk 2
def kL(fB:(bc)→(Go.Gk.Tr)→(Int)→Option (Bool×bc))(a0:bc)(a1:Go.Gk.Tr)(a2:Int):Option (Bool×bc):=
 letm ((aP (a0.1+1))) fun x3=>
 bnd (β:=Bool) (letm (decide (256<x3)) fun x4=>
 cond x4 (some true)
 (letm (decide (4096<(a1.b.length:Int))) fun x5=>
 cond x5 (some true)
 (letm (decide (256<(a1.l.length:Int))) fun x6=>
 some x6))) fun v7=>
 cond v7 (some (false,(x3,a0.2)))
 (bnd (rV a1) fun x8=>
 cond x8.2 (bnd (β:=(Bool×bc)) (cond x8.1 (bnd (gM (x3,a0.2) a1) fun x9=>
 some (x9.1,x9.2))
 (some (false,(x3,a0.2)))) fun v10=>
 some (v10.1,v10.2))
 (bnd (β:=Bool) (letm (decide (a1.k<4)) fun x11=>
 cond x11 (some true)
 (letm (decide (6<a1.k)) fun x12=>
 cond x12 (some true)
 (letm (decide (8≤a2)) fun x13=>
 cond x13 (some true)
 (letm (decide (0<(a1.b.length:Int))) fun x14=>
 some x14)))) fun v15=>
 cond v15 (some (false,(x3,a0.2)))
 (bnd (β:=Bool) (letm ((a1.k==6)) fun x16=>
 cond x16 (letm (((a1.l.length:Int) != 1)) fun x17=>
 cond x17 (some true)
 (letm ((a1.k != 6)) fun x18=>
 cond x18 (letm (((UInt64.toNat a1.n:Int) != (UInt64.toNat 0:Int))) fun x19=>
 cond x19 (some true)
 (letm ((a1.k==5)) fun x20=>
 cond x20 (bnd (Gk.rem (a1.l.length:Int) 2) fun x21=>
 letm ((x21==1)) fun x22=>
 some x22)
 (some false)))
 (letm ((a1.k==5)) fun x23=>
 cond x23 (bnd (Gk.rem (a1.l.length:Int) 2) fun x24=>
 letm ((x24==1)) fun x25=>
 some x25)
 (some false))))
 (letm ((a1.k != 6)) fun x26=>
 cond x26 (letm (((UInt64.toNat a1.n:Int) != (UInt64.toNat 0:Int))) fun x27=>
 cond x27 (some true)
 (letm ((a1.k==5)) fun x28=>
 cond x28 (bnd (Gk.rem (a1.l.length:Int) 2) fun x29=>
 letm ((x29==1)) fun x30=>
 some x30)
 (some false)))
 (letm ((a1.k==5)) fun x31=>
 cond x31 (bnd (Gk.rem (a1.l.length:Int) 2) fun x32=>
 letm ((x32==1)) fun x33=>
 some x33)
 (some false)))) fun v34=>
 cond v34 (some (false,(x3,a0.2)))
 (bnd (gM (x3,a0.2) a1) fun x35=>
 letm ((!x35.1)) fun x36=>
 cond x36 (some (false,x35.2))
 (cS (R:=(Bool×bc)) (S:=bc) (α:=Go.Gk.Tr) (fun _ s38=>
 bnd (β:=Bool) (letm ((a1.k != 5)) fun x39=>
 cond x39 (some true)
 (bnd (m_ a1.l) fun x40=>
 some x40)) fun v41=>
 some (v41,s38))
 (fun x42 _ s44 self45=>
 letm ((aP (a2+1))) fun x46=>
 bnd (fB s44 x42 x46) fun x47=>
 letm ((!x47.1)) fun x48=>
 cond x48 (some (false,x47.2))
 (self45 x47.2)) a1.l 0 x35.2)))))
def ia(n:Nat):(bc)→(Go.Gk.Tr)→(Int)→Option (Bool×bc):=Nat.rec (motive:=fun _=>(bc)→(Go.Gk.Tr)→(Int)→Option (Bool×bc)) (fun _ _ _=>none) (fun _ ih=>kL ih) n
def fB(a0:bc)(a1:Go.Gk.Tr)(a2:Int):Option (Bool×bc):=ia 40 a0 a1 a2
def aG(a0:Go.Gk.Tr):Option Bool:=
 bnd (fB (0,0) a0 0) fun x1=>
 some x1.1
theorem pS(a b:UInt8)(x y:List UInt8):Lib.compareBytes (a::x) (b::y)=if a.toNat<b.toNat then -1 else if b.toNat<a.toNat then 1 else Lib.compareBytes x y:=by
 rw[Lib.compareBytes]
 simp only[UInt8.lt_iff_toNat_lt]
theorem pm : ∀a b:List UInt8,Lib.compareBytes b a = - Lib.compareBytes a b
 | [],[]=>rfl
 | [],_::_=>rfl
 |_::_,[]=>rfl
 |a::x,b::y=>by
  rw[pS,pS,pm x y]
  split<;>split<;>first |rfl |omega
theorem vP : ∀a b c:List UInt8,Lib.compareBytes a b≤0→Lib.compareBytes b c≤0→Lib.compareBytes a c≤0∧(Lib.compareBytes a b<0∨Lib.compareBytes b c<0→Lib.compareBytes a c<0)
 | [],[],[],_,_=>⟨Int.le_refl 0,fun h=>by rcases h with h |h<;>cases h⟩
 | [],[],_::_,_,_=>⟨by show(-1:Int)≤0;omega,fun _=>by show(-1:Int)<0;omega⟩
 | [],_::_,[],_,h=>absurd (show(1:Int)≤0 from h) (by omega)
 | [],_::_,_::_,_,_=>⟨by show(-1:Int)≤0;omega,fun _=>by show(-1:Int)<0;omega⟩
 |_::_,[],_,h,_=>absurd (show(1:Int)≤0 from h) (by omega)
 |_::_,_::_,[],_,h=>absurd (show(1:Int)≤0 from h) (by omega)
 |a::x,b::y,c::z,h1,h2=>by
  rw[pS]at h1 h2
  rw[pS,pS,pS]
  by_cases e1:a.toNat<b.toNat
  ·by_cases e2:b.toNat<c.toNat
   ·rw[if_pos (show a.toNat<c.toNat by omega)];exact⟨by omega,fun _=>by omega⟩
   ·rw[if_neg e2]at h2
    by_cases e3:c.toNat<b.toNat
    ·rw[if_pos e3]at h2;omega
    ·rw[if_pos (show a.toNat<c.toNat by omega)];exact⟨by omega,fun _=>by omega⟩
  ·rw[if_neg e1]at h1
   by_cases e3:b.toNat<a.toNat
   ·rw[if_pos e3]at h1;omega
   ·rw[if_neg e3]at h1
    by_cases e2:b.toNat<c.toNat
    ·rw[if_pos (show a.toNat<c.toNat by omega)];exact⟨by omega,fun _=>by omega⟩
    ·rw[if_neg e2]at h2
     by_cases e4:c.toNat<b.toNat
     ·rw[if_pos e4]at h2;omega
     ·rw[if_neg e4]at h2
      rw[if_neg (show ¬a.toNat<c.toNat by omega),if_neg (show ¬c.toNat<a.toNat by omega),if_neg e1,if_neg e3,if_neg e2,if_neg e4]
      exact vP x y z h1 h2
theorem Et(a:List UInt8):Lib.compareBytes a a=0:=by have:=pm a a;omega
def nD(a b:av):Bool:=decide (Lib.compareBytes a.1 b.1<0)
def j6(xs ys:List av):Prop:=Mh nD xs ys
theorem G9:Sort.SWO nD:=by
 refine⟨fun x=>?_,fun x y z h1 h2=>?_,fun x y z h1 h2=>?_⟩
 ·exact decide_eq_false (by rw[Et];omega)
 ·have a1:=of_decide_eq_true h1
  have a2:=of_decide_eq_true h2
  exact decide_eq_true ((vP _ _ _ (by omega) (by omega)).2 (.inl a1))
 ·have a1:=of_decide_eq_false h1
  have a2:=of_decide_eq_false h2
  have r1:=pm x.1 y.1
  have r2:=pm y.1 z.1
  have r3:=pm x.1 z.1
  have:=(vP z.1 y.1 x.1 (by omega) (by omega)).1
  exact decide_eq_false (by omega)
def ci(a0:(List UInt8))(a1:(List UInt8)):Option Bool:=
 letm ((a0==a1)) fun x2=>
 some x2
def aI(a0:List UInt8):Option (List UInt8):=app ([]:List UInt8) a0
def qv(ec:(Go.Gk.Tr)→Option Go.Gk.Tr)(a0:Go.Gk.Tr):Option Go.Gk.Tr:=
 bnd (aI a0.b) fun x1=>
 bnd (PF (a0.l.length:Int) (Tr.mk 0 0 [] [])) fun x2=>
 cS (R:=Go.Gk.Tr) (S:=(List Go.Gk.Tr)) (α:=Go.Gk.Tr) (fun _ s4=>
 bnd (β:=Go.Gk.Tr) (letm (((s4.length:Int)==0)) fun x5=>
 cond x5 (some (Tr.mk a0.k a0.n x1 []))
 (some (Tr.mk a0.k a0.n x1 s4))) fun v6=>
 some v6)
 (fun x7 k8 s9 self10=>
 bnd (ec x7) fun x11=>
 bnd (az s9 (k8:Int)) fun _=>
 bnd (az s9 ((((k8:Int):Int)).toNat:Int)) fun _=>
 letm ((s9.set (((k8:Int):Int)).toNat x11)) fun x14=>
 self10 x14) a0.l 0 x2
def mQ(n:Nat):(Go.Gk.Tr)→Option Go.Gk.Tr:=Nat.rec (motive:=fun _=>(Go.Gk.Tr)→Option Go.Gk.Tr) (fun _=>none) (fun _ ih=>qv ih) n
def ec(a0:Go.Gk.Tr):Option Go.Gk.Tr:=mQ 40 a0
def kB(a0:Go.Gk.Tr):Option (Go.Gk.Tr×(List Go.Gk.Tr)):=
 bnd (aI a0.b) fun x1=>
 bnd (PF (a0.l.length:Int) (Tr.mk 0 0 [] [])) fun x2=>
 cS (R:=(Go.Gk.Tr×(List Go.Gk.Tr))) (S:=(List Go.Gk.Tr)) (α:=Go.Gk.Tr) (fun _ s4=>
 bnd (β:=(Go.Gk.Tr×(List Go.Gk.Tr))) (letm (((s4.length:Int)==0)) fun x5=>
 cond x5 (some ((Tr.mk a0.k a0.n x1 []),[]))
 (some ((Tr.mk a0.k a0.n x1 []),s4))) fun v6=>
 some (v6.1,v6.2))
 (fun x7 k8 s9 self10=>
 bnd (ec x7) fun x11=>
 bnd (az s9 (k8:Int)) fun _=>
 bnd (az s9 ((((k8:Int):Int)).toNat:Int)) fun _=>
 letm ((s9.set (((k8:Int):Int)).toNat x11)) fun x14=>
 self10 x14) a0.l 0 x2
def dY(a0:(List Go.Gk.Tr)):Option (Go.Gk.Tr×Int):=
 bnd (Gk.rem (a0.length:Int) 2) fun x1=>
 letm ((x1==1)) fun x2=>
 cond x2 (some ((Tr.mk 0 0 [] []),1))
 (cS (R:=(Go.Gk.Tr×Int)) (S:=Go.Gk.Tr) (α:=Go.Gk.Tr) (fun _ s4=>
 bnd (quo (a0.length:Int) 2) fun x5=>
 bnd (GS x5 ([],((Tr.mk 0 0 [] []),(Tr.mk 0 0 [] [])))) fun x6=>
 aM (R:=(Go.Gk.Tr×Int)) (S:=(Int×((List av)×(List av)))) (fun self8 s7=>
 letm (decide (s7.1<(a0.length:Int))) fun x9=>
 cond x9 (bnd (az a0 s7.1) fun x10=>
 bnd (bS [] x10) fun x11=>
 bnd (az a0 s7.1) fun x12=>
 letm ((aP (s7.1+1))) fun x13=>
 bnd (az a0 x13) fun x14=>
 bnd (app s7.2.2 [(x11,(x12,x14))]) fun x15=>
 letm ((aP (s7.1+2))) fun x16=>
 self8 (x16,(s7.2.1,x15)))
 (cond (Nat.ble (List.length s7.2.2) 4294967296) (AL (j6 s7.2.2) fun v17=>
 cS (R:=(Go.Gk.Tr×Int)) (S:=(Go.Gk.Tr×(Go.Gk.Tr×(List Go.Gk.Tr)))) (α:=av) (fun _ s19=>
 bnd (aG (Tr.mk s19.2.1.k s19.2.1.n s19.2.1.b s19.2.2)) fun x20=>
 letm ((!x20)) fun x21=>
 cond x21 (some ((Tr.mk 0 0 [] []),8))
 (bnd (ec (Tr.mk s19.2.1.k s19.2.1.n s19.2.1.b s19.2.2)) fun x22=>
 some (x22,0)))
 (fun x23 k24 s25 self26=>
 bnd (β:=Bool) (letm (decide (0<(k24:Int))) fun x27=>
 cond x27 (letm ((aP ((k24:Int)-1))) fun x28=>
 bnd (az v17 x28) fun x29=>
 bnd (ci x29.1 x23.1) fun x30=>
 some x30)
 (some false)) fun v31=>
 cond v31 (some ((Tr.mk 0 0 [] []),7))
 (bnd (app s25.2.2 [x23.2.1,x23.2.2]) fun x32=>
 self26 (s25.1,(s25.2.1,x32)))) v17 0 (s4,((Tr.mk 5 0 [] []),[]))) none)) bk (0,([],x6)))
 (fun x33 _ s35 self36=>
 bnd (aG x33) fun x37=>
 letm ((!x37)) fun x38=>
 cond x38 (some ((Tr.mk 0 0 [] []),1))
 (self36 s35)) a0 0 (Tr.mk 0 0 [] []))
def jh(a0:(List Go.Gk.Tr)):Option ((Go.Gk.Tr×(List Go.Gk.Tr))×Int):=
 bnd (Gk.rem (a0.length:Int) 2) fun x1=>
 letm ((x1==1)) fun x2=>
 cond x2 (none)
 (cS (R:=((Go.Gk.Tr×(List Go.Gk.Tr))×Int)) (S:=Go.Gk.Tr) (α:=Go.Gk.Tr) (fun _ s4=>
 bnd (quo (a0.length:Int) 2) fun x5=>
 bnd (GS x5 ([],((Tr.mk 0 0 [] []),(Tr.mk 0 0 [] [])))) fun x6=>
 aM (R:=((Go.Gk.Tr×(List Go.Gk.Tr))×Int)) (S:=(Int×((List av)×(List av)))) (fun self8 s7=>
 letm (decide (s7.1<(a0.length:Int))) fun x9=>
 cond x9 (bnd (az a0 s7.1) fun x10=>
 bnd (bS [] x10) fun x11=>
 bnd (az a0 s7.1) fun x12=>
 letm ((aP (s7.1+1))) fun x13=>
 bnd (az a0 x13) fun x14=>
 bnd (app s7.2.2 [(x11,(x12,x14))]) fun x15=>
 letm ((aP (s7.1+2))) fun x16=>
 self8 (x16,(s7.2.1,x15)))
 (cond (Nat.ble (List.length s7.2.2) 4294967296) (AL (j6 s7.2.2) fun v17=>
 cS (R:=((Go.Gk.Tr×(List Go.Gk.Tr))×Int)) (S:=(Go.Gk.Tr×(Go.Gk.Tr×(List Go.Gk.Tr)))) (α:=av) (fun _ s19=>
 bnd (aG (Tr.mk s19.2.1.k s19.2.1.n s19.2.1.b s19.2.2)) fun x20=>
 letm ((!x20)) fun x21=>
 cond x21 (none)
 (bnd (kB (Tr.mk s19.2.1.k s19.2.1.n s19.2.1.b s19.2.2)) fun x22=>
 some ((x22.1,x22.2),0)))
 (fun x23 k24 s25 self26=>
 bnd (β:=Bool) (letm (decide (0<(k24:Int))) fun x27=>
 cond x27 (letm ((aP ((k24:Int)-1))) fun x28=>
 bnd (az v17 x28) fun x29=>
 bnd (ci x29.1 x23.1) fun x30=>
 some x30)
 (some false)) fun v31=>
 cond v31 (none)
 (bnd (app s25.2.2 [x23.2.1,x23.2.2]) fun x32=>
 self26 (s25.1,(s25.2.1,x32)))) v17 0 (s4,((Tr.mk 5 0 [] []),[]))) none)) bk (0,([],x6)))
 (fun x33 _ s35 self36=>
 bnd (aG x33) fun x37=>
 letm ((!x37)) fun x38=>
 cond x38 (none)
 (self36 s35)) a0 0 (Tr.mk 0 0 [] []))
def eX(a0:aY):Option (Go.Gk.Tr×Int):=
 bnd (l_ a0) fun x1=>
 letm ((!x1)) fun x2=>
 cond x2 (some ((Tr.mk 0 0 [] []),1))
 (bnd (pa a0) fun x3=>
 bnd (dY x3) fun x4=>
 some (x4.1,x4.2))
def iP(a0:(List UInt8)):Option Go.Gk.Tr:=
 bnd (app [] a0) fun x1=>
 some (Tr.mk 3 0 x1 [])
def iT(a0:aq):Option Go.Gk.Tr:=
 bnd (eX a0.2.2.2.2) fun x1=>
 bnd (ax 1) fun x2=>
 bnd (dY [x2,x1.1]) fun x3=>
 bnd (ax 2) fun x4=>
 bnd (iP a0.2.1) fun x5=>
 bnd (ax 8) fun x6=>
 bnd (β:=(List Go.Gk.Tr)) (letm ((a0.1 != [])) fun x7=>
 cond x7 (bnd (ax 1) fun x8=>
 bnd (iP a0.1) fun x9=>
 bnd (app [x4,x5,x6,x3.1] [x8,x9]) fun x10=>
 some x10)
 (some [x4,x5,x6,x3.1])) fun v11=>
 bnd (β:=(List Go.Gk.Tr)) (letm ((a0.2.2.2.1 != 0)) fun x12=>
 cond x12 (bnd (ax 4) fun x13=>
 bnd (ax a0.2.2.2.1) fun x14=>
 bnd (app v11 [x13,x14]) fun x15=>
 some x15)
 (some v11)) fun v16=>
 bnd (β:=(List Go.Gk.Tr)) (letm ((a0.2.2.1 != 0)) fun x17=>
 cond x17 (bnd (ax 5) fun x18=>
 bnd (ax a0.2.2.1) fun x19=>
 bnd (app v16 [x18,x19]) fun x20=>
 some x20)
 (some v16)) fun v21=>
 bnd (dY v21) fun x22=>
 some x22.1
def cg(a0:Go.Gk.Tr):Option ((List UInt8)×Int):=
 bnd (aG a0) fun x1=>
 letm ((!x1)) fun x2=>
 cond x2 (some ([],1))
 (bnd (bS [] a0) fun x3=>
 some (x3,0))
def cZ(a0:aq):Option ((List UInt8)×Int):=
 bnd (cM a0) fun x1=>
 letm ((!x1)) fun x2=>
 cond x2 (some ([],1))
 (bnd (iT a0) fun x3=>
 bnd (cg x3) fun x4=>
 some (x4.1,x4.2))
def jv:Option aw:=
 some ((Tr.mk 5 0 [] []),(Tr.mk 5 0 [] []))
def lF(a0:Go.Gk.Tr):Option (List aw):=
 aM (R:=(List aw)) (S:=((List aw)×Int)) (fun self2 s1=>
 letm ((aP (s1.2+1))) fun x3=>
 letm (decide (x3<(a0.l.length:Int))) fun x4=>
 cond x4 (bnd (az a0.l s1.2) fun x5=>
 letm ((aP (s1.2+1))) fun x6=>
 bnd (az a0.l x6) fun x7=>
 bnd (app s1.1 [(x5,x7)]) fun x8=>
 letm ((aP (s1.2+2))) fun x9=>
 self2 (x8,x9))
 (some s1.1)) bk ([],0)
def kw(a0:Go.Gk.Tr):Option Bool:=
 bnd (β:=Bool) (letm ((a0.k==0)) fun x1=>
 cond x1 (letm (decide ((UInt64.toNat a0.n:Int)≤(UInt64.toNat 65535:Int))) fun x2=>
 some x2)
 (letm ((a0.k==1)) fun x3=>
 cond x3 (letm (decide ((UInt64.toNat a0.n:Int)≤(UInt64.toNat 65535:Int))) fun x4=>
 some x4)
 (some false))) fun v5=>
 some v5
def lM(a0:aw):Option Bool:=
 letm ((a0.1.k==3)) fun x1=>
 cond x1 (some true)
 (bnd (kw a0.1) fun x2=>
 letm ((!x2)) fun x3=>
 cond x3 (some false)
 (letm ((a0.1.k==1)) fun x4=>
 cond x4 (some true)
 (letm (((UInt64.toNat a0.1.n:Int)==(UInt64.toNat 1:Int))) fun x5=>
 cond x5 (bnd (β:=Bool) (bnd (kw a0.2) fun x6=>
 cond x6 (letm ((a0.2.k==1)) fun x7=>
 cond x7 (some true)
 (letm (((UInt64.toNat a0.2.n:Int) != (UInt64.toNat 0:Int))) fun x8=>
 some x8))
 (some false)) fun v9=>
 some v9)
 (bnd (β:=Bool) (letm (((UInt64.toNat a0.1.n:Int)==(UInt64.toNat 4:Int))) fun x10=>
 cond x10 (some true)
 (letm (((UInt64.toNat a0.1.n:Int)==(UInt64.toNat 5:Int))) fun x11=>
 cond x11 (some true)
 (letm (((UInt64.toNat a0.1.n:Int)==(UInt64.toNat 6:Int))) fun x12=>
 cond x12 (some true)
 (letm (((UInt64.toNat a0.1.n:Int)==(UInt64.toNat 12:Int))) fun x13=>
 some x13)))) fun v14=>
 cond v14 (letm ((a0.2.k==2)) fun x15=>
 some x15)
 (some true)))))
def cA(a0:Go.Gk.Tr)(a1:Go.Gk.Tr):Option (Go.Gk.Tr×Bool):=
 bnd (β:=Bool) (letm ((a0.k != 5)) fun x2=>
 cond x2 (some true)
 (bnd (aG a0) fun x3=>
 letm ((!x3)) fun x4=>
 cond x4 (some true)
 (bnd (aG a1) fun x5=>
 letm ((!x5)) fun x6=>
 some x6))) fun v7=>
 cond v7 (some ((Tr.mk 0 0 [] []),false))
 (bnd (bS [] a1) fun x8=>
 aM (R:=(Go.Gk.Tr×Bool)) (S:=(Int×Go.Gk.Tr)) (fun self10 s9=>
 letm (decide (s9.1<(a0.l.length:Int))) fun x11=>
 cond x11 (bnd (az a0.l s9.1) fun x12=>
 bnd (bS [] x12) fun x13=>
 bnd (ci x13 x8) fun x14=>
 cond x14 (letm ((aP (s9.1+1))) fun x15=>
 bnd (az a0.l x15) fun x16=>
 bnd (ec x16) fun x17=>
 some (x17,true))
 (letm ((aP (s9.1+2))) fun x18=>
 self10 (x18,s9.2)))
 (some ((Tr.mk 0 0 [] []),false))) bk (0,(Tr.mk 0 0 [] [])))
def gb(a0:aw)(a1:Int):Option (Go.Gk.Tr×Bool):=
 bnd (ax a1) fun x2=>
 bnd (cA a0.1 x2) fun x3=>
 cond x3.2 (some (x3.1,true))
 (bnd (ax a1) fun x4=>
 bnd (cA a0.2 x4) fun x5=>
 some (x5.1,x5.2))
def cz(a0:aw):Option Bool:=
 mG (ρ:=Bool) (ρ':=Bool) (Y:=Unit) (cS (R:=(Bool⊕Unit)) (S:=Unit) (α:=Go.Gk.Tr) (fun _ _=>
 some (.inr ()))
 (fun x3 _ _ self6=>
 mG (ρ:=(Bool⊕Unit)) (ρ':=(Bool⊕Unit)) (Y:=Unit) (bnd (β:=Bool) (letm ((x3.k != 5)) fun x7=>
 cond x7 (some true)
 (bnd (aG x3) fun x8=>
 letm ((!x8)) fun x9=>
 some x9)) fun v10=>
 cond v10 (some (.inl (.inl false)))
 (bnd (lF x3) fun x11=>
 cS (R:=((Bool⊕Unit)⊕Unit)) (S:=Unit) (α:=aw) (fun _ _=>
 some (.inr ()))
 (fun x14 _ _ self17=>
 bnd (lM x14) fun x18=>
 letm ((!x18)) fun x19=>
 cond x19 (some (.inl (.inl false)))
 (self17 ())) x11 0 ())) (fun q=>q) fun _=>
 self6 ()) [a0.1,a0.2] 0 ()) (fun q=>q) fun _=>
 mG (ρ:=Bool) (ρ':=Bool) (Y:=Unit) (bnd (lF a0.1) fun x22=>
 cS (R:=(Bool⊕Unit)) (S:=Unit) (α:=aw) (fun _ _=>
 some (.inr ()))
 (fun x25 _ _ self28=>
 bnd (cA a0.2 x25.1) fun x29=>
 cond x29.2 (some (.inl false))
 (self28 ())) x22 0 ()) (fun q=>q) fun _=>
 bnd (gb a0 5) fun x31=>
 bnd (gb a0 6) fun x32=>
 bnd (ax 2) fun x33=>
 bnd (cA a0.2 x33) fun x34=>
 bnd (β:=Bool) (cond x34.2 (some true)
 (cond x31.2 (some x32.2)
 (some false))) fun v35=>
 cond v35 (some false)
 (bnd (ax 2) fun x36=>
 bnd (cA a0.1 x36) fun x37=>
 letm ((!x37.2)) fun x38=>
 cond x38 (some true)
 (mG (ρ:=Bool) (ρ':=Bool) (Y:=Unit) (cS (R:=(Bool⊕Unit)) (S:=Unit) (α:=Go.Gk.Tr) (fun _ _=>
 some (.inr ()))
 (fun x41 _ _ self44=>
 bnd (cA a0.1 x41) fun x45=>
 letm ((!x45.2)) fun x46=>
 cond x46 (some (.inl false))
 (self44 ())) x37.1.l 0 ()) (fun q=>q) fun _=>
 bnd (β:=Bool) (letm ((x37.1.k==4)) fun x48=>
 cond x48 (letm (decide (0<(x37.1.l.length:Int))) fun x49=>
 some x49)
 (some false)) fun v50=>
 some v50))
def eR(a0:Go.Gk.Tr):Option (Go.Gk.Tr×(List Go.Gk.Tr)):=
 bnd (jh a0.l) fun x1=>
 some (x1.1.1,x1.1.2)
def kV(a0:aw)(a1:Bool)(a2:Int)(a3:Go.Gk.Tr):Option (aw×Int):=
 bnd (β:=Bool) (bnd (cz a0) fun x4=>
 letm ((!x4)) fun x5=>
 cond x5 (some true)
 (bnd (aG a3) fun x6=>
 letm ((!x6)) fun x7=>
 some x7)) fun v8=>
 cond v8 (some (((Tr.mk 0 0 [] []),(Tr.mk 0 0 [] [])),1))
 (bnd (gb a0 a2) fun x9=>
 cond x9.2 (some (((Tr.mk 0 0 [] []),(Tr.mk 0 0 [] [])),7))
 (bnd (eR a0.1) fun x10=>
 bnd (eR a0.2) fun x11=>
 cond a1 (bnd (ax a2) fun x12=>
 bnd (app x10.2 [x12,a3]) fun x13=>
 bnd (dY x13) fun x14=>
 bnd (β:=Bool) (letm ((x14.2 != 0)) fun x15=>
 cond x15 (some true)
 (bnd (cz (x14.1,(Tr.mk x11.1.k x11.1.n x11.1.b x11.2))) fun x16=>
 letm ((!x16)) fun x17=>
 some x17)) fun v18=>
 cond v18 (some (((Tr.mk 0 0 [] []),(Tr.mk 0 0 [] [])),4))
 (some ((x14.1,(Tr.mk x11.1.k x11.1.n x11.1.b x11.2)),0)))
 (bnd (ax a2) fun _=>
 none)))
def fI:Option aw:=
 bnd (jv) fun x0=>
 bnd (ax (-8)) fun x1=>
 bnd (kV x0 true 1 x1) fun x2=>
 some x2.1
def sc(a0:aw)(a1:Int):Option (Go.Gk.Tr×Bool):=
 bnd (cz a0) fun x2=>
 letm ((!x2)) fun x3=>
 cond x3 (some ((Tr.mk 0 0 [] []),false))
 (bnd (gb a0 a1) fun x4=>
 some (x4.1,x4.2))
def k_(a0:aw):Option Int:=
 bnd (sc a0 1) fun x1=>
 letm ((!x1.2)) fun x2=>
 cond x2 (some 0)
 (letm ((x1.1.k==1)) fun x3=>
 cond x3 (letm ((aP (UInt64.toNat x1.1.n:Int))) fun x4=>
 letm ((aP ((-1)-x4))) fun x5=>
 some x5)
 (letm ((aP (UInt64.toNat x1.1.n:Int))) fun x6=>
 some x6))
def dw(a0:aw):Option ((List UInt8)×Int):=
 bnd (cz a0) fun x1=>
 letm ((!x1)) fun x2=>
 cond x2 (some ([],1))
 (letm (((a0.1.l.length:Int)==0)) fun x3=>
 cond x3 (some ([],0))
 (bnd (cg a0.1) fun x4=>
 some (x4.1,x4.2)))
def nG(a0:(List Go.Gk.Tr)):Option Go.Gk.Tr:=
 cS (R:=Go.Gk.Tr) (S:=(Go.Gk.Tr×(List Go.Gk.Tr))) (α:=Go.Gk.Tr) (fun _ s2=>
 some (Tr.mk s2.1.k s2.1.n s2.1.b s2.2))
 (fun x3 _ s5 self6=>
 bnd (ec x3) fun x7=>
 bnd (app s5.2 [x7]) fun x8=>
 self6 (s5.1,x8)) a0 0 ((Tr.mk 4 0 [] []),[])
def bJ(a0:(List UInt8))(a1:aw)(a2:(List UInt8))(a3:(List (List UInt8))):Option ((List UInt8)×Int):=
 bnd (dw a1) fun x4=>
 letm ((x4.2 != 0)) fun x5=>
 cond x5 (some ([],x4.2))
 (bnd (eF a0) fun x6=>
 letm ((!x6)) fun x7=>
 cond x7 (some ([],5))
 (bnd (iP a0) fun x8=>
 bnd (dc x4.1) fun x9=>
 bnd (dc a2) fun x10=>
 cS (R:=((List UInt8)×Int)) (S:=(List Go.Gk.Tr)) (α:=(List UInt8)) (fun _ s12=>
 bnd (nG s12) fun x13=>
 bnd (cg x13) fun x14=>
 letm ((x14.2 != 0)) fun x15=>
 cond x15 (some ([],8))
 (some (x14.1,0)))
 (fun x16 _ s18 self19=>
 bnd (dc x16) fun x20=>
 bnd (app s18 [x20]) fun x21=>
 self19 x21) a3 0 [x8,x9,x10]))
def fV(a0:List (List UInt8))(a1:List UInt8):Option (List UInt8):=match a0 with
 |x::y::r=>bif Nat.ble (Lib.lens (x::y::r)+a1.length*(r.length+1)) 140737488355328&&Nat.ble (r.length+2) 140737488355328 then some (Lib.join (x::y::r) a1)else none
 |_=>none
def jD:Option (List UInt64):=
 some [6346243789798364141,1503914060200516822,0,1152921504606846976]
def iQ(a0:(List UInt64)):Option (List UInt64):=
 bnd (jD) fun x1=>
 letm ((aP (64*(a0.length:Int)))) fun x2=>
 letm ((aP (x2-1))) fun x3=>
 aM (R:=(List UInt64)) (S:=(Int×(List UInt64))) (fun self5 s4=>
 letm (decide (0≤s4.1)) fun x6=>
 cond x6 (bnd (β:=(List UInt64)) (bnd (ck s4.2 s4.2) fun x7=>
 bnd (b_ 4 0) fun x8=>
 bnd (az x7.1 ((0+x8):Int)) fun x9=>
 bnd (quo s4.1 64) fun x10=>
 bnd (az a0 x10) fun x11=>
 bnd (Gk.rem s4.1 64) fun x12=>
 bnd ((dW .u64 (x11:UInt64) x12:Option UInt64)) fun(x13:UInt64)=>
 letm ((bB .and .u64 (x13:UInt64) (1:UInt64):UInt64)) fun(x14:UInt64)=>
 letm ((bB .or .u64 (x9:UInt64) (x14:UInt64):UInt64)) fun(x15:UInt64)=>
 bnd (b_ 4 0) fun x16=>
 bnd (az x7.1 ((0+x16):Int)) fun _=>
 letm ((x7.1.set (0+x16) x15)) fun x18=>
 bnd (eU x18 x1) fun x19=>
 letm ((!x19)) fun x20=>
 cond x20 (bnd (bV x18 x1) fun x21=>
 some x21.1)
 (some x18)) fun v22=>
 letm ((aP (s4.1-1))) fun x23=>
 self5 (x23,v22))
 (some s4.2)) bk (x3,[(ab 0),(ab 0),(ab 0),(ab 0)])
def cU(a0:(List (List UInt8))):Option (List UInt64):=
 bnd (fV a0 []) fun x1=>
 bnd (gY x1) fun x2=>
 cS (R:=(List UInt64)) (S:=(List UInt64)) (α:=UInt8) (fun _ s4=>
 bnd (iQ s4) fun x5=>
 some x5)
 (fun x6 k7 s8 self9=>
 bnd (quo (k7:Int) 8) fun x10=>
 bnd (b_ 8 x10) fun x11=>
 bnd (az s8 ((0+x11):Int)) fun x12=>
 letm ((ab (UInt8.toNat x6:Int))) fun x13=>
 bnd (Gk.rem (k7:Int) 8) fun x14=>
 letm ((aP (8*x14))) fun x15=>
 bnd ((gE .u64 (x13:UInt64) x15:Option UInt64)) fun(x16:UInt64)=>
 letm ((bB .or .u64 (x12:UInt64) (x16:UInt64):UInt64)) fun(x17:UInt64)=>
 bnd (b_ 8 x10) fun x18=>
 bnd (az s8 ((0+x18):Int)) fun _=>
 letm ((s8.set (0+x18) x17)) fun x20=>
 self9 x20) x2 0 (List.replicate 8 (0:UInt64))
def iu(a0:(List UInt64))(a1:(List UInt64))(a2:(List UInt64)):Option (List UInt64):=
 bnd (gF a0 a1) fun x3=>
 aM (R:=(List UInt64)) (S:=(UInt64×(Int×(List UInt64)))) (fun self5 s4=>
 letm (decide (s4.2.1<8)) fun x6=>
 cond x6 (bnd (β:=UInt64) (letm (decide (s4.2.1<4)) fun x7=>
 cond x7 (bnd (b_ 4 s4.2.1) fun x8=>
 bnd (az a2 ((0+x8):Int)) fun x9=>
 some x9)
 (some 0)) fun v10=>
 bnd (b_ 8 s4.2.1) fun x11=>
 bnd (az s4.2.2 ((0+x11):Int)) fun x12=>
 bnd (bl x12 v10 s4.1) fun x13=>
 bnd (b_ 8 s4.2.1) fun x14=>
 bnd (az s4.2.2 ((0+x14):Int)) fun _=>
 letm ((s4.2.2.set (0+x14) x13.1)) fun x16=>
 letm ((aP (s4.2.1+1))) fun x17=>
 self5 (x13.2,(x17,x16)))
 (bnd (iQ s4.2.2) fun x18=>
 some x18)) bk (0,(0,x3))
def fD(a0:(List UInt8))(a1:(List UInt8)):Option ((List UInt8)×Int):=
 letm (((a0.length:Int) != 32)) fun x2=>
 cond x2 (some ([],1))
 (bnd (eM) fun x3=>
 bnd (eh a0) fun x4=>
 bnd (cf x3 x4.1) fun x5=>
 bnd (cU [x4.2,a1]) fun x6=>
 bnd (cf x3 x6) fun x7=>
 bnd (cU [x7,x5,a1]) fun x8=>
 bnd (iu x8 x4.1 x6) fun x9=>
 bnd (dp x9) fun x10=>
 bnd (JR x7 x10) fun x11=>
 some (x11,0))
def jl(a0:aw):Option aw:=
 bnd (dY a0.1.l) fun x1=>
 bnd (dY a0.2.l) fun x2=>
 some (x1.1,x2.1)
def mz(a0:aw)(a1:(List UInt8))(a2:(List UInt8))(a3:(List UInt8)):Option (cw×Int):=
 bnd (β:=Bool) (bnd (cz a0) fun x4=>
 letm ((!x4)) fun x5=>
 cond x5 (some true)
 (letm (((a3.length:Int) != 32)) fun x6=>
 some x6)) fun v7=>
 cond v7 (some ((((Tr.mk 0 0 [] []),(Tr.mk 0 0 [] [])),([],[])),1))
 (bnd (k_ a0) fun x8=>
 letm ((x8 != (-8))) fun x9=>
 cond x9 (some ((((Tr.mk 0 0 [] []),(Tr.mk 0 0 [] [])),([],[])),12))
 (bnd (bJ [83,105,103,110,97,116,117,114,101,49] a0 a1 [a2]) fun x10=>
 letm ((x10.2 != 0)) fun x11=>
 cond x11 (some ((((Tr.mk 0 0 [] []),(Tr.mk 0 0 [] [])),([],[])),x10.2))
 (bnd (fD a3 x10.1) fun x12=>
 bnd (jl a0) fun x13=>
 bnd (aI a2) fun x14=>
 some ((x13,(x14,x12.1)),0))))
def gw(a0:Int)(a1:cw):Option ((List UInt8)×Int):=
 bnd (dw a1.1) fun x2=>
 bnd (β:=Bool) (letm ((x2.2 != 0)) fun x3=>
 cond x3 (some true)
 (letm (decide (a0<16)) fun x4=>
 cond x4 (some true)
 (letm (decide (18<a0)) fun x5=>
 cond x5 (some true)
 (letm ((a0==16)) fun x6=>
 cond x6 (letm (decide (0<(a1.2.2.length:Int))) fun x7=>
 some x7)
 (some false))))) fun v8=>
 cond v8 (some ([],1))
 (bnd (dc x2.1) fun x9=>
 bnd (dc a1.2.1) fun x10=>
 bnd (β:=(List Go.Gk.Tr)) (letm ((a0 != 16)) fun x11=>
 cond x11 (bnd (dc a1.2.2) fun x12=>
 bnd (app [x9,a1.1.2,x10] [x12]) fun x13=>
 some x13)
 (some [x9,a1.1.2,x10])) fun v14=>
 letm ((ab a0)) fun x15=>
 bnd (cg (Tr.mk 6 x15 [] [(Tr.mk 4 0 [] v14)])) fun x16=>
 letm ((x16.2 != 0)) fun x17=>
 cond x17 (some ([],8))
 (some (x16.1,0)))
def jr(a0:aq)(a1:(List UInt8)):Option ((List UInt8)×Int):=
 bnd (β:=Bool) (bnd (cM a0) fun x2=>
 letm ((!x2)) fun x3=>
 cond x3 (some true)
 (letm ((a0.1 == [])) fun x4=>
 cond x4 (some true)
 (letm (((a1.length:Int) != 32)) fun x5=>
 some x5))) fun v6=>
 cond v6 (some ([],1))
 (bnd (cZ a0) fun x7=>
 bnd (fI) fun x8=>
 bnd (mz x8 [] x7.1 a1) fun x9=>
 letm ((x9.2 != 0)) fun x10=>
 cond x10 (some ([],x9.2))
 (bnd (gw 18 x9.1) fun x11=>
 some (x11.1,x11.2)))
def j9(a0:aC)(a1:Int):Option (UInt64×(Bool×aC)):=
 letm ((aP ((a0.1.length:Int)-a0.2.1))) fun x2=>
 letm (decide (x2<a1)) fun x3=>
 cond x3 (some (0,(false,a0)))
 (letm ((aP (a0.2.1+a1))) fun x4=>
 bnd (Gk.cut a0.1 a0.2.1 x4) fun x5=>
 bnd (rng (x5.length:Int)) fun j16=>
 mV (R:=(UInt64×(Bool×aC))) (S:=UInt64) (fun _ s7=>
 letm ((aP (a0.2.1+a1))) fun x8=>
 some (s7,(true,(a0.1,(x8,a0.2.2)))))
 (fun k9 s10 self11=>
 bnd (az x5 (k9:Int)) fun x12=>
 bnd ((gE .u64 (s10:UInt64) (UInt64.toNat 8:Int):Option UInt64)) fun(x13:UInt64)=>
 letm ((ab (UInt8.toNat x12:Int))) fun x14=>
 letm ((bB .or .u64 (x13:UInt64) (x14:UInt64):UInt64)) fun(x15:UInt64)=>
 self11 x15) j16 0 0)
def lm(a0:aC):Option (UInt8×(UInt64×(Int×aC))):=
 letm ((a0.2.1==(a0.1.length:Int))) fun x1=>
 cond x1 (some (0,(0,(2,a0))))
 (bnd (az a0.1 a0.2.1) fun x2=>
 letm ((aj (bits .and .u8 (UInt8.toNat x2) (UInt8.toNat 31)))) fun x3=>
 letm (decide ((UInt8.toNat 27:Int)<(UInt8.toNat x3:Int))) fun x4=>
 cond x4 (some (0,(0,(3,a0))))
 (letm ((aP (a0.2.1+1))) fun x5=>
 letm (decide ((UInt8.toNat x3:Int)<(UInt8.toNat 24:Int))) fun x6=>
 cond x6 (letm ((ab (UInt8.toNat x3:Int))) fun x7=>
 some (x2,(x7,(0,(a0.1,(x5,a0.2.2))))))
 (letm ((x3-24)) fun x8=>
 bnd (Gk.shl 1 (UInt8.toNat x8:Int)) fun x9=>
 bnd (j9 (a0.1,(x5,a0.2.2)) x9) fun x10=>
 letm ((!x10.2.1)) fun x11=>
 cond x11 (some (0,(0,(2,x10.2.2))))
 (bnd (β:=Bool) (bnd (dW .u8 x2 (UInt64.toNat 5:Int)) fun x12=>
 letm (decide ((UInt8.toNat x12:Int)<(UInt8.toNat 7:Int))) fun x13=>
 cond x13 (bnd (j_ 0 x10.1) fun x14=>
 letm ((x3-24)) fun x15=>
 bnd (Gk.shl 1 (UInt8.toNat x15:Int)) fun x16=>
 letm ((aP (1+x16))) fun x17=>
 letm (((x14.length:Int) != x17)) fun x18=>
 some x18)
 (some false)) fun v19=>
 cond v19 (some (0,(0,(4,x10.2.2))))
 (some (x2,(x10.1,(0,x10.2.2))))))))
def kI(bX:(aC)→(Int)→Option (Go.Gk.Tr×(Int×aC)))(a0:aC)(a1:UInt64)(a2:Int):Option (Go.Gk.Tr×(Int×aC)):=
 aM (R:=(Go.Gk.Tr×(Int×aC))) (S:=((List UInt8)×(UInt64×(aC×(Go.Gk.Tr×(Go.Gk.Tr×(List Go.Gk.Tr))))))) (fun self4 s3=>
 letm (decide ((UInt64.toNat s3.2.1:Int)<(UInt64.toNat a1:Int))) fun x5=>
 cond x5 (bnd (bX s3.2.2.1 a2) fun x6=>
 letm ((x6.2.1 != 0)) fun x7=>
 cond x7 (some ((Tr.mk 0 0 [] []),(x6.2.1,x6.2.2)))
 (bnd (Gk.cut x6.2.2.1 s3.2.2.1.2.1 x6.2.2.2.1) fun x8=>
 mG (ρ:=(Go.Gk.Tr×(Int×aC))) (ρ':=(Go.Gk.Tr×(Int×aC))) (Y:=Go.Gk.Tr) (letm (decide ((UInt64.toNat 0:Int)<(UInt64.toNat s3.2.1:Int))) fun x9=>
 cond x9 (bnd (eN x8 s3.1) fun x10=>
 letm ((x10==0)) fun x11=>
 cond x11 (some (.inl ((Tr.mk 0 0 [] []),(7,x6.2.2))))
 (letm (decide (x10<0)) fun x12=>
 cond x12 (some (.inl ((Tr.mk 0 0 [] []),(6,x6.2.2))))
 (some (.inr s3.2.2.2.1))))
 (some (.inr s3.2.2.2.1))) (fun q=>q) fun v13=>
 bnd (bX x6.2.2 a2) fun x14=>
 letm ((x14.2.1 != 0)) fun x15=>
 cond x15 (some ((Tr.mk 0 0 [] []),(x14.2.1,x14.2.2)))
 (bnd (app s3.2.2.2.2.2 [x6.1,x14.1]) fun x16=>
 letm ((s3.2.1+1)) fun x17=>
 self4 (x8,(x17,(x14.2.2,(v13,(s3.2.2.2.2.1,x16))))))))
 (some ((Tr.mk s3.2.2.2.2.1.k s3.2.2.2.2.1.n s3.2.2.2.2.1.b s3.2.2.2.2.2),(0,s3.2.2.1)))) bk ([],(0,(a0,((Tr.mk 0 0 [] []),((Tr.mk 5 0 [] []),[])))))
def lG(bX:(aC)→(Int)→Option (Go.Gk.Tr×(Int×aC)))(a0:aC)(a1:Int):Option (Go.Gk.Tr×(Int×aC)):=
 letm ((a0.2.2==256)) fun x2=>
 cond x2 (some ((Tr.mk 0 0 [] []),(8,a0)))
 (letm ((aP (a0.2.2+1))) fun x3=>
 bnd (lm (a0.1,(a0.2.1,x3))) fun x4=>
 letm ((x4.2.2.1 != 0)) fun x5=>
 cond x5 (some ((Tr.mk 0 0 [] []),(x4.2.2.1,x4.2.2.2)))
 (bnd (dW .u8 x4.1 (UInt64.toNat 5:Int)) fun x6=>
 letm ((aP (UInt8.toNat x6:Int))) fun x7=>
 bnd (β:=Bool) (letm ((x7==0)) fun x8=>
 cond x8 (some true)
 (letm ((x7==1)) fun x9=>
 some x9)) fun v10=>
 cond v10 (some ((Tr.mk x7 x4.2.1 [] []),(0,x4.2.2.2)))
 (bnd (β:=Bool) (letm ((x7==2)) fun x11=>
 cond x11 (some true)
 (letm ((x7==3)) fun x12=>
 some x12)) fun v13=>
 cond v13 (letm ((aP ((x4.2.2.2.1.length:Int)-x4.2.2.2.2.1))) fun x14=>
 letm ((ab x14)) fun x15=>
 letm (decide ((UInt64.toNat x15:Int)<(UInt64.toNat x4.2.1:Int))) fun x16=>
 cond x16 (some ((Tr.mk 0 0 [] []),(2,x4.2.2.2)))
 (letm ((aP (UInt64.toNat x4.2.1:Int))) fun x17=>
 letm ((aP (x4.2.2.2.2.1+x17))) fun x18=>
 bnd (Gk.cut x4.2.2.2.1 x4.2.2.2.2.1 x18) fun x19=>
 bnd (aI x19) fun x20=>
 letm ((aP (UInt64.toNat x4.2.1:Int))) fun x21=>
 letm ((aP (x4.2.2.2.2.1+x21))) fun x22=>
 bnd (β:=Bool) (letm ((x7==3)) fun x23=>
 cond x23 (bnd (e_ x20) fun x24=>
 letm ((!x24)) fun x25=>
 some x25)
 (some false)) fun v26=>
 cond v26 (some ((Tr.mk 0 0 [] []),(5,(x4.2.2.2.1,(x22,x4.2.2.2.2.2)))))
 (some ((Tr.mk x7 0 x20 []),(0,(x4.2.2.2.1,(x22,x4.2.2.2.2.2)))))))
 (letm ((x7==7)) fun x27=>
 cond x27 (none)
 (letm (decide (8≤a1)) fun x28=>
 cond x28 (some ((Tr.mk 0 0 [] []),(8,x4.2.2.2)))
 (letm ((x7==5)) fun x29=>
 cond x29 (letm ((aP (a1+1))) fun x30=>
 bnd (kI bX x4.2.2.2 x4.2.1 x30) fun x31=>
 some (x31.1,(x31.2.1,x31.2.2)))
 (letm ((x7==6)) fun x32=>
 cond x32 (letm ((aP (a1+1))) fun x33=>
 bnd (bX x4.2.2.2 x33) fun x34=>
 letm ((x34.2.1 != 0)) fun x35=>
 cond x35 (some ((Tr.mk 0 0 [] []),(x34.2.1,x34.2.2)))
 (some ((Tr.mk x7 x4.2.1 [] [x34.1]),(0,x34.2.2))))
 (mG (ρ:=(Go.Gk.Tr×(Int×aC))) (ρ':=(Go.Gk.Tr×(Int×aC))) (Y:=(aC×(Go.Gk.Tr×(Go.Gk.Tr×(List Go.Gk.Tr))))) (aM (R:=((Go.Gk.Tr×(Int×aC))⊕(aC×(Go.Gk.Tr×(Go.Gk.Tr×(List Go.Gk.Tr)))))) (S:=(UInt64×(aC×(Go.Gk.Tr×(Go.Gk.Tr×(List Go.Gk.Tr)))))) (fun self37 s36=>
 letm (decide ((UInt64.toNat 0:Int)<(UInt64.toNat s36.1:Int))) fun x38=>
 cond x38 (letm ((aP (a1+1))) fun x39=>
 bnd (bX s36.2.1 x39) fun x40=>
 letm ((x40.2.1 != 0)) fun x41=>
 cond x41 (some (.inl ((Tr.mk 0 0 [] []),(x40.2.1,x40.2.2))))
 (bnd (app s36.2.2.2.2 [x40.1]) fun x42=>
 letm ((s36.1-1)) fun x43=>
 self37 (x43,(x40.2.2,(s36.2.2.1,(s36.2.2.2.1,x42))))))
 (some (.inr (s36.2.1,(s36.2.2.1,(s36.2.2.2.1,s36.2.2.2.2)))))) bk (x4.2.1,(x4.2.2.2,((Tr.mk 0 0 [] []),((Tr.mk x7 0 [] []),[]))))) (fun q=>q) fun v44=>
 some ((Tr.mk v44.2.2.1.k v44.2.2.1.n v44.2.2.1.b v44.2.2.2),(0,v44.1))))))))))
def iH(n:Nat):(aC)→(Int)→Option (Go.Gk.Tr×(Int×aC)):=Nat.rec (motive:=fun _=>(aC)→(Int)→Option (Go.Gk.Tr×(Int×aC))) (fun _ _=>none) (fun _ ih=>lG ih) n
def bX(a0:aC)(a1:Int):Option (Go.Gk.Tr×(Int×aC)):=iH 40 a0 a1
def qu(a0:(List UInt8)):Option (Go.Gk.Tr×bc):=
 letm ((min (a0.length:Int) 4096)) fun x1=>
 bnd (Gk.cut a0 0 x1) fun x2=>
 bnd (bX (x2,(0,0)) 0) fun x3=>
 letm ((x3.2.1 != 0)) fun x4=>
 cond x4 (some ((Tr.mk 0 0 [] []),(0,x3.2.1)))
 (some (x3.1,(x3.2.2.2.1,0)))
def f_(a0:(List UInt8)):Option (Go.Gk.Tr×Int):=
 letm (decide (4096<(a0.length:Int))) fun x1=>
 cond x1 (some ((Tr.mk 0 0 [] []),8))
 (bnd (qu a0) fun x2=>
 letm ((x2.2.2 != 0)) fun x3=>
 cond x3 (some ((Tr.mk 0 0 [] []),x2.2.2))
 (letm (decide (x2.2.1<(a0.length:Int))) fun x4=>
 cond x4 (some ((Tr.mk 0 0 [] []),9))
 (some (x2.1,0))))
def dT(a0:Int)(a1:(Option Go.Gk.Tr)):Option (List UInt8):=
 bnd (a1) fun x2=>
 bnd (ax a0) fun x3=>
 bnd (cA x2 x3) fun x4=>
 some x4.1.b
def dU(a0:Int)(a1:(Option Go.Gk.Tr)):Option Int:=
 bnd (a1) fun x2=>
 bnd (ax a0) fun x3=>
 bnd (cA x2 x3) fun x4=>
 letm ((GK x4.1.n 1073741825)) fun x5=>
 letm ((aP (UInt64.toNat x5:Int))) fun x6=>
 some x6
def jp(a0:Go.Gk.Tr):Option (Int×Bool):=
 letm (decide ((UInt64.toNat 1048576:Int)<(UInt64.toNat a0.n:Int))) fun x1=>
 cond x1 (some (0,false))
 (letm ((a0.k==0)) fun x2=>
 cond x2 (letm ((aP (UInt64.toNat a0.n:Int))) fun x3=>
 some (x3,true))
 (letm ((a0.k==1)) fun x4=>
 cond x4 (letm ((aP (UInt64.toNat a0.n:Int))) fun x5=>
 letm ((aP ((-1)-x5))) fun x6=>
 some (x6,true))
 (some (0,false))))
def iG(a0:Go.Gk.Tr)(a1:Go.Gk.Tr):Option Int:=
 bnd (β:=Bool) (bnd (aG a0) fun x2=>
 letm ((!x2)) fun x3=>
 cond x3 (some true)
 (bnd (aG a1) fun x4=>
 letm ((!x4)) fun x5=>
 some x5)) fun v6=>
 cond v6 (some 0)
 (bnd (bS [] a0) fun x7=>
 bnd (bS [] a1) fun x8=>
 bnd (eN x7 x8) fun x9=>
 some x9)
def dN(a0:Go.Gk.Tr):Option (aY×Int):=
 bnd (aG a0) fun x1=>
 letm ((!x1)) fun x2=>
 cond x2 (some ((0,(0,(0,([],([],([],[])))))),1))
 (letm ((a0.k != 5)) fun x3=>
 cond x3 (some ((0,(0,(0,([],([],([],[])))))),12))
 (aM (R:=(aY×Int)) (S:=(Int×(aY×aY))) (fun self5 s4=>
 letm (decide (s4.1<(a0.l.length:Int))) fun x6=>
 cond x6 (mG (ρ:=(aY×Int)) (ρ':=(aY×Int)) (Y:=(aY×aY)) (bnd (az a0.l s4.1) fun x7=>
 bnd (jp x7) fun x8=>
 letm ((aP (s4.1+1))) fun x9=>
 bnd (az a0.l x9) fun x10=>
 bnd (jp x10) fun x11=>
 bnd (β:=Bool) (cond x8.2 (cond x11.2 (cond (x8.1==1) (letm ((!false)) fun x12=>
 some x12)
 (cond (x8.1==3) (letm ((!false)) fun x13=>
 some x13)
 (cond (x8.1==(-1)) (letm ((!false)) fun x14=>
 some x14)
 (letm ((!true)) fun x15=>
 some x15))))
 (some false))
 (some false)) fun v16=>
 cond v16 (cond (x8.1==1) (some (.inr (s4.2.1,(x11.1,s4.2.2.2))))
 (cond (x8.1==3) (some (.inr (s4.2.1,(s4.2.2.1,(s4.2.2.2.1,(x11.1,s4.2.2.2.2.2))))))
 (cond (x8.1==(-1)) (some (.inr (s4.2.1,(s4.2.2.1,(x11.1,s4.2.2.2.2)))))
 (none))))
 (cond (x8.1==2) (bnd (β:=Bool) (cond x8.2 (letm ((!false)) fun x17=>
 cond x17 (letm ((x10.k==2)) fun x18=>
 some x18)
 (some false))
 (some false)) fun v19=>
 cond v19 (bnd (aI x10.b) fun x20=>
 some (.inr (s4.2.1,(s4.2.2.1,(s4.2.2.2.1,(s4.2.2.2.2.1,(x20,s4.2.2.2.2.2.2)))))))
 (some (.inl ((0,(0,(0,([],([],([],[])))))),12))))
 (cond (x8.1==(-1)) (bnd (β:=Bool) (cond x8.2 (letm ((!false)) fun x21=>
 cond x21 (letm ((x10.k==2)) fun x22=>
 some x22)
 (some false))
 (some false)) fun v23=>
 cond v23 (bnd (aI x10.b) fun x24=>
 some (.inr (s4.2.1,(s4.2.2.1,(s4.2.2.2.1,(s4.2.2.2.2.1,(s4.2.2.2.2.2.1,(s4.2.2.2.2.2.2.1,(s4.2.2.2.2.2.2.2.1,x24)))))))))
 (some (.inl ((0,(0,(0,([],([],([],[])))))),12))))
 (cond (x8.1==(-2)) (bnd (β:=Bool) (cond x8.2 (letm ((!false)) fun x25=>
 cond x25 (letm ((x10.k==2)) fun x26=>
 some x26)
 (some false))
 (some false)) fun v27=>
 cond v27 (bnd (aI x10.b) fun x28=>
 some (.inr (s4.2.1,(s4.2.2.1,(s4.2.2.2.1,(s4.2.2.2.2.1,(s4.2.2.2.2.2.1,(x28,s4.2.2.2.2.2.2.2))))))))
 (some (.inl ((0,(0,(0,([],([],([],[])))))),12))))
 (cond (x8.1==(-4)) (bnd (β:=Bool) (cond x8.2 (letm ((!false)) fun x29=>
 cond x29 (letm ((x10.k==2)) fun x30=>
 some x30)
 (some false))
 (some false)) fun v31=>
 cond v31 (bnd (aI x10.b) fun x32=>
 some (.inr (s4.2.1,(s4.2.2.1,(s4.2.2.2.1,(s4.2.2.2.2.1,(s4.2.2.2.2.2.1,(s4.2.2.2.2.2.2.1,(x32,s4.2.2.2.2.2.2.2.2)))))))))
 (some (.inl ((0,(0,(0,([],([],([],[])))))),12))))
 (bnd (β:=Bool) (cond x8.2 (letm ((!true)) fun x33=>
 cond x33 (letm ((x10.k==2)) fun x34=>
 some x34)
 (some false))
 (some false)) fun v35=>
 cond v35 (bnd (aI x10.b) fun _=>
 none)
 (some (.inl ((0,(0,(0,([],([],([],[])))))),12))))))))) (fun q=>q) fun v37=>
 letm ((aP (s4.1+2))) fun x38=>
 self5 (x38,(v37.1,v37.2)))
 (bnd (eX s4.2.2) fun x39=>
 bnd (β:=Bool) (letm ((x39.2 != 0)) fun x40=>
 cond x40 (some true)
 (bnd (iG a0 x39.1) fun x41=>
 letm ((x41 != 0)) fun x42=>
 some x42)) fun v43=>
 cond v43 (some ((0,(0,(0,([],([],([],[])))))),12))
 (some (s4.2.2,0)))) bk (0,((0,(0,(0,([],([],([],[])))))),(0,(0,(0,([],([],([],[]))))))))))
def j3(a0:Go.Gk.Tr):Option (aq×Bool):=
 bnd ((some ((some a0),()))) fun x1=>
 bnd (dT 1 x1.1) fun x2=>
 bnd ((some ((some a0),()))) fun x3=>
 bnd (dT 2 x3.1) fun x4=>
 bnd ((some ((some a0),()))) fun x5=>
 bnd (dU 4 x5.1) fun x6=>
 bnd ((some ((some a0),()))) fun x7=>
 bnd (dU 5 x7.1) fun x8=>
 bnd (ax 8) fun x9=>
 bnd (cA a0 x9) fun x10=>
 bnd (ax 1) fun x11=>
 bnd (cA x10.1 x11) fun x12=>
 bnd (dN x12.1) fun x13=>
 bnd (β:=Bool) (letm ((!x12.2)) fun x14=>
 cond x14 (some true)
 (letm ((x13.2 != 0)) fun x15=>
 some x15)) fun v16=>
 cond v16 (some (([],([],(0,(0,(0,(0,(0,([],([],([],[])))))))))),false))
 (bnd (β:=Bool) (bnd (cM (x2,(x4,(x8,(x6,x13.1))))) fun x17=>
 letm ((!x17)) fun x18=>
 cond x18 (some true)
 (bnd (iT (x2,(x4,(x8,(x6,x13.1))))) fun x19=>
 bnd (iG a0 x19) fun x20=>
 letm ((x20 != 0)) fun x21=>
 some x21)) fun v22=>
 cond v22 (some (([],([],(0,(0,(0,(0,(0,([],([],([],[])))))))))),false))
 (some ((x2,(x4,(x8,(x6,x13.1)))),true)))
def cJ(a0:(List UInt8)):Option (aq×Int):=
 bnd (f_ a0) fun x1=>
 letm ((x1.2 != 0)) fun x2=>
 cond x2 (some (([],([],(0,(0,(0,(0,(0,([],([],([],[])))))))))),x1.2))
 (bnd (j3 x1.1) fun x3=>
 letm ((!x3.2)) fun x4=>
 cond x4 (some (([],([],(0,(0,(0,(0,(0,([],([],([],[])))))))))),4))
 (some (x3.1,0)))
def kR(a0:Int)(a1:(List UInt8)):Option (dy×Int):=
 bnd (β:=Bool) (letm (decide (a0<1)) fun x2=>
 cond x2 (some true)
 (letm (decide (4<a0)) fun x3=>
 some x3)) fun v4=>
 cond v4 (some ((0,([],[])),1))
 (letm ((a0==4)) fun x5=>
 cond x5 (bnd (β:=Bool) (letm (((a1.length:Int)==0)) fun x6=>
 cond x6 (some true)
 (letm (decide (4096<(a1.length:Int))) fun x7=>
 some x7)) fun v8=>
 cond v8 (some ((0,([],[])),4))
 (bnd (aI a1) fun x9=>
 some ((a0,([],[x9])),0)))
 (bnd (cJ a1) fun x10=>
 letm ((x10.2 != 0)) fun x11=>
 cond x11 (some ((0,([],[])),x10.2))
 (letm ((a0==1)) fun x12=>
 cond x12 (letm (((x10.1.2.2.2.2.2.2.2.1.length:Int)==0)) fun x13=>
 cond x13 (some ((0,([],[])),10))
 (some ((a0,(x10.1.2.2.2.2.2.2.2.1,[])),0)))
 (letm ((a0==3)) fun x14=>
 cond x14 (none)
 (bnd (aI a1) fun x15=>
 some ((a0,(x15,[])),0))))))
def jc(a0:dy):Option Bool:=
 letm ((a0.1==1)) fun x1=>
 cond x1 (bnd (β:=Bool) (letm (decide (1≤(a0.2.1.length:Int))) fun x2=>
 cond x2 (letm (decide ((a0.2.1.length:Int)≤16)) fun x3=>
 cond x3 (letm (((a0.2.2.length:Int)==0)) fun x4=>
 some x4)
 (some false))
 (some false)) fun v5=>
 some v5)
 (letm ((a0.1==2)) fun x6=>
 cond x6 (bnd (cJ a0.2.1) fun x7=>
 bnd (β:=Bool) (letm ((x7.2==0)) fun x8=>
 cond x8 (letm (((a0.2.2.length:Int)==0)) fun x9=>
 some x9)
 (some false)) fun v10=>
 some v10)
 (letm ((a0.1==3)) fun x11=>
 cond x11 (bnd (β:=Bool) (letm (((a0.2.1.length:Int)==8)) fun x12=>
 cond x12 (letm (((a0.2.2.length:Int)==0)) fun x13=>
 some x13)
 (some false)) fun v14=>
 some v14)
 (letm ((a0.1==4)) fun x15=>
 cond x15 (cS (R:=Bool) (S:=Unit) (α:=(List UInt8)) (fun _ _=>
 bnd (β:=Bool) (letm (((a0.2.1.length:Int)==0)) fun x18=>
 cond x18 (letm (decide (1≤(a0.2.2.length:Int))) fun x19=>
 cond x19 (letm (decide ((a0.2.2.length:Int)≤4)) fun x20=>
 some x20)
 (some false))
 (some false)) fun v21=>
 some v21)
 (fun x22 _ _ self25=>
 bnd (β:=Bool) (letm (((x22.length:Int)==0)) fun x26=>
 cond x26 (some true)
 (letm (decide (4096<(x22.length:Int))) fun x27=>
 some x27)) fun v28=>
 cond v28 (some false)
 (self25 ())) a0.2.2 0 ())
 (some false))))
def ic(a0:dy):Option (Go.Gk.Tr×Int):=
 bnd (jc a0) fun x1=>
 letm ((!x1)) fun x2=>
 cond x2 (some ((Tr.mk 0 0 [] []),1))
 (letm ((a0.1==1)) fun x3=>
 cond x3 (bnd (dc a0.2.1) fun _=>
 none)
 (letm ((a0.1==2)) fun x5=>
 cond x5 (bnd (f_ a0.2.1) fun _=>
 none)
 (letm ((a0.1==3)) fun x7=>
 cond x7 (bnd (ax (-16)) fun x8=>
 bnd (dc a0.2.1) fun x9=>
 bnd (nG [x8,x9]) fun _=>
 none)
 (cS (R:=(Go.Gk.Tr×Int)) (S:=(Go.Gk.Tr×(List Go.Gk.Tr))) (α:=(List UInt8)) (fun _ s12=>
 bnd (ax 33) fun x13=>
 bnd (aG (Tr.mk 5 0 [] [x13,(Tr.mk s12.1.k s12.1.n s12.1.b s12.2)])) fun x14=>
 letm ((!x14)) fun x15=>
 cond x15 (some ((Tr.mk 0 0 [] []),8))
 (some ((Tr.mk 5 0 [] [x13,(Tr.mk s12.1.k s12.1.n s12.1.b s12.2)]),0)))
 (fun x16 _ s18 self19=>
 bnd (dc x16) fun x20=>
 bnd (app s18.2 [x20]) fun x21=>
 self19 (s18.1,x21)) a0.2.2 0 ((Tr.mk 4 0 [] []),[])))))
def kK(a0:UInt64):Option Int:=
 letm (decide ((UInt64.toNat a0:Int)<(UInt64.toNat 24:Int))) fun x1=>
 cond x1 (some 1)
 (letm (decide ((UInt64.toNat a0:Int)<(UInt64.toNat 256:Int))) fun x2=>
 cond x2 (some 2)
 (letm (decide ((UInt64.toNat a0:Int)<(UInt64.toNat 65536:Int))) fun x3=>
 cond x3 (some 3)
 (letm (decide ((UInt64.toNat a0:Int)<(UInt64.toNat 4294967296:Int))) fun x4=>
 cond x4 (some 5)
 (some 9))))
def da(a0:ah)(a1:UInt8):Option (aH×(Int×ah)):=
 letm ((a0.2.2.1==256)) fun x2=>
 cond x2 (some ((0,(0,(0,0))),(8,a0)))
 (letm ((aP (a0.2.2.1+1))) fun x3=>
 letm ((a0.2.1==(a0.1.length:Int))) fun x4=>
 cond x4 (some ((0,(0,(0,0))),(2,(a0.1,(a0.2.1,(x3,a0.2.2.2))))))
 (bnd (az a0.1 a0.2.1) fun x5=>
 bnd (dW .u8 x5 (UInt64.toNat 5:Int)) fun x6=>
 bnd (az a0.1 a0.2.1) fun x7=>
 letm ((aj (bits .and .u8 (UInt8.toNat x7) (UInt8.toNat 31)))) fun x8=>
 bnd (β:=Bool) (letm (decide ((UInt8.toNat 27:Int)<(UInt8.toNat x8:Int))) fun x9=>
 cond x9 (letm (decide ((UInt8.toNat x8:Int)<(UInt8.toNat 31:Int))) fun x10=>
 cond x10 (some true)
 (letm (decide ((UInt8.toNat x6:Int)<(UInt8.toNat 2:Int))) fun x11=>
 cond x11 (some true)
 (letm (decide ((UInt8.toNat 5:Int)<(UInt8.toNat x6:Int))) fun x12=>
 some x12)))
 (some false)) fun v13=>
 cond v13 (some ((0,(0,(0,0))),(3,(a0.1,(a0.2.1,(x3,a0.2.2.2))))))
 (bnd (β:=Bool) (letm (decide ((UInt8.toNat a1:Int)<(UInt8.toNat 8:Int))) fun x14=>
 cond x14 (letm (((UInt8.toNat x6:Int) != (UInt8.toNat a1:Int))) fun x15=>
 cond x15 (some true)
 (letm (((UInt8.toNat x8:Int)==(UInt8.toNat 31:Int))) fun x16=>
 some x16))
 (some false)) fun v17=>
 cond v17 (some ((0,(0,(0,0))),(4,(a0.1,(a0.2.1,(x3,a0.2.2.2))))))
 (letm ((aP (a0.2.1+1))) fun x18=>
 letm (((UInt8.toNat x8:Int)==(UInt8.toNat 31:Int))) fun x19=>
 cond x19 (some ((x6,(x8,(0,1))),(0,(a0.1,(x18,(x3,(true,a0.2.2.2.2)))))))
 (letm ((ab (UInt8.toNat x8:Int))) fun x20=>
 mG (ρ:=(aH×(Int×ah))) (ρ':=(aH×(Int×ah))) (Y:=(ah×(aH×aH))) (letm (decide ((UInt8.toNat 24:Int)≤(UInt8.toNat x8:Int))) fun x21=>
 cond x21 (letm ((x8-24)) fun x22=>
 bnd (Gk.shl 1 (UInt8.toNat x22:Int)) fun x23=>
 letm ((aP ((a0.1.length:Int)-x18))) fun x24=>
 letm (decide (x24<x23)) fun x25=>
 cond x25 (some (.inl ((0,(0,(0,0))),(2,(a0.1,(x18,(x3,a0.2.2.2)))))))
 (letm ((aP (x18+x23))) fun x26=>
 bnd (Gk.cut a0.1 x18 x26) fun x27=>
 bnd (rng (x27.length:Int)) fun j39=>
 mV (R:=((aH×(Int×ah))⊕(ah×(aH×aH)))) (S:=aH) (fun _ s29=>
 letm ((aP (x18+x23))) fun x30=>
 letm ((aP (1+x23))) fun x31=>
 some (.inr ((a0.1,(x30,(x3,a0.2.2.2))),((0,(0,(0,0))),(s29.1,(s29.2.1,(s29.2.2.1,x31)))))))
 (fun k32 s33 self34=>
 bnd (az x27 (k32:Int)) fun x35=>
 bnd ((gE .u64 (s33.2.2.1:UInt64) (UInt64.toNat 8:Int):Option UInt64)) fun(x36:UInt64)=>
 letm ((ab (UInt8.toNat x35:Int))) fun x37=>
 letm ((bB .or .u64 (x36:UInt64) (x37:UInt64):UInt64)) fun(x38:UInt64)=>
 self34 (s33.1,(s33.2.1,(x38,s33.2.2.2)))) j39 0 (x6,(x8,(0,1)))))
 (some (.inr ((a0.1,(x18,(x3,a0.2.2.2))),((0,(0,(0,0))),(x6,(x8,(x20,1)))))))) (fun q=>q) fun v40=>
 bnd (β:=Bool) (letm (((UInt8.toNat v40.2.2.1:Int)==(UInt8.toNat 7:Int))) fun x41=>
 cond x41 (letm (((UInt8.toNat v40.2.2.2.1:Int)==(UInt8.toNat 24:Int))) fun x42=>
 cond x42 (letm (decide ((UInt64.toNat v40.2.2.2.2.1:Int)<(UInt64.toNat 32:Int))) fun x43=>
 some x43)
 (some false))
 (some false)) fun v44=>
 cond v44 (some ((0,(0,(0,0))),(4,v40.1)))
 (bnd (β:=ah) (bnd (β:=Bool) (letm (decide ((UInt8.toNat v40.2.2.1:Int)<(UInt8.toNat 7:Int))) fun x45=>
 cond x45 (bnd (kK v40.2.2.2.2.1) fun x46=>
 letm ((v40.2.2.2.2.2 != x46)) fun x47=>
 some x47)
 (some false)) fun v48=>
 cond v48 (some (v40.1.1,(v40.1.2.1,(v40.1.2.2.1,(true,v40.1.2.2.2.2)))))
 (some v40.1)) fun v49=>
 some (v40.2.2,(0,v49))))))))
def dh(a0:ah)(a1:aH):Option ((List UInt8)×(Int×ah)):=
 letm ((aP ((a0.1.length:Int)-a0.2.1))) fun x2=>
 letm ((ab x2)) fun x3=>
 letm (decide ((UInt64.toNat x3:Int)<(UInt64.toNat a1.2.2.1:Int))) fun x4=>
 cond x4 (some ([],(2,a0)))
 (letm ((aP (UInt64.toNat a1.2.2.1:Int))) fun x5=>
 letm ((aP (a0.2.1+x5))) fun x6=>
 bnd (Gk.cut a0.1 a0.2.1 x6) fun x7=>
 bnd (aI x7) fun x8=>
 letm ((aP (UInt64.toNat a1.2.2.1:Int))) fun x9=>
 letm ((aP (a0.2.1+x9))) fun x10=>
 bnd (β:=ah) (bnd (β:=Bool) (letm (((UInt8.toNat a1.1:Int)==(UInt8.toNat 3:Int))) fun x11=>
 cond x11 (bnd (e_ x8) fun x12=>
 letm ((!x12)) fun x13=>
 some x13)
 (some false)) fun v14=>
 cond v14 (some (a0.1,(x10,(a0.2.2.1,(a0.2.2.2.1,true)))))
 (some (a0.1,(x10,a0.2.2)))) fun v15=>
 some (x8,(0,v15)))
def bU(a0:ah):Option (Bool×ah):=
 bnd (β:=Bool) (letm (decide (a0.2.1<(a0.1.length:Int))) fun x1=>
 cond x1 (bnd (az a0.1 a0.2.1) fun x2=>
 letm (((UInt8.toNat x2:Int)==(UInt8.toNat 255:Int))) fun x3=>
 some x3)
 (some false)) fun v4=>
 cond v4 (letm ((aP (a0.2.1+1))) fun x5=>
 some (true,(a0.1,(x5,a0.2.2))))
 (some (false,a0))
def jm(a0:ah)(a1:aH):Option (Go.Gk.Tr×(Int×ah)):=
 letm ((aP (UInt8.toNat a1.1:Int))) fun x2=>
 letm (decide ((UInt8.toNat a1.2.1:Int)<(UInt8.toNat 31:Int))) fun x3=>
 cond x3 (bnd (dh a0 a1) fun x4=>
 some ((Tr.mk x2 0 x4.1 []),(x4.2.1,x4.2.2)))
 (mG (ρ:=(Go.Gk.Tr×(Int×ah))) (ρ':=(Go.Gk.Tr×(Int×ah))) (Y:=(ah×aw)) (aM (R:=((Go.Gk.Tr×(Int×ah))⊕(ah×aw))) (S:=(ah×aw)) (fun _ s5=>
 bnd (bU s5.1) fun x7=>
 letm ((!x7.1)) fun x8=>
 cond x8 (bnd (da x7.2 a1.1) fun x9=>
 letm ((x9.2.1 != 0)) fun x10=>
 cond x10 (some (.inl ((Tr.mk 0 0 [] []),(x9.2.1,x9.2.2))))
 (bnd (dh x9.2.2 x9.1) fun x11=>
 letm ((x11.2.1 != 0)) fun x12=>
 cond x12 (some (.inl ((Tr.mk 0 0 [] []),(x11.2.1,x11.2.2))))
 (none)))
 (some (.inr (x7.2,(s5.2.1,s5.2.2))))) bk (a0,((Tr.mk 0 0 [] []),(Tr.mk x2 0 [] [])))) (fun q=>q) fun v13=>
 some (v13.2.2,(0,v13.1)))
def ip(a0:ah)(a1:aH):Option ((Go.Gk.Tr×(List Go.Gk.Tr))×(Int×ah)):=
 letm ((aP (UInt8.toNat a1.1:Int))) fun x2=>
 letm (decide ((UInt8.toNat a1.2.1:Int)<(UInt8.toNat 31:Int))) fun x3=>
 cond x3 (bnd (dh a0 a1) fun x4=>
 some (((Tr.mk x2 0 x4.1 []),[]),(x4.2.1,x4.2.2)))
 (mG (ρ:=((Go.Gk.Tr×(List Go.Gk.Tr))×(Int×ah))) (ρ':=((Go.Gk.Tr×(List Go.Gk.Tr))×(Int×ah))) (Y:=(ah×(Go.Gk.Tr×(Go.Gk.Tr×(List Go.Gk.Tr))))) (aM (R:=(((Go.Gk.Tr×(List Go.Gk.Tr))×(Int×ah))⊕(ah×(Go.Gk.Tr×(Go.Gk.Tr×(List Go.Gk.Tr)))))) (S:=(ah×(Go.Gk.Tr×(Go.Gk.Tr×(List Go.Gk.Tr))))) (fun _ s5=>
 bnd (bU s5.1) fun x7=>
 letm ((!x7.1)) fun x8=>
 cond x8 (bnd (da x7.2 a1.1) fun x9=>
 letm ((x9.2.1 != 0)) fun x10=>
 cond x10 (none)
 (bnd (dh x9.2.2 x9.1) fun x11=>
 letm ((x11.2.1 != 0)) fun x12=>
 cond x12 (none)
 (none)))
 (some (.inr (x7.2,(s5.2.1,(s5.2.2.1,s5.2.2.2)))))) bk (a0,((Tr.mk 0 0 [] []),((Tr.mk x2 0 [] []),[])))) (fun q=>q) fun v13=>
 some ((v13.2.2.1,v13.2.2.2),(0,v13.1)))
def fP(ct:(ah)→(aH)→(Int)→Option ((List Go.Gk.Tr)×(Int×ah)))(a0:ah)(a1:Int):Option (Go.Gk.Tr×(Int×ah)):=
 bnd (da a0 8) fun x2=>
 letm ((x2.2.1 != 0)) fun x3=>
 cond x3 (some ((Tr.mk 0 0 [] []),(x2.2.1,x2.2.2)))
 (letm ((aP (UInt8.toNat x2.1.1:Int))) fun x4=>
 bnd (β:=Bool) (letm ((x4==0)) fun x5=>
 cond x5 (some true)
 (letm ((x4==1)) fun x6=>
 some x6)) fun v7=>
 cond v7 (some ((Tr.mk x4 x2.1.2.2.1 [] []),(0,x2.2.2)))
 (bnd (β:=Bool) (letm ((x4==2)) fun x8=>
 cond x8 (some true)
 (letm ((x4==3)) fun x9=>
 some x9)) fun v10=>
 cond v10 (bnd (jm x2.2.2 x2.1) fun x11=>
 some (x11.1,(x11.2.1,x11.2.2)))
 (letm ((x4==7)) fun x12=>
 cond x12 (none)
 (letm (decide (8≤a1)) fun x13=>
 cond x13 (some ((Tr.mk 0 0 [] []),(8,x2.2.2)))
 (bnd (β:=(aH×Go.Gk.Tr)) (letm ((x4==6)) fun x14=>
 cond x14 (some ((x2.1.1,(x2.1.2.1,(1,x2.1.2.2.2))),(Tr.mk x4 x2.1.2.2.1 [] [])))
 (some (x2.1,(Tr.mk x4 0 [] [])))) fun v15=>
 letm ((aP (a1+1))) fun x16=>
 bnd (ct x2.2.2 v15.1 x16) fun x17=>
 letm ((x17.2.1 != 0)) fun x18=>
 cond x18 (some ((Tr.mk 0 0 [] []),(x17.2.1,x17.2.2)))
 (some ((Tr.mk v15.2.k v15.2.n v15.2.b x17.1),(0,x17.2.2))))))))
def gI(ct:(ah)→(aH)→(Int)→Option ((List Go.Gk.Tr)×(Int×ah)))(a0:ah)(a1:aH)(a2:Int):Option ((List Go.Gk.Tr)×(Int×ah)):=
 letm (((UInt8.toNat a1.2.1:Int)==(UInt8.toNat 31:Int))) fun x3=>
 aM (R:=((List Go.Gk.Tr)×(Int×ah))) (S:=((List Go.Gk.Tr)×(UInt64×ah))) (fun self5 s4=>
 bnd (β:=Bool) (cond x3 (some true)
 (letm (decide ((UInt64.toNat s4.2.1:Int)<(UInt64.toNat a1.2.2.1:Int))) fun x6=>
 some x6)) fun v7=>
 cond v7 (mG (ρ:=((List Go.Gk.Tr)×(Int×ah))) (ρ':=((List Go.Gk.Tr)×(Int×ah))) (Y:=((List Go.Gk.Tr)×ah)) (bnd (β:=(Bool×ah)) (cond x3 (bnd (bU s4.2.2) fun x8=>
 some (x8.1,x8.2))
 (some (false,s4.2.2))) fun v9=>
 cond v9.1 (some (.inl (s4.1,(0,v9.2))))
 (aM (R:=(((List Go.Gk.Tr)×(Int×ah))⊕((List Go.Gk.Tr)×ah))) (S:=((List Go.Gk.Tr)×(Int×ah))) (fun self11 s10=>
 letm (decide (s10.2.1<2)) fun x12=>
 cond x12 (bnd (β:=Bool) (letm ((s10.2.1==1)) fun x13=>
 cond x13 (letm (((UInt8.toNat a1.1:Int) != (UInt8.toNat 5:Int))) fun x14=>
 some x14)
 (some false)) fun v15=>
 cond v15 (some (.inr (s10.1,s10.2.2)))
 (bnd (β:=(Bool×ah)) (letm ((s10.2.1==1)) fun x16=>
 cond x16 (cond x3 (bnd (bU s10.2.2) fun x17=>
 some (x17.1,x17.2))
 (some (false,s10.2.2)))
 (some (false,s10.2.2))) fun v18=>
 cond v18.1 (some (.inl ([],(4,v18.2))))
 (bnd (fP ct v18.2 a2) fun x19=>
 letm ((x19.2.1 != 0)) fun x20=>
 cond x20 (some (.inl ([],(x19.2.1,x19.2.2))))
 (bnd (app s10.1 [x19.1]) fun x21=>
 letm ((aP (s10.2.1+1))) fun x22=>
 self11 (x21,(x22,x19.2.2))))))
 (some (.inr (s10.1,s10.2.2)))) bk (s4.1,(0,v9.2)))) (fun q=>q) fun v23=>
 letm ((s4.2.1+1)) fun x24=>
 self5 (v23.1,(x24,v23.2)))
 (some (s4.1,(0,s4.2.2)))) bk ([],(0,a0))
def cy(n:Nat):(ah)→(aH)→(Int)→Option ((List Go.Gk.Tr)×(Int×ah)):=Nat.rec (motive:=fun _=>(ah)→(aH)→(Int)→Option ((List Go.Gk.Tr)×(Int×ah))) (fun _ _ _=>none) (fun _ ih=>gI ih) n
def ct(a0:ah)(a1:aH)(a2:Int):Option ((List Go.Gk.Tr)×(Int×ah)):=cy 40 a0 a1 a2
def jA(a0:ah)(a1:Int):Option (Go.Gk.Tr×(Int×ah)):=fP (cy 40) a0 a1
def fW(a0:ah)(a1:aH)(a2:Int):Option ((List Go.Gk.Tr)×(Int×ah)):=
 letm (((UInt8.toNat a1.2.1:Int)==(UInt8.toNat 31:Int))) fun x3=>
 aM (R:=((List Go.Gk.Tr)×(Int×ah))) (S:=((List Go.Gk.Tr)×(UInt64×ah))) (fun self5 s4=>
 bnd (β:=Bool) (cond x3 (some true)
 (letm (decide ((UInt64.toNat s4.2.1:Int)<(UInt64.toNat a1.2.2.1:Int))) fun x6=>
 some x6)) fun v7=>
 cond v7 (mG (ρ:=((List Go.Gk.Tr)×(Int×ah))) (ρ':=((List Go.Gk.Tr)×(Int×ah))) (Y:=((List Go.Gk.Tr)×ah)) (bnd (β:=(Bool×ah)) (cond x3 (bnd (bU s4.2.2) fun x8=>
 some (x8.1,x8.2))
 (some (false,s4.2.2))) fun v9=>
 cond v9.1 (some (.inl (s4.1,(0,v9.2))))
 (aM (R:=(((List Go.Gk.Tr)×(Int×ah))⊕((List Go.Gk.Tr)×ah))) (S:=((List Go.Gk.Tr)×(Int×ah))) (fun self11 s10=>
 letm (decide (s10.2.1<2)) fun x12=>
 cond x12 (bnd (β:=Bool) (letm ((s10.2.1==1)) fun x13=>
 cond x13 (letm (((UInt8.toNat a1.1:Int) != (UInt8.toNat 5:Int))) fun x14=>
 some x14)
 (some false)) fun v15=>
 cond v15 (some (.inr (s10.1,s10.2.2)))
 (bnd (β:=(Bool×ah)) (letm ((s10.2.1==1)) fun x16=>
 cond x16 (cond x3 (bnd (bU s10.2.2) fun x17=>
 some (x17.1,x17.2))
 (some (false,s10.2.2)))
 (some (false,s10.2.2))) fun v18=>
 cond v18.1 (bnd (none) fun r=>some (.inl r))
 (bnd (jA v18.2 a2) fun x19=>
 letm ((x19.2.1 != 0)) fun x20=>
 cond x20 (bnd (none) fun r=>some (.inl r))
 (bnd (app s10.1 [x19.1]) fun x21=>
 letm ((aP (s10.2.1+1))) fun x22=>
 self11 (x21,(x22,x19.2.2))))))
 (some (.inr (s10.1,s10.2.2)))) bk (s4.1,(0,v9.2)))) (fun q=>q) fun v23=>
 letm ((s4.2.1+1)) fun x24=>
 self5 (v23.1,(x24,v23.2)))
 (some (s4.1,(0,s4.2.2)))) bk ([],(0,a0))
def im(a0:ah)(a1:Int):Option ((Go.Gk.Tr×(List Go.Gk.Tr))×(Int×ah)):=
 bnd (da a0 8) fun x2=>
 letm ((x2.2.1 != 0)) fun x3=>
 cond x3 (none)
 (letm ((aP (UInt8.toNat x2.1.1:Int))) fun x4=>
 bnd (β:=Bool) (letm ((x4==0)) fun x5=>
 cond x5 (some true)
 (letm ((x4==1)) fun x6=>
 some x6)) fun v7=>
 cond v7 (none)
 (bnd (β:=Bool) (letm ((x4==2)) fun x8=>
 cond x8 (some true)
 (letm ((x4==3)) fun x9=>
 some x9)) fun v10=>
 cond v10 (bnd (ip x2.2.2 x2.1) fun x11=>
 some ((x11.1.1,x11.1.2),(x11.2.1,x11.2.2)))
 (letm ((x4==7)) fun x12=>
 cond x12 (none)
 (letm (decide (8≤a1)) fun x13=>
 cond x13 (none)
 (bnd (β:=(aH×(Go.Gk.Tr×(List Go.Gk.Tr)))) (letm ((x4==6)) fun x14=>
 cond x14 (some ((x2.1.1,(x2.1.2.1,(1,x2.1.2.2.2))),((Tr.mk x4 x2.1.2.2.1 [] []),[])))
 (some (x2.1,((Tr.mk x4 0 [] []),[])))) fun v15=>
 letm ((aP (a1+1))) fun x16=>
 bnd (fW x2.2.2 v15.1 x16) fun x17=>
 letm ((x17.2.1 != 0)) fun x18=>
 cond x18 (none)
 (some ((v15.2.1,x17.1),(0,x17.2.2))))))))
def mv(a0:(List UInt8)):Option ((Option ah)×((Go.Gk.Tr×(List Go.Gk.Tr))×Int)):=
 letm ((min (a0.length:Int) 4096)) fun x1=>
 bnd (Gk.cut a0 0 x1) fun x2=>
 bnd (im (x2,(0,(0,(false,false)))) 0) fun x3=>
 some ((some x3.2.2),((x3.1.1,x3.1.2),x3.2.1))
def rJ(a0:UInt32):Option Int:=
 bnd (β:=(UInt32×Int)) (letm (decide ((UInt32.toNat 65536:Int)≤(UInt32.toNat a0:Int))) fun x1=>
 cond x1 (bnd ((dW .u32 (a0:UInt32) (UInt64.toNat 16:Int):Option UInt32)) fun(x2:UInt32)=>
 some (x2,16))
 (some (a0,0))) fun v3=>
 bnd (β:=(UInt32×Int)) (letm (decide ((UInt32.toNat 256:Int)≤(UInt32.toNat v3.1:Int))) fun x4=>
 cond x4 (bnd ((dW .u32 (v3.1:UInt32) (UInt64.toNat 8:Int):Option UInt32)) fun(x5:UInt32)=>
 letm ((aP (v3.2+8))) fun x6=>
 some (x5,x6))
 (some (v3.1,v3.2))) fun v7=>
 letm ((aj (UInt32.toNat v7.1:Int))) fun x8=>
 bnd (az [0,1,2,2,3,3,3,3,4,4,4,4,4,4,4,4,5,5,5,5,5,5,5,5,5,5,5,5,5,5,5,5,6,6,6,6,6,6,6,6,6,6,6,6,6,6,6,6,6,6,6,6,6,6,6,6,6,6,6,6,6,6,6,6,7,7,7,7,7,7,7,7,7,7,7,7,7,7,7,7,7,7,7,7,7,7,7,7,7,7,7,7,7,7,7,7,7,7,7,7,7,7,7,7,7,7,7,7,7,7,7,7,7,7,7,7,7,7,7,7,7,7,7,7,7,7,7,7,8,8,8,8,8,8,8,8,8,8,8,8,8,8,8,8,8,8,8,8,8,8,8,8,8,8,8,8,8,8,8,8,8,8,8,8,8,8,8,8,8,8,8,8,8,8,8,8,8,8,8,8,8,8,8,8,8,8,8,8,8,8,8,8,8,8,8,8,8,8,8,8,8,8,8,8,8,8,8,8,8,8,8,8,8,8,8,8,8,8,8,8,8,8,8,8,8,8,8,8,8,8,8,8,8,8,8,8,8,8,8,8,8,8,8,8,8,8,8,8,8,8,8,8,8,8,8,8] (UInt8.toNat x8:Int)) fun x9=>
 letm ((aP (UInt8.toNat x9:Int))) fun x10=>
 letm ((aP (v7.2+x10))) fun x11=>
 some x11
def lX(a0:UInt64):Option Int:=
 bnd (β:=(UInt64×Int)) (letm (decide ((UInt64.toNat 4294967296:Int)≤(UInt64.toNat a0:Int))) fun x1=>
 cond x1 (bnd ((dW .u64 (a0:UInt64) (UInt64.toNat 32:Int):Option UInt64)) fun(x2:UInt64)=>
 some (x2,32))
 (some (a0,0))) fun v3=>
 bnd (β:=(UInt64×Int)) (letm (decide ((UInt64.toNat 65536:Int)≤(UInt64.toNat v3.1:Int))) fun x4=>
 cond x4 (bnd ((dW .u64 (v3.1:UInt64) (UInt64.toNat 16:Int):Option UInt64)) fun(x5:UInt64)=>
 letm ((aP (v3.2+16))) fun x6=>
 some (x5,x6))
 (some (v3.1,v3.2))) fun v7=>
 bnd (β:=(UInt64×Int)) (letm (decide ((UInt64.toNat 256:Int)≤(UInt64.toNat v7.1:Int))) fun x8=>
 cond x8 (bnd ((dW .u64 (v7.1:UInt64) (UInt64.toNat 8:Int):Option UInt64)) fun(x9:UInt64)=>
 letm ((aP (v7.2+8))) fun x10=>
 some (x9,x10))
 (some (v7.1,v7.2))) fun v11=>
 letm ((aj (UInt64.toNat v11.1:Int))) fun x12=>
 bnd (az [0,1,2,2,3,3,3,3,4,4,4,4,4,4,4,4,5,5,5,5,5,5,5,5,5,5,5,5,5,5,5,5,6,6,6,6,6,6,6,6,6,6,6,6,6,6,6,6,6,6,6,6,6,6,6,6,6,6,6,6,6,6,6,6,7,7,7,7,7,7,7,7,7,7,7,7,7,7,7,7,7,7,7,7,7,7,7,7,7,7,7,7,7,7,7,7,7,7,7,7,7,7,7,7,7,7,7,7,7,7,7,7,7,7,7,7,7,7,7,7,7,7,7,7,7,7,7,7,8,8,8,8,8,8,8,8,8,8,8,8,8,8,8,8,8,8,8,8,8,8,8,8,8,8,8,8,8,8,8,8,8,8,8,8,8,8,8,8,8,8,8,8,8,8,8,8,8,8,8,8,8,8,8,8,8,8,8,8,8,8,8,8,8,8,8,8,8,8,8,8,8,8,8,8,8,8,8,8,8,8,8,8,8,8,8,8,8,8,8,8,8,8,8,8,8,8,8,8,8,8,8,8,8,8,8,8,8,8,8,8,8,8,8,8,8,8,8,8,8,8,8,8,8,8,8,8] (UInt8.toNat x12:Int)) fun x13=>
 letm ((aP (UInt8.toNat x13:Int))) fun x14=>
 letm ((aP (v11.2+x14))) fun x15=>
 some x15
def n7(a0:UInt64):Option Int:=
 bnd (lX a0) fun x1=>
 some x1
def kN(a0:av)(a1:av):Option Int:=
 bnd (eN a0.1 a1.1) fun x2=>
 some x2
def cX(a0:(List av))(a1:Int)(a2:Int)(a3:(Option Unit)):Option Unit:=
 letm ((aP (a1+1))) fun x4=>
 aM (R:=Unit) (S:=((List av)×Int)) (fun self6 s5=>
 letm (decide (s5.2<a2)) fun x7=>
 cond x7 (aM (R:=Unit) (S:=((List av)×Int)) (fun _ s8=>
 bnd (β:=Bool) (letm (decide (a1<s8.2)) fun x10=>
 cond x10 (bnd (az s8.1 s8.2) fun x11=>
 letm ((aP (s8.2-1))) fun x12=>
 bnd (az s8.1 x12) fun x13=>
 bnd (a3) fun _=>
 bnd (kN x11 x13) fun x15=>
 letm (decide (x15<0)) fun x16=>
 some x16)
 (some false)) fun v17=>
 cond v17 (letm ((aP (s8.2-1))) fun _=>
 letm ((aP (s8.2-1))) fun x19=>
 bnd (az s8.1 x19) fun _=>
 bnd (az s8.1 s8.2) fun _=>
 bnd (az s8.1 s8.2) fun _=>
 none)
 (letm ((aP (s5.2+1))) fun x23=>
 self6 (s8.1,x23))) bk (s5.1,s5.2))
 (some ())) bk (a0,x4)
def dP(cE:((List av))→(Int)→(Int)→(Int)→((Option Unit))→Option Unit)(a0:(List av))(a1:Int)(a2:Int)(a3:Int)(a4:(Option Unit)):Option Unit:=
 aM (R:=Unit) (S:=(Int×(Int×(Int×(Bool×Bool))))) (fun _ s5=>
 letm ((aP (s5.2.1-s5.1))) fun x7=>
 letm (decide (x7≤12)) fun x8=>
 cond x8 (bnd (cX a0 s5.1 s5.2.1 a4) fun _=>
 some ())
 (letm ((s5.2.2.1==0)) fun x10=>
 cond x10 (none)
 (bnd (β:=Int) (letm ((!s5.2.2.2.1)) fun x11=>
 cond x11 (none)
 (some s5.2.2.1)) fun _=>
 none))) bk (a1,(a2,(a3,(true,true))))
def cD(n:Nat):((List av))→(Int)→(Int)→(Int)→((Option Unit))→Option Unit:=Nat.rec (motive:=fun _=>((List av))→(Int)→(Int)→(Int)→((Option Unit))→Option Unit) (fun _ _ _ _ _=>none) (fun _ ih=>dP ih) n
def cE(a0:(List av))(a1:Int)(a2:Int)(a3:Int)(a4:(Option Unit)):Option Unit:=cD 40 a0 a1 a2 a3 a4
def bD(a0:(List av))(a1:(Option Unit)):Option Unit:=
 letm ((ab (a0.length:Int))) fun x2=>
 bnd (n7 x2) fun x3=>
 bnd (cE a0 0 (a0.length:Int) x3 a1) fun _=>
 some ()
def lT(gA:((Option Go.Gk.Tr))→Option Bool)(a0:(Option Go.Gk.Tr)):Option Bool:=
 bnd (a0) fun _=>
 bnd (a0) fun x2=>
 bnd (rng (x2.l.length:Int)) fun j57=>
 mV (R:=Bool) (S:=Unit) (fun _ _=>
 bnd (a0) fun _=>
 bnd (a0) fun x6=>
 letm ((x6.k != 5)) fun x7=>
 cond x7 (some true)
 (aM (R:=Bool) (S:=((List av)×Int)) (fun self9 s8=>
 bnd (a0) fun _=>
 bnd (a0) fun x11=>
 letm (decide (s8.2<(x11.l.length:Int))) fun x12=>
 cond x12 (bnd (a0) fun _=>
 bnd (a0) fun x14=>
 bnd (az x14.l s8.2) fun x15=>
 bnd (cg x15) fun x16=>
 bnd (a0) fun _=>
 bnd (a0) fun x18=>
 bnd (az x18.l s8.2) fun x19=>
 bnd (a0) fun _=>
 bnd (a0) fun x21=>
 letm ((aP (s8.2+1))) fun x22=>
 bnd (az x21.l x22) fun x23=>
 bnd (app s8.1 [(x16.1,(x19,x23))]) fun x24=>
 letm ((aP (s8.2+2))) fun x25=>
 self9 (x24,x25))
 (bnd (bD s8.1 (some ())) fun _=>
 bnd (rng (s8.1.length:Int)) fun j48=>
 mV (R:=Bool) (S:=Unit) (fun _ _=>
 some true)
 (fun k29 _ _=>
 bnd (az s8.1 (k29:Int)) fun _=>
 bnd (az s8.1 ((((k29:Int):Int)).toNat:Int)) fun x33=>
 bnd (β:=Bool) (letm (decide (0<(k29:Int))) fun x34=>
 cond x34 (letm ((aP ((k29:Int)-1))) fun x35=>
 bnd (az s8.1 x35) fun _=>
 bnd (az s8.1 (((x35:Int)).toNat:Int)) fun x37=>
 bnd (ci x37.1 x33.1) fun x38=>
 some x38)
 (some false)) fun v39=>
 cond v39 (some false)
 (bnd (a0) fun _=>
 bnd (a0) fun x41=>
 letm ((aP (2*(k29:Int)))) fun x42=>
 bnd (a0) fun _=>
 bnd (a0) fun _=>
 letm ((aP (2*(k29:Int)))) fun x45=>
 letm ((aP (x45+1))) fun _=>
 bnd (az x41.l x42) fun _=>
 none)) j48 0 ())) bk ([],0)))
 (fun k49 _ self51=>
 bnd (a0) fun _=>
 bnd (a0) fun x53=>
 bnd (az x53.l (k49:Int)) fun x54=>
 bnd (gA (some x54)) fun x55=>
 letm ((!x55)) fun x56=>
 cond x56 (some false)
 (self51 ())) j57 0 ()
def jn(n:Nat):((Option Go.Gk.Tr))→Option Bool:=Nat.rec (motive:=fun _=>((Option Go.Gk.Tr))→Option Bool) (fun _=>none) (fun _ ih=>lT ih) n
def gA(a0:(Option Go.Gk.Tr)):Option Bool:=jn 40 a0
def kG(a0:Go.Gk.Tr)(a1:(List Go.Gk.Tr)):Option (Go.Gk.Tr×((List Go.Gk.Tr)×Bool)):=
 bnd (rng (a1.length:Int)) fun j48=>
 mV (R:=(Go.Gk.Tr×((List Go.Gk.Tr)×Bool))) (S:=Unit) (fun _ _=>
 letm ((a0.k != 5)) fun x4=>
 cond x4 (some (a0,(a1,true)))
 (aM (R:=(Go.Gk.Tr×((List Go.Gk.Tr)×Bool))) (S:=((List av)×Int)) (fun self6 s5=>
 letm (decide (s5.2<(a1.length:Int))) fun x7=>
 cond x7 (bnd (az a1 s5.2) fun _=>
 bnd (az a1 (((s5.2:Int)).toNat:Int)) fun x9=>
 bnd (cg x9) fun x10=>
 bnd (az a1 s5.2) fun _=>
 bnd (az a1 (((s5.2:Int)).toNat:Int)) fun x12=>
 letm ((aP (s5.2+1))) fun x13=>
 bnd (az a1 x13) fun _=>
 bnd (az a1 (((x13:Int)).toNat:Int)) fun x15=>
 bnd (app s5.1 [(x10.1,(x12,x15))]) fun x16=>
 letm ((aP (s5.2+2))) fun x17=>
 self6 (x16,x17))
 (bnd (bD s5.1 (some ())) fun _=>
 bnd (rng (s5.1.length:Int)) fun j41=>
 mV (R:=(Go.Gk.Tr×((List Go.Gk.Tr)×Bool))) (S:=(Go.Gk.Tr×(List Go.Gk.Tr))) (fun _ s20=>
 some (s20.1,(s20.2,true)))
 (fun k21 s22 self23=>
 bnd (az s5.1 (k21:Int)) fun _=>
 bnd (az s5.1 ((((k21:Int):Int)).toNat:Int)) fun x25=>
 bnd (β:=Bool) (letm (decide (0<(k21:Int))) fun x26=>
 cond x26 (letm ((aP ((k21:Int)-1))) fun x27=>
 bnd (az s5.1 x27) fun _=>
 bnd (az s5.1 (((x27:Int)).toNat:Int)) fun x29=>
 bnd (ci x29.1 x25.1) fun x30=>
 some x30)
 (some false)) fun v31=>
 cond v31 (some (s22.1,(s22.2,false)))
 (letm ((aP (2*(k21:Int)))) fun x32=>
 letm ((aP (2*(k21:Int)))) fun x33=>
 letm ((aP (x33+1))) fun x34=>
 bnd (az s22.2 x32) fun _=>
 bnd (az s22.2 (((x32:Int)).toNat:Int)) fun _=>
 letm ((s22.2.set ((x32:Int)).toNat x25.2.1)) fun x37=>
 bnd (az x37 x34) fun _=>
 bnd (az x37 (((x34:Int)).toNat:Int)) fun _=>
 letm ((x37.set ((x34:Int)).toNat x25.2.2)) fun x40=>
 self23 (s22.1,x40))) j41 0 (a0,a1))) bk ([],0)))
 (fun k42 _ self44=>
 bnd (az a1 (k42:Int)) fun _=>
 bnd (gA (some (a1.getD (((k42:Int):Int)).toNat (Tr.mk 0 0 [] [])))) fun x46=>
 letm ((!x46)) fun x47=>
 cond x47 (some (a0,(a1,false)))
 (self44 ())) j48 0 ()
def iB(a0:(List UInt8)):Option (Go.Gk.Tr×Int):=
 letm (decide (4096<(a0.length:Int))) fun x1=>
 cond x1 (some ((Tr.mk 0 0 [] []),8))
 (bnd (mv a0) fun x2=>
 letm ((x2.2.2 != 0)) fun x3=>
 cond x3 (some ((Tr.mk 0 0 [] []),x2.2.2))
 (bnd (x2.1) fun _=>
 bnd (x2.1) fun x5=>
 letm (decide (x5.2.1<(a0.length:Int))) fun x6=>
 cond x6 (some ((Tr.mk 0 0 [] []),9))
 (bnd (x2.1) fun _=>
 bnd (x2.1) fun x8=>
 cond x8.2.2.2.2 (some ((Tr.mk 0 0 [] []),5))
 (bnd (kG x2.2.1.1 x2.2.1.2) fun v9=>
 letm ((!v9.2.2)) fun x10=>
 cond x10 (some ((Tr.mk 0 0 [] []),7))
 (bnd (aG (Tr.mk v9.1.k v9.1.n v9.1.b v9.2.1)) fun x11=>
 letm ((!x11)) fun x12=>
 cond x12 (some ((Tr.mk 0 0 [] []),8))
 (some ((Tr.mk v9.1.k v9.1.n v9.1.b v9.2.1),0)))))))
def j5(a0:Go.Gk.Tr):Option dy:=
 bnd (β:=Bool) (letm ((a0.k != 5)) fun x1=>
 cond x1 (some true)
 (letm (((a0.l.length:Int) != 2)) fun x2=>
 cond x2 (some true)
 (bnd (az a0.l 0) fun x3=>
 letm ((x3.k != 0)) fun x4=>
 some x4))) fun v5=>
 cond v5 (some (0,([],[])))
 (bnd (az a0.l 1) fun x6=>
 mG (ρ:=dy) (ρ':=dy) (Y:=dy) (bnd (az a0.l 0) fun x7=>
 letm (((UInt64.toNat x7.n:Int)==(UInt64.toNat 4:Int))) fun x8=>
 cond x8 (bnd (aI x6.b) fun x9=>
 some (.inl (1,(x9,[]))))
 (letm (((UInt64.toNat x7.n:Int)==(UInt64.toNat 14:Int))) fun x10=>
 cond x10 (bnd (cg x6) fun x11=>
 some (.inl (2,(x11.1,[]))))
 (letm (((UInt64.toNat x7.n:Int)==(UInt64.toNat 34:Int))) fun x12=>
 cond x12 (letm (((x6.l.length:Int)==2)) fun x13=>
 cond x13 (bnd (az x6.l 1) fun x14=>
 bnd (aI x14.b) fun x15=>
 some (.inl (3,(x15,[]))))
 (some (.inr (0,([],[])))))
 (letm (((UInt64.toNat x7.n:Int)==(UInt64.toNat 33:Int))) fun x16=>
 cond x16 (cS (R:=(dy⊕dy)) (S:=(dy×(List (List UInt8)))) (α:=Go.Gk.Tr) (fun _ s18=>
 some (.inl (s18.1.1,(s18.1.2.1,s18.2))))
 (fun x19 _ s21 self22=>
 bnd (aI x19.b) fun x23=>
 bnd (app s21.2 [x23]) fun x24=>
 self22 (s21.1,x24)) x6.l 0 ((4,([],[])),[]))
 (some (.inr (0,([],[])))))))) (fun q=>q) fun _=>
 some (0,([],[])))
def iA(a0:Go.Gk.Tr):Option (dy×Int):=
 bnd (aG a0) fun x1=>
 letm ((!x1)) fun x2=>
 cond x2 (some ((0,([],[])),1))
 (bnd (j5 a0) fun x3=>
 bnd (ic x3) fun x4=>
 bnd (β:=Bool) (letm ((x4.2 != 0)) fun x5=>
 cond x5 (some true)
 (bnd (iG a0 x4.1) fun x6=>
 letm ((x6 != 0)) fun x7=>
 some x7)) fun v8=>
 cond v8 (some ((0,([],[])),4))
 (some (x3,0)))
def iY(a0:(List (List UInt8))):Option ((List aq)×Bool):=
 letm (decide (16<(a0.length:Int))) fun x1=>
 cond x1 (some ([],false))
 (cS (R:=((List aq)×Bool)) (S:=(List aq)) (α:=(List UInt8)) (fun _ s3=>
 some (s3,true))
 (fun x4 _ s6 self7=>
 bnd (cJ x4) fun x8=>
 letm ((x8.2 != 0)) fun x9=>
 cond x9 (some ([],false))
 (bnd (app s6 [x8.1]) fun x10=>
 self7 x10)) a0 0 [])
def mt(a0:Go.Gk.Tr):Option (Int×(List Go.Gk.Tr)):=
 bnd (β:=Bool) (letm ((a0.k != 6)) fun x1=>
 cond x1 (some true)
 (letm (decide ((UInt64.toNat a0.n:Int)<(UInt64.toNat 16:Int))) fun x2=>
 cond x2 (some true)
 (letm (decide ((UInt64.toNat 18:Int)<(UInt64.toNat a0.n:Int))) fun x3=>
 cond x3 (some true)
 (bnd (az a0.l 0) fun x4=>
 letm ((x4.k != 4)) fun x5=>
 some x5)))) fun v6=>
 cond v6 (some (0,[]))
 (bnd (β:=(List Int)) (letm (((UInt64.toNat a0.n:Int)==(UInt64.toNat 16:Int))) fun x7=>
 cond x7 (bnd (Gk.cut [2,5,2,2] 0 3) fun x8=>
 some x8)
 (some [2,5,2,2])) fun v9=>
 bnd (az a0.l 0) fun x10=>
 letm (((x10.l.length:Int) != (v9.length:Int))) fun x11=>
 cond x11 (some (0,[]))
 (cS (R:=(Int×(List Go.Gk.Tr))) (S:=Unit) (α:=Int) (fun _ _=>
 letm ((aP (UInt64.toNat a0.n:Int))) fun x14=>
 some (x14,x10.l))
 (fun x15 k16 _ self18=>
 bnd (az x10.l (k16:Int)) fun x19=>
 letm ((x19.k != x15)) fun x20=>
 cond x20 (some (0,[]))
 (self18 ())) v9 0 ()))
def gz(a0:(List UInt8)):Option (Int×(cw×Int)):=
 bnd (f_ a0) fun x1=>
 letm ((x1.2 != 0)) fun x2=>
 cond x2 (some (0,((((Tr.mk 0 0 [] []),(Tr.mk 0 0 [] [])),([],[])),x1.2)))
 (bnd (mt x1.1) fun x3=>
 bnd ((M' false x3.2)) fun x4=>
 cond x4 (some (0,((((Tr.mk 0 0 [] []),(Tr.mk 0 0 [] [])),([],[])),4)))
 (bnd (jv) fun x5=>
 bnd (az x3.2 2) fun x6=>
 bnd (az x3.2 1) fun x7=>
 mG (ρ:=(Int×(cw×Int))) (ρ':=(Int×(cw×Int))) (Y:=(cw×cw)) (bnd (az x3.2 0) fun x8=>
 letm (decide (0<(x8.b.length:Int))) fun x9=>
 cond x9 (bnd (az x3.2 0) fun x10=>
 bnd (f_ x10.b) fun x11=>
 bnd (β:=Bool) (letm ((x11.2 != 0)) fun x12=>
 cond x12 (some true)
 (letm (((x11.1.l.length:Int)==0)) fun x13=>
 some x13)) fun v14=>
 cond v14 (some (.inl (0,((((Tr.mk 0 0 [] []),(Tr.mk 0 0 [] [])),([],[])),4))))
 (some (.inr ((((Tr.mk 0 0 [] []),(Tr.mk 0 0 [] [])),([],[])),((x11.1,x7),(x6.b,[]))))))
 (some (.inr ((((Tr.mk 0 0 [] []),(Tr.mk 0 0 [] [])),([],[])),((x5.1,x7),(x6.b,[])))))) (fun q=>q) fun v15=>
 bnd (β:=cw) (letm (((x3.2.length:Int)==4)) fun x16=>
 cond x16 (bnd (az x3.2 3) fun x17=>
 some (v15.2.1,(v15.2.2.1,x17.b)))
 (some v15.2)) fun v18=>
 bnd (cz v18.1) fun x19=>
 letm ((!x19)) fun x20=>
 cond x20 (some (0,((((Tr.mk 0 0 [] []),(Tr.mk 0 0 [] [])),([],[])),4)))
 (some (x3.1,(v18,0)))))
def j7(a0:(List UInt8)):Option (aq×(cw×Int)):=
 bnd (gz a0) fun x1=>
 letm ((x1.2.2 != 0)) fun x2=>
 cond x2 (some (([],([],(0,(0,(0,(0,(0,([],([],([],[])))))))))),((((Tr.mk 0 0 [] []),(Tr.mk 0 0 [] [])),([],[])),x1.2.2)))
 (bnd (dw x1.2.1.1) fun x3=>
 bnd (fI) fun x4=>
 bnd (dw x4) fun x5=>
 bnd (cJ x1.2.1.2.1) fun x6=>
 bnd (β:=Bool) (letm ((x1.1 != 18)) fun x7=>
 cond x7 (some true)
 (bnd (ci x3.1 x5.1) fun x8=>
 letm ((!x8)) fun x9=>
 cond x9 (some true)
 (letm (decide (0<(x1.2.1.1.2.l.length:Int))) fun x10=>
 cond x10 (some true)
 (letm ((x6.2 != 0)) fun x11=>
 cond x11 (some true)
 (letm ((x6.1.1 == [])) fun x12=>
 some x12))))) fun v13=>
 cond v13 (some (([],([],(0,(0,(0,(0,(0,([],([],([],[])))))))))),((((Tr.mk 0 0 [] []),(Tr.mk 0 0 [] [])),([],[])),4)))
 (some (x6.1,(x1.2.1,0))))
def df(a0:aq)(a1:Int):Option Bool:=
 bnd (β:=Bool) (letm (decide (a1<0)) fun x2=>
 cond x2 (some true)
 (letm (decide (a0.2.2.1≤a1)) fun x3=>
 cond x3 (letm ((a0.2.2.2.1==0)) fun x4=>
 cond x4 (some true)
 (letm (decide (a1≤a0.2.2.2.1)) fun x5=>
 some x5))
 (some false))) fun v6=>
 some v6
def cH(a0:aJ)(a1:ak):Option Bool:=
 aM (R:=Bool) (S:=(Int×ak)) (fun self3 s2=>
 letm (decide (s2.1<3)) fun x4=>
 cond x4 (bnd (bz a0 s2.2 s2.2) fun x5=>
 letm ((aP (s2.1+1))) fun x6=>
 self3 (x6,x5))
 (bnd (β:=Bool) (bnd (cQ s2.2.1 (List.replicate 4 (0:UInt64))) fun x7=>
 cond x7 (bnd (cQ s2.2.2.1 s2.2.2.2.1) fun x8=>
 some x8)
 (some false)) fun v9=>
 some v9)) bk (0,a1)
def dE(a0:ak):Option ak:=
 bnd (bA (List.replicate 4 (0:UInt64)) a0.1) fun x1=>
 bnd (bA (List.replicate 4 (0:UInt64)) a0.2.2.2) fun x2=>
 some (x1,(a0.2.1,(a0.2.2.1,x2)))
def cV(a0:(List UInt8))(a1:(List UInt8))(a2:(List UInt8)):Option Bool:=
 bnd (β:=Bool) (letm (((a0.length:Int) != 32)) fun x3=>
 cond x3 (some true)
 (letm (((a2.length:Int) != 64)) fun x4=>
 some x4)) fun v5=>
 cond v5 (some false)
 (bnd (eM) fun x6=>
 bnd (mP 32 a0) fun x7=>
 bnd (cC x6 x7) fun x8=>
 bnd (Gk.cut a2 32 (a2.length:Int)) fun x9=>
 bnd (mP 32 x9) fun x10=>
 bnd (iX x10) fun x11=>
 bnd (β:=Bool) (letm ((!x8.2)) fun x12=>
 cond x12 (some true)
 (bnd (cH x6 x8.1) fun x13=>
 cond x13 (some true)
 (bnd (jD) fun x14=>
 bnd (eU x11 x14) fun x15=>
 letm ((!x15)) fun x16=>
 some x16))) fun v17=>
 cond v17 (some false)
 (bnd (gR) fun x18=>
 bnd (cC x6 x18) fun x19=>
 bnd (Gk.cut a2 0 32) fun x20=>
 bnd (cU [x20,a0,a1]) fun x21=>
 bnd (cI x6 x11 x19.1) fun x22=>
 bnd (dE x8.1) fun x23=>
 bnd (cI x6 x21 x23) fun x24=>
 bnd (bz x6 x22 x24) fun x25=>
 bnd (db x25) fun x26=>
 bnd (Gk.cut a2 0 32) fun x27=>
 bnd (ci x26 x27) fun x28=>
 some x28))
def j0(a0:cw)(a1:(List UInt8))(a2:(List UInt8)):Option Int:=
 bnd (cz a0.1) fun x3=>
 letm ((!x3)) fun x4=>
 cond x4 (some 1)
 (bnd (k_ a0.1) fun x5=>
 letm ((x5 != (-8))) fun x6=>
 cond x6 (some 12)
 (bnd (bJ [83,105,103,110,97,116,117,114,101,49] a0.1 a1 [a0.2.1]) fun x7=>
 letm ((x7.2 != 0)) fun x8=>
 cond x8 (some x7.2)
 (bnd (cV a2 x7.1 a0.2.2) fun x9=>
 letm ((!x9)) fun x10=>
 cond x10 (some 11)
 (some 0))))
def jd(a0:(List UInt8))(a1:aq):Option (aq×Int):=
 bnd (cM a1) fun x2=>
 letm ((!x2)) fun x3=>
 cond x3 (some (([],([],(0,(0,(0,(0,(0,([],([],([],[])))))))))),1))
 (bnd (j7 a0) fun x4=>
 letm ((x4.2.2 != 0)) fun x5=>
 cond x5 (some (([],([],(0,(0,(0,(0,(0,([],([],([],[])))))))))),x4.2.2))
 (letm ((x4.1.1 != a1.2.1)) fun x6=>
 cond x6 (some (([],([],(0,(0,(0,(0,(0,([],([],([],[])))))))))),18))
 (letm ((a1.2.2.2.2.2.1 != 6)) fun x7=>
 cond x7 (some (([],([],(0,(0,(0,(0,(0,([],([],([],[])))))))))),12))
 (bnd (j0 x4.2.1 [] a1.2.2.2.2.2.2.2.2.1) fun x8=>
 letm ((x8 != 0)) fun x9=>
 cond x9 (some (([],([],(0,(0,(0,(0,(0,([],([],([],[])))))))))),11))
 (some (x4.1,0))))))
def jZ(a0:(List aq))(a1:(List (List UInt8)))(a2:Int):Option (aq×Int):=
 letm ((aP ((a1.length:Int)-1))) fun x3=>
 bnd (az a1 x3) fun x4=>
 bnd (j7 x4) fun x5=>
 letm ((x5.2.2 != 0)) fun x6=>
 cond x6 (some (([],([],(0,(0,(0,(0,(0,([],([],([],[])))))))))),10))
 (bnd (β:=Int) (aM (R:=Int) (S:=Int) (fun self8 s7=>
 bnd (β:=Bool) (letm (decide (s7<(a0.length:Int))) fun x9=>
 cond x9 (bnd (az a0 s7) fun x10=>
 letm ((x10.2.1 != x5.1.1)) fun x11=>
 some x11)
 (some false)) fun v12=>
 cond v12 (letm ((aP (s7+1))) fun x13=>
 self8 x13)
 (some s7)) bk 0) fun v14=>
 letm ((v14==(a0.length:Int))) fun x15=>
 cond x15 (some (([],([],(0,(0,(0,(0,(0,([],([],([],[])))))))))),10))
 (bnd (az a0 v14) fun x16=>
 bnd (df x16 a2) fun x17=>
 letm ((aP ((a1.length:Int)-1))) fun x18=>
 aM (R:=(aq×Int)) (S:=(Bool×(Int×(aq×aq)))) (fun self20 s19=>
 letm (decide (0≤s19.2.1)) fun x21=>
 cond x21 (bnd (az a1 s19.2.1) fun x22=>
 bnd (jd x22 s19.2.2.2) fun x23=>
 letm ((x23.2 != 0)) fun x24=>
 cond x24 (some (([],([],(0,(0,(0,(0,(0,([],([],([],[])))))))))),x23.2))
 (cond s19.1 (bnd (df x23.1 a2) fun x25=>
 letm ((aP (s19.2.1-1))) fun x26=>
 self20 (x25,(x26,(s19.2.2.1,x23.1))))
 (letm ((aP (s19.2.1-1))) fun x27=>
 self20 (false,(x27,(s19.2.2.1,x23.1))))))
 (letm ((!s19.1)) fun x28=>
 cond x28 (some (([],([],(0,(0,(0,(0,(0,([],([],([],[])))))))))),19))
 (some (s19.2.2.2,0)))) bk (x17,(x18,(([],([],(0,(0,(0,(0,(0,([],([],([],[])))))))))),x16)))))
def jg(a0:BK)(a1:dy)(a2:Int):Option (aq×((List UInt8)×Int)):=
 bnd (iY a0.1) fun x3=>
 bnd (iY a0.2) fun x4=>
 bnd (β:=Bool) (letm ((!x3.2)) fun x5=>
 cond x5 (some true)
 (letm ((!x4.2)) fun x6=>
 cond x6 (some true)
 (bnd (jc a1) fun x7=>
 letm ((!x7)) fun x8=>
 some x8))) fun v9=>
 cond v9 (some (([],([],(0,(0,(0,(0,(0,([],([],([],[])))))))))),([],1)))
 (letm ((a1.1==4)) fun x10=>
 cond x10 (bnd (jZ x4.1 a1.2.2 a2) fun x11=>
 letm ((x11.2 != 0)) fun x12=>
 cond x12 (some (([],([],(0,(0,(0,(0,(0,([],([],([],[])))))))))),([],x11.2)))
 (bnd (az a1.2.2 0) fun x13=>
 bnd (aI x13) fun x14=>
 some (x11.1,(x14,0))))
 (cS (R:=(aq×((List UInt8)×Int))) (S:=(Int×aq)) (α:=(List UInt8)) (fun _ s16=>
 letm (decide (s16.1<0)) fun x17=>
 cond x17 (some (([],([],(0,(0,(0,(0,(0,([],([],([],[])))))))))),([],10)))
 (bnd (az x3.1 s16.1) fun x18=>
 bnd (df x18 a2) fun x19=>
 letm ((!x19)) fun x20=>
 cond x20 (some (([],([],(0,(0,(0,(0,(0,([],([],([],[])))))))))),([],19)))
 (bnd (az x3.1 s16.1) fun x21=>
 bnd (az a0.1 s16.1) fun x22=>
 bnd (aI x22) fun x23=>
 some (x21,(x23,0)))))
 (fun x24 k25 s26 self27=>
 mG (ρ:=(aq×((List UInt8)×Int))) (ρ':=(aq×((List UInt8)×Int))) (Y:=(Int×aq)) (bnd (β:=Bool) (letm ((a1.1==1)) fun x28=>
 cond x28 (bnd (az x3.1 (k25:Int)) fun x29=>
 bnd (ci x29.2.2.2.2.2.2.2.1 a1.2.1) fun x30=>
 some x30)
 (some false)) fun v31=>
 cond v31 (letm (decide (0≤s26.1)) fun x32=>
 cond x32 (some (.inl (([],([],(0,(0,(0,(0,(0,([],([],([],[])))))))))),([],18))))
 (some (.inr ((k25:Int),s26.2))))
 (bnd (β:=Bool) (letm (decide (s26.1<0)) fun x33=>
 cond x33 (letm ((a1.1==2)) fun x34=>
 cond x34 (bnd (ci x24 a1.2.1) fun x35=>
 cond x35 (some true)
 (letm ((a1.1==3)) fun x36=>
 cond x36 (none)
 (some false)))
 (letm ((a1.1==3)) fun x37=>
 cond x37 (none)
 (some false)))
 (some false)) fun v38=>
 cond v38 (some (.inr ((k25:Int),s26.2)))
 (some (.inr (s26.1,s26.2))))) (fun q=>q) fun v39=>
 self27 (v39.1,v39.2)) a0.1 0 ((-1),([],([],(0,(0,(0,(0,(0,([],([],([],[])))))))))))))
def cr(a0:List UInt8)(a1:UInt64)(a2:Int):Option (List UInt8):=bif a2==10&&decide (a1.toNat<100)then app a0 (Lib.decDigits a1.toNat)else none
def bo(a0:(List UInt8))(a1:UInt64)(a2:Int):Option (List UInt8):=
 bnd (cr a0 a1 a2) fun x3=>
 some x3
def sA(gV:((List UInt8))→(Go.Gk.Tr)→Option (List UInt8))(a0:(List UInt8))(a1:Go.Gk.Tr):Option (List UInt8):=
 letm ((a1.k==0)) fun x2=>
 cond x2 (bnd (bo a0 a1.n 10) fun x3=>
 some x3)
 (letm ((a1.k==1)) fun x4=>
 cond x4 (letm (((UInt64.toNat a1.n:Int)==(UInt64.toNat 18446744073709551615:Int))) fun x5=>
 cond x5 (bnd (app a0 [45,49,56,52,52,54,55,52,52,48,55,51,55,48,57,53,53,49,54,49,54]) fun x6=>
 some x6)
 (bnd (app a0 [45]) fun x7=>
 letm ((a1.n+1)) fun x8=>
 bnd (bo x7 x8 10) fun x9=>
 some x9))
 (letm ((a1.k==2)) fun x10=>
 cond x10 (bnd (app a0 [104,39]) fun _=>
 none)
 (letm ((a1.k==3)) fun x12=>
 cond x12 (none)
 (letm ((a1.k==6)) fun x13=>
 cond x13 (bnd (bo a0 a1.n 10) fun x14=>
 bnd (app x14 [40]) fun x15=>
 bnd (az a1.l 0) fun x16=>
 bnd (gV x15 x16) fun x17=>
 bnd (app x17 [41]) fun x18=>
 some x18)
 (letm ((a1.k==7)) fun x19=>
 cond x19 (bnd (β:=Bool) (letm (decide ((UInt64.toNat 20:Int)≤(UInt64.toNat a1.n:Int))) fun x20=>
 cond x20 (letm (decide ((UInt64.toNat a1.n:Int)<(UInt64.toNat 24:Int))) fun x21=>
 some x21)
 (some false)) fun v22=>
 cond v22 (letm ((a1.n-20)) fun x23=>
 bnd (az [[102,97,108,115,101],[116,114,117,101],[110,117,108,108],[117,110,100,101,102,105,110,101,100]] (UInt64.toNat x23:Int)) fun x24=>
 bnd (app a0 x24) fun x25=>
 some x25)
 (bnd (app a0 [115,105,109,112,108,101,40]) fun x26=>
 bnd (bo x26 a1.n 10) fun x27=>
 bnd (app x27 [41]) fun x28=>
 some x28))
 (letm ((a1.k==8)) fun x29=>
 cond x29 (bnd (app a0 [102,108,111,97,116,39]) fun x30=>
 aM (R:=(List UInt8)) (S:=((List UInt8)×Int)) (fun self32 s31=>
 letm (decide (0≤s31.2)) fun x33=>
 cond x33 (bnd ((dW .u64 (a1.n:UInt64) s31.2:Option UInt64)) fun(x34:UInt64)=>
 letm ((bB .and .u64 (x34:UInt64) (15:UInt64):UInt64)) fun(x35:UInt64)=>
 bnd (az [48,49,50,51,52,53,54,55,56,57,97,98,99,100,101,102] (UInt64.toNat x35:Int)) fun x36=>
 bnd (app s31.1 [x36]) fun x37=>
 letm ((aP (s31.2-4))) fun x38=>
 self32 (x37,x38))
 (bnd (app s31.1 [39]) fun x39=>
 some x39)) bk (x30,60))
 (bnd (β:=(UInt8×UInt8)) (letm ((a1.k==5)) fun x40=>
 cond x40 (some (123,125))
 (some (91,93))) fun v41=>
 bnd (app a0 [v41.1]) fun x42=>
 cS (R:=(List UInt8)) (S:=(List UInt8)) (α:=Go.Gk.Tr) (fun _ s44=>
 bnd (app s44 [v41.2]) fun x45=>
 some x45)
 (fun x46 k47 s48 self49=>
 bnd (β:=(List UInt8)) (bnd (β:=Bool) (letm ((a1.k==5)) fun x50=>
 cond x50 (bnd (Gk.rem (k47:Int) 2) fun x51=>
 letm ((x51==1)) fun x52=>
 some x52)
 (some false)) fun v53=>
 cond v53 (bnd (app s48 [58,32]) fun x54=>
 some x54)
 (letm (decide (0<(k47:Int))) fun x55=>
 cond x55 (bnd (app s48 [44,32]) fun x56=>
 some x56)
 (some s48))) fun v57=>
 bnd (gV v57 x46) fun x58=>
 self49 x58) a1.l 0 x42)))))))
def nM(n:Nat):((List UInt8))→(Go.Gk.Tr)→Option (List UInt8):=Nat.rec (motive:=fun _=>((List UInt8))→(Go.Gk.Tr)→Option (List UInt8)) (fun _ _=>none) (fun _ ih=>sA ih) n
def gV(a0:(List UInt8))(a1:Go.Gk.Tr):Option (List UInt8):=nM 40 a0 a1
def qS(a0:(List UInt8))(a1:Go.Gk.Tr):Option (List UInt8):=
 letm ((a1.k==0)) fun x2=>
 cond x2 (bnd (bo a0 a1.n 10) fun x3=>
 some x3)
 (letm ((a1.k==1)) fun x4=>
 cond x4 (letm (((UInt64.toNat a1.n:Int)==(UInt64.toNat 18446744073709551615:Int))) fun x5=>
 cond x5 (bnd (app a0 [45,49,56,52,52,54,55,52,52,48,55,51,55,48,57,53,53,49,54,49,54]) fun x6=>
 some x6)
 (bnd (app a0 [45]) fun x7=>
 letm ((a1.n+1)) fun x8=>
 bnd (bo x7 x8 10) fun x9=>
 some x9))
 (letm ((a1.k==2)) fun x10=>
 cond x10 (bnd (app a0 [104,39]) fun _=>
 none)
 (letm ((a1.k==3)) fun x12=>
 cond x12 (none)
 (letm ((a1.k==6)) fun x13=>
 cond x13 (bnd (bo a0 a1.n 10) fun x14=>
 bnd (app x14 [40]) fun x15=>
 bnd (az a1.l 0) fun x16=>
 bnd (gV x15 x16) fun x17=>
 bnd (app x17 [41]) fun x18=>
 some x18)
 (letm ((a1.k==7)) fun x19=>
 cond x19 (bnd (β:=Bool) (letm (decide ((UInt64.toNat 20:Int)≤(UInt64.toNat a1.n:Int))) fun x20=>
 cond x20 (letm (decide ((UInt64.toNat a1.n:Int)<(UInt64.toNat 24:Int))) fun x21=>
 some x21)
 (some false)) fun v22=>
 cond v22 (letm ((a1.n-20)) fun x23=>
 bnd (az [[102,97,108,115,101],[116,114,117,101],[110,117,108,108],[117,110,100,101,102,105,110,101,100]] (UInt64.toNat x23:Int)) fun x24=>
 bnd (app a0 x24) fun x25=>
 some x25)
 (bnd (app a0 [115,105,109,112,108,101,40]) fun x26=>
 bnd (bo x26 a1.n 10) fun x27=>
 bnd (app x27 [41]) fun x28=>
 some x28))
 (letm ((a1.k==8)) fun x29=>
 cond x29 (bnd (app a0 [102,108,111,97,116,39]) fun x30=>
 aM (R:=(List UInt8)) (S:=((List UInt8)×Int)) (fun self32 s31=>
 letm (decide (0≤s31.2)) fun x33=>
 cond x33 (bnd ((dW .u64 (a1.n:UInt64) s31.2:Option UInt64)) fun(x34:UInt64)=>
 letm ((bB .and .u64 (x34:UInt64) (15:UInt64):UInt64)) fun(x35:UInt64)=>
 bnd (az [48,49,50,51,52,53,54,55,56,57,97,98,99,100,101,102] (UInt64.toNat x35:Int)) fun x36=>
 bnd (app s31.1 [x36]) fun x37=>
 letm ((aP (s31.2-4))) fun x38=>
 self32 (x37,x38))
 (bnd (app s31.1 [39]) fun x39=>
 some x39)) bk (x30,60))
 (bnd (β:=(UInt8×UInt8)) (letm ((a1.k==5)) fun x40=>
 cond x40 (some (123,125))
 (some (91,93))) fun v41=>
 bnd (app a0 [v41.1]) fun x42=>
 cS (R:=(List UInt8)) (S:=(List UInt8)) (α:=Go.Gk.Tr) (fun _ s44=>
 bnd (app s44 [v41.2]) fun x45=>
 some x45)
 (fun x46 k47 s48 self49=>
 bnd (β:=(List UInt8)) (bnd (β:=Bool) (letm ((a1.k==5)) fun x50=>
 cond x50 (bnd (Gk.rem (k47:Int) 2) fun x51=>
 letm ((x51==1)) fun x52=>
 some x52)
 (some false)) fun v53=>
 cond v53 (bnd (app s48 [58,32]) fun x54=>
 some x54)
 (letm (decide (0<(k47:Int))) fun x55=>
 cond x55 (bnd (app s48 [44,32]) fun x56=>
 some x56)
 (some s48))) fun v57=>
 bnd (gV v57 x46) fun x58=>
 self49 x58) a1.l 0 x42)))))))
def rY(a0:Go.Gk.Tr):Option ((List UInt8)×Int):=
 bnd (aG a0) fun x1=>
 letm ((!x1)) fun x2=>
 cond x2 (some ([],1))
 (bnd (qS [] a0) fun x3=>
 some (x3,0))
def fc(a0:(List UInt8))(a1:(List UInt8)):Option Bool:=
 bnd (β:=Bool) (letm (decide ((a1.length:Int)≤(a0.length:Int))) fun x2=>
 cond x2 (bnd (Gk.cut a0 0 (a1.length:Int)) fun x3=>
 letm ((x3==a1)) fun x4=>
 some x4)
 (some false)) fun v5=>
 some v5
def eO(a0:(List UInt8))(a1:(List UInt8)):Option ((List UInt8)×Bool):=
 bnd (fc a0 a1) fun x2=>
 letm ((!x2)) fun x3=>
 cond x3 (some (a0,false))
 (bnd (Gk.cut a0 (a1.length:Int) (a0.length:Int)) fun x4=>
 some (x4,true))
def kP(a0:(List UInt8))(a1:(List UInt8)):Option ((List UInt8)×Bool):=
 bnd (eO a0 a1) fun x2=>
 some (x2.1,x2.2)
def aX(a0:aA)(a1:(List UInt8)):Option (Bool×aA):=
 bnd (kP a0.1 a1) fun x2=>
 bnd (β:=aA) (cond x2.2 (some (x2.1,a0.2))
 (some a0)) fun v3=>
 some (x2.2,v3)
def eC(a0:aA)(a1:(List UInt8)):Option aA:=
 cond a0.2.2 (some (a0.1,(a0.2.1,true)))
 (bnd (aX a0 a1) fun x2=>
 letm ((!x2.1)) fun x3=>
 some (x2.2.1,(x2.2.2.1,x3)))
def fp(a0:List UInt8)(a1 a2:Int):Option (UInt64×Bool):=
 bif decide (a0.length≤281474976710656)&&(a2==64&&a1==10)then(match Lib.parseUintB 64 a0 with | .ok n=>some (UInt64.ofNat n,false) |_=>none)else none
def eZ(a0:aA):Option (UInt64×aA):=
 bnd (β:=Int) (aM (R:=Int) (S:=Int) (fun self2 s1=>
 bnd (β:=Bool) (letm (decide (s1<(a0.1.length:Int))) fun x3=>
 cond x3 (bnd (az a0.1 s1) fun x4=>
 letm (decide ((UInt8.toNat 48:Int)≤(UInt8.toNat x4:Int))) fun x5=>
 cond x5 (bnd (az a0.1 s1) fun x6=>
 letm (decide ((UInt8.toNat x6:Int)≤(UInt8.toNat 57:Int))) fun x7=>
 some x7)
 (some false))
 (some false)) fun v8=>
 cond v8 (letm ((aP (s1+1))) fun x9=>
 self2 x9)
 (some s1)) bk 0) fun v10=>
 bnd (Gk.cut a0.1 0 v10) fun x11=>
 bnd (fp x11 10 64) fun x12=>
 bnd (β:=aA) (cond a0.2.2 (some (a0.1,(a0.2.1,true)))
 (letm (x12.2) fun x13=>
 cond x13 (some (a0.1,(a0.2.1,true)))
 (letm (decide (1<v10)) fun x14=>
 cond x14 (bnd (az a0.1 0) fun x15=>
 letm (((UInt8.toNat x15:Int)==(UInt8.toNat 48:Int))) fun x16=>
 some (a0.1,(a0.2.1,x16)))
 (some (a0.1,(a0.2.1,false)))))) fun v17=>
 bnd (Gk.cut v17.1 v10 (v17.1.length:Int)) fun x18=>
 some (x12.1,(x18,v17.2))
def iD(bW:(aA)→(Int)→Option (Go.Gk.Tr×aA))(a0:aA)(a1:(List UInt8))(a2:Bool)(a3:Int):Option ((List Go.Gk.Tr)×aA):=
 bnd (β:=((List Go.Gk.Tr)×aA)) (aM (R:=((List Go.Gk.Tr)×aA)) (S:=((List Go.Gk.Tr)×aA)) (fun self5 s4=>
 bnd (β:=(Bool×aA)) (letm ((!s4.2.2.2)) fun x6=>
 cond x6 (bnd (aX s4.2 a1) fun x7=>
 letm ((!x7.1)) fun x8=>
 some (x8,x7.2))
 (some (false,s4.2))) fun v9=>
 cond v9.1 (bnd (β:=aA) (letm (decide (0<(s4.1.length:Int))) fun x10=>
 cond x10 (bnd (eC v9.2 [44,32]) fun x11=>
 some x11)
 (some v9.2)) fun v12=>
 bnd (bW v12 a3) fun x13=>
 bnd (app s4.1 [x13.1]) fun x14=>
 cond a2 (bnd (eC x13.2 [58,32]) fun x15=>
 bnd (bW x15 a3) fun x16=>
 bnd (app x14 [x16.1]) fun x17=>
 self5 (x17,x16.2))
 (self5 (x14,x13.2)))
 (some (s4.1,v9.2))) bk ([],a0)) fun v18=>
 some (v18.1,v18.2)
def lu(bW:(aA)→(Int)→Option (Go.Gk.Tr×aA))(a0:aA)(a1:Int):Option (Go.Gk.Tr×aA):=
 letm ((aP (a0.2.1+1))) fun x2=>
 bnd (β:=Bool) (cond a0.2.2 (some true)
 (letm (decide (256<x2)) fun x3=>
 cond x3 (some true)
 (letm (decide (8<a1)) fun x4=>
 some x4))) fun v5=>
 cond v5 (some ((Tr.mk 0 0 [] []),(a0.1,(x2,true))))
 (bnd (aX (a0.1,(x2,a0.2.2)) [104,39]) fun x6=>
 cond x6.1 (none)
 (bnd (aX x6.2 [34]) fun x7=>
 cond x7.1 (none)
 (bnd (aX x7.2 [91]) fun x8=>
 cond x8.1 (letm ((aP (a1+1))) fun x9=>
 bnd (iD bW x8.2 [93] false x9) fun x10=>
 some ((Tr.mk 4 0 [] x10.1),x10.2))
 (bnd (aX x8.2 [123]) fun x11=>
 cond x11.1 (letm ((aP (a1+1))) fun x12=>
 bnd (iD bW x11.2 [125] true x12) fun x13=>
 some ((Tr.mk 5 0 [] x13.1),x13.2))
 (bnd (aX x11.2 [115,105,109,112,108,101,40]) fun x14=>
 cond x14.1 (bnd (eZ x14.2) fun x15=>
 bnd (eC x15.2 [41]) fun x16=>
 some ((Tr.mk 7 x15.1 [] []),x16))
 (bnd (aX x14.2 [102,108,111,97,116,39]) fun x17=>
 cond x17.1 (none)
 (bnd (aX x17.2 [45]) fun x18=>
 cond x18.1 (bnd (aX x18.2 [49,56,52,52,54,55,52,52,48,55,51,55,48,57,53,53,49,54,49,54]) fun x19=>
 cond x19.1 (some ((Tr.mk 1 18446744073709551615 [] []),x19.2))
 (bnd (eZ x19.2) fun x20=>
 bnd (β:=aA) (cond x20.2.2.2 (some (x20.2.1,(x20.2.2.1,true)))
 (letm (((UInt64.toNat x20.1:Int)==(UInt64.toNat 0:Int))) fun x21=>
 some (x20.2.1,(x20.2.2.1,x21)))) fun v22=>
 letm ((x20.1-1)) fun x23=>
 some ((Tr.mk 1 x23 [] []),v22)))
 (aM (R:=(Go.Gk.Tr×aA)) (S:=(Int×(aA×Go.Gk.Tr))) (fun self25 s24=>
 letm (decide (s24.1<4)) fun x26=>
 cond x26 (bnd (az [[102,97,108,115,101],[116,114,117,101],[110,117,108,108],[117,110,100,101,102,105,110,101,100]] s24.1) fun x27=>
 bnd (aX s24.2.1 x27) fun x28=>
 cond x28.1 (letm ((aP (20+s24.1))) fun x29=>
 letm ((ab x29)) fun x30=>
 some ((Tr.mk 7 x30 [] []),x28.2))
 (letm ((aP (s24.1+1))) fun x31=>
 self25 (x31,(x28.2,s24.2.2))))
 (bnd (eZ s24.2.1) fun x32=>
 bnd (aX x32.2 [40]) fun x33=>
 letm ((!x33.1)) fun x34=>
 cond x34 (some ((Tr.mk 0 x32.1 [] []),x33.2))
 (letm ((aP (a1+1))) fun x35=>
 bnd (bW x33.2 x35) fun x36=>
 bnd (eC x36.2 [41]) fun x37=>
 some ((Tr.mk 6 x32.1 [] [x36.1]),x37)))) bk (0,(x18.2,(Tr.mk 0 0 [] [])))))))))))
def iJ(n:Nat):(aA)→(Int)→Option (Go.Gk.Tr×aA):=Nat.rec (motive:=fun _=>(aA)→(Int)→Option (Go.Gk.Tr×aA)) (fun _ _=>none) (fun _ ih=>lu ih) n
def bW(a0:aA)(a1:Int):Option (Go.Gk.Tr×aA):=iJ 40 a0 a1
def sD(a0:(List UInt8)):Option (Go.Gk.Tr×Int):=
 bnd (bW (a0,(0,false)) 0) fun x1=>
 bnd (β:=Bool) (cond x1.2.2.2 (some true)
 (letm ((x1.2.1 != [])) fun x2=>
 cond x2 (some true)
 (bnd (aG x1.1) fun x3=>
 letm ((!x3)) fun x4=>
 some x4))) fun v5=>
 cond v5 (some ((Tr.mk 0 0 [] []),17))
 (bnd (qS [] x1.1) fun x6=>
 letm ((x6 != a0)) fun x7=>
 cond x7 (some ((Tr.mk 0 0 [] []),17))
 (some (x1.1,0)))
def fS:Option Bool:=
 bnd (ax (-3)) fun x0=>
 bnd (rY x0) fun x1=>
 bnd (sD [91,49,93]) fun x2=>
 bnd (β:=Bool) (letm ((x1.1 == [45,51])) fun x3=>
 cond x3 (letm ((x1.2==0)) fun x4=>
 cond x4 (letm ((x2.2==0)) fun x5=>
 cond x5 (letm (((x2.1.l.length:Int)==1)) fun x6=>
 some x6)
 (some false))
 (some false))
 (some false)) fun v7=>
 some v7
def fo(a0:aY)(a1:aY):Option Bool:=
 bnd (β:=Bool) (letm ((a0.1==a1.1)) fun x2=>
 cond x2 (letm ((a0.2.1==a1.2.1)) fun x3=>
 cond x3 (letm ((a0.2.2.1==a1.2.2.1)) fun x4=>
 cond x4 (letm ((a0.2.2.2.1==a1.2.2.2.1)) fun x5=>
 cond x5 (letm ((a0.2.2.2.2.1==a1.2.2.2.2.1)) fun x6=>
 cond x6 (letm ((a0.2.2.2.2.2.1==a1.2.2.2.2.2.1)) fun x7=>
 cond x7 (letm ((a0.2.2.2.2.2.2==a1.2.2.2.2.2.2)) fun x8=>
 some x8)
 (some false))
 (some false))
 (some false))
 (some false))
 (some false))
 (some false)) fun v9=>
 some v9
def fu(a0:aq)(a1:aq):Option Bool:=
 bnd (β:=Bool) (letm ((a0.1==a1.1)) fun x2=>
 cond x2 (letm ((a0.2.1==a1.2.1)) fun x3=>
 cond x3 (letm ((a0.2.2.1==a1.2.2.1)) fun x4=>
 cond x4 (letm ((a0.2.2.2.1==a1.2.2.2.1)) fun x5=>
 cond x5 (bnd (fo a0.2.2.2.2 a1.2.2.2.2) fun x6=>
 some x6)
 (some false))
 (some false))
 (some false))
 (some false)) fun v7=>
 some v7
def gn(a0:(List Int))(a1:Int)(a2:Int):Option Bool:=
 bnd (mw a0) fun x3=>
 bnd (cR x3 20) fun x4=>
 bnd (cR x4.2 20) fun x5=>
 letm ((aP (20+x5.1))) fun x6=>
 bnd (dz a1) fun x7=>
 bnd (fC x7) fun x8=>
 letm ((aP (a1+5))) fun x9=>
 bnd (dQ x9) fun x10=>
 bnd (dz a1) fun x11=>
 bnd (jr ([114,111,111,116],([100,101,118,105,99,101],(x4.1,(x6,x10)))) x11) fun x12=>
 bnd (kR 4 x12.1) fun x13=>
 bnd (ic x13.1) fun x14=>
 bnd (cg x14.1) fun x15=>
 bnd (iB x15.1) fun x16=>
 bnd (iA x16.1) fun x17=>
 bnd (cZ ([],([114,111,111,116],(0,(0,(1,(6,(0,([],(x8.1,([],[]))))))))))) fun x18=>
 bnd (β:=Bool) (letm ((x8.2 != 0)) fun x19=>
 cond x19 (some true)
 (letm ((x12.2 != 0)) fun x20=>
 cond x20 (some true)
 (letm ((x13.2 != 0)) fun x21=>
 cond x21 (some true)
 (letm ((x14.2 != 0)) fun x22=>
 cond x22 (some true)
 (letm ((x15.2 != 0)) fun x23=>
 cond x23 (some true)
 (letm ((x16.2 != 0)) fun x24=>
 cond x24 (some true)
 (letm ((x17.2 != 0)) fun x25=>
 cond x25 (some true)
 (letm ((x18.2 != 0)) fun x26=>
 some x26)))))))) fun v27=>
 cond v27 (some false)
 (bnd (eS a2 60) fun x28=>
 letm ((aP (x28-1))) fun x29=>
 bnd (jg ([],[x18.1]) x17.1 x29) fun x30=>
 bnd (β:=Bool) (letm (decide (0≤x29)) fun x31=>
 cond x31 (letm (decide (x29<x4.1)) fun x32=>
 cond x32 (some true)
 (letm (decide (x6<x29)) fun x33=>
 some x33))
 (some false)) fun v34=>
 cond v34 (bnd (β:=Bool) (letm ((x30.2.2==19)) fun x35=>
 cond x35 (bnd (fS) fun x36=>
 some x36)
 (some false)) fun v37=>
 some v37)
 (bnd (β:=Bool) (letm ((x30.2.2==0)) fun x38=>
 cond x38 (bnd (fu x30.1 ([114,111,111,116],([100,101,118,105,99,101],(x4.1,(x6,x10))))) fun x39=>
 cond x39 (letm ((x30.2.1==x12.1)) fun x40=>
 cond x40 (bnd (fS) fun x41=>
 some x41)
 (some false))
 (some false))
 (some false)) fun v42=>
 some v42))
end
end Go.Proofs.YtimjjookppejeaaGreatDoor
