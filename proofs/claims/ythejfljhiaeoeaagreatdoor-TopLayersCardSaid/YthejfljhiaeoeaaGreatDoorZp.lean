import Derived.Test.YthejfljhiaeoeaaGreatDoorZv
namespace Go.Proofs.YthejfljhiaeoeaaGreatDoor
open Go.Gk Go.RowKit
open Go.Gk Go.RowKit Go Ieee
theorem qD(a:UInt64):(BitVec.ofInt 64 (a.toNat:Int)).toNat=a.toNat:=by
 rw[BitVec.ofInt_natCast,BitVec.toNat_ofNat];exact Nat.mod_eq_of_lt a.toNat_lt
theorem gD{n:Nat}(h:n<18446744073709551616):(aC (n:Int)).toNat=n:=by
 unfold aC
 rw[UInt64.toNat_ofNat']
 omega
theorem bC(n:Nat):aC (n:Int)=UInt64.ofNat n:=by
 apply UInt64.toNat_inj.1
 unfold aC
 simp only[UInt64.toNat_ofNat']
 omega
theorem NA(a b:UInt64):(aU .and .u64 a b:UInt64)=UInt64.ofNat (a.toNat &&& b.toNat):=by
 show aC (IntKind.u64.wrap (((BitVec.ofInt 64 (a.toNat:Int) &&& BitVec.ofInt 64 (b.toNat:Int)).toNat:Nat):Int))=_
 rw[BitVec.toNat_and,qD,qD,wrap_u64]
 have:a.toNat &&& b.toNat<18446744073709551616:=Nat.lt_of_le_of_lt Nat.and_le_left a.toNat_lt
 rw[gD this,bC]
theorem Mj(a b:UInt64):(aU .or .u64 a b:UInt64)=UInt64.ofNat (a.toNat ||| b.toNat):=by
 show aC (IntKind.u64.wrap (((BitVec.ofInt 64 (a.toNat:Int) ||| BitVec.ofInt 64 (b.toNat:Int)).toNat:Nat):Int))=_
 rw[BitVec.toNat_or,qD,qD,wrap_u64]
 have:a.toNat ||| b.toNat<2^64:=Nat.or_lt_two_pow a.toNat_lt b.toNat_lt
 rw[gD this,bC]
theorem aO{n:Nat}(h:n<18446744073709551616):(UInt64.ofNat n).toNat=n:=by rw[UInt64.toNat_ofNat'];omega
theorem va(a:UInt64)(k:Nat)(m:UInt64)(hm:m.toNat=2^k-1):(aU .and .u64 a m:UInt64)=UInt64.ofNat (a.toNat%2^k):=by
 rw[NA,hm,Nat.and_two_pow_sub_one_eq_mod]
theorem nR(a b:UInt64)(k c:Nat)(ha:a.toNat=2^k*c)(hb:b.toNat<2^k):(aU .or .u64 a b:UInt64)=UInt64.ofNat (a.toNat+b.toNat):=by
 rw[Mj,ha,←Nat.two_pow_add_eq_or_of_lt hb]
theorem n_(x:UInt64)(k:Nat)(hk:k≤64): @Eq (Option UInt64) (c_ .u64 x (k:Int)) (some (UInt64.ofNat (x.toNat/2^k))):=by
 show pC x (k:Int)=_
 unfold pC
 rw[if_neg (by omega),show min ((k:Int).toNat) 64=k by omega]
theorem Gn(x:UInt64)(k:Nat)(hk:k≤64): @Eq (Option UInt64) (et .u64 x (k:Int)) (some (UInt64.ofNat (x.toNat*2^k%18446744073709551616))):=by
 show(if(k:Int)<0 then none else some (lr .u64 (eF .u64 x*2^min (k:Int).toNat 64)))=_
 rw[if_neg (by omega),show min ((k:Int).toNat) 64=k by omega]
 show some (aC ((x.toNat:Int)*2^k))=_
 rw[show((x.toNat:Int)*2^k)=((x.toNat*2^k:Nat):Int) by push_cast;rfl,bC]
 refine congrArg some (UInt64.toNat_inj.1 ?_)
 rw[UInt64.toNat_ofNat',UInt64.toNat_ofNat']
 omega
theorem vw(a:UInt32):(BitVec.ofInt 32 (a.toNat:Int)).toNat=a.toNat:=by
 rw[BitVec.ofInt_natCast,BitVec.toNat_ofNat];exact Nat.mod_eq_of_lt a.toNat_lt
theorem jz(n:Nat):gY (n:Int)=UInt32.ofNat n:=by
 apply UInt32.toNat_inj.1
 unfold gY
 simp only[UInt32.toNat_ofNat']
 omega
theorem j4{n:Nat}(h:n<4294967296):(UInt32.ofNat n).toNat=n:=by rw[UInt32.toNat_ofNat'];omega
theorem Qj(a b:UInt32):(aU .and .u32 a b:UInt32)=UInt32.ofNat (a.toNat &&& b.toNat):=by
 show gY (IntKind.u32.wrap (((BitVec.ofInt 32 (a.toNat:Int) &&& BitVec.ofInt 32 (b.toNat:Int)).toNat:Nat):Int))=_
 have:a.toNat &&& b.toNat<4294967296:=Nat.lt_of_le_of_lt Nat.and_le_left a.toNat_lt
 rw[BitVec.toNat_and,vw,vw,wrap_u32,jz,jz,j4 this]
theorem So(a b:UInt32):(aU .or .u32 a b:UInt32)=UInt32.ofNat (a.toNat ||| b.toNat):=by
 show gY (IntKind.u32.wrap (((BitVec.ofInt 32 (a.toNat:Int) ||| BitVec.ofInt 32 (b.toNat:Int)).toNat:Nat):Int))=_
 have:a.toNat ||| b.toNat<2^32:=Nat.or_lt_two_pow a.toNat_lt b.toNat_lt
 rw[BitVec.toNat_or,vw,vw,wrap_u32,jz,jz,j4 this]
theorem qv(a:UInt32)(k:Nat)(m:UInt32)(hm:m.toNat=2^k-1):(aU .and .u32 a m:UInt32)=UInt32.ofNat (a.toNat%2^k):=by
 rw[Qj,hm,Nat.and_two_pow_sub_one_eq_mod]
theorem KZ(x:UInt32)(k:Nat)(hk:k≤32): @Eq (Option UInt32) (c_ .u32 x (k:Int)) (some (UInt32.ofNat (x.toNat/2^k))):=by
 show(if(k:Int)<0 then none else some (gY ((UInt32.toNat x:Int)/2^min (k:Int).toNat 32)))=_
 rw[if_neg (by omega),show min ((k:Int).toNat) 32=k by omega]
 rw[show((x.toNat:Int)/2^k)=((x.toNat/2^k:Nat):Int) by push_cast;rfl,jz]
theorem QH(x:UInt32)(k:Nat)(hk:k≤32): @Eq (Option UInt32) (et .u32 x (k:Int)) (some (UInt32.ofNat (x.toNat*2^k%4294967296))):=by
 show(if(k:Int)<0 then none else some (lr .u32 (eF .u32 x*2^min (k:Int).toNat 32)))=_
 rw[if_neg (by omega),show min ((k:Int).toNat) 32=k by omega]
 show some (gY ((x.toNat:Int)*2^k))=_
 rw[show((x.toNat:Int)*2^k)=((x.toNat*2^k:Nat):Int) by push_cast;rfl,jz]
 refine congrArg some (UInt32.toNat_inj.1 ?_)
 rw[UInt32.toNat_ofNat',UInt32.toNat_ofNat']
 omega
theorem R8{a b:Nat}(ha:a<65536)(hb:b<65536):(aU .or .u16 (a:Int) (b:Int):Int)=((a ||| b:Nat):Int):=by
 have hx:a ||| b<2^16:=Nat.or_lt_two_pow (by omega) (by omega)
 have h1:(BitVec.ofInt 16 (a:Int)).toNat=a:=by
  rw[BitVec.ofInt_natCast,BitVec.toNat_ofNat];exact Nat.mod_eq_of_lt (by omega)
 have h2:(BitVec.ofInt 16 (b:Int)).toNat=b:=by
  rw[BitVec.ofInt_natCast,BitVec.toNat_ofNat];exact Nat.mod_eq_of_lt (by omega)
 show IntKind.u16.wrap (((BitVec.ofInt 16 (a:Int) ||| BitVec.ofInt 16 (b:Int)).toNat:Nat):Int)=_
 rw[BitVec.toNat_or,h1,h2]
 unfold IntKind.wrap
 simp only[show IntKind.u16.signed=false from rfl,IntKind.bits]
 simp
 omega
def bM(n:Nat):Nat:=n/4503599627370496%2048
def gW(n:Nat):Nat:=n%4503599627370496
def dO(n:Nat):Nat:=
 if bM n=2047 then n/9223372036854775808*2147483648+2139095040 else if bM n=0 then n/9223372036854775808*2147483648
 else if 1151≤bM n then 0 else if 896<bM n then n/9223372036854775808*2147483648+(bM n-896)*8388608+gW n/536870912
 else if bM n<874 then 0 else n/9223372036854775808*2147483648+(gW n+4503599627370496)/2^(926-bM n)
def kF(n:Nat):Bool:=
 if bM n=2047 then decide (gW n=0)else if bM n=0 then decide (gW n=0)
 else if 1151≤bM n then false else if 896<bM n then decide (gW n%536870912=0)
 else if bM n<874 then false else decide ((gW n+4503599627370496)%2^(926-bM n)=0)
theorem Kn(n:UInt64):aF (UInt64.toNat (aU .and .u64 (UInt64.ofNat (n.toNat/2^52)) (2047:UInt64):UInt64):Int)=(bM n.toNat:Int):=by
 have h:=n.toNat_lt
 rw[va _ 11 _ rfl,aO (n:=n.toNat/2^52) (by omega),aO (by omega),ap (by omega) (by omega)]
 unfold bM
 omega
theorem C7(n:UInt64):(aU .and .u64 n (4503599627370495:UInt64):UInt64)=UInt64.ofNat (gW n.toNat):=va _ 52 _ rfl
theorem ml(n:Nat):gW n<4503599627370496:=Nat.mod_lt _ (by omega)
theorem n8(n:Nat):bM n<2048:=Nat.mod_lt _ (by omega)
theorem GB(n:Nat):(UInt64.ofNat (gW n)).toNat=gW n:=aO (by have:=ml n;omega)
theorem Qm(n:Nat):(((UInt64.toNat (UInt64.ofNat (gW n)):Nat):Int)==((UInt64.toNat 0:Nat):Int))=decide (gW n=0):=by
 rw[GB,Bool.eq_iff_iff,beq_iff_eq,decide_eq_true_eq]
 exact Int.natCast_inj
theorem Ff(n:Nat):(aU .or .u64 (UInt64.ofNat (gW n)) (4503599627370496:UInt64):UInt64)=UInt64.ofNat (gW n+4503599627370496):=by
 have h:=ml n
 rw[Mj,GB,Nat.or_comm]
 show UInt64.ofNat (4503599627370496 ||| gW n)=_
 have:=Nat.two_pow_add_eq_or_of_lt (i:=52) (b:=gW n) (by omega) 1
 rw[show(2:Nat)^52*1=4503599627370496 from rfl]at this
 rw[←this,Nat.add_comm]
theorem vj(x:UInt64)(k:Nat)(hk:k<64): ∃y:UInt64,@Eq (Option UInt64) (et .u64 (1:UInt64) (k:Int)) (some y)∧∀z:UInt64,z=y-1→(aU .and .u64 x z:UInt64)=UInt64.ofNat (x.toNat%2^k):=by
 have hp:2^k<18446744073709551616:=by
  have:=Nat.pow_lt_pow_right (a:=2) (by omega) hk
  simpa using this
 refine⟨_,Gn 1 k (by omega),fun z hz=>?_⟩
 subst hz
 apply va
 have h1:(1:UInt64).toNat=1:=rfl
 rw[h1,Nat.one_mul,Nat.mod_eq_of_lt hp]
 have h0:0<2^k:=Nat.two_pow_pos k
 have h2:=UInt64.toNat_sub_of_le (UInt64.ofNat (2^k)) 1 (by rw[UInt64.le_iff_toNat_le,aO hp];exact h0)
 rw[aO hp]at h2
 exact h2
theorem bz(x:Nat)(h:x<18446744073709551616):(((UInt64.toNat (UInt64.ofNat x):Nat):Int)==((UInt64.toNat 0:Nat):Int))=decide (x=0):=by
 rw[aO h,Bool.eq_iff_iff,beq_iff_eq,decide_eq_true_eq]
 exact Int.natCast_inj
theorem EV(n:UInt64)(k:Nat)(hk:k≤32): @Eq (Option UInt64) (et .u64 (UInt64.ofNat (n.toNat/2^63)) (k:Int)) (some (UInt64.ofNat (n.toNat/9223372036854775808*2^k))):=by
 have h:=n.toNat_lt
 have h2:n.toNat/9223372036854775808*2^k≤1*2^32:=Nat.mul_le_mul (by omega) (Nat.pow_le_pow_right (by omega) hk)
 rw[Gn _ k (by omega),aO (by omega)]
 exact congrArg (fun z=>some (UInt64.ofNat z)) (Nat.mod_eq_of_lt (Nat.lt_of_le_of_lt h2 (by omega)))
theorem R3(n:UInt64):cB n 8 23=some (UInt64.ofNat (dO n.toNat),kF n.toNat):=by
 have hn:=n.toNat_lt
 have hm:=ml n.toNat
 have he:=n8 n.toNat
 unfold cB
 refine ac (n_ n 63 (by omega)) ?_
 rw[aa,aa,show aC (aF (8+23))=31 from by kernel_rfl]
 refine ac (EV n 31 (by omega)) ?_
 refine ac (n_ n 52 (by omega)) ?_
 rw[aa,aa,Kn,aa,C7,aa]
 refine ac (y:=256) (by kernel_rfl) ?_
 rw[aa,aa,aa]
 refine ac (y:=128) (by kernel_rfl) ?_
 rw[aa,aa,show aF (128-1)=127 from by kernel_rfl,show aF (256-1)=255 from by kernel_rfl]
 unfold dO kF
 by_cases h1:bM n.toNat=2047
 ·rw[if_pos h1,if_pos h1,show(((bM n.toNat:Nat):Int)==2047)=true from by rw[h1];rfl,a7,aa,aa]
  refine ac (y:=(2139095040:UInt64)) (by kernel_rfl) ?_
  rw[aa,aa,Qm,nR (UInt64.ofNat (n.toNat/9223372036854775808*2^31)) 2139095040 31 (n.toNat/9223372036854775808) (by rw[aO (by omega),Nat.mul_comm]) (by decide),aO (by omega)]
  rfl
 rw[if_neg h1,if_neg h1,show(((bM n.toNat:Nat):Int)==2047)=false from by rw[←Bool.not_eq_true,beq_iff_eq];omega,ay,aa]
 by_cases h2:bM n.toNat=0
 ·rw[if_pos h2,if_pos h2,show(((bM n.toNat:Nat):Int)==0)=true from by rw[h2];rfl,a7,aa,Qm]
 rw[if_neg h2,if_neg h2,show(((bM n.toNat:Nat):Int)==0)=false from by rw[←Bool.not_eq_true,beq_iff_eq];omega,ay,aa,aa,aa,
  ap (x:=((bM n.toNat:Nat):Int)-1023) (by omega) (by omega),ap (by omega) (by omega)]
 by_cases h3:1151≤bM n.toNat
 ·rw[if_pos h3,if_pos h3,decide_eq_true (by omega),a7]
  rfl
 rw[if_neg h3,if_neg h3,decide_eq_false (by omega),ay,aa]
 by_cases h4:896<bM n.toNat
 ·rw[if_pos h4,if_pos h4,decide_eq_true (by omega),a7,aa,aa,show((bM n.toNat:Nat):Int)-1023+127=((bM n.toNat-896:Nat):Int) by omega,bC]
  refine ac (Gn _ 23 (by omega)) ?_
  rw[aO (n:=bM n.toNat-896) (by omega),aa,aa,aa]
  refine ac (n_ _ 29 (by omega)) ?_
  rw[aa,aa,aa,GB]
  obtain⟨y,hy,hz⟩:=vj (UInt64.ofNat (gW n.toNat)) 29 (by omega)
  refine ac hy ?_
  rw[aa,aa,hz _ rfl,aa,GB,bz _ (by omega)]
  rw[nR (UInt64.ofNat (n.toNat/9223372036854775808*2^31)) (UInt64.ofNat ((bM n.toNat-896)*2^23%18446744073709551616)) 31 (n.toNat/9223372036854775808) (by rw[aO (by omega),Nat.mul_comm]) (by rw[aO (by omega)];omega),aO (n:=n.toNat/9223372036854775808*2^31) (by omega),aO (n:=(bM n.toNat-896)*2^23%18446744073709551616) (by omega)]
  rw[nR _ (UInt64.ofNat (gW n.toNat/2^29)) 23 (n.toNat/9223372036854775808*256+(bM n.toNat-896)) (by rw[aO (by omega)];omega) (by rw[aO (by omega)];omega),aO (n:=gW n.toNat/2^29) (by omega),aO (by omega)]
  refine congrArg some (Prod.ext (congrArg UInt64.ofNat ?_) rfl)
  show _=n.toNat/9223372036854775808*2147483648+(bM n.toNat-896)*8388608+gW n.toNat/536870912
  omega
 rw[if_neg h4,if_neg h4,decide_eq_false (by omega),ay,aa,Ff,aa,aa,show aF (53-23)=30 from by kernel_rfl,ap (by omega) (by omega),aa]
 by_cases h5:bM n.toNat<874
 ·rw[if_pos h5,if_pos h5,decide_eq_true (by omega),a7]
  rfl
 rw[if_neg h5,if_neg h5,decide_eq_false (by omega),ay,aa,show(30:Int)-(((bM n.toNat:Nat):Int)-1023+127)=((926-bM n.toNat:Nat):Int) by omega,bC,aO (n:=926-bM n.toNat) (by omega)]
 refine ac (n_ _ _ (by omega)) ?_
 rw[aa,aa,aO (n:=926-bM n.toNat) (by omega)]
 obtain⟨y,hy,hz⟩:=vj (UInt64.ofNat (gW n.toNat+4503599627370496)) (926-bM n.toNat) (by omega)
 refine ac hy ?_
 have hd:(gW n.toNat+4503599627370496)/2^(926-bM n.toNat)<16777216:=by
  have h30:2^30≤2^(926-bM n.toNat):=Nat.pow_le_pow_right (by omega) (by omega)
  exact Nat.div_lt_of_lt_mul (Nat.lt_of_lt_of_le (by omega) (Nat.mul_le_mul_right 16777216 h30))
 rw[aa,aa,hz _ rfl,aa,aO (n:=gW n.toNat+4503599627370496) (by omega),bz _ (Nat.lt_of_le_of_lt (Nat.mod_le _ _) (by omega))]
 rw[nR (UInt64.ofNat (n.toNat/9223372036854775808*2^31)) (UInt64.ofNat ((gW n.toNat+4503599627370496)/2^(926-bM n.toNat))) 31 (n.toNat/9223372036854775808) (by rw[aO (by omega),Nat.mul_comm]) (by rw[aO (by omega)];omega),aO (n:=n.toNat/9223372036854775808*2^31) (by omega),aO (n:=(gW n.toNat+4503599627370496)/2^(926-bM n.toNat)) (by omega)]
def jy(n:Nat):Nat:=
 if bM n=2047 then n/9223372036854775808*32768+31744 else if bM n=0 then n/9223372036854775808*32768
 else if 1039≤bM n then 0 else if 1008<bM n then n/9223372036854775808*32768+(bM n-1008)*1024+gW n/4398046511104
 else if bM n<999 then 0 else n/9223372036854775808*32768+(gW n+4503599627370496)/2^(1051-bM n)
def ld(n:Nat):Bool:=
 if bM n=2047 then decide (gW n=0)else if bM n=0 then decide (gW n=0)
 else if 1039≤bM n then false else if 1008<bM n then decide (gW n%4398046511104=0)
 else if bM n<999 then false else decide ((gW n+4503599627370496)%2^(1051-bM n)=0)
theorem Ro(n:UInt64):cB n 5 10=some (UInt64.ofNat (jy n.toNat),ld n.toNat):=by
 have hn:=n.toNat_lt
 have hm:=ml n.toNat
 have he:=n8 n.toNat
 unfold cB
 refine ac (n_ n 63 (by omega)) ?_
 rw[aa,aa,show aC (aF (5+10))=15 from by kernel_rfl]
 refine ac (EV n 15 (by omega)) ?_
 refine ac (n_ n 52 (by omega)) ?_
 rw[aa,aa,Kn,aa,C7,aa]
 refine ac (y:=32) (by kernel_rfl) ?_
 rw[aa,aa,aa]
 refine ac (y:=16) (by kernel_rfl) ?_
 rw[aa,aa,show aF (16-1)=15 from by kernel_rfl,show aF (32-1)=31 from by kernel_rfl]
 unfold jy ld
 by_cases h1:bM n.toNat=2047
 ·rw[if_pos h1,if_pos h1,show(((bM n.toNat:Nat):Int)==2047)=true from by rw[h1];rfl,a7,aa,aa]
  refine ac (y:=(31744:UInt64)) (by kernel_rfl) ?_
  rw[aa,aa,Qm,nR (UInt64.ofNat (n.toNat/9223372036854775808*2^15)) 31744 15 (n.toNat/9223372036854775808) (by rw[aO (by omega),Nat.mul_comm]) (by decide),aO (by omega)]
  rfl
 rw[if_neg h1,if_neg h1,show(((bM n.toNat:Nat):Int)==2047)=false from by rw[←Bool.not_eq_true,beq_iff_eq];omega,ay,aa]
 by_cases h2:bM n.toNat=0
 ·rw[if_pos h2,if_pos h2,show(((bM n.toNat:Nat):Int)==0)=true from by rw[h2];rfl,a7,aa,Qm]
 rw[if_neg h2,if_neg h2,show(((bM n.toNat:Nat):Int)==0)=false from by rw[←Bool.not_eq_true,beq_iff_eq];omega,ay,aa,aa,aa,
  ap (x:=((bM n.toNat:Nat):Int)-1023) (by omega) (by omega),ap (by omega) (by omega)]
 by_cases h3:1039≤bM n.toNat
 ·rw[if_pos h3,if_pos h3,decide_eq_true (by omega),a7]
  rfl
 rw[if_neg h3,if_neg h3,decide_eq_false (by omega),ay,aa]
 by_cases h4:1008<bM n.toNat
 ·rw[if_pos h4,if_pos h4,decide_eq_true (by omega),a7,aa,aa,show((bM n.toNat:Nat):Int)-1023+15=((bM n.toNat-1008:Nat):Int) by omega,bC]
  refine ac (Gn _ 10 (by omega)) ?_
  rw[aO (n:=bM n.toNat-1008) (by omega),aa,aa,aa]
  refine ac (n_ _ 42 (by omega)) ?_
  rw[aa,aa,aa,GB]
  obtain⟨y,hy,hz⟩:=vj (UInt64.ofNat (gW n.toNat)) 42 (by omega)
  refine ac hy ?_
  rw[aa,aa,hz _ rfl,aa,GB,bz _ (by omega)]
  rw[nR (UInt64.ofNat (n.toNat/9223372036854775808*2^15)) (UInt64.ofNat ((bM n.toNat-1008)*2^10%18446744073709551616)) 15 (n.toNat/9223372036854775808) (by rw[aO (by omega),Nat.mul_comm]) (by rw[aO (by omega)];omega),aO (n:=n.toNat/9223372036854775808*2^15) (by omega),aO (n:=(bM n.toNat-1008)*2^10%18446744073709551616) (by omega)]
  rw[nR _ (UInt64.ofNat (gW n.toNat/2^42)) 10 (n.toNat/9223372036854775808*32+(bM n.toNat-1008)) (by rw[aO (by omega)];omega) (by rw[aO (by omega)];omega),aO (n:=gW n.toNat/2^42) (by omega),aO (by omega)]
  refine congrArg some (Prod.ext (congrArg UInt64.ofNat ?_) rfl)
  show _=n.toNat/9223372036854775808*32768+(bM n.toNat-1008)*1024+gW n.toNat/4398046511104
  omega
 rw[if_neg h4,if_neg h4,decide_eq_false (by omega),ay,aa,Ff,aa,aa,show aF (53-10)=43 from by kernel_rfl,ap (by omega) (by omega),aa]
 by_cases h5:bM n.toNat<999
 ·rw[if_pos h5,if_pos h5,decide_eq_true (by omega),a7]
  rfl
 rw[if_neg h5,if_neg h5,decide_eq_false (by omega),ay,aa,show(43:Int)-(((bM n.toNat:Nat):Int)-1023+15)=((1051-bM n.toNat:Nat):Int) by omega,bC,aO (n:=1051-bM n.toNat) (by omega)]
 refine ac (n_ _ _ (by omega)) ?_
 rw[aa,aa,aO (n:=1051-bM n.toNat) (by omega)]
 obtain⟨y,hy,hz⟩:=vj (UInt64.ofNat (gW n.toNat+4503599627370496)) (1051-bM n.toNat) (by omega)
 refine ac hy ?_
 have hd:(gW n.toNat+4503599627370496)/2^(1051-bM n.toNat)<2048:=by
  have h30:2^43≤2^(1051-bM n.toNat):=Nat.pow_le_pow_right (by omega) (by omega)
  exact Nat.div_lt_of_lt_mul (Nat.lt_of_lt_of_le (by omega) (Nat.mul_le_mul_right 2048 h30))
 rw[aa,aa,hz _ rfl,aa,aO (n:=gW n.toNat+4503599627370496) (by omega),bz _ (Nat.lt_of_le_of_lt (Nat.mod_le _ _) (by omega))]
 rw[nR (UInt64.ofNat (n.toNat/9223372036854775808*2^15)) (UInt64.ofNat ((gW n.toNat+4503599627370496)/2^(1051-bM n.toNat))) 15 (n.toNat/9223372036854775808) (by rw[aO (by omega),Nat.mul_comm]) (by rw[aO (by omega)];omega),aO (n:=n.toNat/9223372036854775808*2^15) (by omega),aO (n:=(gW n.toNat+4503599627370496)/2^(1051-bM n.toNat)) (by omega)]
theorem BD(s n:Nat)(hs:s<4294967296)(h:floatToFloatBits .f32 s .f64=some n):
  n/9223372036854775808=s/2147483648∧((s%2147483648=0∧n%9223372036854775808=0)∨(s%2147483648=2139095040∧n%9223372036854775808=9218868437227405312)∨
   (8388608≤s%2147483648∧s%2147483648<2139095040∧n%9223372036854775808=s%2147483648*536870912+4035225266123964416)∨
   (0<s%2147483648∧s%2147483648<8388608∧∃L,L≤22∧2^L≤s%2147483648∧s%2147483648<2^(L+1)∧n%9223372036854775808=(L+873)*4503599627370496+s%2147483648*2^(52-L))):=by
 have hd:FloatKind.f32.decode s=single.read s:=rfl
 have hW : ∀(neg:Bool) (x y:Nat),x<2147483648→y<9223372036854775808→s=single.word neg x→double.word neg y/9223372036854775808=s/2147483648∧double.word neg y%9223372036854775808=y∧s%2147483648=x:=by
  intro neg x y hx hy e
  subst e
  unfold Format.word
  rw[Gj,HH]
  cases neg<;>simp<;>omega
 rcases Nat.lt_trichotomy (s%2147483648) 2139095040 with hr |hr |hr
 ·unfold floatToFloatBits at h
  rw[if_neg (by decide),hd]at h
  obtain⟨neg,m,p,e1,e2,h1,h3⟩:=C3 s hs hr
  rw[e1]at h
  simp only at h
  split at h
  ·cases h
  ·cases h
   have he:FloatKind.f64.encode (.number neg m p)=double.nearest neg m p:=rfl
   rw[he]
   rcases h3 with⟨h0,rfl⟩ | ⟨hm,hL,h2,h4,h5⟩
   ·rw[show double.nearest neg 0 p=double.word neg 0 by unfold Format.nearest;rw[if_pos rfl]]
    have:=hW neg _ 0 (by omega) (by omega) e2
    exact⟨this.1,.inl ⟨h0,this.2.1⟩⟩
   ·rw[Ec neg m p hm hL h1 h2]
    have hb:=zz hm (by omega)
    have hl1:=Nat.log2_self_le hm
    have hl2:=Nat.lt_log2_self (n:=m)
    have hy:(p+(m.log2:Int)+1022).toNat*4503599627370496+m*2^(52-m.log2)<9223372036854775808:=by
     generalize m*2^(52-m.log2)=M at hb
     omega
    have:=hW neg _ _ (by omega) hy e2
    refine⟨this.1,.inr (.inr ?_)⟩
    rw[this.2.1]
    by_cases h23:m.log2=23
    ·refine .inl ?_
     rw[h23]at hl1 hl2 h2⊢
     rw[show(2:Nat)^(52-23)=536870912 from rfl]
     rw[show(2:Nat)^23=8388608 from rfl]at hl1
     rw[show(2:Nat)^(23+1)=16777216 from rfl]at hl2
     omega
    ·refine .inr ?_
     have hp:p = -149:=by omega
     have h8:m<8388608:=Nat.lt_of_lt_of_le hl2 (show 2^(m.log2+1)≤2^23 from Nat.pow_le_pow_right (by omega) (by omega))
     have hm':s%2147483648=m:=by omega
     refine⟨by omega,by omega,m.log2,by omega,by omega,by omega,?_⟩
     rw[hm',hp,show((-149:Int)+(m.log2:Int)+1022).toNat=m.log2+873 by omega]
 ·obtain⟨neg,e1,e2⟩:=rn s hs hr
  unfold floatToFloatBits at h
  rw[if_neg (by decide),hd,e1]at h
  cases h
  rw[B7]at e2
  have:=hW neg _ 9218868437227405312 (by omega) (by omega) e2
  have hE:FloatKind.f64.encode (.infinity neg)=double.word neg 9218868437227405312:=by cases neg<;>decide
  rw[hE]
  exact⟨this.1,.inr (.inl ⟨hr,this.2.1⟩)⟩
 ·obtain⟨_,_,e⟩:=EX s hr
  unfold floatToFloatBits at h
  rw[if_neg (by decide),hd,e]at h
  cases h
theorem y7(n:Nat)(hn:n<18446744073709551616)(hq:n%9223372036854775808≤9218868437227405312):nC n=if kF n then some (dO n)else none:=by
 have h64:=n8 n
 have hmm:=ml n
 have hnm:n=n/9223372036854775808*9223372036854775808+bM n*4503599627370496+gW n:=by unfold bM gW;omega
 have hr:n%9223372036854775808=bM n*4503599627370496+gW n:=by omega
 -- what any answer is
 have A : ∀s,nC n=some s→kF n=true∧dO n=s:=by
  intro s h
  obtain⟨hs,hw⟩:=(j6 hn).1 h
  obtain⟨e1,h3⟩:=BD s n hs hw
  unfold kF dO
  rcases h3 with⟨a,b⟩ | ⟨a,b⟩ | ⟨a,a2,b⟩ | ⟨a,a2,L,hL,l1,l2,b⟩
  ·have hE:bM n=0:=by omega
   have hM:gW n=0:=by omega
   rw[hE,hM]
   refine⟨by simp,?_⟩
   simp
   omega
  ·have hE:bM n=2047:=by omega
   have hM:gW n=0:=by omega
   rw[hE,hM]
   refine⟨by simp,?_⟩
   simp
   omega
  ·have hE:bM n=s%2147483648/8388608+896:=by omega
   have hM:gW n=s%2147483648%8388608*536870912:=by omega
   rw[if_neg (by omega),if_neg (by omega),if_neg (by omega),if_pos (by omega),if_neg (by omega),if_neg (by omega),if_neg (by omega),if_pos (by omega)]
   refine⟨decide_eq_true (by omega),by omega⟩
  ·have hp:4503599627370496≤s%2147483648*2^(52-L)∧s%2147483648*2^(52-L)<9007199254740992:=by
    have e1:2^L*2^(52-L)=4503599627370496:=by rw[←Nat.pow_add,show L+(52-L)=52 by omega]
    have e2:2^(L+1)*2^(52-L)=9007199254740992:=by rw[←Nat.pow_add,show L+1+(52-L)=53 by omega]
    constructor
    ·rw[←e1];exact Nat.mul_le_mul_right _ l1
    ·rw[←e2];exact Nat.mul_lt_mul_of_pos_right l2 (Nat.two_pow_pos _)
   have hE:bM n=L+874:=by
    generalize s%2147483648*2^(52-L)=M at hp b
    omega
   have hM:gW n+4503599627370496=s%2147483648*2^(52-L):=by
    generalize s%2147483648*2^(52-L)=M at hp b
    omega
   rw[if_neg (by omega),if_neg (by omega),if_neg (by omega),if_neg (by omega),if_neg (by omega),if_neg (by omega),if_neg (by omega),if_neg (by omega),if_neg (by omega),if_neg (by omega)]
   rw[hM,show 926-bM n=52-L by omega,Nat.mul_mod_left,Nat.mul_div_cancel _ (Nat.two_pow_pos _)]
   exact⟨rfl,by omega⟩
 -- what is found stands for the float
 have B:kF n=true→∃s,s<4294967296∧s%2147483648≤2139095040∧(∀n',n'<18446744073709551616→floatToFloatBits .f32 s .f64=some n'→n'=n):=by
  intro hb
  have hv : ∀a:Nat,a<2147483648→(n/9223372036854775808*2147483648+a)%2147483648=a∧(n/9223372036854775808*2147483648+a)/2147483648=n/9223372036854775808:=fun a ha=>by omega
  have fin : ∀a:Nat,a≤2139095040→(∀x,((a=0∧x=0)∨(a=2139095040∧x=9218868437227405312)∨(8388608≤a∧a<2139095040∧x=a*536870912+4035225266123964416)∨(0<a∧a<8388608∧∃L,L≤22∧2^L≤a∧a<2^(L+1)∧x=(L+873)*4503599627370496+a*2^(52-L)))→x=n%9223372036854775808)→∃s,s<4294967296∧s%2147483648≤2139095040∧(∀n',n'<18446744073709551616→floatToFloatBits .f32 s .f64=some n'→n'=n):=by
   intro a ha hx
   have h1:=hv a (by omega)
   refine⟨n/9223372036854775808*2147483648+a,by omega,by omega,fun n' hn' hw=>?_⟩
   obtain⟨e1,h3⟩:=BD _ n' (by omega) hw
   rw[h1.1]at h3
   rw[h1.2]at e1
   have:=hx _ h3
   omega
  unfold kF at hb
  by_cases c1:bM n=2047
  ·rw[if_pos c1]at hb
   have hb:=of_decide_eq_true hb
   exact fin 2139095040 (by omega) fun x hx=>by rcases hx with hx |hx |hx | ⟨h1,h2,_⟩<;>omega
  rw[if_neg c1]at hb
  by_cases c2:bM n=0
  ·rw[if_pos c2]at hb
   have hb:=of_decide_eq_true hb
   exact fin 0 (by omega) fun x hx=>by rcases hx with hx |hx |hx | ⟨h1,h2,_⟩<;>omega
  rw[if_neg c2]at hb
  by_cases c3:1151≤bM n
  ·rw[if_pos c3]at hb;cases hb
  rw[if_neg c3]at hb
  by_cases c4:896<bM n
  ·rw[if_pos c4]at hb
   have hb:=of_decide_eq_true hb
   exact fin ((bM n-896)*8388608+gW n/536870912) (by omega) fun x hx=>by rcases hx with hx |hx |hx | ⟨h1,h2,_⟩<;>omega
  rw[if_neg c4]at hb
  by_cases c5:bM n<874
  ·rw[if_pos c5]at hb;cases hb
  rw[if_neg c5]at hb
  have hb:=of_decide_eq_true hb
  obtain⟨L,hL⟩ : ∃L,bM n=L+874:=⟨bM n-874,by omega⟩
  have hs:926-bM n=52-L:=by omega
  rw[hs]at hb
  have hdm:=Nat.div_add_mod (gW n+4503599627370496) (2^(52-L))
  rw[hb,Nat.add_zero,Nat.mul_comm]at hdm
  have hP:=Nat.two_pow_pos (52-L)
  have e1:2^L*2^(52-L)=4503599627370496:=by rw[←Nat.pow_add,show L+(52-L)=52 by omega]
  have e2:2^(L+1)*2^(52-L)=9007199254740992:=by rw[←Nat.pow_add,show L+1+(52-L)=53 by omega]
  have g1:2^L≤(gW n+4503599627370496)/2^(52-L):=(Nat.le_div_iff_mul_le hP).2 (by omega)
  have g2:(gW n+4503599627370496)/2^(52-L)<2^(L+1):=(Nat.div_lt_iff_lt_mul hP).2 (by omega)
  have g3:2^(L+1)≤8388608:=show 2^(L+1)≤2^23 from Nat.pow_le_pow_right (by omega) (by omega)
  have g0:0<2^L:=Nat.two_pow_pos L
  generalize (gW n+4503599627370496)/2^(52-L)=a at hdm g1 g2
  refine fin a (by omega) fun x hx=>?_
  rcases hx with hx |hx |hx | ⟨_,_,L',hL',k1,k2,hx⟩
  ·omega
  ·omega
  ·omega
  ·have:L'=L:=by
    rcases Nat.lt_trichotomy L' L with q |q |q
    ·have:=Nat.pow_le_pow_right (n:=2) (by omega) (show L'+1≤L from q)
     omega
    ·exact q
    ·have:=Nat.pow_le_pow_right (n:=2) (by omega) (show L+1≤L' from q)
     omega
   subst this
   rw[hdm]at hx
   omega
 cases hb:kF n with
 |false=>
  rw[if_neg (by simp)]
  cases hf:nC n with
  |none=>rfl
  |some s=>rw[(A s hf).1]at hb;cases hb
 |true=>
  rw[if_pos rfl]
  obtain⟨s,hs,hsr,hu⟩:=B hb
  obtain⟨d,hd,hd2⟩:=B3 s hs hsr
  have:=hu d hd2 hd
  subst this
  have hf:=(j6 hn).2 ⟨hs,hd⟩
  rw[hf,(A s hf).2]
theorem dQ{α β:Type}{e y:α}{k:α→Option β}{r:Option β}(h:e=y)(h2:k y=r):letm e k=r:=by
 subst h;exact h2
def wJ(s:Nat):Nat:=
 if s/8388608%256=255 then s/2147483648*32768+31744 else if s/8388608%256=0 then s/2147483648*32768
 else if 113≤s/8388608%256∧s/8388608%256≤142 then s/2147483648*32768+(s/8388608%256-112)*1024+s%8388608/8192
 else if 103≤s/8388608%256∧s/8388608%256<113 then s/2147483648*32768+(s%8388608+8388608)/2^(126-s/8388608%256)else 0
def vI(s:Nat):Bool:=
 if s/8388608%256=255 then true else if s/8388608%256=0 then decide (s%8388608=0)
 else if 113≤s/8388608%256∧s/8388608%256≤142 then decide (s%8388608%8192=0)
 else if 103≤s/8388608%256∧s/8388608%256<113 then decide ((s%8388608+8388608)%2^(126-s/8388608%256)=0)else false
theorem Ji(n:Int):IntKind.u16.wrap n=n%65536:=by
 unfold IntKind.wrap
 simp only[show IntKind.u16.signed=false from rfl,IntKind.bits]
 simp
theorem t_{n:Int}(h0:0≤n)(h1:n<65536):(Gk.lr .u16 n:Int)=n:=by
 show IntKind.u16.wrap n=n
 rw[Ji];omega
theorem sK{a b:Int}(k c:Nat)(ha:a=((2^k*c:Nat):Int))(h0:0≤b)(hb:b<((2^k:Nat):Int))(h1:a<65536)(h2:b<65536):(aU .or .u16 a b:Int)=a+b:=by
 obtain⟨y,rfl⟩ : ∃y:Nat,b=(y:Int):=⟨b.toNat,by omega⟩
 subst ha
 rw[R8 (by omega) (by omega),←Nat.two_pow_add_eq_or_of_lt (by omega)]
 push_cast
 rfl
theorem N_(x:Nat)(h:x<4294967296):(((UInt32.toNat (UInt32.ofNat x):Nat):Int)==((UInt32.toNat 0:Nat):Int))=decide (x=0):=by
 rw[j4 h,Bool.eq_iff_iff,beq_iff_eq,decide_eq_true_eq]
 exact Int.natCast_inj
theorem FN(x:UInt32)(k:Nat)(hk:k<32): ∃y:UInt32,@Eq (Option UInt32) (et .u32 (1:UInt32) (k:Int)) (some y)∧∀z:UInt32,z=y-1→(aU .and .u32 x z:UInt32)=UInt32.ofNat (x.toNat%2^k):=by
 have hp:2^k<4294967296:=by
  have:=Nat.pow_lt_pow_right (a:=2) (by omega) hk
  simpa using this
 refine⟨_,QH 1 k (by omega),fun z hz=>?_⟩
 subst hz
 apply qv
 have h1:(1:UInt32).toNat=1:=rfl
 rw[h1,Nat.one_mul,Nat.mod_eq_of_lt hp]
 have h0:0<2^k:=Nat.two_pow_pos k
 have h2:=UInt32.toNat_sub_of_le (UInt32.ofNat (2^k)) 1 (by rw[UInt32.le_iff_toNat_le,j4 hp];exact h0)
 rw[j4 hp]at h2
 exact h2
theorem LQ(s:Nat)(hs:s<4294967296):kH (UInt32.ofNat s)=some ((wJ s:Int),vI s):=by
 have hS:(UInt32.ofNat s).toNat=s:=j4 hs
 unfold kH
 refine ac (KZ _ 31 (by omega)) ?_
 refine ac (QH _ 15 (by omega)) ?_
 rw[hS,j4 (n:=s/2^31) (by omega),j4 (n:=s/2^31*2^15%4294967296) (by omega),aa,t_ (by omega) (by omega)]
 refine ac (KZ _ 23 (by omega)) ?_
 rw[hS,aa,qv _ 8 255 rfl,aa,j4 (n:=s/2^23) (by omega),j4 (n:=s/2^23%2^8) (by omega),aa,ap (by omega) (by omega),qv _ 23 8388607 rfl,hS]
 rw[show s/2^23%2^8=s/8388608%256 by rfl,show s%2^23=s%8388608 by rfl,show s/2^31*2^15%4294967296=s/2147483648*32768 by omega]
 have he:s/8388608%256<256:=Nat.mod_lt _ (by omega)
 have hm:s%8388608<8388608:=Nat.mod_lt _ (by omega)
 have hg:s/2147483648<2:=by omega
 unfold wJ vI
 generalize s/8388608%256=e at he⊢
 generalize s%8388608=m at hm⊢
 generalize s/2147483648=g at hg⊢
 have bq : ∀k:Int,((e:Int)==k)=decide ((e:Int)=k):=fun k=>by rw[Bool.eq_iff_iff,beq_iff_eq,decide_eq_true_eq]
 rw[aa,bq]
 by_cases h1:e=255
 ·rw[if_pos h1,if_pos h1,decide_eq_true (by omega),a7]
  refine dQ (sK (b:=31744) 15 g (by omega) (by omega) (by omega) (by omega) (by omega)) ?_
  refine congrArg some (Prod.ext ?_ rfl)
  show((g*32768:Nat):Int)+31744=((g*32768+31744:Nat):Int)
  omega
 rw[if_neg h1,if_neg h1,decide_eq_false (by omega),ay,aa,bq]
 by_cases h2:e=0
 ·rw[if_pos h2,if_pos h2,decide_eq_true (by omega),a7,aa,N_ _ (by omega)]
 rw[if_neg h2,if_neg h2,decide_eq_false (by omega),ay,aa,aa,iz,ae]
 by_cases h3:113≤e∧e≤142
 ·rw[if_pos h3,if_pos h3,show(decide ((113:Int)≤(e:Int))&&decide ((e:Int)≤142))=true by rw[decide_eq_true (by omega),decide_eq_true (by omega)];rfl,a7,aa,ap (by omega) (by omega)]
  refine dQ (t_ (n:=(e:Int)-112) (by omega) (by omega)) ?_
  refine ac (y:=((((e-112)*1024:Nat):Int):db .u16)) ?_ ?_
  ·refine congrArg some ((t_ (n:=((e:Int)-112)*2^10) (by omega) (by omega)).trans ?_)
   show((e:Int)-112)*2^10=(((e-112)*1024:Nat):Int)
   omega
  refine dQ (sK 15 g (by omega) (by omega) (by omega) (by omega) (by omega)) ?_
  refine ac (KZ _ 13 (by omega)) ?_
  rw[j4 (n:=m) (by omega),j4 (n:=m/2^13) (by omega)]
  refine dQ (t_ (by omega) (by omega)) ?_
  refine dQ (sK 10 (g*32+(e-112)) (by omega) (by omega) (by omega) (by omega) (by omega)) ?_
  rw[aa,qv _ 13 8191 rfl,j4 (n:=m) (by omega),aa,N_ _ (by omega)]
  refine congrArg some (Prod.ext ?_ rfl)
  show((g*32768:Nat):Int)+(((e-112)*1024:Nat):Int)+((m/2^13:Nat):Int)=((g*32768+(e-112)*1024+m/8192:Nat):Int)
  omega
 rw[if_neg h3,if_neg h3,show(decide ((113:Int)≤(e:Int))&&decide ((e:Int)≤142))=false by rw[←Bool.not_eq_true,Bool.and_eq_true,decide_eq_true_eq,decide_eq_true_eq];omega,ay,aa,aa,iz,ae]
 by_cases h4:103≤e∧e<113
 ·rw[if_pos h4,if_pos h4,show(decide ((103:Int)≤(e:Int))&&decide ((e:Int)<113))=true by rw[decide_eq_true (by omega),decide_eq_true (by omega)];rfl,a7,aa,ap (by omega) (by omega),aa]
  have ho:(aU .or .u32 (UInt32.ofNat m) (8388608:UInt32):UInt32)=UInt32.ofNat (m+8388608):=by
   have hm8:(8388608:UInt32).toNat=8388608:=rfl
   rw[So,j4 (n:=m) (by omega),Nat.or_comm,hm8]
   have:=Nat.two_pow_add_eq_or_of_lt (i:=23) (b:=m) (by omega) 1
   rw[show(2:Nat)^23*1=8388608 from rfl]at this
   rw[←this,Nat.add_comm]
  have hk:(aC (126-(e:Int))).toNat=126-e:=by
   rw[show(126:Int)-(e:Int)=((126-e:Nat):Int) by omega,gD (by omega)]
  refine dQ ho ?_
  rw[hk]
  refine ac (KZ _ _ (by omega)) ?_
  have hd:(m+8388608)/2^(126-e)<1024+1024:=by
   have h14:2^14≤2^(126-e):=Nat.pow_le_pow_right (by omega) (by omega)
   exact Nat.div_lt_of_lt_mul (Nat.lt_of_lt_of_le (by omega) (Nat.mul_le_mul_right 2048 h14))
  rw[j4 (n:=m+8388608) (by omega)]
  generalize (m+8388608)/2^(126-e)=D at hd⊢
  rw[j4 (n:=D) (by omega)]
  refine dQ (t_ (by omega) (by omega)) ?_
  refine dQ (sK 15 g (by omega) (by omega) (by omega) (by omega) (by omega)) ?_
  obtain⟨y,hy,hz⟩:=FN (UInt32.ofNat (m+8388608)) (126-e) (by omega)
  refine ac hy ?_
  rw[aa,aa,hz _ rfl,aa,j4 (n:=m+8388608) (by omega),N_ _ (Nat.lt_of_le_of_lt (Nat.mod_le _ _) (by omega))]
  refine congrArg some (Prod.ext ?_ rfl)
  show((g*32768:Nat):Int)+((D:Nat):Int)=((g*32768+D:Nat):Int)
  omega
 rw[if_neg h4,if_neg h4,show(decide ((103:Int)≤(e:Int))&&decide ((e:Int)<113))=false by rw[←Bool.not_eq_true,Bool.and_eq_true,decide_eq_true_eq,decide_eq_true_eq];omega,ay]
 rfl
theorem JM(n:Nat)(hn:n<18446744073709551616)(hq:n%9223372036854775808≤9218868437227405312)(h8:kF n=true):vI (dO n)=ld n∧(ld n=true→wJ (dO n)=jy n):=by
 have h64:=n8 n
 have hmm:=ml n
 have hg:n/9223372036854775808<2:=by omega
 unfold kF at h8
 unfold dO ld jy
 by_cases c1:bM n=2047
 ·rw[if_pos c1]at h8
  have hb:=of_decide_eq_true h8
  simp only[if_pos c1,hb]
  unfold vI wJ
  rw[if_pos (by omega),if_pos (by omega)]
  exact⟨rfl,fun _=>by omega⟩
 simp only[if_neg c1]at h8⊢
 by_cases c2:bM n=0
 ·simp only[if_pos c2]at h8⊢
  have hb:=of_decide_eq_true h8
  unfold vI wJ
  rw[if_neg (by omega),if_pos (by omega),if_neg (by omega),if_pos (by omega),hb]
  exact⟨decide_eq_true (by omega),fun _=>by omega⟩
 simp only[if_neg c2]at h8⊢
 by_cases c3:1151≤bM n
 ·rw[if_pos c3]at h8;cases h8
 simp only[if_neg c3]at h8⊢
 by_cases c4:896<bM n
 ·simp only[if_pos c4]at h8⊢
  have hb:=of_decide_eq_true h8
  have hE:(n/9223372036854775808*2147483648+(bM n-896)*8388608+gW n/536870912)/8388608%256=bM n-896:=by omega
  have hM:(n/9223372036854775808*2147483648+(bM n-896)*8388608+gW n/536870912)%8388608=gW n/536870912:=by omega
  have hG:(n/9223372036854775808*2147483648+(bM n-896)*8388608+gW n/536870912)/2147483648=n/9223372036854775808:=by omega
  unfold vI wJ
  rw[hE,hM,hG]
  rw[if_neg (show ¬bM n-896=255 by omega),if_neg (show ¬bM n-896=255 by omega),if_neg (show ¬bM n-896=0 by omega),if_neg (show ¬bM n-896=0 by omega)]
  by_cases d1:1039≤bM n
  ·rw[if_neg (show ¬(113≤bM n-896∧bM n-896≤142) by omega),if_neg (show ¬(113≤bM n-896∧bM n-896≤142) by omega),if_neg (show ¬(103≤bM n-896∧bM n-896<113) by omega),if_neg (show ¬(103≤bM n-896∧bM n-896<113) by omega),if_pos d1,if_pos d1]
   exact⟨rfl,fun h=>rfl⟩
  rw[if_neg d1,if_neg d1]
  by_cases d2:1008<bM n
  ·rw[if_pos (show(113≤bM n-896∧bM n-896≤142) by omega),if_pos (show(113≤bM n-896∧bM n-896≤142) by omega),if_pos d2,if_pos d2]
   refine⟨?_,fun h=>by omega⟩
   rw[Bool.eq_iff_iff,decide_eq_true_eq,decide_eq_true_eq]
   omega
  rw[if_neg d2,if_neg d2,if_neg (show ¬(113≤bM n-896∧bM n-896≤142) by omega),if_neg (show ¬(113≤bM n-896∧bM n-896≤142) by omega)]
  by_cases d3:bM n<999
  ·rw[if_pos d3,if_pos d3,if_neg (show ¬(103≤bM n-896∧bM n-896<113) by omega),if_neg (show ¬(103≤bM n-896∧bM n-896<113) by omega)]
   exact⟨rfl,fun _=>rfl⟩
  rw[if_neg d3,if_neg d3,if_pos (show(103≤bM n-896∧bM n-896<113) by omega),if_pos (show(103≤bM n-896∧bM n-896<113) by omega)]
  have e1:gW n+4503599627370496=(gW n/536870912+8388608)*536870912:=by omega
  have e2:2^(1051-bM n)=2^(126-(bM n-896))*536870912:=by
   rw[show 1051-bM n=126-(bM n-896)+29 by omega,Nat.pow_add]
  rw[e1,e2,Nat.mul_div_mul_right _ _ (by omega),Nat.mul_mod_mul_right]
  refine⟨?_,fun h=>rfl⟩
  rw[Bool.eq_iff_iff,decide_eq_true_eq,decide_eq_true_eq]
  omega
 simp only[if_neg c4]at h8⊢
 by_cases c5:bM n<874
 ·rw[if_pos c5]at h8;cases h8
 simp only[if_neg c5]at h8⊢
 have hb:=of_decide_eq_true h8
 rw[if_neg (show ¬1039≤bM n by omega),if_neg (show ¬1039≤bM n by omega),if_neg (show ¬1008<bM n by omega),if_neg (show ¬1008<bM n by omega),if_pos (show bM n<999 by omega),if_pos (show bM n<999 by omega)]
 have hd:(gW n+4503599627370496)/2^(926-bM n)<8388608∧0<(gW n+4503599627370496)/2^(926-bM n):=by
  have h30:2^30≤2^(926-bM n):=Nat.pow_le_pow_right (by omega) (by omega)
  have h52:2^(926-bM n)≤2^52:=Nat.pow_le_pow_right (by omega) (by omega)
  refine⟨Nat.div_lt_of_lt_mul (Nat.lt_of_lt_of_le (by omega) (Nat.mul_le_mul_right 8388608 h30)),Nat.div_pos (Nat.le_trans h52 (by omega)) (Nat.two_pow_pos _)⟩
 unfold vI wJ
 generalize (gW n+4503599627370496)/2^(926-bM n)=D at hd⊢
 rw[if_neg (by omega),if_pos (by omega),if_neg (by omega),if_pos (by omega)]
 refine⟨decide_eq_false (by omega),fun h=>by cases h⟩
theorem Q4(n:Nat)(h5:ld n=true):kF n=true:=by
 have h64:=n8 n
 have hmm:=ml n
 unfold ld at h5
 unfold kF
 by_cases c1:bM n=2047
 ·rw[if_pos c1]at h5⊢;exact h5
 rw[if_neg c1]at h5⊢
 by_cases c2:bM n=0
 ·rw[if_pos c2]at h5⊢;exact h5
 rw[if_neg c2]at h5⊢
 by_cases c3:1039≤bM n
 ·rw[if_pos c3]at h5;cases h5
 rw[if_neg c3]at h5
 rw[if_neg (by omega)]
 by_cases c4:1008<bM n
 ·rw[if_pos c4]at h5
  have:=of_decide_eq_true h5
  rw[if_pos (by omega)]
  exact decide_eq_true (by omega)
 rw[if_neg c4]at h5
 by_cases c5:bM n<999
 ·rw[if_pos c5]at h5;cases h5
 rw[if_neg c5]at h5
 have h:=of_decide_eq_true h5
 rw[if_pos (by omega)]
 have hd:2^43∣gW n+4503599627370496:=Nat.dvd_trans (Nat.pow_dvd_pow 2 (by omega)) (Nat.dvd_of_mod_eq_zero h)
 exact decide_eq_true (by omega)
def Fx(n:UInt64):List UInt8:=[ar ((UInt64.ofNat (n.toNat/2^56)).toNat:Int),ar ((UInt64.ofNat (n.toNat/2^48)).toNat:Int),ar ((UInt64.ofNat (n.toNat/2^40)).toNat:Int),ar ((UInt64.ofNat (n.toNat/2^32)).toNat:Int),ar ((UInt64.ofNat (n.toNat/2^24)).toNat:Int),ar ((UInt64.ofNat (n.toNat/2^16)).toNat:Int),ar ((UInt64.ofNat (n.toNat/2^8)).toNat:Int),ar ((UInt64.ofNat (n.toNat/2^0)).toNat:Int)]
def fE(n:UInt64):List UInt8:=
 if 9218868437227405312<n.toNat%9223372036854775808 then [249,126,0]
 else if ld n.toNat then [249,UInt8.ofNat (jy n.toNat/256),UInt8.ofNat (jy n.toNat)]
 else if kF n.toNat then [250,UInt8.ofNat (dO n.toNat/16777216),UInt8.ofNat (dO n.toNat/65536),UInt8.ofNat (dO n.toNat/256),UInt8.ofNat (dO n.toNat)]
 else 251::Fx n
theorem Mq(n:UInt64):mE n=some (Fx n):=by kernel_rfl
theorem HQ(n:UInt64):bo (R:=(List UInt8)) (S:=((List UInt8)×Int)) (fun self15 s14=>
  letm (decide (0≤s14.2)) fun x16=>
  cond x16 (letm ((aC s14.2)) fun x17=>
  letm ((8*x17)) fun x18=>
  bnd ((c_ .u64 (n:UInt64) (UInt64.toNat x18:Int):Option UInt64)) fun(x19:UInt64)=>
  letm ((ar (UInt64.toNat x19:Int))) fun x20=>
  bnd (cO s14.1 [x20]) fun x21=>
  letm ((aF (s14.2-1))) fun x22=>
  self15 (x21,x22))
   (some s14.1)) cS ([251],7)=some (251::Fx n):=by kernel_rfl
theorem JE(n:UInt64):1≤(fE n).length∧(fE n).length≤9:=by
 unfold fE Fx
 split
 ·simp
 ·split
  ·simp
  ·split<;>simp
theorem wP(n:UInt64):df n=some (decide (9218868437227405312<n.toNat%9223372036854775808)):=by
 have hn:=n.toNat_lt
 have hmm:=ml n.toNat
 have hee:=n8 n.toNat
 have hE:(UInt64.toNat (aU .and .u64 (UInt64.ofNat (n.toNat/2^52)) (2047:UInt64):UInt64))=bM n.toNat:=by
  rw[va _ 11 _ rfl,aO (n:=n.toNat/2^52) (by omega),aO (by omega)]
  rfl
 unfold df
 refine ac (y:=decide (9218868437227405312<n.toNat%9223372036854775808)) ?_ rfl
 refine ac (n_ n 52 (by omega)) ?_
 rw[aa,aa,hE]
 have e1:(((bM n.toNat:Nat):Int)==((UInt64.toNat 2047:Nat):Int))=decide (bM n.toNat=2047):=by
  rw[Bool.eq_iff_iff,beq_iff_eq,decide_eq_true_eq];exact Int.natCast_inj
 rw[e1]
 have hr:n.toNat%9223372036854775808=bM n.toNat*4503599627370496+gW n.toNat:=by unfold bM gW;omega
 by_cases c:bM n.toNat=2047
 ·rw[decide_eq_true c,a7,aa,C7,aa]
  refine congrArg some ?_
  have:=Qm n.toNat
  rw[show(((UInt64.toNat (UInt64.ofNat (gW n.toNat)):Nat):Int) != ((UInt64.toNat 0:Nat):Int))=!(((UInt64.toNat (UInt64.ofNat (gW n.toNat)):Nat):Int)==((UInt64.toNat 0:Nat):Int))from rfl,this]
  rw[Bool.eq_iff_iff,Bool.not_eq_true',decide_eq_false_iff_not,decide_eq_true_eq]
  omega
 ·rw[decide_eq_false c,ay]
  exact congrArg some (decide_eq_false (by omega)).symm
theorem A9(n:Nat)(hn:n<18446744073709551616):jy n<65536:=by
 have h64:=n8 n
 have hmm:=ml n
 unfold jy
 split
 ·omega
 ·split
  ·omega
  ·split
   ·omega
   ·split
    ·omega
    ·split
     ·omega
     ·have h43:2^43≤2^(1051-bM n):=Nat.pow_le_pow_right (by omega) (by omega)
      have:(gW n+4503599627370496)/2^(1051-bM n)<2048:=Nat.div_lt_of_lt_mul (Nat.lt_of_lt_of_le (by omega) (Nat.mul_le_mul_right 2048 h43))
      omega
theorem vD(n:Nat)(hn:n<18446744073709551616):dO n<4294967296:=by
 have h64:=n8 n
 have hmm:=ml n
 unfold dO
 split
 ·omega
 ·split
  ·omega
  ·split
   ·omega
   ·split
    ·omega
    ·split
     ·omega
     ·have h43:2^30≤2^(926-bM n):=Nat.pow_le_pow_right (by omega) (by omega)
      have:(gW n+4503599627370496)/2^(926-bM n)<16777216:=Nat.div_lt_of_lt_mul (Nat.lt_of_lt_of_le (by omega) (Nat.mul_le_mul_right 16777216 h43))
      omega
theorem fq(n:Nat):ar (n:Int)=UInt8.ofNat n:=Dl
theorem Gr(n:UInt64):d_ n=some (fE n):=by
 have hn:=n.toNat_lt
 have h5:=A9 n.toNat hn
 have h8:=vD n.toNat hn
 unfold d_
 refine ac (wP n) ?_
 unfold fE
 by_cases c:9218868437227405312<n.toNat%9223372036854775808
 ·rw[if_pos c,decide_eq_true c,a7]
 rw[if_neg c,decide_eq_false c,ay]
 refine ac (Ro n) ?_
 cases hb5:ld n.toNat with
 |true=>
  rw[if_pos rfl,a7]
  refine ac (n_ _ 8 (by omega)) ?_
  rw[aa,aa,aO (n:=jy n.toNat) (by omega),aO (by omega),fq,fq]
 |false=>
  rw[if_neg (by simp),ay]
  refine ac (R3 n) ?_
  cases hb8:kF n.toNat with
  |true=>
   rw[if_pos rfl,a7]
   refine ac (n_ _ 24 (by omega)) ?_
   rw[aa]
   refine ac (n_ _ 16 (by omega)) ?_
   rw[aa]
   refine ac (n_ _ 8 (by omega)) ?_
   rw[aa,aa,aO (n:=dO n.toNat) (by omega),aO (n:=dO n.toNat/2^24) (by omega),aO (n:=dO n.toNat/2^16) (by omega),aO (n:=dO n.toNat/2^8) (by omega),fq,fq,fq,fq]
  |false=>
   rw[if_neg (by simp),ay]
   exact HQ n
theorem rP(n:UInt64):dT n=some (fE n):=by
 have hn:=n.toNat_lt
 have h8:=vD n.toNat hn
 have hf:feq n n=decide (n.toNat%9223372036854775808≤9218868437227405312):=sX n
 unfold dT fE
 rw[hf]
 by_cases c:9218868437227405312<n.toNat%9223372036854775808
 ·rw[if_pos c,decide_eq_false (by omega)];rfl
 rw[if_neg c,decide_eq_true (by omega),cond_true,y7 n.toNat hn (by omega)]
 cases hb8:kF n.toNat with
 |false=>
  have hb5:ld n.toNat=false:=by
   cases h:ld n.toNat with
   |false=>rfl
   |true=>rw[Q4 _ h]at hb8;cases hb8
  rw[if_neg (by simp),hb5]
  refine ac (Mq n) ?_
  rfl
 |true=>
  rw[if_pos rfl,if_pos rfl]
  obtain⟨e1,e2⟩:=JM n.toNat hn (by omega) hb8
  refine ac (LQ _ h8) ?_
  rw[e1]
  cases hb5:ld n.toNat with
  |true=>
   rw[if_pos rfl,cond_true,e2 hb5]
   have:((jy n.toNat:Int)/256)=((jy n.toNat/256:Nat):Int):=by omega
   rw[this,fq,fq]
  |false=>
   rw[if_neg (by simp),cond_false]
   rw[show((dO n.toNat:Int)/16777216)=((dO n.toNat/16777216:Nat):Int) by omega,show((dO n.toNat:Int)/65536)=((dO n.toNat/65536:Nat):Int) by omega,show((dO n.toNat:Int)/256)=((dO n.toNat/256:Nat):Int) by omega,fq,fq,fq,fq]
theorem kT{α β:Type}{m:Option α}{k:α→Option β}(h : ∃x,m=some x)(hk : ∀x,∃y,k x=some y): ∃y,bnd m k=some y:=by
 obtain⟨x,rfl⟩:=h;exact hk x
theorem oZ{α β:Type}{m:Option α}{k:α→Option β}(p:α→Prop)(h : ∃x,m=some x∧p x)(hk : ∀x,p x→∃y,k x=some y): ∃y,bnd m k=some y:=by
 obtain⟨x,rfl,hp⟩:=h;exact hk x hp
theorem fy{α β:Type}{e:α}{k:α→Option β}(h : ∃y,k e=some y): ∃y,letm e k=some y:=h
theorem rU{α:Type}{b:Bool}{x z:Option α}(h:b=true→∃y,x=some y)(h2:b=false→∃y,z=some y): ∃y,cond b x z=some y:=by
 cases b with
 |true=>exact h rfl
 |false=>exact h2 rfl
theorem qT{α:Type}(x:α): ∃y,some x=some y:=⟨x,rfl⟩
theorem fc{α:Type}{l:List α}{k:Nat}(h:k<l.length): ∃x,aV l (k:Int)=some x:=⟨l[k],aM (List.getElem?_eq_getElem h)⟩
theorem vM{α:Type}{l:List α}{k:Nat}(h:k≤l.length):Gk.cut l (k:Int) (l.length:Int)=some (l.drop k):=by
 unfold Gk.cut
 rw[if_pos (by omega)];simp
theorem lT{α:Type}{l:List α}{k:Nat}(h:k≤l.length): ∃x,Gk.cut l (k:Int) (l.length:Int)=some x∧x.length=l.length-k:=⟨_,vM h,List.length_drop⟩
theorem pX(x:UInt64)(n:UInt64): ∃y:UInt64,(et .u64 x (UInt64.toNat n:Int):Option UInt64)=some y:=by
 refine⟨_,(show(if((UInt64.toNat n:Nat):Int)<0 then none else some (lr .u64 (eF .u64 x*2^min ((UInt64.toNat n:Nat):Int).toNat (IntKind.bits .u64))))=some _ from if_neg (by omega))⟩
theorem n9{s:List UInt8}(h:8≤s.length): ∃x,aq s=some x:=by
 unfold aq
 refine kT (fc (k:=0) (by omega)) fun _=>fy ?_
 refine kT (fc (k:=1) (by omega)) fun _=>fy ?_
 refine kT (pX _ _) fun _=>fy ?_
 refine kT (fc (k:=2) (by omega)) fun _=>fy ?_
 refine kT (pX _ _) fun _=>fy ?_
 refine kT (fc (k:=3) (by omega)) fun _=>fy ?_
 refine kT (pX _ _) fun _=>fy ?_
 refine kT (fc (k:=4) (by omega)) fun _=>fy ?_
 refine kT (pX _ _) fun _=>fy ?_
 refine kT (fc (k:=5) (by omega)) fun _=>fy ?_
 refine kT (pX _ _) fun _=>fy ?_
 refine kT (fc (k:=6) (by omega)) fun _=>fy ?_
 refine kT (pX _ _) fun _=>fy ?_
 refine kT (fc (k:=7) (by omega)) fun _=>fy ?_
 refine kT (pX _ _) fun _=>fy ?_
 exact qT _
theorem O9 : ∀c:Fin 256,(Option.map (fun y:UInt8=>decide (y.toNat<16)) (c_ .u8 (UInt8.ofNat c.1) (UInt64.toNat 4:Int)):Option Bool)=some true:=by decide +kernel
theorem Mf(x:UInt8): ∃y:UInt8,@Eq (Option UInt8) (c_ .u8 x (UInt64.toNat 4:Int)) (some y)∧y.toNat<16:=by
 have h:=O9 ⟨x.toNat,UInt8.toNat_lt x⟩
 have e:UInt8.ofNat x.toNat=x:=by simp
 rw[show(UInt8.ofNat ((⟨x.toNat,UInt8.toNat_lt x⟩:Fin 256).1))=x from e]at h
 obtain⟨y,h1,h2⟩:=Option.map_eq_some_iff.1 h
 exact⟨y,h1,of_decide_eq_true h2⟩
theorem Bq(self4:List UInt8→Option (Bool⊕Unit))(L:Nat)(h4 : ∀t:List UInt8,t.length≤L→∃v,self4 t=some v): ∀(f:Nat) (s:List UInt8),s.length<f→s.length≤L→∃v,bo (R:=(Bool⊕Unit)) (S:=(List UInt8)) (fun self25 s24=>bnd (β:=Bool) (letm (decide (32<(s24.length:Int))) fun x26=>cond x26 (bnd (aq s24) fun x27=>bnd (Gk.cut s24 8 (s24.length:Int)) fun x28=>bnd (aq x28) fun x29=>letm ((aU .or .u64 (x27:UInt64) (x29:UInt64):UInt64)) fun x30=>bnd (Gk.cut s24 16 (s24.length:Int)) fun x31=>bnd (aq x31) fun x32=>bnd (Gk.cut s24 24 (s24.length:Int)) fun x33=>bnd (aq x33) fun x34=>letm ((aU .or .u64 (x32:UInt64) (x34:UInt64):UInt64)) fun x35=>letm ((aU .or .u64 (x30:UInt64) (x35:UInt64):UInt64)) fun x36=>letm ((aU .and .u64 (x36:UInt64) (9259542123273814144:UInt64):UInt64)) fun x37=>letm (((UInt64.toNat x37:Int)==(UInt64.toNat 0:Int))) fun x38=>some x38) (some false)) fun v39=>cond v39 (bnd (Gk.cut s24 32 (s24.length:Int)) fun x40=>self25 x40) (self4 s24)) f s=some v
 |0,s,hf,_=>absurd hf (Nat.not_lt_zero _)
 |f+1,s,hf,hl=>by
  rw[bS]
  refine oZ (fun b=>b=true→32<s.length) ?_ fun b hb=>?_
  ·by_cases h:32<s.length
   ·refine(?_ : ∃y,_=some y).elim fun y hy=>⟨y,hy,fun _=>h⟩
    refine fy (rU (fun _=>?_) (fun h=>?_))
    ·refine kT (n9 (by omega)) fun _=>?_
     refine oZ _ (lT (k:=8) (by omega)) fun _ h1=>?_
     refine kT (n9 (by omega)) fun _=>fy ?_
     refine oZ _ (lT (k:=16) (by omega)) fun _ h2=>?_
     refine kT (n9 (by omega)) fun _=>?_
     refine oZ _ (lT (k:=24) (by omega)) fun _ h3=>?_
     refine kT (n9 (by omega)) fun _=>fy (fy (fy (fy (qT _))))
    ·exact qT _
   ·refine⟨false,?_,fun h=>by cases h⟩
    rw[aa,decide_eq_false (by omega)];rfl
  ·refine rU (fun h=>?_) (fun _=>h4 s hl)
   have:=hb h
   refine oZ _ (lT (k:=32) (by omega)) fun t ht=>?_
   exact Bq self4 L h4 f t (by omega) (by omega)
theorem Bs : ∀(f:Nat) (s:List UInt8),s.length<f→s.length≤1000000→∃v,bo (R:=(Bool⊕Unit)) (S:=(List UInt8)) (fun self4 s3=>letm (decide (0<(s3.length:Int))) fun x5=>cond x5 (bnd (aV s3 0) fun x6=>letm (decide ((UInt8.toNat x6:Int)<(UInt8.toNat 128:Int))) fun x7=>cond x7 (bnd (Gk.cut s3 1 (s3.length:Int)) fun x8=>bnd (β:=Bool) (letm (decide (8<(x8.length:Int))) fun x9=>cond x9 (bnd (aq x8) fun x10=>letm ((aU .and .u64 (x10:UInt64) (9259542123273814144:UInt64):UInt64)) fun x11=>letm (((UInt64.toNat x11:Int)==(UInt64.toNat 0:Int))) fun x12=>some x12) (some false)) fun v13=>cond v13 (bnd (Gk.cut x8 8 (x8.length:Int)) fun x14=>bnd (β:=Bool) (letm (decide (16<(x14.length:Int))) fun x15=>cond x15 (bnd (aq x14) fun x16=>bnd (Gk.cut x14 8 (x14.length:Int)) fun x17=>bnd (aq x17) fun x18=>letm ((aU .or .u64 (x16:UInt64) (x18:UInt64):UInt64)) fun x19=>letm ((aU .and .u64 (x19:UInt64) (9259542123273814144:UInt64):UInt64)) fun x20=>letm (((UInt64.toNat x20:Int)==(UInt64.toNat 0:Int))) fun x21=>some x21) (some false)) fun v22=>cond v22 (bnd (Gk.cut x14 16 (x14.length:Int)) fun x23=>bo (R:=(Bool⊕Unit)) (S:=(List UInt8)) (fun self25 s24=>bnd (β:=Bool) (letm (decide (32<(s24.length:Int))) fun x26=>cond x26 (bnd (aq s24) fun x27=>bnd (Gk.cut s24 8 (s24.length:Int)) fun x28=>bnd (aq x28) fun x29=>letm ((aU .or .u64 (x27:UInt64) (x29:UInt64):UInt64)) fun x30=>bnd (Gk.cut s24 16 (s24.length:Int)) fun x31=>bnd (aq x31) fun x32=>bnd (Gk.cut s24 24 (s24.length:Int)) fun x33=>bnd (aq x33) fun x34=>letm ((aU .or .u64 (x32:UInt64) (x34:UInt64):UInt64)) fun x35=>letm ((aU .or .u64 (x30:UInt64) (x35:UInt64):UInt64)) fun x36=>letm ((aU .and .u64 (x36:UInt64) (9259542123273814144:UInt64):UInt64)) fun x37=>letm (((UInt64.toNat x37:Int)==(UInt64.toNat 0:Int))) fun x38=>some x38) (some false)) fun v39=>cond v39 (bnd (Gk.cut s24 32 (s24.length:Int)) fun x40=>self25 x40) (self4 s24)) cS x23) (self4 x14)) (self4 x8)) (bnd (aV pD (UInt8.toNat x6:Int)) fun x41=>letm ((ar (bits .and .u8 (UInt8.toNat x41) (UInt8.toNat 7)))) fun x42=>letm ((aF (UInt8.toNat x42:Int))) fun x43=>bnd (c_ .u8 x41 (UInt64.toNat 4:Int)) fun x44=>bnd (aV px (UInt8.toNat x44:Int)) fun x45=>letm ((x43==2)) fun x46=>cond x46 (bnd (β:=Bool) (letm (decide ((s3.length:Int)<2)) fun x47=>cond x47 (some true) (bnd (aV s3 1) fun x48=>letm (decide ((UInt8.toNat x48:Int)<(UInt8.toNat x45.1:Int))) fun x49=>cond x49 (some true) (bnd (aV s3 1) fun x50=>letm (decide ((UInt8.toNat x45.2:Int)<(UInt8.toNat x50:Int))) fun x51=>some x51))) fun v52=>cond v52 (some (.inl false)) (bnd (Gk.cut s3 2 (s3.length:Int)) fun x53=>self4 x53)) (letm ((x43==3)) fun x54=>cond x54 (bnd (β:=Bool) (letm (decide ((s3.length:Int)<3)) fun x55=>cond x55 (some true) (bnd (aV s3 1) fun x56=>letm (decide ((UInt8.toNat x56:Int)<(UInt8.toNat x45.1:Int))) fun x57=>cond x57 (some true) (bnd (aV s3 1) fun x58=>letm (decide ((UInt8.toNat x45.2:Int)<(UInt8.toNat x58:Int))) fun x59=>cond x59 (some true) (bnd (aV s3 2) fun x60=>letm (decide ((UInt8.toNat x60:Int)<(UInt8.toNat 128:Int))) fun x61=>cond x61 (some true) (bnd (aV s3 2) fun x62=>letm (decide ((UInt8.toNat 191:Int)<(UInt8.toNat x62:Int))) fun x63=>some x63))))) fun v64=>cond v64 (some (.inl false)) (bnd (Gk.cut s3 3 (s3.length:Int)) fun x65=>self4 x65)) (letm ((x43==4)) fun x66=>cond x66 (bnd (β:=Bool) (letm (decide ((s3.length:Int)<4)) fun x67=>cond x67 (some true) (bnd (aV s3 1) fun x68=>letm (decide ((UInt8.toNat x68:Int)<(UInt8.toNat x45.1:Int))) fun x69=>cond x69 (some true) (bnd (aV s3 1) fun x70=>letm (decide ((UInt8.toNat x45.2:Int)<(UInt8.toNat x70:Int))) fun x71=>cond x71 (some true) (bnd (aV s3 2) fun x72=>letm (decide ((UInt8.toNat x72:Int)<(UInt8.toNat 128:Int))) fun x73=>cond x73 (some true) (bnd (aV s3 2) fun x74=>letm (decide ((UInt8.toNat 191:Int)<(UInt8.toNat x74:Int))) fun x75=>cond x75 (some true) (bnd (aV s3 3) fun x76=>letm (decide ((UInt8.toNat x76:Int)<(UInt8.toNat 128:Int))) fun x77=>cond x77 (some true) (bnd (aV s3 3) fun x78=>letm (decide ((UInt8.toNat 191:Int)<(UInt8.toNat x78:Int))) fun x79=>some x79))))))) fun v80=>cond v80 (some (.inl false)) (bnd (Gk.cut s3 4 (s3.length:Int)) fun x81=>self4 x81)) (some (.inl false)))))) (some (.inr ()))) f s=some v
 |0,s,hf,_=>absurd hf (Nat.not_lt_zero _)
 |f+1,s,hf,hl=>by
  have ih:=fun(t:List UInt8) (ht:t.length<s.length)=>Bs f t (by omega) (by omega)
  rw[bS]
  refine fy (rU (fun h0=>?_) (fun _=>qT _))
  have h0:0<s.length:=by have:=of_decide_eq_true h0;omega
  refine kT (fc (k:=0) (by omega)) fun x6=>fy (rU (fun _=>?_) (fun _=>?_))
  ·refine oZ _ (lT (k:=1) (by omega)) fun x8 h8=>?_
   refine oZ (fun b=>b=true→8<x8.length) ?_ fun b hb=>rU (fun h=>?_) (fun _=>ih _ (by omega))
   ·by_cases h:8<x8.length
    ·refine(?_ : ∃y,_=some y).elim fun y hy=>⟨y,hy,fun _=>h⟩
     exact fy (rU (fun _=>kT (n9 (by omega)) fun _=>fy (fy (qT _))) (fun _=>qT _))
    ·exact⟨false,by rw[aa,decide_eq_false (by omega)];rfl,fun h=>by cases h⟩
   ·have:=hb h
    refine oZ _ (lT (k:=8) (by omega)) fun x14 h14=>?_
    refine oZ (fun b=>b=true→16<x14.length) ?_ fun b hb=>rU (fun h=>?_) (fun _=>ih _ (by omega))
    ·by_cases h:16<x14.length
     ·refine(?_ : ∃y,_=some y).elim fun y hy=>⟨y,hy,fun _=>h⟩
      refine fy (rU (fun _=>?_) (fun _=>qT _))
      refine kT (n9 (by omega)) fun _=>?_
      refine oZ _ (lT (k:=8) (by omega)) fun _ h1=>?_
      exact kT (n9 (by omega)) fun _=>fy (fy (fy (qT _)))
     ·exact⟨false,by rw[aa,decide_eq_false (by omega)];rfl,fun h=>by cases h⟩
    ·have:=hb h
     refine oZ _ (lT (k:=16) (by omega)) fun x23 h23=>?_
     exact Bq _ x23.length (fun t ht=>ih t (by omega)) cS x23 (by rw[dU];omega) (Nat.le_refl _)
  ·refine kT (fc (k:=x6.toNat) (by have:=UInt8.toNat_lt x6;rw[xl];exact this)) fun x41=>fy (fy ?_)
   refine oZ _ (Mf x41) fun x44 h44=>?_
   refine kT (fc (k:=x44.toNat) (by rw[xJ];exact h44)) fun x45=>fy (rU (fun _=>?_) (fun _=>fy (rU (fun _=>?_) (fun _=>fy (rU (fun _=>?_) (fun _=>qT _))))))
   ·refine oZ (fun b=>b=false→2≤s.length) ?_ fun b hb=>rU (fun _=>qT _) (fun h=>?_)
    ·by_cases h:2≤s.length
     ·refine(?_ : ∃y,_=some y).elim fun y hy=>⟨y,hy,fun _=>h⟩
      refine fy (rU (fun _=>qT _) (fun _=>?_))
      refine kT (fc (k:=1) (by omega)) fun _=>fy (rU (fun _=>qT _) (fun _=>?_))
      exact kT (fc (k:=1) (by omega)) fun _=>fy (qT _)
     ·exact⟨true,by rw[aa,decide_eq_true (by omega)];rfl,fun h=>by cases h⟩
    ·have:=hb h
     refine oZ _ (lT (k:=2) (by omega)) fun _ ht=>ih _ (by omega)
   ·refine oZ (fun b=>b=false→3≤s.length) ?_ fun b hb=>rU (fun _=>qT _) (fun h=>?_)
    ·by_cases h:3≤s.length
     ·refine(?_ : ∃y,_=some y).elim fun y hy=>⟨y,hy,fun _=>h⟩
      refine fy (rU (fun _=>qT _) (fun _=>?_))
      refine kT (fc (k:=1) (by omega)) fun _=>fy (rU (fun _=>qT _) (fun _=>?_))
      refine kT (fc (k:=1) (by omega)) fun _=>fy (rU (fun _=>qT _) (fun _=>?_))
      refine kT (fc (k:=2) (by omega)) fun _=>fy (rU (fun _=>qT _) (fun _=>?_))
      exact kT (fc (k:=2) (by omega)) fun _=>fy (qT _)
     ·exact⟨true,by rw[aa,decide_eq_true (by omega)];rfl,fun h=>by cases h⟩
    ·have:=hb h
     refine oZ _ (lT (k:=3) (by omega)) fun _ ht=>ih _ (by omega)
   ·refine oZ (fun b=>b=false→4≤s.length) ?_ fun b hb=>rU (fun _=>qT _) (fun h=>?_)
    ·by_cases h:4≤s.length
     ·refine(?_ : ∃y,_=some y).elim fun y hy=>⟨y,hy,fun _=>h⟩
      refine fy (rU (fun _=>qT _) (fun _=>?_))
      refine kT (fc (k:=1) (by omega)) fun _=>fy (rU (fun _=>qT _) (fun _=>?_))
      refine kT (fc (k:=1) (by omega)) fun _=>fy (rU (fun _=>qT _) (fun _=>?_))
      refine kT (fc (k:=2) (by omega)) fun _=>fy (rU (fun _=>qT _) (fun _=>?_))
      refine kT (fc (k:=2) (by omega)) fun _=>fy (rU (fun _=>qT _) (fun _=>?_))
      refine kT (fc (k:=3) (by omega)) fun _=>fy (rU (fun _=>qT _) (fun _=>?_))
      exact kT (fc (k:=3) (by omega)) fun _=>fy (qT _)
     ·exact⟨true,by rw[aa,decide_eq_true (by omega)];rfl,fun h=>by cases h⟩
    ·have:=hb h
     refine oZ _ (lT (k:=4) (by omega)) fun _ ht=>ih _ (by omega)
theorem MX{s:List UInt8}(h:s.length≤1000000): ∃v,bk s=some v:=by
 unfold bk
 have e:Gk.cut s 0 (s.length:Int)=some s:=by
  have:=vM (l:=s) (k:=0) (by omega)
  rwa [List.drop_zero]at this
 rw[e,ae,e,ae]
 obtain⟨v,hv⟩:=Bs cS s (by rw[dU];omega) h
 rw[hv]
 cases v with
 |inl q=>exact⟨q,rfl⟩
 |inr _=>exact⟨true,rfl⟩
def hd(m:Nat)(n:UInt64):List UInt8:=
 if n.toNat<24 then [UInt8.ofNat (32*m+n.toNat)]else if n.toNat<256 then [UInt8.ofNat (32*m+24),UInt8.ofNat n.toNat]
 else if n.toNat<65536 then [UInt8.ofNat (32*m+25),UInt8.ofNat (n.toNat/256),UInt8.ofNat n.toNat]
 else if n.toNat<4294967296 then [UInt8.ofNat (32*m+26),UInt8.ofNat (n.toNat/16777216),UInt8.ofNat (n.toNat/65536),UInt8.ofNat (n.toNat/256),UInt8.ofNat n.toNat]
 else UInt8.ofNat (32*m+27)::Fx n
theorem iX(m:Nat)(n:UInt64):1≤(hd m n).length∧(hd m n).length≤9:=by
 unfold hd Fx
 split
 ·simp
 ·split
  ·simp
  ·split
   ·simp
   ·split<;>simp
theorem vY : ∀(m:Fin 8) (n:Fin 24),bJ (UInt8.ofNat m.1) (UInt64.ofNat n.1)=some [UInt8.ofNat (32*m.1+n.1)]∧ax (m.1:Int) (UInt64.ofNat n.1)=some [UInt8.ofNat (32*m.1+n.1)]:=by decide +kernel
theorem dC(a b:Nat):decide ((a:Int)<(b:Int))=decide (a<b):=by
 rw[Bool.eq_iff_iff,decide_eq_true_eq,decide_eq_true_eq];omega
theorem Sd : ∀m:Fin 8,(Option.map (fun x:UInt8=>x.toNat) (et .u8 (UInt8.ofNat m.1) (UInt64.toNat 5:Int)):Option Nat)=some (32*m.1):=by decide +kernel
theorem Qh(m:Fin 8): @Eq (Option UInt8) (et .u8 (UInt8.ofNat m.1) (UInt64.toNat 5:Int)) (some (UInt8.ofNat (32*m.1))):=by
 obtain⟨x,h1,h2⟩:=Option.map_eq_some_iff.1 (Sd m)
 have h1 : @Eq (Option UInt8) (et .u8 (UInt8.ofNat m.1) (UInt64.toNat 5:Int)) (some x):=h1
 refine h1.trans (congrArg some ?_)
 apply UInt8.toNat_inj.1
 have:=m.2
 rw[UInt8.toNat_ofNat']
 have h2:x.toNat=32*m.1:=h2
 omega
theorem sN(m:Fin 8):ar (bits .or .u8 (UInt8.toNat (UInt8.ofNat (32*m.1))) (UInt8.toNat 24))=UInt8.ofNat (32*m.1+24)∧ar (bits .or .u8 (UInt8.toNat (UInt8.ofNat (32*m.1))) (UInt8.toNat 25))=UInt8.ofNat (32*m.1+25)∧
  ar (bits .or .u8 (UInt8.toNat (UInt8.ofNat (32*m.1))) (UInt8.toNat 26))=UInt8.ofNat (32*m.1+26)∧ar (bits .or .u8 (UInt8.toNat (UInt8.ofNat (32*m.1))) (UInt8.toNat 27))=UInt8.ofNat (32*m.1+27):=by
 revert m;decide +kernel
theorem Gl(c:UInt8)(a1:UInt64):bo (R:=(List UInt8)) (S:=((List UInt8)×Int)) (fun self25 s24=>
  letm (decide (0≤s24.2)) fun x26=>
  cond x26 (bnd ((c_ .u64 (a1:UInt64) s24.2:Option UInt64)) fun(x27:UInt64)=>
  letm ((ar (UInt64.toNat x27:Int))) fun x28=>
  bnd (cO s24.1 [x28]) fun x29=>
  letm ((aF (s24.2-8))) fun x30=>
  self25 (x29,x30))
   (some s24.1)) cS ([c],56)=some (c::Fx a1):=by kernel_rfl
theorem lC(m:Fin 8)(n:UInt64):bJ (UInt8.ofNat m.1) n=some (hd m.1 n):=by
 have hn:=n.toNat_lt
 unfold hd
 by_cases h1:n.toNat<24
 ·rw[if_pos h1]
  have:=(vY m ⟨n.toNat,h1⟩).1
  simpa using this
 rw[if_neg h1]
 unfold bJ
 refine ac (Qh m) ?_
 rw[aa,show decide ((UInt64.toNat n:Int)<(UInt64.toNat 24:Int))=false from(dC _ 24).trans (decide_eq_false h1),ay,aa]
 by_cases h2:n.toNat<256
 ·rw[if_pos h2,show decide ((UInt64.toNat n:Int)<(UInt64.toNat 256:Int))=true from(dC _ 256).trans (decide_eq_true h2),a7,aa,aa,(sN m).1,fq]
 rw[if_neg h2,show decide ((UInt64.toNat n:Int)<(UInt64.toNat 256:Int))=false from(dC _ 256).trans (decide_eq_false h2),ay,aa]
 by_cases h3:n.toNat<65536
 ·rw[if_pos h3,show decide ((UInt64.toNat n:Int)<(UInt64.toNat 65536:Int))=true from(dC _ 65536).trans (decide_eq_true h3),a7,aa]
  refine ac (n_ n 8 (by omega)) ?_
  rw[aa,aa,(sN m).2.1,aO (by omega),fq,fq]
 rw[if_neg h3,show decide ((UInt64.toNat n:Int)<(UInt64.toNat 65536:Int))=false from(dC _ 65536).trans (decide_eq_false h3),ay,aa]
 by_cases h4:n.toNat<4294967296
 ·rw[if_pos h4,show decide ((UInt64.toNat n:Int)<(UInt64.toNat 4294967296:Int))=true from(dC _ 4294967296).trans (decide_eq_true h4),a7,aa]
  refine ac (n_ n 24 (by omega)) ?_
  rw[aa]
  refine ac (n_ n 16 (by omega)) ?_
  rw[aa]
  refine ac (n_ n 8 (by omega)) ?_
  rw[aa,aa,(sN m).2.2.1,aO (n:=n.toNat/2^24) (by omega),aO (n:=n.toNat/2^16) (by omega),aO (n:=n.toNat/2^8) (by omega),fq,fq,fq,fq]
 rw[if_neg h4,show decide ((UInt64.toNat n:Int)<(UInt64.toNat 4294967296:Int))=false from(dC _ 4294967296).trans (decide_eq_false h4),ay,aa,(sN m).2.2.2]
 exact Gl _ n
theorem AM : ∀m:Fin 8,ar (aF (aF (32*(m.1:Int))+24))=UInt8.ofNat (32*m.1+24)∧ar (aF (aF (32*(m.1:Int))+24))+1=UInt8.ofNat (32*m.1+25)∧ar (aF (aF (32*(m.1:Int))+24))+2=UInt8.ofNat (32*m.1+26)∧ar (aF (aF (32*(m.1:Int))+24))+3=UInt8.ofNat (32*m.1+27):=by decide +kernel
def Lh(a1:UInt64):((List UInt8×Int)→Option (List UInt8))→(List UInt8×Int)→Option (List UInt8):=fun self34 s33=>
 letm (decide (0≤s33.2)) fun x35=>
 cond x35 (letm ((aC s33.2)) fun x36=>
 letm ((8*x36)) fun x37=>
 bnd ((c_ .u64 (a1:UInt64) (UInt64.toNat x37:Int):Option UInt64)) fun(x38:UInt64)=>
 letm ((ar (UInt64.toNat x38:Int))) fun x39=>
 bnd (cO s33.1 [x39]) fun x40=>
 letm ((aF (s33.2-1))) fun x41=>
 self34 (x40,x41))
  (some s33.1)
theorem QM(c:UInt8)(n:UInt64):bo (Lh n) cS ([c],aF (1-1))=some [c,ar ((UInt64.ofNat (n.toNat/2^0)).toNat:Int)]:=by kernel_rfl
theorem Q3(c:UInt8)(n:UInt64):bo (Lh n) cS ([c],aF (2-1))=some [c,ar ((UInt64.ofNat (n.toNat/2^8)).toNat:Int),ar ((UInt64.ofNat (n.toNat/2^0)).toNat:Int)]:=by kernel_rfl
theorem QC(c:UInt8)(n:UInt64):bo (Lh n) cS ([c],aF (4-1))=some [c,ar ((UInt64.ofNat (n.toNat/2^24)).toNat:Int),ar ((UInt64.ofNat (n.toNat/2^16)).toNat:Int),ar ((UInt64.ofNat (n.toNat/2^8)).toNat:Int),ar ((UInt64.ofNat (n.toNat/2^0)).toNat:Int)]:=by kernel_rfl
theorem Qz(c:UInt8)(n:UInt64):bo (Lh n) cS ([c],aF (8-1))=some (c::Fx n):=by kernel_rfl
theorem mm(m:Fin 8)(n:UInt64):ax (m.1:Int) n=some (hd m.1 n):=by
 have hn:=n.toNat_lt
 unfold hd
 by_cases h1:n.toNat<24
 ·rw[if_pos h1]
  have:=(vY m ⟨n.toNat,h1⟩).2
  simpa using this
 rw[if_neg h1]
 have i0 : ∀x:UInt8,aV [x] (0:Int)=some x:=fun x=>aM (i:=0) rfl
 have i1 : ∀x:UInt8,aV [x] (((0:Int).toNat:Nat):Int)=some x:=fun x=>aM (i:=0) rfl
 unfold ax
 rw[aa,aa,aa,aa,show decide ((UInt64.toNat n:Int)<(UInt64.toNat 24:Int))=false from(dC _ 24).trans (decide_eq_false h1),ay,aa]
 by_cases h2:n.toNat<256
 ·rw[if_pos h2,show decide ((UInt64.toNat n:Int)<(UInt64.toNat 256:Int))=true from(dC _ 256).trans (decide_eq_true h2),a7,i6,aa]
  refine(QM _ n).trans ?_
  rw[(AM m).1,aO (by omega),fq,Nat.pow_zero,Nat.div_one]
 rw[if_neg h2,show decide ((UInt64.toNat n:Int)<(UInt64.toNat 256:Int))=false from(dC _ 256).trans (decide_eq_false h2),ay,aa]
 by_cases h3:n.toNat<65536
 ·rw[if_pos h3,show decide ((UInt64.toNat n:Int)<(UInt64.toNat 65536:Int))=true from(dC _ 65536).trans (decide_eq_true h3),a7,i0,ae,i1,ae,aa,ae,ae,aa,i6,aa]
  refine(Q3 _ n).trans ?_
  rw[(AM m).2.1,aO (n:=n.toNat/2^8) (by omega),aO (n:=n.toNat/2^0) (by omega),fq,fq,Nat.pow_zero,Nat.div_one]
 rw[if_neg h3,show decide ((UInt64.toNat n:Int)<(UInt64.toNat 65536:Int))=false from(dC _ 65536).trans (decide_eq_false h3),ay,aa]
 by_cases h4:n.toNat<4294967296
 ·rw[if_pos h4,show decide ((UInt64.toNat n:Int)<(UInt64.toNat 4294967296:Int))=true from(dC _ 4294967296).trans (decide_eq_true h4),a7,i0,ae,i1,ae,aa,ae,ae,aa,i6,aa]
  refine(QC _ n).trans ?_
  rw[(AM m).2.2.1,aO (n:=n.toNat/2^24) (by omega),aO (n:=n.toNat/2^16) (by omega),aO (n:=n.toNat/2^8) (by omega),aO (n:=n.toNat/2^0) (by omega),fq,fq,fq,fq,Nat.pow_zero,Nat.div_one]
 rw[if_neg h4,show decide ((UInt64.toNat n:Int)<(UInt64.toNat 4294967296:Int))=false from(dC _ 4294967296).trans (decide_eq_false h4),ay,i0,ae,i1,ae,aa,ae,ae,aa,i6,aa,(AM m).2.2.2]
 exact Qz _ n
theorem HX(a b:List UInt8)(ha:a.length≤2000000)(hb:b.length≤2000000): ∀(f:Nat) (i:Nat),i≤a.length→i≤b.length→a.length-i<f→bo (R:=Int) (S:=Int) (fun self3 s2=>
  bnd (β:=Bool) (letm (decide (s2<(a.length:Int))) fun x4=>
  cond x4 (letm (decide (s2<(b.length:Int))) fun x5=>
  some x5)
   (some false)) fun v6=>
  cond v6 (bnd (aV a s2) fun x7=>
  bnd (aV b s2) fun x8=>
  letm (((UInt8.toNat x7:Int) != (UInt8.toNat x8:Int))) fun x9=>
  cond x9 (bnd (aV a s2) fun x10=>
  bnd (aV b s2) fun x11=>
  letm (decide ((UInt8.toNat x10:Int)<(UInt8.toNat x11:Int))) fun x12=>
  cond x12 (some (-1))
   (some 1))
   (letm ((aF (s2+1))) fun x13=>
  self3 x13))
   (letm (decide ((a.length:Int)<(b.length:Int))) fun x14=>
  cond x14 (some (-1))
   (letm (decide ((b.length:Int)<(a.length:Int))) fun x15=>
  cond x15 (some 1)
   (some 0)))) f (i:Int)=some (Lib.compareBytes (a.drop i) (b.drop i))
 |0,i,_,_,hf=>absurd hf (Nat.not_lt_zero _)
 |f+1,i,h1,h2,hf=>by
  rw[bS,aa,aa,iz,ae,dC,dC]
  by_cases ca:i<a.length
  ·by_cases cb:i<b.length
   ·rw[decide_eq_true ca,decide_eq_true cb,show(true&&true)=true from rfl,a7,aM (List.getElem?_eq_getElem ca),ae,aM (List.getElem?_eq_getElem cb),ae,aa,ae,ae,aa,dC,
     List.drop_eq_getElem_cons ca,List.drop_eq_getElem_cons cb,Lib.compareBytes]
    generalize a[i]=p
    generalize b[i]=q
    by_cases hpq:p=q
    ·subst hpq
     rw[show(((UInt8.toNat p:Nat):Int) != ((UInt8.toNat p:Nat):Int))=false by simp,ay,aa,ap (by omega) (by omega),if_neg (by simp),if_neg (by simp)]
     exact HX a b ha hb f (i+1) (by omega) (by omega) (by omega)
    ·have hne:p.toNat≠q.toNat:=fun h=>hpq (UInt8.toNat_inj.1 h)
     rw[show(((UInt8.toNat p:Nat):Int) != ((UInt8.toNat q:Nat):Int))=true by rw[bne_iff_ne];omega,a7]
     by_cases hlt:p.toNat<q.toNat
     ·rw[decide_eq_true hlt,a7,if_pos (UInt8.lt_iff_toNat_lt.2 hlt)]
     ·rw[decide_eq_false hlt,ay,if_neg (fun h=>hlt (UInt8.lt_iff_toNat_lt.1 h)),if_pos (UInt8.lt_iff_toNat_lt.2 (by omega))]
   ·rw[decide_eq_true ca,decide_eq_false cb,show(true&&false)=false from rfl,ay,aa,dC,aa,dC,decide_eq_false (by omega),ay,decide_eq_true (by omega),a7,List.drop_eq_getElem_cons ca,List.drop_of_length_le (show b.length≤i by omega),Lib.compareBytes]
  ·rw[decide_eq_false ca,show(false&&decide (i<b.length))=false from rfl,ay,aa,dC,List.drop_of_length_le (show a.length≤i by omega)]
   by_cases cb:i<b.length
   ·rw[decide_eq_true (by omega),a7,List.drop_eq_getElem_cons cb,Lib.compareBytes]
   ·rw[decide_eq_false (by omega),ay,aa,dC,decide_eq_false (by omega),ay,List.drop_of_length_le (show b.length≤i by omega),Lib.compareBytes]
theorem rT(a b:List UInt8)(ha:a.length≤2000000)(hb:b.length≤2000000):aT a b=some (Lib.compareBytes a b):=
 HX a b ha hb cS 0 (by omega) (by omega) (by rw[dU];omega)
def fg(k:Int)(n:UInt64)(b:List UInt8)(m:Nat):List UInt8:=
 if k=8 then fE n else if k=7∧24≤n.toNat then [248,UInt8.ofNat n.toNat]else if k=2∨k=3 then hd k.toNat (UInt64.ofNat b.length)++b
 else if k=4 then hd 4 (UInt64.ofNat m)else if k=5 then hd 5 (UInt64.ofNat (m/2))else hd k.toNat n
mutual
def aK:Tr→List UInt8
 | .mk k n b l=>fg k n b l.length++cU l
def cU:List Tr→List UInt8
 | []=>[]
 |x::l=>aK x++cU l
end
mutual
def bU:Tr→Nat
 | .mk _ _ _ l=>1+cV l
def cV:List Tr→Nat
 | []=>0
 |x::l=>bU x+cV l
end
theorem fM(k n b l):aK (.mk k n b l)=fg k n b l.length++cU l:=by unfold aK;rfl
theorem bB:cU [] = []:=by unfold cU;rfl
theorem aX(x l):cU (x::l)=aK x++cU l:=by rw[cU]
theorem fP(k n b l):bU (.mk k n b l)=1+cV l:=by unfold bU;rfl
theorem cN:cV []=0:=by unfold cV;rfl
theorem bf(x l):cV (x::l)=bU x+cV l:=by rw[cV]
theorem tu(x:Tr):1≤bU x:=by cases x;rw[fP];omega
theorem cW : ∀l:List Tr,l.length≤cV l
 | []=>by simp
 |x::l=>by have:=cW l;have:=tu x;rw[bf,List.length_cons];omega
noncomputable def FW (b:List UInt8):Bool:=(bk b).getD false
theorem CQ{b:List UInt8}(h:b.length≤1000000):bk b=some (FW b):=by
 obtain⟨v,hv⟩:=MX h
 unfold FW
 rw[hv];rfl
def pY(n:UInt64):Bool:=decide (n.toNat%9223372036854775808≤9218868437227405312)||decide (n.toNat=9221120237041090560)
def jR:List (List UInt8)→Bool
 |a::b::c::r=>decide (Lib.compareBytes a c<0)&&jR (c::r)
 |_=>true
noncomputable def rj (k:Int) (n:UInt64) (b:List UInt8) (l:List Tr):Bool:=
 bif k==0||k==1 then b.isEmpty&&l.isEmpty
 else bif k==2 then n.toNat==0&&l.isEmpty&&decide (b.length≤4096)
 else bif k==3 then n.toNat==0&&l.isEmpty&&decide (b.length≤4096)&&FW b
 else bif k==7 then b.isEmpty&&l.isEmpty&&(decide (n.toNat<24)||decide (32≤n.toNat)&&decide (n.toNat<256))
 else bif k==8 then b.isEmpty&&l.isEmpty&&pY n
 else false
def A7(k:Int)(n:UInt64)(b:List UInt8)(m:Nat)(d:Nat):Bool:=
 (k==4||k==5||k==6)&&decide (1≤d)&&b.isEmpty&&(bif k==6 then m==1 else n.toNat==0)&&(k != 5||m%2==0)
mutual
noncomputable def vT:Tr→Nat→Bool
 | .mk k n b l,d=>rj k n b l||A7 k n b l.length d&&vL l (d-1)&&(k != 5||jR (l.map aK))
noncomputable def vL:List Tr→Nat→Bool
 | [],_=>true
 |x::l,d=>vT x d&&vL l d
end
theorem qn(k n b l d):vT (.mk k n b l) d=(rj k n b l||A7 k n b l.length d&&vL l (d-1)&&(k != 5||jR (l.map aK))):=by unfold vT;rfl
theorem kg(d):vL [] d=true:=by unfold vL;rfl
theorem fk(x l d):vL (x::l) d=(vT x d&&vL l d):=by rw[vL]
theorem La{n:UInt64}(h:n.toNat=0):n=0:=UInt64.toNat_inj.1 h
theorem nd{k:Int}{n:UInt64}{b:List UInt8}{l:List Tr}{d:Nat}(h:vT (.mk k n b l) d=true):
  ((k=0∨k=1)∧b = []∧l = [])∨(k=2∧n=0∧l = []∧b.length≤4096)∨(k=3∧n=0∧l = []∧b.length≤4096∧FW b=true)∨
  (k=7∧b = []∧l = []∧(n.toNat<24∨32≤n.toNat∧n.toNat<256))∨(k=8∧b = []∧l = []∧pY n=true)∨
  (k=4∧n=0∧b = []∧1≤d∧vL l (d-1)=true)∨(k=5∧n=0∧b = []∧1≤d∧l.length%2=0∧vL l (d-1)=true∧jR (l.map aK)=true)∨
  (k=6∧b = []∧1≤d∧∃y,l = [y]∧vT y (d-1)=true):=by
 rw[qn,Bool.or_eq_true]at h
 rcases h with h |h
 ·unfold rj at h
  by_cases c1:(k==0||k==1)=true
  ·rw[c1,cond_true,Bool.and_eq_true,List.isEmpty_iff,List.isEmpty_iff]at h
   simp only[Bool.or_eq_true,beq_iff_eq]at c1
   exact .inl ⟨c1,h⟩
  rw[Bool.not_eq_true]at c1
  rw[c1,cond_false]at h
  by_cases c2:(k==2)=true
  ·rw[c2,cond_true]at h
   simp only[Bool.and_eq_true,beq_iff_eq,List.isEmpty_iff,decide_eq_true_eq]at h c2
   exact .inr (.inl ⟨c2,La h.1.1,h.1.2,h.2⟩)
  rw[Bool.not_eq_true]at c2
  rw[c2,cond_false]at h
  by_cases c3:(k==3)=true
  ·rw[c3,cond_true]at h
   simp only[Bool.and_eq_true,beq_iff_eq,List.isEmpty_iff,decide_eq_true_eq]at h c3
   exact .inr (.inr (.inl ⟨c3,La h.1.1.1,h.1.1.2,h.1.2,h.2⟩))
  rw[Bool.not_eq_true]at c3
  rw[c3,cond_false]at h
  by_cases c4:(k==7)=true
  ·rw[c4,cond_true]at h
   simp only[Bool.and_eq_true,Bool.or_eq_true,beq_iff_eq,List.isEmpty_iff,decide_eq_true_eq]at h c4
   exact .inr (.inr (.inr (.inl ⟨c4,h.1.1,h.1.2,h.2⟩)))
  rw[Bool.not_eq_true]at c4
  rw[c4,cond_false]at h
  by_cases c5:(k==8)=true
  ·rw[c5,cond_true]at h
   simp only[Bool.and_eq_true,beq_iff_eq,List.isEmpty_iff]at h c5
   exact .inr (.inr (.inr (.inr (.inl ⟨c5,h.1.1,h.1.2,h.2⟩))))
  rw[Bool.not_eq_true]at c5
  rw[c5,cond_false]at h
  cases h
 ·unfold A7 at h
  simp only[Bool.and_eq_true,Bool.or_eq_true,beq_iff_eq,bne_iff_ne,List.isEmpty_iff,decide_eq_true_eq]at h
  obtain⟨⟨⟨⟨⟨⟨hk,hd⟩,hb⟩,hn⟩,h5⟩,hL⟩,hA⟩:=h
  rcases hk with(rfl |rfl) |rfl
  ·have hn:(n.toNat==0)=true:=hn
   exact .inr (.inr (.inr (.inr (.inr (.inl ⟨rfl,La (beq_iff_eq.1 hn),hb,hd,hL⟩)))))
  ·have hn:(n.toNat==0)=true:=hn
   exact .inr (.inr (.inr (.inr (.inr (.inr (.inl ⟨rfl,La (beq_iff_eq.1 hn),hb,hd,by simpa using h5,hL,by simpa using hA⟩))))))
  ·have hn:(l.length==1)=true:=hn
   obtain⟨y,rfl⟩:=List.length_eq_one_iff.1 (beq_iff_eq.1 hn)
   rw[fk,kg,Bool.and_true]at hL
   exact .inr (.inr (.inr (.inr (.inr (.inr (.inr ⟨rfl,hb,hd,y,rfl,hL⟩))))))
theorem cM(k:Int)(n:UInt64)(b:List UInt8)(m:Nat):1≤(fg k n b m).length∧(fg k n b m).length≤9+b.length:=by
 have f:=JE n
 have g:=fun m' n'=>iX m' n'
 unfold fg
 split
 ·omega
 ·split
  ·simp;omega
  ·split
   ·have:=g k.toNat (UInt64.ofNat b.length);rw[List.length_append];omega
   ·split
    ·have:=g 4 (UInt64.ofNat m);omega
    ·split
     ·have:=g 5 (UInt64.ofNat (m/2));omega
     ·have:=g k.toNat n;omega
theorem mA{k:Int}{n:UInt64}{b:List UInt8}{l:List Tr}{d:Nat}(h:vT (.mk k n b l) d=true):b.length≤4096:=by
 rcases nd h with⟨_,rfl,_⟩ | ⟨_,_,_,h⟩ | ⟨_,_,_,h,_⟩ | ⟨_,rfl,_⟩ | ⟨_,rfl,_⟩ | ⟨_,_,rfl,_⟩ | ⟨_,_,rfl,_⟩ | ⟨_,rfl,_⟩<;>first |exact h |exact Nat.zero_le _
theorem nG{k:Int}{n:UInt64}{b:List UInt8}{l:List Tr}{d:Nat}(h:vT (.mk k n b l) d=true):l = []∨1≤d∧vL l (d-1)=true:=by
 rcases nd h with⟨_,_,h⟩ | ⟨_,_,h,_⟩ | ⟨_,_,h,_⟩ | ⟨_,_,h,_⟩ | ⟨_,_,h,_⟩ | ⟨_,_,_,h1,h⟩ | ⟨_,_,_,h1,_,h,_⟩ | ⟨_,_,h1,y,rfl,hy⟩
 ·exact .inl h
 ·exact .inl h
 ·exact .inl h
 ·exact .inl h
 ·exact .inl h
 ·exact .inr ⟨h1,h⟩
 ·exact .inr ⟨h1,h⟩
 ·exact .inr ⟨h1,by rw[fk,kg,hy];rfl⟩
mutual
theorem pI:(x:Tr)→(d:Nat)→vT x d=true→(aK x).length≤4105*bU x
 | .mk k n b l,d,h=>by
  have h1:=(cM k n b l.length).2
  have h2:=mA h
  rw[fM,fP,List.length_append]
  rcases nG h with rfl | ⟨_,hl⟩
  ·rw[bB,cN];simp only[List.length_nil]at h1⊢;omega
  ·have:=Br l _ hl
   omega
theorem Br:(l:List Tr)→(d:Nat)→vL l d=true→(cU l).length≤4105*cV l
 | [],_,_=>by rw[bB];simp
 |x::l,d,h=>by
  rw[fk,Bool.and_eq_true]at h
  have h1:=pI x d h.1
  have h2:=Br l d h.2
  rw[aX,bf,List.length_append]
  omega
end
theorem h0(n:UInt64):ax 0 n=some (hd 0 n):=mm 0 n
theorem h1(n:UInt64):ax 1 n=some (hd 1 n):=mm 1 n
theorem h2(n:UInt64):ax 2 n=some (hd 2 n):=mm 2 n
theorem h3(n:UInt64):ax 3 n=some (hd 3 n):=mm 3 n
theorem h4(n:UInt64):ax 4 n=some (hd 4 n):=mm 4 n
theorem h5(n:UInt64):ax 5 n=some (hd 5 n):=mm 5 n
theorem h6(n:UInt64):ax 6 n=some (hd 6 n):=mm 6 n
theorem KL{n:Nat}(h:n≤1000000):quo ((n:Nat):Int) 2=some ((n/2:Nat):Int):=by
 unfold quo
 rw[if_neg (by omega)]
 refine congrArg some ?_
 rw[show((n:Nat):Int).tdiv 2=((n/2:Nat):Int)from(Int.ofNat_tdiv n 2).symm,ap (by omega) (by omega)]
theorem own0(n b m):fg 0 n b m=hd 0 n:=rfl
theorem L1(n b m):fg 1 n b m=hd 1 n:=rfl
theorem LA(n b m):fg 2 n b m=hd 2 (UInt64.ofNat b.length)++b:=rfl
theorem LJ(n b m):fg 3 n b m=hd 3 (UInt64.ofNat b.length)++b:=rfl
theorem O0(n b m):fg 4 n b m=hd 4 (UInt64.ofNat m):=rfl
theorem OD(n b m):fg 5 n b m=hd 5 (UInt64.ofNat (m/2)):=rfl
theorem OH(n b m):fg 6 n b m=hd 6 n:=rfl
theorem C9(n b m):fg 8 n b m=fE n:=rfl
theorem CK(rec:Tr→Option (List UInt8))(d:Nat)(hr:1≤d→∀y,vT y (d-1)=true→bU y≤300→rec y=some (aK y))(x:Tr)(h:vT x d=true)(hc:bU x≤300):gU rec x=some (aK x):=by
 obtain⟨k,n,b,l⟩:=x
 have hb:=mA h
 have hlen:=pI _ d h
 have key : ∀(l:List Tr),1≤d→vL l (d-1)=true→cV l≤300→∀(i:Nat) (s:List UInt8),s.length+(cU l).length≤2000000→
   a6 (R:=(List UInt8)) (S:=(List UInt8)) (α:=Go.Gk.Tr) (fun _ s28=>some s28) (fun x29 _ s31 self32=>bnd (rec x29) fun x33=>bnd (cO s31 x33) fun x34=>self32 x34) l i s=some (s++cU l):=by
  intro l
  induction l with
  |nil=>intro _ _ _ i s _;rw[eU,bB,List.append_nil]
  |cons y l ih=>
   intro hd1 hv hcl i s hs
   rw[fk,Bool.and_eq_true]at hv
   rw[bf]at hcl
   rw[aX,List.length_append]at hs
   rw[bj,hr hd1 y hv.1 (by omega),ae,aD (by omega),ae,ih hd1 hv.2 (by omega) _ _ (by rw[List.length_append];omega),aX,List.append_assoc]
 rw[fP]at hc hlen
 have hlen:(aK (.mk k n b l)).length≤1300000:=by omega
 rw[fM,List.length_append]at hlen
 have hcl:l.length≤300:=by have:=cW l;omega
 rw[fM]
 unfold gU
 rcases nd h with⟨hk,rfl,rfl⟩ | ⟨rfl,rfl,rfl,_⟩ | ⟨rfl,rfl,rfl,_,_⟩ | ⟨rfl,rfl,rfl,hn⟩ | ⟨rfl,rfl,rfl,_⟩ | ⟨rfl,rfl,rfl,g1,gl⟩ | ⟨rfl,rfl,rfl,g1,_,gl,_⟩ | ⟨rfl,rfl,g1,y,rfl,gy⟩
 ·rcases hk with rfl |rfl
  ·simp only[Tr.k,Tr.n,Tr.b,Tr.l,aa,ae]
   show fI (bnd (ax 0 n) fun x4=>_) _ _=_
   rw[h0,ae,nj,bB,List.append_nil,own0]
  ·simp only[Tr.k,Tr.n,Tr.b,Tr.l,aa,ae]
   show fI (bnd (ax 1 n) fun x4=>_) _ _=_
   rw[h1,ae,nj,bB,List.append_nil,L1]
 ·simp only[Tr.k,Tr.n,Tr.b,Tr.l,aa,ae,bC]
  show fI (bnd (ax 2 (UInt64.ofNat b.length)) fun x9=>_) _ _=_
  rw[h2,ae,aD (by have:=iX 2 (UInt64.ofNat b.length);omega),ae,nj,bB,List.append_nil,LA]
 ·simp only[Tr.k,Tr.n,Tr.b,Tr.l,aa,ae,bC]
  show fI (bnd (ax 3 (UInt64.ofNat b.length)) fun x9=>_) _ _=_
  rw[h3,ae,aD (by have:=iX 3 (UInt64.ofNat b.length);omega),ae,nj,bB,List.append_nil,LJ]
 ·simp only[Tr.k,Tr.n,Tr.b,Tr.l,aa,ae]
  show fI (cond (decide ((UInt64.toNat n:Int)<(UInt64.toNat 24:Int))) _ _) _ _=_
  rw[show decide ((UInt64.toNat n:Int)<(UInt64.toNat 24:Int))=decide (n.toNat<24)from dC _ 24]
  by_cases c:n.toNat<24
  ·rw[decide_eq_true c,a7,nj,bB]
   have e:(224+n).toNat=224+n.toNat:=by
    rw[UInt64.toNat_add]
    show(224+n.toNat)%2^64=_
    omega
   show some [ar ((224+n).toNat:Int)]=some (fg 7 n [] 0 ++ [])
   rw[e,fq]
   unfold fg hd
   rw[if_neg (by omega),if_neg (by omega),if_neg (by omega),if_neg (by omega),if_neg (by omega),if_pos c]
   rfl
  ·rw[decide_eq_false c,ay,nj,bB,fq]
   show some [248,UInt8.ofNat n.toNat]=some (fg 7 n [] 0 ++ [])
   unfold fg
   rw[if_neg (by omega),if_pos ⟨rfl,by omega⟩]
   rfl
 ·simp only[Tr.k,Tr.n,Tr.b,Tr.l,aa,ae]
  show fI (bnd (d_ n) fun x4=>_) _ _=_
  rw[Gr,ae,nj,bB,List.append_nil,C9]
 ·simp only[Tr.k,Tr.n,Tr.b,Tr.l,aa,ae,bC]
  show fI (bnd (ax 4 (UInt64.ofNat l.length)) fun x9=>_) _ _=_
  rw[h4,ae,i6]
  exact key l g1 gl (by omega) 0 _ (by have:=iX 4 (UInt64.ofNat l.length);omega)
 ·simp only[Tr.k,Tr.n,Tr.b,Tr.l,aa,ae,KL (show l.length≤1000000 by omega),bC]
  show fI (bnd (ax 5 (UInt64.ofNat (l.length/2))) fun x9=>_) _ _=_
  rw[h5,ae,i6]
  exact key l g1 gl (by omega) 0 _ (by have:=iX 5 (UInt64.ofNat (l.length/2));omega)
 ·simp only[Tr.k,Tr.n,Tr.b,Tr.l,aa,ae]
  show fI (bnd (ax 6 n) fun x9=>_) _ _=_
  rw[h6,ae,i6]
  exact key [y] g1 (by rw[fk,kg,gy];rfl) (by omega) 0 _ (by have:=iX 6 n;omega)
theorem Ho(j:Nat): ∀(d:Nat) (x:Tr),vT x d=true→bU x≤300→gF (j+d+1) x=some (aK x)
 |0,x,h,hc=>CK _ 0 (fun h=>absurd h (by omega)) x h hc
 |d+1,x,h,hc=>CK _ (d+1) (fun _ y hy hcy=>Ho j d y hy hcy) x h hc
theorem c0(n:UInt64):bJ 0 n=some (hd 0 n):=lC 0 n
theorem c1(n:UInt64):bJ 1 n=some (hd 1 n):=lC 1 n
theorem c2(n:UInt64):bJ 2 n=some (hd 2 n):=lC 2 n
theorem c3(n:UInt64):bJ 3 n=some (hd 3 n):=lC 3 n
theorem c4(n:UInt64):bJ 4 n=some (hd 4 n):=lC 4 n
theorem c5(n:UInt64):bJ 5 n=some (hd 5 n):=lC 5 n
theorem c6(n:UInt64):bJ 6 n=some (hd 6 n):=lC 6 n
theorem c7(n:UInt64):bJ 7 n=some (hd 7 n):=lC 7 n
theorem Ky{n:UInt64}(h:n.toNat<24)(b m):fg 7 n b m=hd 7 n:=by
 unfold fg
 rw[if_neg (by omega),if_neg (by omega),if_neg (by omega),if_neg (by omega),if_neg (by omega)]
 rfl
theorem IY{n:UInt64}(h:24≤n.toNat)(b m):fg 7 n b m = [248,UInt8.ofNat n.toNat]:=by
 unfold fg
 rw[if_neg (by omega),if_pos ⟨rfl,h⟩]
theorem p_(a b:Nat):decide ((a:Int)≤(b:Int))=decide (a≤b):=by
 rw[Bool.eq_iff_iff,decide_eq_true_eq,decide_eq_true_eq];omega
theorem I'{k:Int}{n:UInt64}{b:List UInt8}{l:List Tr}{d:Nat}(h:vT (.mk k n b l) d=true)(hl:l.length≤1000000)(hk : ¬k=8)(h7 : ¬(k=7∧24≤n.toNat)):
  ∃p,iJ (.mk k n b l)=some p∧∃e,bJ p.1 p.2=some e∧e++b=fg k n b l.length∧1≤e.length∧e.length≤9:=by
 rcases nd h with⟨hk,rfl,rfl⟩ | ⟨rfl,rfl,rfl,_⟩ | ⟨rfl,rfl,rfl,_,_⟩ | ⟨rfl,rfl,rfl,hn⟩ | ⟨rfl,rfl,rfl,_⟩ | ⟨rfl,rfl,rfl,g1,gl⟩ | ⟨rfl,rfl,rfl,g1,_,gl,_⟩ | ⟨rfl,rfl,g1,y,rfl,gy⟩
 ·rcases hk with rfl |rfl
  ·exact⟨(0,n),rfl,_,c0 n,by rw[own0,List.append_nil],iX 0 n⟩
  ·exact⟨(1,n),rfl,_,c1 n,by rw[L1,List.append_nil],iX 1 n⟩
 ·exact⟨(2,UInt64.ofNat b.length),(show some (ar 2,aC (b.length:Int))=_ by rw[bC];rfl),_,c2 _,by rw[LA],iX 2 _⟩
 ·exact⟨(3,UInt64.ofNat b.length),(show some (ar 3,aC (b.length:Int))=_ by rw[bC];rfl),_,c3 _,by rw[LJ],iX 3 _⟩
 ·exact⟨(7,n),rfl,_,c7 n,by rw[Ky (by omega),List.append_nil],iX 7 n⟩
 ·exact absurd rfl hk
 ·exact⟨(4,UInt64.ofNat l.length),(show some (4,aC (l.length:Int))=_ by rw[bC]),_,c4 _,by rw[O0,List.append_nil],iX 4 _⟩
 ·exact⟨(5,UInt64.ofNat (l.length/2)),(show bnd (quo (l.length:Int) 2) (fun x9=>some (5,aC x9))=_ by rw[KL hl,ae,bC]),_,c5 _,by rw[OD,List.append_nil],iX 5 _⟩
 ·exact⟨(6,n),rfl,_,c6 n,by rw[OH,List.append_nil],iX 6 n⟩
theorem Cu(rec:List UInt8→Tr→Option (List UInt8))(d:Nat)(hr:1≤d→∀s y,vT y (d-1)=true→bU y≤300→s.length+(aK y).length≤3000000→rec s y=some (s++aK y))(s0:List UInt8)(x:Tr)(h:vT x d=true)(hc:bU x≤300)
  (hs:s0.length+(aK x).length≤3000000):lE rec s0 x=some (s0++aK x):=by
 obtain⟨k,n,b,l⟩:=x
 have key : ∀(l:List Tr),(l≠[]→1≤d)→(l = []∨vL l (d-1)=true)→cV l≤300→∀(i:Nat) (s:List UInt8),s.length+(cU l).length≤3000000→
   a6 (R:=(List UInt8)) (S:=(List UInt8)) (α:=Go.Gk.Tr) (fun k14 s15=>some s15) (fun x16 k17 s18 self19=>bnd (rec s18 x16) fun x20=>self19 x20) l i s=some (s++cU l):=by
  intro l
  induction l with
  |nil=>intro _ _ _ i s _;rw[eU,bB,List.append_nil]
  |cons y l ih=>
   intro hd1 hv hcl i s hs
   have hd1:=hd1 (by simp)
   have hv:vL (y::l) (d-1)=true:=by rcases hv with h |h;cases h;exact h
   rw[fk,Bool.and_eq_true]at hv
   rw[bf]at hcl
   rw[aX,List.length_append]at hs
   rw[bj,hr hd1 s y hv.1 (by omega) (by omega),ae,ih (fun _=>hd1) (.inr hv.2) (by omega) _ _ (by rw[List.length_append];omega),aX,List.append_assoc]
 have hb:=mA h
 rw[fP]at hc
 rw[fM,List.length_append]at hs
 have hcl:l.length≤300:=by have:=cW l;omega
 have hkid:=nG h
 rw[fM]
 unfold lE
 by_cases h8:k=8
 ·subst h8
  have hnil:l = []:=by
   rcases nd h with⟨hk,_⟩ | ⟨hk,_⟩ | ⟨hk,_⟩ | ⟨hk,_⟩ | ⟨_,_,h,_⟩ | ⟨hk,_⟩ | ⟨hk,_⟩ | ⟨hk,_⟩<;>first |exact h |omega
  subst hnil
  rw[C9]at hs⊢
  rw[aa,show((Tr.mk 8 n b []).k==8)=true from rfl,a7]
  refine ac (rP n) ?_
  rw[aD (by omega),ae,bB,List.append_nil]
 rw[aa,show((Tr.mk k n b l).k==8)=false by show(k==8)=false;rw[←Bool.not_eq_true,beq_iff_eq];exact h8,ay,aa,aa,iz,ae,
  show decide ((UInt64.toNat 24:Int)≤(UInt64.toNat (Tr.mk k n b l).n:Int))=decide (24≤n.toNat)from p_ 24 _]
 by_cases h7:k=7∧24≤n.toNat
 ·obtain⟨rfl,h24⟩:=h7
  have hnil:l = []:=by
   rcases nd h with⟨hk,_⟩ | ⟨hk,_⟩ | ⟨hk,_⟩ | ⟨_,_,h,_⟩ | ⟨hk,_⟩ | ⟨hk,_⟩ | ⟨hk,_⟩ | ⟨hk,_⟩<;>first |exact h |omega
  subst hnil
  rw[IY h24]at hs⊢
  rw[decide_eq_true h24,show((Tr.mk 7 n b []).k==7&&true)=true from rfl,a7,aa]
  show bnd (cO s0 [248,ar (n.toNat:Int)]) _=_
  rw[fq,aD (by omega),ae,bB,List.append_nil]
 rw[show((Tr.mk k n b l).k==7&&decide (24≤n.toNat))=false by
  show(k==7&&decide (24≤n.toNat))=false
  rw[←Bool.not_eq_true,Bool.and_eq_true,beq_iff_eq,decide_eq_true_eq];exact h7,ay]
 obtain⟨p,hp,e,he,heq,e1,e9⟩:=I' h (by omega) h8 h7
 rw[←heq,List.length_append]at hs
 rw[←heq]
 refine ac hp (ac he ?_)
 rw[aD (by omega),ae]
 show bnd (cO (s0++e) b) _=_
 rw[aD (by rw[List.length_append];omega),ae,show s0++(e++b++cU l)=(s0++e++b)++cU l by simp]
 refine key l (fun hne=>?_) ?_ (by omega) 0 _ (by simp only[List.length_append];omega)
 ·rcases hkid with rfl |h
  ·exact absurd rfl hne
  ·exact h.1
 ·rcases hkid with h |h
  ·exact .inl h
  ·exact .inr h.2
theorem JB(j:Nat): ∀(d:Nat) (s:List UInt8) (x:Tr),vT x d=true→bU x≤300→s.length+(aK x).length≤3000000→lP (j+d+1) s x=some (s++aK x)
 |0,s,x,h,hc,hs=>Cu _ 0 (fun h=>absurd h (by omega)) s x h hc hs
 |d+1,s,x,h,hc,hs=>Cu _ (d+1) (fun _ s y hy hcy hsy=>JB j d s y hy hcy hsy) s x h hc hs
theorem qq{d:Nat}{x:Tr}(h:vT x d=true)(hd:d≤9)(hc:bU x≤300):dA [] x=some (aK x):=by
 have hl:=pI x d h
 have:=JB (40-d) d [] x h hc (by simp;omega)
 rw[show 40-d+d+1=41 by omega]at this
 exact this
theorem vh{d:Nat}{x:Tr}(h:vT x d=true)(hd:d≤9)(hc:bU x≤300):aN x=some (aK x):=by
 have:=Ho (39-d) d x h hc
 rw[show 39-d+d+1=40 by omega]at this
 exact this
noncomputable def uU (k:Int) (n:UInt64) (b:List UInt8) (l:List Tr) (d:Nat):Bool:=rj k n b l||A7 k n b l.length d
def oC(k:Int)(n bl ll d:Nat)(u q:Prop):Prop:=
 ((k=0∨k=1)∧bl=0∧ll=0)∨(k=2∧n=0∧ll=0∧bl≤4096)∨(k=3∧n=0∧ll=0∧bl≤4096∧u)∨(k=7∧bl=0∧ll=0∧(n<24∨32≤n∧n<256))∨(k=8∧bl=0∧ll=0∧q)∨
 (k=4∧n=0∧bl=0∧1≤d)∨(k=5∧n=0∧bl=0∧1≤d∧ll%2=0)∨(k=6∧bl=0∧1≤d∧ll=1)
theorem Ab{α:Type}(l:List α):l.isEmpty=decide (l.length=0):=by cases l<;>simp
theorem th(k:Int)(n:UInt64)(b:List UInt8)(l:List Tr)(d:Nat):uU k n b l d=true↔oC k n.toNat b.length l.length d (FW b=true) (pY n=true):=by
 unfold uU rj A7 oC
 by_cases c0:k=0
 ·subst c0;simp[Ab]
 by_cases c1:k=1
 ·subst c1;simp[Ab]
 by_cases c2:k=2
 ·subst c2;simp[Ab,and_assoc,and_comm,and_left_comm]
 by_cases c3:k=3
 ·subst c3;simp[Ab,and_assoc]
 by_cases c4:k=4
 ·subst c4;simp[Ab,and_assoc,and_comm,and_left_comm]
 by_cases c5:k=5
 ·subst c5;simp[Ab,and_assoc,and_comm,and_left_comm]
 by_cases c6:k=6
 ·subst c6;simp[Ab,and_assoc,and_comm,and_left_comm]
 by_cases c7:k=7
 ·subst c7;simp[Ab,and_assoc]
 by_cases c8:k=8
 ·subst c8;simp[Ab,and_assoc]
 ·simp[c0,c1,c2,c3,c4,c5,c6,c7,c8]
theorem NY(k n b l d):vT (.mk k n b l) d=(uU k n b l d&&vL l (d-1)&&(k != 5||jR (l.map aK))):=by
 rw[qn]
 unfold uU
 cases hl:rj k n b l with
 |false=>simp[Bool.and_assoc]
 |true=>
  have h:uU k n b l d=true:=by unfold uU;rw[hl];rfl
  have hll:l = []:=by
   unfold rj at hl
   by_cases c1:(k==0||k==1)=true
   ·rw[c1,cond_true,Bool.and_eq_true,List.isEmpty_iff,List.isEmpty_iff]at hl;exact hl.2
   rw[Bool.not_eq_true]at c1
   rw[c1,cond_false]at hl
   cases e2:(k==2)<;>cases e3:(k==3)<;>cases e7:(k==7)<;>cases e8:(k==8)<;>simp[e2,e3,e7,e8]at hl<;>first |exact hl.1.1.2 |exact hl.1.2 |exact hl.2.1 |skip
  subst hll
  simp[kg,jR]
theorem zy(l:List Tr)(i:Nat):jR ((l.drop i).map aK)=if h:i+2<l.length then(decide (Lib.compareBytes (aK l[i]) (aK l[i+2])<0)&&jR ((l.drop (i+2)).map aK))else true:=by
 split
 ·rename_i h
  have e2:l.drop (i+2)=l[i+2]::l.drop (i+3):=List.drop_eq_getElem_cons h
  have e0:l.drop i=l[i]::l[i+1]::l.drop (i+2):=by rw[List.drop_eq_getElem_cons (show i<l.length by omega),List.drop_eq_getElem_cons (show i+1<l.length by omega)]
  rw[e0,e2]
  simp only[List.map_cons,jR]
 ·rename_i h
  have hl:(l.drop i).length≤2:=by rw[List.length_drop];omega
  generalize l.drop i=m at hl
  match m,hl with
  | [],_=>simp[jR]
  | [_],_=>simp[jR]
  | [_,_],_=>simp[jR]
theorem rm{l:List Tr}{d:Nat}(h:vL l d=true): ∀(i:Nat) (hi:i<l.length),vT l[i] d=true:=by
 induction l with
 |nil=>intro i hi;exact absurd hi (Nat.not_lt_zero _)
 |cons x l ih=>
  rw[fk,Bool.and_eq_true]at h
  intro i hi
  cases i with
  |zero=>exact h.1
  |succ i=>exact ih h.2 i (by simpa using hi)
theorem qf{l:List Tr}: ∀(i:Nat) (hi:i<l.length),bU l[i]≤cV l:=by
 induction l with
 |nil=>intro i hi;exact absurd hi (Nat.not_lt_zero _)
 |cons x l ih=>
  intro i hi
  rw[bf]
  cases i with
  |zero=>show bU x≤_;omega
  |succ i=>have:=ih i (by simpa using hi);simp only[List.getElem_cons_succ];omega
theorem EF(x:Int):decide ((0:Int)≤x)=!decide (x<0):=by
 rw[Bool.eq_iff_iff,decide_eq_true_eq,Bool.not_eq_true',decide_eq_false_iff_not];omega
theorem Jc(l:List Tr)(d:Nat)(hd:d≤9)(h:vL l d=true)(hc:cV l≤300):gz l=some (jR (l.map aK)):=by
 have hll:=cW l
 have key : ∀(f i:Nat),i≤l.length→l.length<f+i→bo (R:=Bool) (S:=Int) (fun self2 s1=>
   letm (decide (s1<(l.length:Int))) fun x3=>
   cond x3 (letm ((aF (s1-2))) fun x4=>
   bnd (aV l x4) fun x5=>
   bnd (dA [] x5) fun x6=>
   bnd (aV l s1) fun x7=>
   bnd (dA [] x7) fun x8=>
   bnd (dK x6 x8) fun x9=>
   letm (decide (0≤x9)) fun x10=>
   cond x10 (some false)
    (letm ((aF (s1+2))) fun x11=>
   self2 x11))
    (some true)) (f+1) ((i+2:Nat):Int)=some (jR ((l.drop i).map aK)):=by
  intro f
  induction f with
  |zero=>intro i hi hf;omega
  |succ f ih=>
   intro i hi hf
   rw[bS,aa,dC,zy]
   by_cases c:i+2<l.length
   ·have e1:dA [] l[i]=some (aK l[i]):=qq (rm h i (by omega)) hd (by have:=qf (l:=l) i (by omega);omega)
    have e2:dA [] l[i+2]=some (aK l[i+2]):=qq (rm h (i+2) c) hd (by have:=qf (l:=l) (i+2) c;omega)
    rw[decide_eq_true c,a7,dif_pos c,aa,ap (by omega) (by omega),show((i+2:Nat):Int)-2=(i:Int) by omega,aM (List.getElem?_eq_getElem (show i<l.length by omega)),ae,e1,ae,
     aM (List.getElem?_eq_getElem c),ae,e2,ae]
    refine ac (show dK (aK l[i]) (aK l[i+2])=some (Lib.compareBytes (aK l[i]) (aK l[i+2]))from rfl) ?_
    rw[aa,EF]
    cases hcm:decide (Lib.compareBytes (aK l[i]) (aK l[i+2])<0)with
    |false=>rfl
    |true=>
     rw[show(!true)=false from rfl,ay,aa,ap (by omega) (by omega),Bool.true_and]
     exact ih (i+2) (by omega) (by omega)
   ·rw[decide_eq_false c,ay,dif_neg c]
 exact key 1180591620717411303423 0 (by omega) (by omega)
theorem Fi(l:List Tr)(d:Nat)(hd:d≤8)(h:vL l d=true)(hc:cV l≤300)(k:Int)(rec:Tr→Option (List UInt8))(hrec : ∀y,vT y d=true→bU y≤300→rec y=some (aK y))(v:Int):bo (R:=Int) (S:=Int) (fun self61 s60=>
  bnd (β:=Bool) (letm ((k==5)) fun x62=>
  cond x62 (letm (decide (s60<(l.length:Int))) fun x63=>
  some x63)
   (some false)) fun v64=>
  cond v64 (letm ((aF (s60-2))) fun x65=>
  bnd (aV l x65) fun x66=>
  bnd (rec x66) fun x67=>
  bnd (aV l s60) fun x68=>
  bnd (rec x68) fun x69=>
  bnd (aT x67 x69) fun x70=>
  letm (decide (0≤x70)) fun x71=>
  cond x71 (some (-1))
   (letm ((aF (s60+2))) fun x72=>
  self61 x72))
   (some v)) cS 2=some (if(k != 5||jR (l.map aK))=true then v else -1):=by
 have hll:=cW l
 by_cases hk:k=5
 ·subst hk
  rw[show((5:Int) != 5)=false from rfl,Bool.false_or]
  have key : ∀(f i:Nat),i≤l.length→l.length<f+i→bo (R:=Int) (S:=Int) (fun self61 s60=>
   bnd (β:=Bool) (letm (((5:Int)==5)) fun x62=>
   cond x62 (letm (decide (s60<(l.length:Int))) fun x63=>
   some x63)
    (some false)) fun v64=>
   cond v64 (letm ((aF (s60-2))) fun x65=>
   bnd (aV l x65) fun x66=>
   bnd (rec x66) fun x67=>
   bnd (aV l s60) fun x68=>
   bnd (rec x68) fun x69=>
   bnd (aT x67 x69) fun x70=>
   letm (decide (0≤x70)) fun x71=>
   cond x71 (some (-1))
    (letm ((aF (s60+2))) fun x72=>
   self61 x72))
    (some v)) (f+1) ((i+2:Nat):Int)=some (if jR ((l.drop i).map aK)=true then v else -1):=by
   intro f
   induction f with
   |zero=>intro i hi hf;omega
   |succ f ih=>
    intro i hi hf
    rw[bS,aa,show((5:Int)==5)=true from rfl,a7,aa,ae,dC,zy]
    by_cases c:i+2<l.length
    ·have g1:=qf (l:=l) i (by omega)
     have g2:=qf (l:=l) (i+2) c
     have e1:=hrec _ (rm h i (by omega)) (by omega)
     have e2:=hrec _ (rm h (i+2) c) (by omega)
     have l1:=pI _ d (rm h i (by omega))
     have l2:=pI _ d (rm h (i+2) c)
     rw[decide_eq_true c,a7,dif_pos c,aa,ap (by omega) (by omega),show((i+2:Nat):Int)-2=(i:Int) by omega,aM (List.getElem?_eq_getElem (show i<l.length by omega)),ae,e1,ae,
      aM (List.getElem?_eq_getElem c),ae,e2,ae,rT _ _ (by omega) (by omega),ae,aa,EF]
     cases hcm:decide (Lib.compareBytes (aK l[i]) (aK l[i+2])<0)with
     |false=>rfl
     |true=>
      rw[show(!true)=false from rfl,ay,aa,ap (by omega) (by omega),Bool.true_and]
      exact ih (i+2) (by omega) (by omega)
    ·rw[decide_eq_false c,ay,dif_neg c]
     rfl
  exact key 1180591620717411303423 0 (by omega) (by omega)
 ·rw[show cS=1180591620717411303423+1 from rfl,bS,aa,show(k==5)=false by rw[←Bool.not_eq_true,beq_iff_eq];exact hk,ay,ae,ay,show(k != 5)=true by rw[bne_iff_ne];exact hk]
  rfl
theorem ma{α:Type}{c:Bool}{x y r:Option α}(h1:c=true→x=r)(h2:c=false→y=r):cond c x y=r:=by
 cases c with
 |true=>exact h1 rfl
 |false=>exact h2 rfl
theorem Mu(n:Nat):Gk.rem ((n:Nat):Int) 2=some ((n%2:Nat):Int):=by
 unfold Gk.rem
 rw[if_neg (by omega)]
 exact congrArg some (Int.ofNat_tmod n 2).symm
theorem EE{n:Nat}:decide ((0:Int)<(n:Int))=decide (0<n):=by
 rw[Bool.eq_iff_iff,decide_eq_true_eq,decide_eq_true_eq];omega
noncomputable def wc (x:Tr) (d n:Nat):Int:=if vT x d=true∧bU x≤n then((n-bU x:Nat):Int)else -1
theorem jf{x:Tr}{d n:Nat}(h : ¬(vT x d=true∧bU x≤n)):wc x d n = -1:=if_neg h
theorem qy{x:Tr}{d n:Nat}(h:vT x d=true∧bU x≤n):wc x d n=((n-bU x:Nat):Int):=if_pos h
theorem CI(rec:Tr→Int→Int→Option Int)(d:Nat)(hd:d≤8)(hd1:1≤d)(hr : ∀y (n:Nat),n≤256→rec y (n:Int) (8-((d-1:Nat):Int))=some (wc y (d-1) n)): ∀(l:List Tr) (i n:Nat),n≤256→
  a6 (R:=(Int⊕Int)) (S:=Int) (α:=Go.Gk.Tr) (fun k50 s51=>some (.inr s51)) (fun x52 k53 s54 self55=>
   letm ((aF (8-(d:Int)+1))) fun x56=>
   bnd (rec x52 s54 x56) fun x57=>
   letm (decide (x57<0)) fun x58=>
   cond x58 (some (.inl (-1)))
    (self55 x57)) l i (n:Int)=some (if vL l (d-1)=true∧cV l≤n then .inr ((n-cV l:Nat):Int)else .inl (-1))
 | [],i,n,hn=>by rw[eU,kg,cN,if_pos ⟨rfl,by omega⟩];rfl
 |x::l,i,n,hn=>by
  rw[bj,aa,ap (by omega) (by omega),show(8:Int)-(d:Int)+1=8-((d-1:Nat):Int) by omega,hr x n hn,ae,aa,fk,bf]
  have hp:=tu x
  by_cases h:vT x (d-1)=true∧bU x≤n
  ·rw[qy h,decide_eq_false (by omega),ay]
   have ih:=CI rec d hd hd1 hr l (i+1) (n-bU x) (by omega)
   rw[ap (by omega) (by omega),show(8:Int)-(d:Int)+1=8-((d-1:Nat):Int) by omega]at ih
   refine ih.trans ?_
   rw[h.1,Bool.true_and]
   by_cases h2:vL l (d-1)=true∧cV l≤n-bU x
   ·rw[if_pos h2,if_pos ⟨h2.1,by omega⟩,show n-bU x-cV l=n-(bU x+cV l) by omega]
   ·rw[if_neg h2,if_neg (fun h3=>h2 ⟨h3.1,by omega⟩)]
  ·rw[jf h,show decide ((-1:Int)<0)=true from rfl,a7,if_neg]
   rintro⟨h1,h2⟩
   rw[Bool.and_eq_true]at h1
   exact h ⟨h1.1,by omega⟩
theorem On(x:Tr)(d:Nat):vT x d=(uU x.k x.n x.b x.l d&&vL x.l (d-1)&&(x.k != 5||jR (x.l.map aK))):=by
 obtain⟨k,n,b,l⟩:=x
 exact NY k n b l d
theorem pF(x:Tr):bU x=1+cV x.l:=by
 obtain⟨k,n,b,l⟩:=x
 exact fP k n b l
theorem Bp{x:Tr}{d:Nat}(h : ¬oC x.k x.n.toNat x.b.length x.l.length d (FW x.b=true) (pY x.n=true)): ¬vT x d=true:=by
 rw[←th,Bool.not_eq_true]at h
 rw[On,h];simp
theorem JZ{k:Int}{n bl ll d:Nat}{u q:Prop}(ha:0≤k)(hb:k≤8)(g1:0<bl→k=2∨k=3)(g2:0<ll→k=4∨k=5∨k=6)(g3:k=2∨k=3∨k=4∨k=5→n=0)(hbl:bl≤4096)(hu:k=3→u)(g7:k=7→n<24∨32≤n∧n<256)(hq:k=8→q)
  (gd:k=4∨k=5∨k=6→1≤d) (g6:k=6→ll=1) (g5:k=5→ll%2=0):oC k n bl ll d u q:=by
 unfold oC
 have hk:k=0∨k=1∨k=2∨k=3∨k=4∨k=5∨k=6∨k=7∨k=8:=by omega
 rcases hk with rfl |rfl |rfl |rfl |rfl |rfl |rfl |rfl |rfl
 ·exact .inl ⟨.inl rfl,by omega,by omega⟩
 ·exact .inl ⟨.inr rfl,by omega,by omega⟩
 ·exact .inr (.inl ⟨rfl,g3 (by omega),by omega,hbl⟩)
 ·exact .inr (.inr (.inl ⟨rfl,g3 (by omega),by omega,hbl,hu rfl⟩))
 ·exact .inr (.inr (.inr (.inr (.inr (.inl ⟨rfl,g3 (by omega),by omega,gd (by omega)⟩)))))
 ·exact .inr (.inr (.inr (.inr (.inr (.inr (.inl ⟨rfl,g3 (by omega),by omega,gd (by omega),g5 rfl⟩))))))
 ·exact .inr (.inr (.inr (.inr (.inr (.inr (.inr ⟨rfl,by omega,gd (by omega),g6 rfl⟩))))))
 ·exact .inr (.inr (.inr (.inl ⟨rfl,by omega,by omega,g7 rfl⟩)))
 ·exact .inr (.inr (.inr (.inr (.inl ⟨rfl,by omega,by omega,hq rfl⟩))))
theorem yJ(rec:Tr→Int→Int→Option Int)(d:Nat)(hd:d≤8)(hr:1≤d→∀y (n:Nat),n≤256→rec y (n:Int) (8-((d-1:Nat):Int))=some (wc y (d-1) n))(x:Tr)(n:Nat)(hn:n≤256):
  gk rec x (n:Int) (8-(d:Int))=some (wc x d n):=by
 have hp:=pF x
 have hpl:=cW x.l
 unfold gk
 rw[aa]
 refine ma (fun h=>?_) (fun h=>?_)
 ·rw[decide_eq_true_eq]at h
  rw[jf (by omega)]
 rw[decide_eq_false_iff_not]at h
 have hn1:((n:Int)-1)=((n-1:Nat):Int):=by omega
 rw[aa,ap (by omega) (by omega),hn1]
 simp only[aa,oQ,iz,ae,wP,Mu]
 have hz:((UInt64.toNat 0:Nat):Int)=0:=rfl
 have h23:((UInt64.toNat 23:Nat):Int)=23:=rfl
 have h32:((UInt64.toNat 32:Nat):Int)=32:=rfl
 have h255:((UInt64.toNat 255:Nat):Int)=255:=rfl
 have hN:((UInt64.toNat 9221120237041090560:Nat):Int)=9221120237041090560:=rfl
 refine ma (fun g1=>?_) (fun g1=>?_)
 ·rw[jf]
  rintro⟨hv,_⟩
  refine Bp (fun ho=>?_) hv
  unfold oC at ho
  rw[hz]at g1
  simp only[Bool.or_eq_true,Bool.and_eq_true,decide_eq_true_eq,beq_iff_eq,bne_iff_ne,Bool.not_eq_true',Bool.or_eq_false_iff,beq_eq_false_iff_ne]at g1
  omega
 by_cases hb:4096<x.b.length
 ·have hbb:decide ((4096:Int)<(x.b.length:Int))=true:=decide_eq_true (by omega)
  rw[hbb,a7,ae,a7,jf]
  rintro⟨hv,_⟩
  refine Bp (fun ho=>?_) hv
  unfold oC at ho
  omega
 have hbb:decide ((4096:Int)<(x.b.length:Int))=false:=decide_eq_false (by omega)
 rw[hbb,ay,CQ (by omega),ae,iz,ae]
 refine ma (fun g2=>?_) (fun g2=>?_)
 ·rw[jf]
  rintro⟨hv,_⟩
  refine Bp (fun ho=>?_) hv
  unfold oC at ho
  simp only[Bool.and_eq_true,beq_iff_eq,Bool.not_eq_true']at g2
  rw[g2.2]at ho
  have:=g2.1
  simp only[Bool.false_eq_true,and_false,false_or,or_false]at ho
  omega
 refine ma (fun g3=>?_) (fun g3=>?_)
 ·rw[jf]
  rintro⟨hv,_⟩
  refine Bp (fun ho=>?_) hv
  unfold oC pY at ho
  rw[h23,h32,h255,hN]at g3
  simp only[Bool.or_eq_true,Bool.and_eq_true,decide_eq_true_eq,beq_iff_eq,bne_iff_ne,Bool.not_eq_true',Bool.or_eq_false_iff,beq_eq_false_iff_ne]at g3 ho
  omega
 refine ma (fun g4=>?_) (fun g4=>?_)
 ·rw[jf]
  rintro⟨hv,hcn⟩
  refine Bp (fun ho=>?_) hv
  unfold oC at ho
  simp only[Bool.or_eq_true,Bool.and_eq_true,decide_eq_true_eq,beq_iff_eq,bne_iff_ne,Bool.not_eq_true',Bool.or_eq_false_iff,beq_eq_false_iff_ne]at g4
  omega
 have hown:oC x.k x.n.toNat x.b.length x.l.length d (FW x.b=true) (pY x.n=true):=by
  rw[hz]at g1
  rw[h23,h32,h255,hN]at g3
  simp only[←Bool.not_eq_true,Bool.not_eq_true',Bool.or_eq_true,Bool.and_eq_true,decide_eq_true_eq,beq_iff_eq,bne_iff_ne]at g1 g2 g3 g4
  refine JZ (by omega) (by omega) (by omega) (by omega) (by omega) (by omega) (fun h=>?_) (by omega) (fun h=>?_) (by omega) (by omega) (by omega)
  ·cases hu:FW x.b with
   |true=>rfl
   |false=>exact absurd ⟨h,by rw[hu];simp⟩ g2
  ·unfold pY
   rw[Bool.or_eq_true,decide_eq_true_eq,decide_eq_true_eq]
   omega
 have hle:x.l.length≤n-1:=by
  simp only[←Bool.not_eq_true,Bool.or_eq_true,decide_eq_true_eq]at g4
  omega
 have hoV:uU x.k x.n x.b x.l d=true:=(th _ _ _ _ _).2 hown
 have hvx:vT x d=(vL x.l (d-1)&&(x.k != 5||jR (x.l.map aK))):=by rw[On,hoV,Bool.true_and]
 by_cases hd1:1≤d
 ·have hk:=CI rec d hd hd1 (hr hd1) x.l 0 (n-1) (by omega)
  simp only[aa]at hk
  rw[hk]
  by_cases hv:vL x.l (d-1)=true∧cV x.l≤n-1
  ·rw[if_pos hv,i6]
   have hq:=Fi x.l (d-1) (by omega) hv.1 (by omega) x.k aN (fun y hy hc=>vh hy (by omega) hc) ((n-1-cV x.l:Nat):Int)
   simp only[aa,iz,ae]at hq
   rw[hq]
   by_cases ha:(x.k != 5||jR (x.l.map aK))=true
   ·rw[if_pos ha,qy ⟨by rw[hvx,hv.1,ha];rfl,by omega⟩,show n-1-cV x.l=n-bU x by omega]
   ·rw[if_neg ha,jf]
    rintro⟨h1,_⟩
    rw[hvx,Bool.and_eq_true]at h1
    exact ha h1.2
  ·rw[if_neg hv,nj,jf]
   rintro⟨h1,h2⟩
   rw[hvx,Bool.and_eq_true]at h1
   exact hv ⟨h1.1,by omega⟩
 ·have hnil:x.l = []:=by
   unfold oC at hown
   exact List.length_eq_zero_iff.1 (by omega)
  rw[hnil]at hvx hp hpl⊢
  rw[eU,i6]
  have hq:=Fi [] 0 (by omega) (kg 0) (by rw[cN];omega) x.k aN (fun y hy hc=>vh hy (by omega) hc) ((n-1:Nat):Int)
  simp only[aa,iz,ae]at hq
  rw[hq]
  have ha:(x.k != 5||jR (([]:List Tr).map aK))=true:=by simp[jR]
  rw[cN]at hp
  rw[kg,Bool.true_and,ha]at hvx
  rw[if_pos ha,qy ⟨hvx,by omega⟩,show n-bU x=n-1 by omega]
theorem EM(j:Nat): ∀(d:Nat),d≤8→∀(x:Tr) (n:Nat),n≤256→f_ (j+d+1) x (n:Int) (8-(d:Int))=some (wc x d n)
 |0,hd,x,n,hn=>yJ _ 0 hd (fun h=>absurd h (by omega)) x n hn
 |d+1,hd,x,n,hn=>yJ _ (d+1) hd (fun _ y n hn=>EM j d (by omega) y n hn) x n hn
noncomputable def eV (x:Tr):Bool:=vT x 8&&decide (bU x≤256)&&decide ((aK x).length≤4096)
theorem lQ(x:Tr):aW x=some (eV x):=by
 have hl:eI x 256 0=some (wc x 8 256):=EM 31 8 (by omega) x 256 (by omega)
 unfold aW eV
 rw[hl,ae,aa]
 by_cases h:vT x 8=true∧bU x≤256
 ·rw[qy h,decide_eq_true (by omega),a7,vh h.1 (by omega) (by omega),ae,aa,ae,h.1,decide_eq_true h.2]
  refine congrArg some ?_
  rw[Bool.eq_iff_iff,decide_eq_true_eq,Bool.true_and,Bool.true_and,decide_eq_true_eq]
  omega
 ·rw[jf h,show decide ((0:Int)≤ -1)=false from rfl,ay,ae]
  refine congrArg some ?_
  cases hv:vT x 8 with
  |false=>rfl
  |true=>
   rw[decide_eq_false (fun hc=>h ⟨hv,hc⟩)];rfl
theorem ie{α:Type}(l:List α):((l.length:Int)==0)=l.isEmpty:=by cases l<;>simp;omega
theorem nz(n:UInt64):(((UInt64.toNat n:Nat):Int)==((UInt64.toNat 0:Nat):Int))=(n.toNat==0):=by
 rw[Bool.eq_iff_iff,beq_iff_eq,beq_iff_eq];exact Int.natCast_inj
theorem L3(a b:Bool):cond a (some (b,true)) (some (false,true))=some (a&&b,true):=by cases a<;>rfl
theorem Kq(a b:Bool):cond a (some (true,true)) (some (b,true))=some (a||b,true):=by cases a<;>rfl
def iE(k:Int):Bool:=k==0||k==1||k==2||k==3||k==7||k==8
theorem NV(n:UInt64):feq n n=decide (n.toNat%9223372036854775808≤9218868437227405312):=sX n
theorem Jg(x:Tr)(hb:x.b.length≤4096):lD x=some (rj x.k x.n x.b x.l,iE x.k):=by
 have hu:=CQ (b:=x.b) (by omega)
 have hN:(((UInt64.toNat x.n:Nat):Int)==((UInt64.toNat 9221120237041090560:Nat):Int))=decide (x.n.toNat=9221120237041090560):=by
  rw[Bool.eq_iff_iff,beq_iff_eq,decide_eq_true_eq];exact Int.natCast_inj
 have h24:decide (((UInt64.toNat x.n:Nat):Int)<((UInt64.toNat 24:Nat):Int))=decide (x.n.toNat<24):=dC _ 24
 have h32:decide (((UInt64.toNat 32:Nat):Int)≤((UInt64.toNat x.n:Nat):Int))=decide (32≤x.n.toNat):=p_ 32 _
 have h256:decide (((UInt64.toNat x.n:Nat):Int)<((UInt64.toNat 256:Nat):Int))=decide (x.n.toNat<256):=dC _ 256
 unfold lD rj iE
 simp only[aa,oQ,ae,hu,ie,nz,NV,hN,h24,h32,h256,L3,Kq]
 have hbd:decide (x.b.length≤4096)=true:=decide_eq_true hb
 rw[hbd]
 by_cases c0:(x.k==0||x.k==1)=true
 ·rw[c0,a7,cond_true];rfl
 rw[Bool.not_eq_true]at c0
 rw[c0,ay,cond_false,Bool.false_or]
 by_cases c2:(x.k==2)=true
 ·rw[c2,a7,cond_true,Bool.and_true];rfl
 rw[Bool.not_eq_true]at c2
 rw[c2,ay,cond_false,Bool.false_or]
 by_cases c3:(x.k==3)=true
 ·rw[c3,a7,cond_true,Bool.and_true,Bool.and_assoc];rfl
 rw[Bool.not_eq_true]at c3
 rw[c3,ay,cond_false,Bool.false_or]
 by_cases c7:(x.k==7)=true
 ·rw[c7,a7,cond_true,Bool.and_assoc];rfl
 rw[Bool.not_eq_true]at c7
 rw[c7,ay,cond_false,Bool.false_or]
 by_cases c8:(x.k==8)=true
 ·rw[c8,a7,cond_true,Bool.and_assoc];rfl
 rw[Bool.not_eq_true]at c8
 rw[c8,ay,cond_false]
theorem Fm{k:Int}{n:UInt64}{b:List UInt8}{l:List Tr}{d:Nat}{u q:Prop}(h:oC k n.toNat b.length l.length d u q)(hl:l.length≤1000000)(hk : ¬k=8)(h7 : ¬k=7):
  ∃p,iJ (.mk k n b l)=some p∧∃e,bJ p.1 p.2=some e∧e.length+b.length=(fg k n b l.length).length:=by
 rcases h with⟨hk,hb,_⟩ | ⟨rfl,hn,hb⟩ | ⟨rfl,hn,hb⟩ | ⟨rfl,hb,_⟩ | ⟨rfl,hb,_⟩ | ⟨rfl,hn,hb,_⟩ | ⟨rfl,hn,hb,_⟩ | ⟨rfl,hb,_⟩
 ·rcases hk with rfl |rfl
  ·exact⟨(0,n),rfl,_,c0 n,by rw[own0];omega⟩
  ·exact⟨(1,n),rfl,_,c1 n,by rw[L1];omega⟩
 ·exact⟨(2,UInt64.ofNat b.length),(show some (ar 2,aC (b.length:Int))=_ by rw[bC];rfl),_,c2 _,by rw[LA,List.length_append]⟩
 ·exact⟨(3,UInt64.ofNat b.length),(show some (ar 3,aC (b.length:Int))=_ by rw[bC];rfl),_,c3 _,by rw[LJ,List.length_append]⟩
 ·exact absurd rfl h7
 ·exact absurd rfl hk
 ·exact⟨(4,UInt64.ofNat l.length),(show some (4,aC (l.length:Int))=_ by rw[bC]),hd 4 (UInt64.ofNat l.length),c4 _,by rw[O0];omega⟩
 ·exact⟨(5,UInt64.ofNat (l.length/2)),(show bnd (quo (l.length:Int) 2) (fun x9=>some (5,aC x9))=_ by rw[KL hl,ae,bC]),hd 5 (UInt64.ofNat (l.length/2)),c5 _,by rw[OD];omega⟩
 ·exact⟨(6,n),rfl,_,c6 n,by rw[OH];omega⟩
theorem A8(x:Tr)(d i s:Nat){u q:Prop}(h:oC x.k x.n.toNat x.b.length x.l.length d u q)(hl:x.l.length≤256)(hb:x.b.length≤4096)(hs:s≤4096):
  de ((i:Int),(s:Int)) x=some (decide (s+(fg x.k x.n x.b x.l.length).length≤4096),((i:Int),((s+(fg x.k x.n x.b x.l.length).length:Nat):Int))):=by
 have fin : ∀m:Nat,letm (decide ((((i:Int),((s+m:Nat):Int)):aA).2≤4096)) (fun x14=>some (x14,(((i:Int),((s+m:Nat):Int)):aA)))=some (decide (s+m≤4096),((i:Int),((s+m:Nat):Int))):=by
  intro m
  rw[aa]
  show some (decide (((s+m:Nat):Int)≤4096),_)=_
  rw[show decide (((s+m:Nat):Int)≤4096)=decide (s+m≤4096)from p_ _ 4096]
 unfold de
 by_cases h8:x.k=8
 ·have hf:=JE x.n
  have e:fg x.k x.n x.b x.l.length=fE x.n:=by rw[h8,C9]
  rw[e]
  refine ac (y:=((i:Int),((s+(fE x.n).length:Nat):Int))) ?_ (fin _)
  rw[aa,show(x.k==8)=true by rw[h8];rfl,a7,rP,ae,aa]
  show some ((i:Int),aF ((s:Int)+((fE x.n).length:Int)))=_
  rw[ap (by omega) (by omega)]
  rfl
 have k8:(x.k==8)=false:=by rw[←Bool.not_eq_true,beq_iff_eq];exact h8
 by_cases h7:x.k=7
 ·by_cases c:24≤x.n.toNat
  ·have e:fg x.k x.n x.b x.l.length = [248,UInt8.ofNat x.n.toNat]:=by rw[h7,IY c]
   rw[e]
   refine ac (y:=((i:Int),((s+2:Nat):Int))) ?_ (fin 2)
   rw[aa,k8,ay,aa,show(x.k==7)=true by rw[h7];rfl,a7,aa,aa,show decide (((UInt64.toNat 24:Nat):Int)≤((UInt64.toNat x.n:Nat):Int))=decide (24≤x.n.toNat)from p_ 24 _,decide_eq_true c,a7,aa]
   show some ((i:Int),aF (aF ((s:Int)+1)+1))=_
   rw[ap (x:=(s:Int)+1) (by omega) (by omega),ap (by omega) (by omega)]
   refine congrArg some (Prod.ext rfl ?_)
   show(s:Int)+1+1=((s+2:Nat):Int)
   omega
  ·have e:fg x.k x.n x.b x.l.length = [UInt8.ofNat (32*7+x.n.toNat)]:=by rw[h7,Ky (by omega)];unfold hd;rw[if_pos (by omega)]
   rw[e]
   refine ac (y:=((i:Int),((s+1:Nat):Int))) ?_ (fin 1)
   rw[aa,k8,ay,aa,show(x.k==7)=true by rw[h7];rfl,a7,aa,aa,show decide (((UInt64.toNat 24:Nat):Int)≤((UInt64.toNat x.n:Nat):Int))=decide (24≤x.n.toNat)from p_ 24 _,decide_eq_false c,ay]
   show some ((i:Int),aF ((s:Int)+1))=_
   rw[ap (by omega) (by omega)]
   rfl
 have k7:(x.k==7)=false:=by rw[←Bool.not_eq_true,beq_iff_eq];exact h7
 obtain⟨k,n,b,l⟩:=x
 obtain⟨p,hp,e,he,hlen⟩:=Fm h (Nat.le_trans hl (by omega)) h8 h7
 have hol:=(cM k n b l.length).2
 have hl2:b.length≤4096:=hb
 have hlen:e.length+b.length=(fg k n b l.length).length:=hlen
 show bnd _ _=some (decide (s+(fg k n b l.length).length≤4096),((i:Int),((s+(fg k n b l.length).length:Nat):Int)))
 refine ac (y:=((i:Int),((s+(fg k n b l.length).length:Nat):Int))) ?_ (fin _)
 rw[aa,k8,ay,aa,k7,ay]
 refine ac hp (ac he ?_)
 rw[aa,aa]
 show some ((i:Int),aF ((s:Int)+aF ((e.length:Int)+(b.length:Int))))=_
 rw[ap (x:=(e.length:Int)+(b.length:Int)) (by omega) (by omega),ap (by omega) (by omega)]
 refine congrArg some (Prod.ext rfl ?_)
 show(s:Int)+((e.length:Int)+(b.length:Int))=((s+(fg k n b l.length).length:Nat):Int)
 omega
def R6(x:Tr)(d i s:Nat):Prop:=vT x d=true∧i+bU x≤256∧s+(aK x).length≤4096
theorem ue(x:Tr):aK x=fg x.k x.n x.b x.l.length++cU x.l:=by
 obtain⟨k,n,b,l⟩:=x
 exact fM k n b l
theorem Bf(x:Tr):1≤(fg x.k x.n x.b x.l.length).length:=(cM _ _ _ _).1
def u_(x:Tr)(d i s:Nat)(r:Option (Bool×aA)):Prop:=
 (R6 x d i s∧r=some (true,(((i+bU x:Nat):Int),((s+(aK x).length:Nat):Int))))∨(¬R6 x d i s∧∃c',r=some (false,c'))
theorem yB(rec:aA→Tr→Int→Option (Bool×aA))(d:Nat)(hd:d≤8)(hd1:1≤d)(hr : ∀y i s,i≤256→s≤4096→u_ y (d-1) i s (rec ((i:Int),(s:Int)) y (8-((d-1:Nat):Int))))(bn:Nat→aA→Option (Bool×aA)): ∀(l:List Tr) (k i s:Nat),i≤256→s≤4096→
  ((vL l (d-1)=true∧i+cV l≤256∧s+(cU l).length≤4096)∧a6 (R:=(Bool×aA)) (S:=aA) (α:=Go.Gk.Tr) bn (fun x42 k43 s44 self45=>
   letm ((aF (8-(d:Int)+1))) fun x46=>
   bnd (rec s44 x42 x46) fun x47=>
   letm ((!x47.1)) fun x48=>
   cond x48 (some (false,x47.2))
    (self45 x47.2)) l k ((i:Int),(s:Int))=bn (k+l.length) (((i+cV l:Nat):Int),((s+(cU l).length:Nat):Int)))∨
  (¬(vL l (d-1)=true∧i+cV l≤256∧s+(cU l).length≤4096)∧∃c',a6 (R:=(Bool×aA)) (S:=aA) (α:=Go.Gk.Tr) bn (fun x42 k43 s44 self45=>
   letm ((aF (8-(d:Int)+1))) fun x46=>
   bnd (rec s44 x42 x46) fun x47=>
   letm ((!x47.1)) fun x48=>
   cond x48 (some (false,x47.2))
    (self45 x47.2)) l k ((i:Int),(s:Int))=some (false,c'))
 | [],k,i,s,hi,hs=>by
  refine .inl ⟨⟨kg _,by rw[cN];omega,by rw[bB];simpa using hs⟩,?_⟩
  rw[eU,cN,bB];rfl
 |x::l,k,i,s,hi,hs=>by
  rw[bj,aa,ap (by omega) (by omega),show(8:Int)-(d:Int)+1=8-((d-1:Nat):Int) by omega,fk,bf,aX,List.length_append]
  rcases hr x i s hi hs with⟨⟨h1,h2,h3⟩,e⟩ | ⟨hno,c',e⟩
  ·rw[e,ae,aa,show(!true)=false from rfl,ay,h1,Bool.true_and]
   have ih:=yB rec d hd hd1 hr bn l (k+1) (i+bU x) (s+(aK x).length) h2 h3
   rw[ap (by omega) (by omega),show(8:Int)-(d:Int)+1=8-((d-1:Nat):Int) by omega]at ih
   rw[show i+(bU x+cV l)=i+bU x+cV l by omega,show s+((aK x).length+(cU l).length)=s+(aK x).length+(cU l).length by omega,show k+(x::l).length=k+1+l.length by rw[List.length_cons];omega]
   exact ih
  ·refine .inr ⟨?_,c',?_⟩
   ·rintro⟨h1,h2,h3⟩
    rw[Bool.and_eq_true]at h1
    exact hno ⟨h1.1,by omega,by omega⟩
   ·rw[e,ae,aa];rfl
theorem BI(rec:aA→Tr→Int→Option (Bool×aA))(d:Nat)(hd:d≤8)(hr:1≤d→∀y i s,i≤256→s≤4096→u_ y (d-1) i s (rec ((i:Int),(s:Int)) y (8-((d-1:Nat):Int))))(x:Tr)(i s:Nat)(hi:i≤256)(hs:s≤4096):
  u_ x d i s (gg rec ((i:Int),(s:Int)) x (8-(d:Int))):=by
 have hp:=pF x
 have hpl:=cW x.l
 have hen:=ue x
 have no : ∀c',¬R6 x d i s→u_ x d i s (some (false,c')):=fun c' h=>.inr ⟨h,c',rfl⟩
 unfold gg
 rw[aa,ap (x:=(i:Int)+1) (by omega) (by omega)]
 simp only[aa,oQ,iz,ae,Mu]
 have split : ∀{c:Bool} {p q:Option (Bool×aA)},(c=true→u_ x d i s p)→(c=false→u_ x d i s q)→u_ x d i s (cond c p q):=fun{c p q} h1 h2=>by
  cases c with
  |true=>exact h1 rfl
  |false=>exact h2 rfl
 refine split (fun g1=>?_) (fun g1=>?_)
 ·refine no _ (fun h=>?_)
  simp only[Bool.or_eq_true,decide_eq_true_eq]at g1
  have:=h.2.1
  have h2:x.b.length≤4096:=by
   have hv:=h.1
   obtain⟨k,n,b,l⟩:=x
   exact mA hv
  omega
 simp only[Bool.or_eq_false_iff,decide_eq_false_iff_not]at g1
 rw[Jg x (by omega),ae,show(i:Int)+1=((i+1:Nat):Int) by omega]
 have hvx:=On x d
 refine split (fun hlf=>?_) (fun hlf=>?_)
 ·have hlf:iE x.k=true:=hlf
  have hk:x.k=0∨x.k=1∨x.k=2∨x.k=3∨x.k=7∨x.k=8:=by
   unfold iE at hlf
   simp only[Bool.or_eq_true,beq_iff_eq]at hlf
   omega
  cases hlv:rj x.k x.n x.b x.l with
  |false=>
   show u_ x d i s (some (false,_))
   refine no _ (fun h=>?_)
   have hv:=h.1
   rw[hvx,Bool.and_eq_true,Bool.and_eq_true]at hv
   have ho:=hv.1.1
   unfold uU A7 at ho
   rw[hlv,Bool.false_or]at ho
   simp only[Bool.and_eq_true,Bool.or_eq_true,beq_iff_eq]at ho
   omega
  |true=>
   have hoV:uU x.k x.n x.b x.l d=true:=by unfold uU;rw[hlv];rfl
   have hown:=(th _ _ _ _ _).1 hoV
   have hnil:x.l = []:=by
    have:=hown
    unfold oC at this
    exact List.length_eq_zero_iff.1 (by omega)
   have hv:vT x d=true:=by rw[hvx,hoV,hnil,kg];simp[jR]
   have hsp:=A8 x d (i+1) s hown (by omega) (by omega) hs
   show u_ x d i s (bnd (bnd (de (((i+1:Nat):Int),(s:Int)) x) fun x9=>some (x9.1,x9.2)) fun v10=>some (v10.1,v10.2))
   rw[hsp,ae,ae]
   rw[hnil,bB,List.append_nil]at hen
   rw[hnil,cN]at hp
   rw[hnil]at hsp⊢
   by_cases c:s+(fg x.k x.n x.b ([]:List Tr).length).length≤4096
   ·refine .inl ⟨⟨hv,by omega,by rw[hen];exact c⟩,?_⟩
    rw[decide_eq_true c,hen,hp]
   ·refine .inr ⟨fun h=>c ?_,(((i+1:Nat):Int),((s+(fg x.k x.n x.b ([]:List Tr).length).length:Nat):Int)),?_⟩
    ·have:=h.2.2;rw[hen]at this;exact this
    ·rw[decide_eq_false c]
 have hlf:iE x.k=false:=hlf
 have hnl : ¬(x.k=0∨x.k=1∨x.k=2∨x.k=3∨x.k=7∨x.k=8):=by
  unfold iE at hlf
  simp only[Bool.or_eq_false_iff,beq_eq_false_iff_ne]at hlf
  omega
 have ofv:vT x d=true→oC x.k x.n.toNat x.b.length x.l.length d (FW x.b=true) (pY x.n=true):=by
  intro h
  rw[hvx,Bool.and_eq_true,Bool.and_eq_true]at h
  exact(th _ _ _ _ _).1 h.1.1
 refine split (fun g2=>?_) (fun g2=>?_)
 ·refine no _ (fun h=>?_)
  have ho:=ofv h.1
  unfold oC at ho
  simp only[Bool.or_eq_true,decide_eq_true_eq]at g2
  omega
 simp only[Bool.or_eq_false_iff,decide_eq_false_iff_not]at g2
 have hz:((UInt64.toNat 0:Nat):Int)=0:=rfl
 have e3:(bif x.k==6 then
      bif (x.l.length:Int) != 1 then some true
      else
       bif x.k != 6 then some ((x.n.toNat:Int) != ((UInt64.toNat 0:Nat):Int)||x.k==5&&((x.l.length%2:Nat):Int)==1)
       else some (x.k==5&&((x.l.length%2:Nat):Int)==1)
     else
      bif x.k != 6 then some ((x.n.toNat:Int) != ((UInt64.toNat 0:Nat):Int)||x.k==5&&((x.l.length%2:Nat):Int)==1)
      else some (x.k==5&&((x.l.length%2:Nat):Int)==1))=some (decide (x.k=6∧x.l.length≠1∨x.k≠6∧x.n.toNat≠0∨x.k=5∧x.l.length%2=1)):=by
  by_cases c6:x.k=6
  ·rw[show(x.k==6)=true by rw[c6];rfl,show(x.k != 6)=false by rw[c6];rfl,show(x.k==5)=false by rw[c6];rfl,a7,ay,Bool.false_and]
   by_cases c1:x.l.length=1
   ·rw[show((x.l.length:Int) != 1)=false by rw[c1];rfl,ay,decide_eq_false (by omega)]
   ·rw[show((x.l.length:Int) != 1)=true by rw[bne_iff_ne];omega,a7,decide_eq_true (by omega)]
  ·rw[show(x.k==6)=false by rw[←Bool.not_eq_true,beq_iff_eq];exact c6,show(x.k != 6)=true by rw[bne_iff_ne];exact c6,ay,a7]
   refine congrArg some ?_
   rw[hz,Bool.eq_iff_iff,decide_eq_true_eq]
   simp only[Bool.or_eq_true,Bool.and_eq_true,bne_iff_ne,beq_iff_eq]
   omega
 rw[e3,ae]
 refine split (fun g3=>?_) (fun g3=>?_)
 ·refine no _ (fun h=>?_)
  have ho:=ofv h.1
  unfold oC at ho
  rw[decide_eq_true_eq]at g3
  omega
 rw[decide_eq_false_iff_not]at g3
 have hown:oC x.k x.n.toNat x.b.length x.l.length d (FW x.b=true) (pY x.n=true):=JZ (by omega) (by omega) (by omega) (by omega) (by omega) (by omega) (by omega) (by omega) (by omega) (by omega) (by omega) (by omega)
 have hoV:uU x.k x.n x.b x.l d=true:=(th _ _ _ _ _).2 hown
 rw[hoV,Bool.true_and]at hvx
 rw[A8 x d (i+1) s hown (by omega) (by omega) hs,ae]
 have hlen:(aK x).length=(fg x.k x.n x.b x.l.length).length+(cU x.l).length:=by rw[hen,List.length_append]
 by_cases c:s+(fg x.k x.n x.b x.l.length).length≤4096
 ·rw[decide_eq_true c,show(!(true,(((i+1:Nat):Int),((s+(fg x.k x.n x.b x.l.length).length:Nat):Int))).1)=false from rfl,ay]
  have hd1:1≤d:=by omega
  by_cases ci:i+1≤256
  ·have hk:=yB rec d hd hd1 (hr hd1) (fun x_1 s38=>bnd (bif x.k != 5 then some true else bnd (gz x.l) fun x6=>some x6) fun v41=>some (v41,s38)) x.l 0 (i+1) (s+(fg x.k x.n x.b x.l.length).length) ci c
   simp only[aa]at hk
   rcases hk with⟨⟨k1,k2,k3⟩,e⟩ | ⟨hno,c',e⟩
   ·rw[e]
    have hasc:(bif x.k != 5 then some true else bnd (gz x.l) fun x6=>some x6)=some (x.k != 5||jR (x.l.map aK)):=by
     rw[Jc x.l (d-1) (by omega) k1 (by omega),ae,oQ]
    rw[hasc,ae]
    rw[k1,Bool.true_and]at hvx
    cases ha:(x.k != 5||jR (x.l.map aK))with
    |true=>
     rw[ha]at hvx
     refine .inl ⟨⟨hvx,by omega,by omega⟩,?_⟩
     rw[hlen,hp,show i+1+cV x.l=i+(1+cV x.l) by omega,show s+(fg x.k x.n x.b x.l.length).length+(cU x.l).length=s+((fg x.k x.n x.b x.l.length).length+(cU x.l).length) by omega]
    |false=>
     rw[ha]at hvx
     exact .inr ⟨(fun h=>Bool.noConfusion (hvx.symm.trans h.1)),_,rfl⟩
   ·rw[e]
    refine no _ (fun h=>hno ?_)
    have h1:=h.1
    rw[hvx,Bool.and_eq_true]at h1
    have h2:=h.2.1
    have h3:=h.2.2
    exact⟨h1.1,by omega,by omega⟩
  ·omega
 ·rw[decide_eq_false c]
  show u_ x d i s (some (false,_))
  refine no _ (fun h=>c ?_)
  have:=h.2.2
  omega
theorem J6(j:Nat): ∀(d:Nat),d≤8→∀(x:Tr) (i s:Nat),i≤256→s≤4096→u_ x d i s (gc (j+d+1) ((i:Int),(s:Int)) x (8-(d:Int)))
 |0,hd,x,i,s,hi,hs=>BI _ 0 hd (fun h=>absurd h (by omega)) x i s hi hs
 |d+1,hd,x,i,s,hi,hs=>BI _ (d+1) hd (fun _ y i s hi hs=>J6 j d (by omega) y i s hi hs) x i s hi hs
theorem ko(x:Tr):bX x=some (eV x):=by
 have h:u_ x 8 0 0 (eH (0,0) x 0):=J6 31 8 (by omega) x 0 0 (by omega) (by omega)
 unfold bX eV
 rcases h with⟨⟨h1,h2,h3⟩,e⟩ | ⟨hno,c',e⟩
 ·rw[e,ae,h1,decide_eq_true (by omega),decide_eq_true (by omega)];rfl
 ·rw[e,ae]
  refine congrArg some ?_
  show false=_
  cases hv:vT x 8 with
  |false=>rfl
  |true=>
   by_cases hc:bU x≤256
   ·rw[decide_eq_true hc,decide_eq_false (fun hs=>hno ⟨hv,by omega,by omega⟩)];rfl
   ·rw[decide_eq_false hc];rfl
end Go.Proofs.YthejfljhiaeoeaaGreatDoor
