/- A part of the proof of TopKeys. No condition. -/
import Derived.Test.YtiilbonamnegaaaGreatDoorZf
import Derived.Test.YtiilbonamnegaaaGreatDoorZv
namespace Go.Proofs.YtiilbonamnegaaaGreatDoor
open Go.Gk Go.RowKit
open Go.Gk Go.RowKit Go Ieee
theorem rb(a:UInt64):(BitVec.ofInt 64 (a.toNat:Int)).toNat=a.toNat:=by
 rw[BitVec.ofInt_natCast,BitVec.toNat_ofNat];exact Nat.mod_eq_of_lt a.toNat_lt
theorem gU{n:Nat}(h:n<18446744073709551616):(aB (n:Int)).toNat=n:=by
 unfold aB
 rw[UInt64.toNat_ofNat']
 omega
theorem bJ(n:Nat):aB (n:Int)=UInt64.ofNat n:=by
 apply UInt64.toNat_inj.1
 unfold aB
 simp only[UInt64.toNat_ofNat']
 omega
theorem Oy(a b:UInt64):(aS .and .u64 a b:UInt64)=UInt64.ofNat (a.toNat &&& b.toNat):=by
 show aB (IntKind.u64.wrap (((BitVec.ofInt 64 (a.toNat:Int) &&& BitVec.ofInt 64 (b.toNat:Int)).toNat:Nat):Int))=_
 rw[BitVec.toNat_and,rb,rb,lu]
 have:a.toNat &&& b.toNat<18446744073709551616:=Nat.lt_of_le_of_lt Nat.and_le_left a.toNat_lt
 rw[gU this,bJ]
theorem Mn(a b:UInt64):(aS .or .u64 a b:UInt64)=UInt64.ofNat (a.toNat ||| b.toNat):=by
 show aB (IntKind.u64.wrap (((BitVec.ofInt 64 (a.toNat:Int) ||| BitVec.ofInt 64 (b.toNat:Int)).toNat:Nat):Int))=_
 rw[BitVec.toNat_or,rb,rb,lu]
 have:a.toNat ||| b.toNat<2^64:=Nat.or_lt_two_pow a.toNat_lt b.toNat_lt
 rw[gU this,bJ]
theorem aV{n:Nat}(h:n<18446744073709551616):(UInt64.ofNat n).toNat=n:=by rw[UInt64.toNat_ofNat'];omega
theorem wc(a:UInt64)(k:Nat)(m:UInt64)(hm:m.toNat=2^k-1):(aS .and .u64 a m:UInt64)=UInt64.ofNat (a.toNat%2^k):=by
 rw[Oy,hm,Nat.and_two_pow_sub_one_eq_mod]
theorem oF(a b:UInt64)(k c:Nat)(ha:a.toNat=2^k*c)(hb:b.toNat<2^k):(aS .or .u64 a b:UInt64)=UInt64.ofNat (a.toNat+b.toNat):=by
 rw[Mn,ha,←Nat.two_pow_add_eq_or_of_lt hb]
theorem o9(x:UInt64)(k:Nat)(hk:k≤64): @Eq (Option UInt64) (cg .u64 x (k:Int)) (some (UInt64.ofNat (x.toNat/2^k))):=by
 show oA x (k:Int)=_
 unfold oA
 rw[if_neg (by omega),show min ((k:Int).toNat) 64=k by omega]
theorem GP(x:UInt64)(k:Nat)(hk:k≤64): @Eq (Option UInt64) (dO .u64 x (k:Int)) (some (UInt64.ofNat (x.toNat*2^k%18446744073709551616))):=by
 show(if(k:Int)<0 then none else some (fX .u64 (cO .u64 x*2^min (k:Int).toNat 64)))=_
 rw[if_neg (by omega),show min ((k:Int).toNat) 64=k by omega]
 show some (aB ((x.toNat:Int)*2^k))=_
 rw[show((x.toNat:Int)*2^k)=((x.toNat*2^k:Nat):Int) by push_cast;rfl,bJ]
 refine congrArg some (UInt64.toNat_inj.1 ?_)
 rw[UInt64.toNat_ofNat',UInt64.toNat_ofNat']
 omega
theorem wd(a:UInt32):(BitVec.ofInt 32 (a.toNat:Int)).toNat=a.toNat:=by
 rw[BitVec.ofInt_natCast,BitVec.toNat_ofNat];exact Nat.mod_eq_of_lt a.toNat_lt
theorem jX(n:Nat):aq (n:Int)=UInt32.ofNat n:=by
 apply UInt32.toNat_inj.1
 unfold aq
 simp only[UInt32.toNat_ofNat']
 omega
theorem kK{n:Nat}(h:n<4294967296):(UInt32.ofNat n).toNat=n:=by rw[UInt32.toNat_ofNat'];omega
theorem QL(a b:UInt32):(aS .and .u32 a b:UInt32)=UInt32.ofNat (a.toNat &&& b.toNat):=by
 show aq (IntKind.u32.wrap (((BitVec.ofInt 32 (a.toNat:Int) &&& BitVec.ofInt 32 (b.toNat:Int)).toNat:Nat):Int))=_
 have:a.toNat &&& b.toNat<4294967296:=Nat.lt_of_le_of_lt Nat.and_le_left a.toNat_lt
 rw[BitVec.toNat_and,wd,wd,wrap_u32,jX,jX,kK this]
theorem SG(a b:UInt32):(aS .or .u32 a b:UInt32)=UInt32.ofNat (a.toNat ||| b.toNat):=by
 show aq (IntKind.u32.wrap (((BitVec.ofInt 32 (a.toNat:Int) ||| BitVec.ofInt 32 (b.toNat:Int)).toNat:Nat):Int))=_
 have:a.toNat ||| b.toNat<2^32:=Nat.or_lt_two_pow a.toNat_lt b.toNat_lt
 rw[BitVec.toNat_or,wd,wd,wrap_u32,jX,jX,kK this]
theorem rj(a:UInt32)(k:Nat)(m:UInt32)(hm:m.toNat=2^k-1):(aS .and .u32 a m:UInt32)=UInt32.ofNat (a.toNat%2^k):=by
 rw[QL,hm,Nat.and_two_pow_sub_one_eq_mod]
theorem MY(x:UInt32)(k:Nat)(hk:k≤32): @Eq (Option UInt32) (cg .u32 x (k:Int)) (some (UInt32.ofNat (x.toNat/2^k))):=by
 show(if(k:Int)<0 then none else some (aq ((UInt32.toNat x:Int)/2^min (k:Int).toNat 32)))=_
 rw[if_neg (by omega),show min ((k:Int).toNat) 32=k by omega]
 rw[show((x.toNat:Int)/2^k)=((x.toNat/2^k:Nat):Int) by push_cast;rfl,jX]
theorem R5(x:UInt32)(k:Nat)(hk:k≤32): @Eq (Option UInt32) (dO .u32 x (k:Int)) (some (UInt32.ofNat (x.toNat*2^k%4294967296))):=by
 show(if(k:Int)<0 then none else some (fX .u32 (cO .u32 x*2^min (k:Int).toNat 32)))=_
 rw[if_neg (by omega),show min ((k:Int).toNat) 32=k by omega]
 show some (aq ((x.toNat:Int)*2^k))=_
 rw[show((x.toNat:Int)*2^k)=((x.toNat*2^k:Nat):Int) by push_cast;rfl,jX]
 refine congrArg some (UInt32.toNat_inj.1 ?_)
 rw[UInt32.toNat_ofNat',UInt32.toNat_ofNat']
 omega
theorem SD{a b:Nat}(ha:a<65536)(hb:b<65536):(aS .or .u16 (a:Int) (b:Int):Int)=((a ||| b:Nat):Int):=by
 have hx:a ||| b<2^16:=Nat.or_lt_two_pow (by omega) (by omega)
 have h1:(BitVec.ofInt 16 (a:Int)).toNat=a:=by
  rw[BitVec.ofInt_natCast,BitVec.toNat_ofNat];exact Nat.mod_eq_of_lt (by omega)
 have h2:(BitVec.ofInt 16 (b:Int)).toNat=b:=by
  rw[BitVec.ofInt_natCast,BitVec.toNat_ofNat];exact Nat.mod_eq_of_lt (by omega)
 show IntKind.u16.wrap (((BitVec.ofInt 16 (a:Int) ||| BitVec.ofInt 16 (b:Int)).toNat:Nat):Int)=_
 rw[BitVec.toNat_or,h1,h2]
 unfold IntKind.wrap
 simp only[show IntKind.u16.signed=false from rfl,IntKind.bits]
 simp
 omega
def cq(n:Nat):Nat:=n/4503599627370496%2048
def io(n:Nat):Nat:=n%4503599627370496
def d9(n:Nat):Nat:=
 if cq n=2047 then n/9223372036854775808*2147483648+2139095040 else if cq n=0 then n/9223372036854775808*2147483648
 else if 1151≤cq n then 0 else if 896<cq n then n/9223372036854775808*2147483648+(cq n-896)*8388608+io n/536870912
 else if cq n<874 then 0 else n/9223372036854775808*2147483648+(io n+4503599627370496)/2^(926-cq n)
def li(n:Nat):Bool:=
 if cq n=2047 then decide (io n=0)else if cq n=0 then decide (io n=0)
 else if 1151≤cq n then false else if 896<cq n then decide (io n%536870912=0)
 else if cq n<874 then false else decide ((io n+4503599627370496)%2^(926-cq n)=0)
theorem Kj(n:UInt64):aA (UInt64.toNat (aS .and .u64 (UInt64.ofNat (n.toNat/2^52)) (2047:UInt64):UInt64):Int)=(cq n.toNat:Int):=by
 have h:=n.toNat_lt
 rw[wc _ 11 _ rfl,aV (n:=n.toNat/2^52) (by omega),aV (by omega),an (by omega) (by omega)]
 unfold cq
 omega
theorem Eh(n:UInt64):(aS .and .u64 n (4503599627370495:UInt64):UInt64)=UInt64.ofNat (io n.toNat):=wc _ 52 _ rfl
theorem mu(n:Nat):io n<4503599627370496:=Nat.mod_lt _ (by omega)
theorem o5(n:Nat):cq n<2048:=Nat.mod_lt _ (by omega)
theorem HO(n:Nat):(UInt64.ofNat (io n)).toNat=io n:=aV (by have:=mu n;omega)
theorem Sf(n:Nat):(((UInt64.toNat (UInt64.ofNat (io n)):Nat):Int)==((UInt64.toNat 0:Nat):Int))=decide (io n=0):=by
 rw[HO,Bool.eq_iff_iff,beq_iff_eq,decide_eq_true_eq]
 exact Int.natCast_inj
theorem Fy(n:Nat):(aS .or .u64 (UInt64.ofNat (io n)) (4503599627370496:UInt64):UInt64)=UInt64.ofNat (io n+4503599627370496):=by
 have h:=mu n
 rw[Mn,HO,Nat.or_comm]
 show UInt64.ofNat (4503599627370496 ||| io n)=_
 have:=Nat.two_pow_add_eq_or_of_lt (i:=52) (b:=io n) (by omega) 1
 rw[show(2:Nat)^52*1=4503599627370496 from rfl]at this
 rw[←this,Nat.add_comm]
theorem we(x:UInt64)(k:Nat)(hk:k<64): ∃y:UInt64,@Eq (Option UInt64) (dO .u64 (1:UInt64) (k:Int)) (some y)∧∀z:UInt64,z=y-1→(aS .and .u64 x z:UInt64)=UInt64.ofNat (x.toNat%2^k):=by
 have hp:2^k<18446744073709551616:=by
  have:=Nat.pow_lt_pow_right (a:=2) (by omega) hk
  simpa using this
 refine⟨_,GP 1 k (by omega),fun z hz=>?_⟩
 subst hz
 apply wc
 have h1:(1:UInt64).toNat=1:=rfl
 rw[h1,Nat.one_mul,Nat.mod_eq_of_lt hp]
 have h0:0<2^k:=Nat.two_pow_pos k
 have h2:=UInt64.toNat_sub_of_le (UInt64.ofNat (2^k)) 1 (by rw[UInt64.le_iff_toNat_le,aV hp];exact h0)
 rw[aV hp]at h2
 exact h2
theorem bz(x:Nat)(h:x<18446744073709551616):(((UInt64.toNat (UInt64.ofNat x):Nat):Int)==((UInt64.toNat 0:Nat):Int))=decide (x=0):=by
 rw[aV h,Bool.eq_iff_iff,beq_iff_eq,decide_eq_true_eq]
 exact Int.natCast_inj
theorem FB(n:UInt64)(k:Nat)(hk:k≤32): @Eq (Option UInt64) (dO .u64 (UInt64.ofNat (n.toNat/2^63)) (k:Int)) (some (UInt64.ofNat (n.toNat/9223372036854775808*2^k))):=by
 have h:=n.toNat_lt
 have h2:n.toNat/9223372036854775808*2^k≤1*2^32:=Nat.mul_le_mul (by omega) (Nat.pow_le_pow_right (by omega) hk)
 rw[GP _ k (by omega),aV (by omega)]
 exact congrArg (fun z=>some (UInt64.ofNat z)) (Nat.mod_eq_of_lt (Nat.lt_of_le_of_lt h2 (by omega)))
theorem S7(n:UInt64):cS n 8 23=some (UInt64.ofNat (d9 n.toNat),li n.toNat):=by
 have hn:=n.toNat_lt
 have hm:=mu n.toNat
 have he:=o5 n.toNat
 unfold cS
 refine ac (o9 n 63 (by omega)) ?_
 rw[ab,ab,show aB (aA (8+23))=31 from by kernel_rfl]
 refine ac (FB n 31 (by omega)) ?_
 refine ac (o9 n 52 (by omega)) ?_
 rw[ab,ab,Kj,ab,Eh,ab]
 refine ac (y:=256) (by kernel_rfl) ?_
 rw[ab,ab,ab]
 refine ac (y:=128) (by kernel_rfl) ?_
 rw[ab,ab,show aA (128-1)=127 from by kernel_rfl,show aA (256-1)=255 from by kernel_rfl]
 unfold d9 li
 by_cases h1:cq n.toNat=2047
 ·rw[if_pos h1,if_pos h1,show(((cq n.toNat:Nat):Int)==2047)=true from by rw[h1];rfl,bf,ab,ab]
  refine ac (y:=(2139095040:UInt64)) (by kernel_rfl) ?_
  rw[ab,ab,Sf,oF (UInt64.ofNat (n.toNat/9223372036854775808*2^31)) 2139095040 31 (n.toNat/9223372036854775808) (by rw[aV (by omega),Nat.mul_comm]) (by decide),aV (by omega)]
  rfl
 rw[if_neg h1,if_neg h1,show(((cq n.toNat:Nat):Int)==2047)=false from by rw[←Bool.not_eq_true,beq_iff_eq];omega,aw,ab]
 by_cases h2:cq n.toNat=0
 ·rw[if_pos h2,if_pos h2,show(((cq n.toNat:Nat):Int)==0)=true from by rw[h2];rfl,bf,ab,Sf]
 rw[if_neg h2,if_neg h2,show(((cq n.toNat:Nat):Int)==0)=false from by rw[←Bool.not_eq_true,beq_iff_eq];omega,aw,ab,ab,ab,
  an (x:=((cq n.toNat:Nat):Int)-1023) (by omega) (by omega),an (by omega) (by omega)]
 by_cases h3:1151≤cq n.toNat
 ·rw[if_pos h3,if_pos h3,decide_eq_true (by omega),bf]
  rfl
 rw[if_neg h3,if_neg h3,decide_eq_false (by omega),aw,ab]
 by_cases h4:896<cq n.toNat
 ·rw[if_pos h4,if_pos h4,decide_eq_true (by omega),bf,ab,ab,show((cq n.toNat:Nat):Int)-1023+127=((cq n.toNat-896:Nat):Int) by omega,bJ]
  refine ac (GP _ 23 (by omega)) ?_
  rw[aV (n:=cq n.toNat-896) (by omega),ab,ab,ab]
  refine ac (o9 _ 29 (by omega)) ?_
  rw[ab,ab,ab,HO]
  obtain⟨y,hy,hz⟩:=we (UInt64.ofNat (io n.toNat)) 29 (by omega)
  refine ac hy ?_
  rw[ab,ab,hz _ rfl,ab,HO,bz _ (by omega)]
  rw[oF (UInt64.ofNat (n.toNat/9223372036854775808*2^31)) (UInt64.ofNat ((cq n.toNat-896)*2^23%18446744073709551616)) 31 (n.toNat/9223372036854775808) (by rw[aV (by omega),Nat.mul_comm]) (by rw[aV (by omega)];omega),aV (n:=n.toNat/9223372036854775808*2^31) (by omega),aV (n:=(cq n.toNat-896)*2^23%18446744073709551616) (by omega)]
  rw[oF _ (UInt64.ofNat (io n.toNat/2^29)) 23 (n.toNat/9223372036854775808*256+(cq n.toNat-896)) (by rw[aV (by omega)];omega) (by rw[aV (by omega)];omega),aV (n:=io n.toNat/2^29) (by omega),aV (by omega)]
  refine congrArg some (Prod.ext (congrArg UInt64.ofNat ?_) rfl)
  show _=n.toNat/9223372036854775808*2147483648+(cq n.toNat-896)*8388608+io n.toNat/536870912
  omega
 rw[if_neg h4,if_neg h4,decide_eq_false (by omega),aw,ab,Fy,ab,ab,show aA (53-23)=30 from by kernel_rfl,an (by omega) (by omega),ab]
 by_cases h5:cq n.toNat<874
 ·rw[if_pos h5,if_pos h5,decide_eq_true (by omega),bf]
  rfl
 rw[if_neg h5,if_neg h5,decide_eq_false (by omega),aw,ab,show(30:Int)-(((cq n.toNat:Nat):Int)-1023+127)=((926-cq n.toNat:Nat):Int) by omega,bJ,aV (n:=926-cq n.toNat) (by omega)]
 refine ac (o9 _ _ (by omega)) ?_
 rw[ab,ab,aV (n:=926-cq n.toNat) (by omega)]
 obtain⟨y,hy,hz⟩:=we (UInt64.ofNat (io n.toNat+4503599627370496)) (926-cq n.toNat) (by omega)
 refine ac hy ?_
 have hd:(io n.toNat+4503599627370496)/2^(926-cq n.toNat)<16777216:=by
  have h30:2^30≤2^(926-cq n.toNat):=Nat.pow_le_pow_right (by omega) (by omega)
  exact Nat.div_lt_of_lt_mul (Nat.lt_of_lt_of_le (by omega) (Nat.mul_le_mul_right 16777216 h30))
 rw[ab,ab,hz _ rfl,ab,aV (n:=io n.toNat+4503599627370496) (by omega),bz _ (Nat.lt_of_le_of_lt (Nat.mod_le _ _) (by omega))]
 rw[oF (UInt64.ofNat (n.toNat/9223372036854775808*2^31)) (UInt64.ofNat ((io n.toNat+4503599627370496)/2^(926-cq n.toNat))) 31 (n.toNat/9223372036854775808) (by rw[aV (by omega),Nat.mul_comm]) (by rw[aV (by omega)];omega),aV (n:=n.toNat/9223372036854775808*2^31) (by omega),aV (n:=(io n.toNat+4503599627370496)/2^(926-cq n.toNat)) (by omega)]
def jZ(n:Nat):Nat:=
 if cq n=2047 then n/9223372036854775808*32768+31744 else if cq n=0 then n/9223372036854775808*32768
 else if 1039≤cq n then 0 else if 1008<cq n then n/9223372036854775808*32768+(cq n-1008)*1024+io n/4398046511104
 else if cq n<999 then 0 else n/9223372036854775808*32768+(io n+4503599627370496)/2^(1051-cq n)
def lQ(n:Nat):Bool:=
 if cq n=2047 then decide (io n=0)else if cq n=0 then decide (io n=0)
 else if 1039≤cq n then false else if 1008<cq n then decide (io n%4398046511104=0)
 else if cq n<999 then false else decide ((io n+4503599627370496)%2^(1051-cq n)=0)
theorem S0(n:UInt64):cS n 5 10=some (UInt64.ofNat (jZ n.toNat),lQ n.toNat):=by
 have hn:=n.toNat_lt
 have hm:=mu n.toNat
 have he:=o5 n.toNat
 unfold cS
 refine ac (o9 n 63 (by omega)) ?_
 rw[ab,ab,show aB (aA (5+10))=15 from by kernel_rfl]
 refine ac (FB n 15 (by omega)) ?_
 refine ac (o9 n 52 (by omega)) ?_
 rw[ab,ab,Kj,ab,Eh,ab]
 refine ac (y:=32) (by kernel_rfl) ?_
 rw[ab,ab,ab]
 refine ac (y:=16) (by kernel_rfl) ?_
 rw[ab,ab,show aA (16-1)=15 from by kernel_rfl,show aA (32-1)=31 from by kernel_rfl]
 unfold jZ lQ
 by_cases h1:cq n.toNat=2047
 ·rw[if_pos h1,if_pos h1,show(((cq n.toNat:Nat):Int)==2047)=true from by rw[h1];rfl,bf,ab,ab]
  refine ac (y:=(31744:UInt64)) (by kernel_rfl) ?_
  rw[ab,ab,Sf,oF (UInt64.ofNat (n.toNat/9223372036854775808*2^15)) 31744 15 (n.toNat/9223372036854775808) (by rw[aV (by omega),Nat.mul_comm]) (by decide),aV (by omega)]
  rfl
 rw[if_neg h1,if_neg h1,show(((cq n.toNat:Nat):Int)==2047)=false from by rw[←Bool.not_eq_true,beq_iff_eq];omega,aw,ab]
 by_cases h2:cq n.toNat=0
 ·rw[if_pos h2,if_pos h2,show(((cq n.toNat:Nat):Int)==0)=true from by rw[h2];rfl,bf,ab,Sf]
 rw[if_neg h2,if_neg h2,show(((cq n.toNat:Nat):Int)==0)=false from by rw[←Bool.not_eq_true,beq_iff_eq];omega,aw,ab,ab,ab,
  an (x:=((cq n.toNat:Nat):Int)-1023) (by omega) (by omega),an (by omega) (by omega)]
 by_cases h3:1039≤cq n.toNat
 ·rw[if_pos h3,if_pos h3,decide_eq_true (by omega),bf]
  rfl
 rw[if_neg h3,if_neg h3,decide_eq_false (by omega),aw,ab]
 by_cases h4:1008<cq n.toNat
 ·rw[if_pos h4,if_pos h4,decide_eq_true (by omega),bf,ab,ab,show((cq n.toNat:Nat):Int)-1023+15=((cq n.toNat-1008:Nat):Int) by omega,bJ]
  refine ac (GP _ 10 (by omega)) ?_
  rw[aV (n:=cq n.toNat-1008) (by omega),ab,ab,ab]
  refine ac (o9 _ 42 (by omega)) ?_
  rw[ab,ab,ab,HO]
  obtain⟨y,hy,hz⟩:=we (UInt64.ofNat (io n.toNat)) 42 (by omega)
  refine ac hy ?_
  rw[ab,ab,hz _ rfl,ab,HO,bz _ (by omega)]
  rw[oF (UInt64.ofNat (n.toNat/9223372036854775808*2^15)) (UInt64.ofNat ((cq n.toNat-1008)*2^10%18446744073709551616)) 15 (n.toNat/9223372036854775808) (by rw[aV (by omega),Nat.mul_comm]) (by rw[aV (by omega)];omega),aV (n:=n.toNat/9223372036854775808*2^15) (by omega),aV (n:=(cq n.toNat-1008)*2^10%18446744073709551616) (by omega)]
  rw[oF _ (UInt64.ofNat (io n.toNat/2^42)) 10 (n.toNat/9223372036854775808*32+(cq n.toNat-1008)) (by rw[aV (by omega)];omega) (by rw[aV (by omega)];omega),aV (n:=io n.toNat/2^42) (by omega),aV (by omega)]
  refine congrArg some (Prod.ext (congrArg UInt64.ofNat ?_) rfl)
  show _=n.toNat/9223372036854775808*32768+(cq n.toNat-1008)*1024+io n.toNat/4398046511104
  omega
 rw[if_neg h4,if_neg h4,decide_eq_false (by omega),aw,ab,Fy,ab,ab,show aA (53-10)=43 from by kernel_rfl,an (by omega) (by omega),ab]
 by_cases h5:cq n.toNat<999
 ·rw[if_pos h5,if_pos h5,decide_eq_true (by omega),bf]
  rfl
 rw[if_neg h5,if_neg h5,decide_eq_false (by omega),aw,ab,show(43:Int)-(((cq n.toNat:Nat):Int)-1023+15)=((1051-cq n.toNat:Nat):Int) by omega,bJ,aV (n:=1051-cq n.toNat) (by omega)]
 refine ac (o9 _ _ (by omega)) ?_
 rw[ab,ab,aV (n:=1051-cq n.toNat) (by omega)]
 obtain⟨y,hy,hz⟩:=we (UInt64.ofNat (io n.toNat+4503599627370496)) (1051-cq n.toNat) (by omega)
 refine ac hy ?_
 have hd:(io n.toNat+4503599627370496)/2^(1051-cq n.toNat)<2048:=by
  have h30:2^43≤2^(1051-cq n.toNat):=Nat.pow_le_pow_right (by omega) (by omega)
  exact Nat.div_lt_of_lt_mul (Nat.lt_of_lt_of_le (by omega) (Nat.mul_le_mul_right 2048 h30))
 rw[ab,ab,hz _ rfl,ab,aV (n:=io n.toNat+4503599627370496) (by omega),bz _ (Nat.lt_of_le_of_lt (Nat.mod_le _ _) (by omega))]
 rw[oF (UInt64.ofNat (n.toNat/9223372036854775808*2^15)) (UInt64.ofNat ((io n.toNat+4503599627370496)/2^(1051-cq n.toNat))) 15 (n.toNat/9223372036854775808) (by rw[aV (by omega),Nat.mul_comm]) (by rw[aV (by omega)];omega),aV (n:=n.toNat/9223372036854775808*2^15) (by omega),aV (n:=(io n.toNat+4503599627370496)/2^(1051-cq n.toNat)) (by omega)]
theorem Di(s n:Nat)(hs:s<4294967296)(h:floatToFloatBits .f32 s .f64=some n):
  n/9223372036854775808=s/2147483648∧((s%2147483648=0∧n%9223372036854775808=0)∨(s%2147483648=2139095040∧n%9223372036854775808=9218868437227405312)∨
   (8388608≤s%2147483648∧s%2147483648<2139095040∧n%9223372036854775808=s%2147483648*536870912+4035225266123964416)∨
   (0<s%2147483648∧s%2147483648<8388608∧∃L,L≤22∧2^L≤s%2147483648∧s%2147483648<2^(L+1)∧n%9223372036854775808=(L+873)*4503599627370496+s%2147483648*2^(52-L))):=by
 have hd:FloatKind.f32.decode s=single.read s:=rfl
 have hW : ∀(neg:Bool) (x y:Nat),x<2147483648→y<9223372036854775808→s=single.word neg x→double.word neg y/9223372036854775808=s/2147483648∧double.word neg y%9223372036854775808=y∧s%2147483648=x:=by
  intro neg x y hx hy e
  subst e
  unfold Format.word
  rw[HE,IU]
  cases neg<;>simp<;>omega
 rcases Nat.lt_trichotomy (s%2147483648) 2139095040 with hr |hr |hr
 ·unfold floatToFloatBits at h
  rw[if_neg (by decide),hd]at h
  obtain⟨neg,m,p,e1,e2,h1,h3⟩:=DY s hs hr
  rw[e1]at h
  simp only at h
  split at h
  ·cases h
  ·cases h
   have he:FloatKind.f64.encode (.number neg m p)=double.nearest neg m p:=rfl
   rw[he]
   rcases h3 with⟨h0,rfl⟩ | ⟨hm,hL,h2,h4,h5⟩
   ·rw[show double.nearest neg 0 p=double.word neg 0 by unfold Format.nearest;rw[if_pos rfl]]
    have:=hW neg _ 0 (by omega) (by omega) e2
    exact⟨this.1,.inl ⟨h0,this.2.1⟩⟩
   ·rw[Fq neg m p hm hL h1 h2]
    have hb:=zE hm (by omega)
    have hl1:=Nat.log2_self_le hm
    have hl2:=Nat.lt_log2_self (n:=m)
    have hy:(p+(m.log2:Int)+1022).toNat*4503599627370496+m*2^(52-m.log2)<9223372036854775808:=by
     generalize m*2^(52-m.log2)=M at hb
     omega
    have:=hW neg _ _ (by omega) hy e2
    refine⟨this.1,.inr (.inr ?_)⟩
    rw[this.2.1]
    by_cases h23:m.log2=23
    ·refine .inl ?_
     rw[h23]at hl1 hl2 h2⊢
     rw[show(2:Nat)^(52-23)=536870912 from rfl]
     rw[show(2:Nat)^23=8388608 from rfl]at hl1
     rw[show(2:Nat)^(23+1)=16777216 from rfl]at hl2
     omega
    ·refine .inr ?_
     have hp:p = -149:=by omega
     have h8:m<8388608:=Nat.lt_of_lt_of_le hl2 (show 2^(m.log2+1)≤2^23 from Nat.pow_le_pow_right (by omega) (by omega))
     have hm':s%2147483648=m:=by omega
     refine⟨by omega,by omega,m.log2,by omega,by omega,by omega,?_⟩
     rw[hm',hp,show((-149:Int)+(m.log2:Int)+1022).toNat=m.log2+873 by omega]
 ·obtain⟨neg,e1,e2⟩:=sQ s hs hr
  unfold floatToFloatBits at h
  rw[if_neg (by decide),hd,e1]at h
  cases h
  rw[C1]at e2
  have:=hW neg _ 9218868437227405312 (by omega) (by omega) e2
  have hE:FloatKind.f64.encode (.infinity neg)=double.word neg 9218868437227405312:=by cases neg<;>decide
  rw[hE]
  exact⟨this.1,.inr (.inl ⟨hr,this.2.1⟩)⟩
 ·obtain⟨_,_,e⟩:=F_ s hr
  unfold floatToFloatBits at h
  rw[if_neg (by decide),hd,e]at h
  cases h
theorem zY(n:Nat)(hn:n<18446744073709551616)(hq:n%9223372036854775808≤9218868437227405312):oh n=if li n then some (d9 n)else none:=by
 have h64:=o5 n
 have hmm:=mu n
 have hnm:n=n/9223372036854775808*9223372036854775808+cq n*4503599627370496+io n:=by unfold cq io;omega
 have hr:n%9223372036854775808=cq n*4503599627370496+io n:=by omega
 -- what any answer is
 have A : ∀s,oh n=some s→li n=true∧d9 n=s:=by
  intro s h
  obtain⟨hs,hw⟩:=(kN hn).1 h
  obtain⟨e1,h3⟩:=Di s n hs hw
  unfold li d9
  rcases h3 with⟨a,b⟩ | ⟨a,b⟩ | ⟨a,a2,b⟩ | ⟨a,a2,L,hL,l1,l2,b⟩
  ·have hE:cq n=0:=by omega
   have hM:io n=0:=by omega
   rw[hE,hM]
   refine⟨by simp,?_⟩
   simp
   omega
  ·have hE:cq n=2047:=by omega
   have hM:io n=0:=by omega
   rw[hE,hM]
   refine⟨by simp,?_⟩
   simp
   omega
  ·have hE:cq n=s%2147483648/8388608+896:=by omega
   have hM:io n=s%2147483648%8388608*536870912:=by omega
   rw[if_neg (by omega),if_neg (by omega),if_neg (by omega),if_pos (by omega),if_neg (by omega),if_neg (by omega),if_neg (by omega),if_pos (by omega)]
   refine⟨decide_eq_true (by omega),by omega⟩
  ·have hp:4503599627370496≤s%2147483648*2^(52-L)∧s%2147483648*2^(52-L)<9007199254740992:=by
    have e1:2^L*2^(52-L)=4503599627370496:=by rw[←Nat.pow_add,show L+(52-L)=52 by omega]
    have e2:2^(L+1)*2^(52-L)=9007199254740992:=by rw[←Nat.pow_add,show L+1+(52-L)=53 by omega]
    constructor
    ·rw[←e1];exact Nat.mul_le_mul_right _ l1
    ·rw[←e2];exact Nat.mul_lt_mul_of_pos_right l2 (Nat.two_pow_pos _)
   have hE:cq n=L+874:=by
    generalize s%2147483648*2^(52-L)=M at hp b
    omega
   have hM:io n+4503599627370496=s%2147483648*2^(52-L):=by
    generalize s%2147483648*2^(52-L)=M at hp b
    omega
   rw[if_neg (by omega),if_neg (by omega),if_neg (by omega),if_neg (by omega),if_neg (by omega),if_neg (by omega),if_neg (by omega),if_neg (by omega),if_neg (by omega),if_neg (by omega)]
   rw[hM,show 926-cq n=52-L by omega,Nat.mul_mod_left,Nat.mul_div_cancel _ (Nat.two_pow_pos _)]
   exact⟨rfl,by omega⟩
 -- what is found stands for the float
 have B:li n=true→∃s,s<4294967296∧s%2147483648≤2139095040∧(∀n',n'<18446744073709551616→floatToFloatBits .f32 s .f64=some n'→n'=n):=by
  intro hb
  have hv : ∀a:Nat,a<2147483648→(n/9223372036854775808*2147483648+a)%2147483648=a∧(n/9223372036854775808*2147483648+a)/2147483648=n/9223372036854775808:=fun a ha=>by omega
  have fin : ∀a:Nat,a≤2139095040→(∀x,((a=0∧x=0)∨(a=2139095040∧x=9218868437227405312)∨(8388608≤a∧a<2139095040∧x=a*536870912+4035225266123964416)∨(0<a∧a<8388608∧∃L,L≤22∧2^L≤a∧a<2^(L+1)∧x=(L+873)*4503599627370496+a*2^(52-L)))→x=n%9223372036854775808)→∃s,s<4294967296∧s%2147483648≤2139095040∧(∀n',n'<18446744073709551616→floatToFloatBits .f32 s .f64=some n'→n'=n):=by
   intro a ha hx
   have h1:=hv a (by omega)
   refine⟨n/9223372036854775808*2147483648+a,by omega,by omega,fun n' hn' hw=>?_⟩
   obtain⟨e1,h3⟩:=Di _ n' (by omega) hw
   rw[h1.1]at h3
   rw[h1.2]at e1
   have:=hx _ h3
   omega
  unfold li at hb
  by_cases c1:cq n=2047
  ·rw[if_pos c1]at hb
   have hb:=of_decide_eq_true hb
   exact fin 2139095040 (by omega) fun x hx=>by rcases hx with hx |hx |hx | ⟨h1,h2,_⟩<;>omega
  rw[if_neg c1]at hb
  by_cases c2:cq n=0
  ·rw[if_pos c2]at hb
   have hb:=of_decide_eq_true hb
   exact fin 0 (by omega) fun x hx=>by rcases hx with hx |hx |hx | ⟨h1,h2,_⟩<;>omega
  rw[if_neg c2]at hb
  by_cases c3:1151≤cq n
  ·rw[if_pos c3]at hb;cases hb
  rw[if_neg c3]at hb
  by_cases c4:896<cq n
  ·rw[if_pos c4]at hb
   have hb:=of_decide_eq_true hb
   exact fin ((cq n-896)*8388608+io n/536870912) (by omega) fun x hx=>by rcases hx with hx |hx |hx | ⟨h1,h2,_⟩<;>omega
  rw[if_neg c4]at hb
  by_cases c5:cq n<874
  ·rw[if_pos c5]at hb;cases hb
  rw[if_neg c5]at hb
  have hb:=of_decide_eq_true hb
  obtain⟨L,hL⟩ : ∃L,cq n=L+874:=⟨cq n-874,by omega⟩
  have hs:926-cq n=52-L:=by omega
  rw[hs]at hb
  have hdm:=Nat.div_add_mod (io n+4503599627370496) (2^(52-L))
  rw[hb,Nat.add_zero,Nat.mul_comm]at hdm
  have hP:=Nat.two_pow_pos (52-L)
  have e1:2^L*2^(52-L)=4503599627370496:=by rw[←Nat.pow_add,show L+(52-L)=52 by omega]
  have e2:2^(L+1)*2^(52-L)=9007199254740992:=by rw[←Nat.pow_add,show L+1+(52-L)=53 by omega]
  have g1:2^L≤(io n+4503599627370496)/2^(52-L):=(Nat.le_div_iff_mul_le hP).2 (by omega)
  have g2:(io n+4503599627370496)/2^(52-L)<2^(L+1):=(Nat.div_lt_iff_lt_mul hP).2 (by omega)
  have g3:2^(L+1)≤8388608:=show 2^(L+1)≤2^23 from Nat.pow_le_pow_right (by omega) (by omega)
  have g0:0<2^L:=Nat.two_pow_pos L
  generalize (io n+4503599627370496)/2^(52-L)=a at hdm g1 g2
  refine fin a (by omega) fun x hx=>?_
  rcases hx with hx |hx |hx | ⟨_,_,L',hL',k1,k2,hx⟩
  ·omega
  ·omega
  ·omega
  ·have:L'=L:=by
    rcases Nat.lt_trichotomy L' L with q |q |q
    ·have:=Nat.pow_le_pow_right (n:=2) (by omega) (show L'+1≤L from q)
     omega
    ·exact q
    ·have:=Nat.pow_le_pow_right (n:=2) (by omega) (show L+1≤L' from q)
     omega
   subst this
   rw[hdm]at hx
   omega
 cases hb:li n with
 |false=>
  rw[if_neg (by simp)]
  cases hf:oh n with
  |none=>rfl
  |some s=>rw[(A s hf).1]at hb;cases hb
 |true=>
  rw[if_pos rfl]
  obtain⟨s,hs,hsr,hu⟩:=B hb
  obtain⟨d,hd,hd2⟩:=C9 s hs hsr
  have:=hu d hd2 hd
  subst this
  have hf:=(kN hn).2 ⟨hs,hd⟩
  rw[hf,(A s hf).2]
theorem eB{α β:Type}{e y:α}{k:α→Option β}{r:Option β}(h:e=y)(h2:k y=r):letm e k=r:=by
 subst h;exact h2
def xk(s:Nat):Nat:=
 if s/8388608%256=255 then s/2147483648*32768+31744 else if s/8388608%256=0 then s/2147483648*32768
 else if 113≤s/8388608%256∧s/8388608%256≤142 then s/2147483648*32768+(s/8388608%256-112)*1024+s%8388608/8192
 else if 103≤s/8388608%256∧s/8388608%256<113 then s/2147483648*32768+(s%8388608+8388608)/2^(126-s/8388608%256)else 0
def wL(s:Nat):Bool:=
 if s/8388608%256=255 then true else if s/8388608%256=0 then decide (s%8388608=0)
 else if 113≤s/8388608%256∧s/8388608%256≤142 then decide (s%8388608%8192=0)
 else if 103≤s/8388608%256∧s/8388608%256<113 then decide ((s%8388608+8388608)%2^(126-s/8388608%256)=0)else false
theorem Iy(n:Int):IntKind.u16.wrap n=n%65536:=by
 unfold IntKind.wrap
 simp only[show IntKind.u16.signed=false from rfl,IntKind.bits]
 simp
theorem uI{n:Int}(h0:0≤n)(h1:n<65536):(Gk.fX .u16 n:Int)=n:=by
 show IntKind.u16.wrap n=n
 rw[Iy];omega
theorem tx{a b:Int}(k c:Nat)(ha:a=((2^k*c:Nat):Int))(h0:0≤b)(hb:b<((2^k:Nat):Int))(h1:a<65536)(h2:b<65536):(aS .or .u16 a b:Int)=a+b:=by
 obtain⟨y,rfl⟩ : ∃y:Nat,b=(y:Int):=⟨b.toNat,by omega⟩
 subst ha
 rw[SD (by omega) (by omega),←Nat.two_pow_add_eq_or_of_lt (by omega)]
 push_cast
 rfl
theorem Pr(x:Nat)(h:x<4294967296):(((UInt32.toNat (UInt32.ofNat x):Nat):Int)==((UInt32.toNat 0:Nat):Int))=decide (x=0):=by
 rw[kK h,Bool.eq_iff_iff,beq_iff_eq,decide_eq_true_eq]
 exact Int.natCast_inj
theorem Hb(x:UInt32)(k:Nat)(hk:k<32): ∃y:UInt32,@Eq (Option UInt32) (dO .u32 (1:UInt32) (k:Int)) (some y)∧∀z:UInt32,z=y-1→(aS .and .u32 x z:UInt32)=UInt32.ofNat (x.toNat%2^k):=by
 have hp:2^k<4294967296:=by
  have:=Nat.pow_lt_pow_right (a:=2) (by omega) hk
  simpa using this
 refine⟨_,R5 1 k (by omega),fun z hz=>?_⟩
 subst hz
 apply rj
 have h1:(1:UInt32).toNat=1:=rfl
 rw[h1,Nat.one_mul,Nat.mod_eq_of_lt hp]
 have h0:0<2^k:=Nat.two_pow_pos k
 have h2:=UInt32.toNat_sub_of_le (UInt32.ofNat (2^k)) 1 (by rw[UInt32.le_iff_toNat_le,kK hp];exact h0)
 rw[kK hp]at h2
 exact h2
theorem LZ(s:Nat)(hs:s<4294967296):lm (UInt32.ofNat s)=some ((xk s:Int),wL s):=by
 have hS:(UInt32.ofNat s).toNat=s:=kK hs
 unfold lm
 refine ac (MY _ 31 (by omega)) ?_
 refine ac (R5 _ 15 (by omega)) ?_
 rw[hS,kK (n:=s/2^31) (by omega),kK (n:=s/2^31*2^15%4294967296) (by omega),ab,uI (by omega) (by omega)]
 refine ac (MY _ 23 (by omega)) ?_
 rw[hS,ab,rj _ 8 255 rfl,ab,kK (n:=s/2^23) (by omega),kK (n:=s/2^23%2^8) (by omega),ab,an (by omega) (by omega),rj _ 23 8388607 rfl,hS]
 rw[show s/2^23%2^8=s/8388608%256 by rfl,show s%2^23=s%8388608 by rfl,show s/2^31*2^15%4294967296=s/2147483648*32768 by omega]
 have he:s/8388608%256<256:=Nat.mod_lt _ (by omega)
 have hm:s%8388608<8388608:=Nat.mod_lt _ (by omega)
 have hg:s/2147483648<2:=by omega
 unfold xk wL
 generalize s/8388608%256=e at he⊢
 generalize s%8388608=m at hm⊢
 generalize s/2147483648=g at hg⊢
 have bq : ∀k:Int,((e:Int)==k)=decide ((e:Int)=k):=fun k=>by rw[Bool.eq_iff_iff,beq_iff_eq,decide_eq_true_eq]
 rw[ab,bq]
 by_cases h1:e=255
 ·rw[if_pos h1,if_pos h1,decide_eq_true (by omega),bf]
  refine eB (tx (b:=31744) 15 g (by omega) (by omega) (by omega) (by omega) (by omega)) ?_
  refine congrArg some (Prod.ext ?_ rfl)
  show((g*32768:Nat):Int)+31744=((g*32768+31744:Nat):Int)
  omega
 rw[if_neg h1,if_neg h1,decide_eq_false (by omega),aw,ab,bq]
 by_cases h2:e=0
 ·rw[if_pos h2,if_pos h2,decide_eq_true (by omega),bf,ab,Pr _ (by omega)]
 rw[if_neg h2,if_neg h2,decide_eq_false (by omega),aw,ab,ab,lF,ae]
 by_cases h3:113≤e∧e≤142
 ·rw[if_pos h3,if_pos h3,show(decide ((113:Int)≤(e:Int))&&decide ((e:Int)≤142))=true by rw[decide_eq_true (by omega),decide_eq_true (by omega)];rfl,bf,ab,an (by omega) (by omega)]
  refine eB (uI (n:=(e:Int)-112) (by omega) (by omega)) ?_
  refine ac (y:=((((e-112)*1024:Nat):Int):bK .u16)) ?_ ?_
  ·refine congrArg some ((uI (n:=((e:Int)-112)*2^10) (by omega) (by omega)).trans ?_)
   show((e:Int)-112)*2^10=(((e-112)*1024:Nat):Int)
   omega
  refine eB (tx 15 g (by omega) (by omega) (by omega) (by omega) (by omega)) ?_
  refine ac (MY _ 13 (by omega)) ?_
  rw[kK (n:=m) (by omega),kK (n:=m/2^13) (by omega)]
  refine eB (uI (by omega) (by omega)) ?_
  refine eB (tx 10 (g*32+(e-112)) (by omega) (by omega) (by omega) (by omega) (by omega)) ?_
  rw[ab,rj _ 13 8191 rfl,kK (n:=m) (by omega),ab,Pr _ (by omega)]
  refine congrArg some (Prod.ext ?_ rfl)
  show((g*32768:Nat):Int)+(((e-112)*1024:Nat):Int)+((m/2^13:Nat):Int)=((g*32768+(e-112)*1024+m/8192:Nat):Int)
  omega
 rw[if_neg h3,if_neg h3,show(decide ((113:Int)≤(e:Int))&&decide ((e:Int)≤142))=false by rw[←Bool.not_eq_true,Bool.and_eq_true,decide_eq_true_eq,decide_eq_true_eq];omega,aw,ab,ab,lF,ae]
 by_cases h4:103≤e∧e<113
 ·rw[if_pos h4,if_pos h4,show(decide ((103:Int)≤(e:Int))&&decide ((e:Int)<113))=true by rw[decide_eq_true (by omega),decide_eq_true (by omega)];rfl,bf,ab,an (by omega) (by omega),ab]
  have ho:(aS .or .u32 (UInt32.ofNat m) (8388608:UInt32):UInt32)=UInt32.ofNat (m+8388608):=by
   have hm8:(8388608:UInt32).toNat=8388608:=rfl
   rw[SG,kK (n:=m) (by omega),Nat.or_comm,hm8]
   have:=Nat.two_pow_add_eq_or_of_lt (i:=23) (b:=m) (by omega) 1
   rw[show(2:Nat)^23*1=8388608 from rfl]at this
   rw[←this,Nat.add_comm]
  have hk:(aB (126-(e:Int))).toNat=126-e:=by
   rw[show(126:Int)-(e:Int)=((126-e:Nat):Int) by omega,gU (by omega)]
  refine eB ho ?_
  rw[hk]
  refine ac (MY _ _ (by omega)) ?_
  have hd:(m+8388608)/2^(126-e)<1024+1024:=by
   have h14:2^14≤2^(126-e):=Nat.pow_le_pow_right (by omega) (by omega)
   exact Nat.div_lt_of_lt_mul (Nat.lt_of_lt_of_le (by omega) (Nat.mul_le_mul_right 2048 h14))
  rw[kK (n:=m+8388608) (by omega)]
  generalize (m+8388608)/2^(126-e)=D at hd⊢
  rw[kK (n:=D) (by omega)]
  refine eB (uI (by omega) (by omega)) ?_
  refine eB (tx 15 g (by omega) (by omega) (by omega) (by omega) (by omega)) ?_
  obtain⟨y,hy,hz⟩:=Hb (UInt32.ofNat (m+8388608)) (126-e) (by omega)
  refine ac hy ?_
  rw[ab,ab,hz _ rfl,ab,kK (n:=m+8388608) (by omega),Pr _ (Nat.lt_of_le_of_lt (Nat.mod_le _ _) (by omega))]
  refine congrArg some (Prod.ext ?_ rfl)
  show((g*32768:Nat):Int)+((D:Nat):Int)=((g*32768+D:Nat):Int)
  omega
 rw[if_neg h4,if_neg h4,show(decide ((103:Int)≤(e:Int))&&decide ((e:Int)<113))=false by rw[←Bool.not_eq_true,Bool.and_eq_true,decide_eq_true_eq,decide_eq_true_eq];omega,aw]
 rfl
theorem J9(n:Nat)(hn:n<18446744073709551616)(hq:n%9223372036854775808≤9218868437227405312)(h8:li n=true):wL (d9 n)=lQ n∧(lQ n=true→xk (d9 n)=jZ n):=by
 have h64:=o5 n
 have hmm:=mu n
 have hg:n/9223372036854775808<2:=by omega
 unfold li at h8
 unfold d9 lQ jZ
 by_cases c1:cq n=2047
 ·rw[if_pos c1]at h8
  have hb:=of_decide_eq_true h8
  simp only[if_pos c1,hb]
  unfold wL xk
  rw[if_pos (by omega),if_pos (by omega)]
  exact⟨rfl,fun _=>by omega⟩
 simp only[if_neg c1]at h8⊢
 by_cases c2:cq n=0
 ·simp only[if_pos c2]at h8⊢
  have hb:=of_decide_eq_true h8
  unfold wL xk
  rw[if_neg (by omega),if_pos (by omega),if_neg (by omega),if_pos (by omega),hb]
  exact⟨decide_eq_true (by omega),fun _=>by omega⟩
 simp only[if_neg c2]at h8⊢
 by_cases c3:1151≤cq n
 ·rw[if_pos c3]at h8;cases h8
 simp only[if_neg c3]at h8⊢
 by_cases c4:896<cq n
 ·simp only[if_pos c4]at h8⊢
  have hb:=of_decide_eq_true h8
  have hE:(n/9223372036854775808*2147483648+(cq n-896)*8388608+io n/536870912)/8388608%256=cq n-896:=by omega
  have hM:(n/9223372036854775808*2147483648+(cq n-896)*8388608+io n/536870912)%8388608=io n/536870912:=by omega
  have hG:(n/9223372036854775808*2147483648+(cq n-896)*8388608+io n/536870912)/2147483648=n/9223372036854775808:=by omega
  unfold wL xk
  rw[hE,hM,hG]
  rw[if_neg (show ¬cq n-896=255 by omega),if_neg (show ¬cq n-896=255 by omega),if_neg (show ¬cq n-896=0 by omega),if_neg (show ¬cq n-896=0 by omega)]
  by_cases d1:1039≤cq n
  ·rw[if_neg (show ¬(113≤cq n-896∧cq n-896≤142) by omega),if_neg (show ¬(113≤cq n-896∧cq n-896≤142) by omega),if_neg (show ¬(103≤cq n-896∧cq n-896<113) by omega),if_neg (show ¬(103≤cq n-896∧cq n-896<113) by omega),if_pos d1,if_pos d1]
   exact⟨rfl,fun h=>rfl⟩
  rw[if_neg d1,if_neg d1]
  by_cases d2:1008<cq n
  ·rw[if_pos (show(113≤cq n-896∧cq n-896≤142) by omega),if_pos (show(113≤cq n-896∧cq n-896≤142) by omega),if_pos d2,if_pos d2]
   refine⟨?_,fun h=>by omega⟩
   rw[Bool.eq_iff_iff,decide_eq_true_eq,decide_eq_true_eq]
   omega
  rw[if_neg d2,if_neg d2,if_neg (show ¬(113≤cq n-896∧cq n-896≤142) by omega),if_neg (show ¬(113≤cq n-896∧cq n-896≤142) by omega)]
  by_cases d3:cq n<999
  ·rw[if_pos d3,if_pos d3,if_neg (show ¬(103≤cq n-896∧cq n-896<113) by omega),if_neg (show ¬(103≤cq n-896∧cq n-896<113) by omega)]
   exact⟨rfl,fun _=>rfl⟩
  rw[if_neg d3,if_neg d3,if_pos (show(103≤cq n-896∧cq n-896<113) by omega),if_pos (show(103≤cq n-896∧cq n-896<113) by omega)]
  have e1:io n+4503599627370496=(io n/536870912+8388608)*536870912:=by omega
  have e2:2^(1051-cq n)=2^(126-(cq n-896))*536870912:=by
   rw[show 1051-cq n=126-(cq n-896)+29 by omega,Nat.pow_add]
  rw[e1,e2,Nat.mul_div_mul_right _ _ (by omega),Nat.mul_mod_mul_right]
  refine⟨?_,fun h=>rfl⟩
  rw[Bool.eq_iff_iff,decide_eq_true_eq,decide_eq_true_eq]
  omega
 simp only[if_neg c4]at h8⊢
 by_cases c5:cq n<874
 ·rw[if_pos c5]at h8;cases h8
 simp only[if_neg c5]at h8⊢
 have hb:=of_decide_eq_true h8
 rw[if_neg (show ¬1039≤cq n by omega),if_neg (show ¬1039≤cq n by omega),if_neg (show ¬1008<cq n by omega),if_neg (show ¬1008<cq n by omega),if_pos (show cq n<999 by omega),if_pos (show cq n<999 by omega)]
 have hd:(io n+4503599627370496)/2^(926-cq n)<8388608∧0<(io n+4503599627370496)/2^(926-cq n):=by
  have h30:2^30≤2^(926-cq n):=Nat.pow_le_pow_right (by omega) (by omega)
  have h52:2^(926-cq n)≤2^52:=Nat.pow_le_pow_right (by omega) (by omega)
  refine⟨Nat.div_lt_of_lt_mul (Nat.lt_of_lt_of_le (by omega) (Nat.mul_le_mul_right 8388608 h30)),Nat.div_pos (Nat.le_trans h52 (by omega)) (Nat.two_pow_pos _)⟩
 unfold wL xk
 generalize (io n+4503599627370496)/2^(926-cq n)=D at hd⊢
 rw[if_neg (by omega),if_pos (by omega),if_neg (by omega),if_pos (by omega)]
 refine⟨decide_eq_false (by omega),fun h=>by cases h⟩
theorem Ri(n:Nat)(h5:lQ n=true):li n=true:=by
 have h64:=o5 n
 have hmm:=mu n
 unfold lQ at h5
 unfold li
 by_cases c1:cq n=2047
 ·rw[if_pos c1]at h5⊢;exact h5
 rw[if_neg c1]at h5⊢
 by_cases c2:cq n=0
 ·rw[if_pos c2]at h5⊢;exact h5
 rw[if_neg c2]at h5⊢
 by_cases c3:1039≤cq n
 ·rw[if_pos c3]at h5;cases h5
 rw[if_neg c3]at h5
 rw[if_neg (by omega)]
 by_cases c4:1008<cq n
 ·rw[if_pos c4]at h5
  have:=of_decide_eq_true h5
  rw[if_pos (by omega)]
  exact decide_eq_true (by omega)
 rw[if_neg c4]at h5
 by_cases c5:cq n<999
 ·rw[if_pos c5]at h5;cases h5
 rw[if_neg c5]at h5
 have h:=of_decide_eq_true h5
 rw[if_pos (by omega)]
 have hd:2^43∣io n+4503599627370496:=Nat.dvd_trans (Nat.pow_dvd_pow 2 (by omega)) (Nat.dvd_of_mod_eq_zero h)
 exact decide_eq_true (by omega)
def GT(n:UInt64):List UInt8:=[av ((UInt64.ofNat (n.toNat/2^56)).toNat:Int),av ((UInt64.ofNat (n.toNat/2^48)).toNat:Int),av ((UInt64.ofNat (n.toNat/2^40)).toNat:Int),av ((UInt64.ofNat (n.toNat/2^32)).toNat:Int),av ((UInt64.ofNat (n.toNat/2^24)).toNat:Int),av ((UInt64.ofNat (n.toNat/2^16)).toNat:Int),av ((UInt64.ofNat (n.toNat/2^8)).toNat:Int),av ((UInt64.ofNat (n.toNat/2^0)).toNat:Int)]
def fE(n:UInt64):List UInt8:=
 if 9218868437227405312<n.toNat%9223372036854775808 then [249,126,0]
 else if lQ n.toNat then [249,UInt8.ofNat (jZ n.toNat/256),UInt8.ofNat (jZ n.toNat)]
 else if li n.toNat then [250,UInt8.ofNat (d9 n.toNat/16777216),UInt8.ofNat (d9 n.toNat/65536),UInt8.ofNat (d9 n.toNat/256),UInt8.ofNat (d9 n.toNat)]
 else 251::GT n
theorem NS(n:UInt64):nC n=some (GT n):=by kernel_rfl
theorem Id(n:UInt64):aM (R:=(List UInt8)) (S:=((List UInt8)×Int)) (fun self15 s14=>
  letm (decide (0≤s14.2)) fun x16=>
  cond x16 (letm ((aB s14.2)) fun x17=>
  letm ((8*x17)) fun x18=>
  bnd ((cg .u64 (n:UInt64) (UInt64.toNat x18:Int):Option UInt64)) fun(x19:UInt64)=>
  letm ((av (UInt64.toNat x19:Int))) fun x20=>
  bnd (app s14.1 [x20]) fun x21=>
  letm ((aA (s14.2-1))) fun x22=>
  self15 (x21,x22))
   (some s14.1)) bA ([251],7)=some (251::GT n):=by kernel_rfl
theorem K5(n:UInt64):1≤(fE n).length∧(fE n).length≤9:=by
 unfold fE GT
 split
 ·simp
 ·split
  ·simp
  ·split<;>simp
theorem yj(n:UInt64):dK n=some (decide (9218868437227405312<n.toNat%9223372036854775808)):=by
 have hn:=n.toNat_lt
 have hmm:=mu n.toNat
 have hee:=o5 n.toNat
 have hE:(UInt64.toNat (aS .and .u64 (UInt64.ofNat (n.toNat/2^52)) (2047:UInt64):UInt64))=cq n.toNat:=by
  rw[wc _ 11 _ rfl,aV (n:=n.toNat/2^52) (by omega),aV (by omega)]
  rfl
 unfold dK
 refine ac (y:=decide (9218868437227405312<n.toNat%9223372036854775808)) ?_ rfl
 refine ac (o9 n 52 (by omega)) ?_
 rw[ab,ab,hE]
 have e1:(((cq n.toNat:Nat):Int)==((UInt64.toNat 2047:Nat):Int))=decide (cq n.toNat=2047):=by
  rw[Bool.eq_iff_iff,beq_iff_eq,decide_eq_true_eq];exact Int.natCast_inj
 rw[e1]
 have hr:n.toNat%9223372036854775808=cq n.toNat*4503599627370496+io n.toNat:=by unfold cq io;omega
 by_cases c:cq n.toNat=2047
 ·rw[decide_eq_true c,bf,ab,Eh,ab]
  refine congrArg some ?_
  have:=Sf n.toNat
  rw[show(((UInt64.toNat (UInt64.ofNat (io n.toNat)):Nat):Int) != ((UInt64.toNat 0:Nat):Int))=!(((UInt64.toNat (UInt64.ofNat (io n.toNat)):Nat):Int)==((UInt64.toNat 0:Nat):Int))from rfl,this]
  rw[Bool.eq_iff_iff,Bool.not_eq_true',decide_eq_false_iff_not,decide_eq_true_eq]
  omega
 ·rw[decide_eq_false c,aw]
  exact congrArg some (decide_eq_false (by omega)).symm
theorem Dj(n:Nat)(hn:n<18446744073709551616):jZ n<65536:=by
 have h64:=o5 n
 have hmm:=mu n
 unfold jZ
 split
 ·omega
 ·split
  ·omega
  ·split
   ·omega
   ·split
    ·omega
    ·split
     ·omega
     ·have h43:2^43≤2^(1051-cq n):=Nat.pow_le_pow_right (by omega) (by omega)
      have:(io n+4503599627370496)/2^(1051-cq n)<2048:=Nat.div_lt_of_lt_mul (Nat.lt_of_lt_of_le (by omega) (Nat.mul_le_mul_right 2048 h43))
      omega
theorem yi(n:Nat)(hn:n<18446744073709551616):d9 n<4294967296:=by
 have h64:=o5 n
 have hmm:=mu n
 unfold d9
 split
 ·omega
 ·split
  ·omega
  ·split
   ·omega
   ·split
    ·omega
    ·split
     ·omega
     ·have h43:2^30≤2^(926-cq n):=Nat.pow_le_pow_right (by omega) (by omega)
      have:(io n+4503599627370496)/2^(926-cq n)<16777216:=Nat.div_lt_of_lt_mul (Nat.lt_of_lt_of_le (by omega) (Nat.mul_le_mul_right 16777216 h43))
      omega
theorem fM(n:Nat):av (n:Int)=UInt8.ofNat n:=Er
theorem GV(n:UInt64):eH n=some (fE n):=by
 have hn:=n.toNat_lt
 have h5:=Dj n.toNat hn
 have h8:=yi n.toNat hn
 unfold eH
 refine ac (yj n) ?_
 unfold fE
 by_cases c:9218868437227405312<n.toNat%9223372036854775808
 ·rw[if_pos c,decide_eq_true c,bf]
 rw[if_neg c,decide_eq_false c,aw]
 refine ac (S0 n) ?_
 cases hb5:lQ n.toNat with
 |true=>
  rw[if_pos rfl,bf]
  refine ac (o9 _ 8 (by omega)) ?_
  rw[ab,ab,aV (n:=jZ n.toNat) (by omega),aV (by omega),fM,fM]
 |false=>
  rw[if_neg (by simp),aw]
  refine ac (S7 n) ?_
  cases hb8:li n.toNat with
  |true=>
   rw[if_pos rfl,bf]
   refine ac (o9 _ 24 (by omega)) ?_
   rw[ab]
   refine ac (o9 _ 16 (by omega)) ?_
   rw[ab]
   refine ac (o9 _ 8 (by omega)) ?_
   rw[ab,ab,aV (n:=d9 n.toNat) (by omega),aV (n:=d9 n.toNat/2^24) (by omega),aV (n:=d9 n.toNat/2^16) (by omega),aV (n:=d9 n.toNat/2^8) (by omega),fM,fM,fM,fM]
  |false=>
   rw[if_neg (by simp),aw]
   exact Id n
theorem sC(n:UInt64):ef n=some (fE n):=by
 have hn:=n.toNat_lt
 have h8:=yi n.toNat hn
 have hf:feq n n=decide (n.toNat%9223372036854775808≤9218868437227405312):=ue n
 unfold ef fE
 rw[hf]
 by_cases c:9218868437227405312<n.toNat%9223372036854775808
 ·rw[if_pos c,decide_eq_false (by omega)];rfl
 rw[if_neg c,decide_eq_true (by omega),cond_true,zY n.toNat hn (by omega)]
 cases hb8:li n.toNat with
 |false=>
  have hb5:lQ n.toNat=false:=by
   cases h:lQ n.toNat with
   |false=>rfl
   |true=>rw[Ri _ h]at hb8;cases hb8
  rw[if_neg (by simp),hb5]
  refine ac (NS n) ?_
  rfl
 |true=>
  rw[if_pos rfl,if_pos rfl]
  obtain⟨e1,e2⟩:=J9 n.toNat hn (by omega) hb8
  refine ac (LZ _ h8) ?_
  rw[e1]
  cases hb5:lQ n.toNat with
  |true=>
   rw[if_pos rfl,cond_true,e2 hb5]
   have:((jZ n.toNat:Int)/256)=((jZ n.toNat/256:Nat):Int):=by omega
   rw[this,fM,fM]
  |false=>
   rw[if_neg (by simp),cond_false]
   rw[show((d9 n.toNat:Int)/16777216)=((d9 n.toNat/16777216:Nat):Int) by omega,show((d9 n.toNat:Int)/65536)=((d9 n.toNat/65536:Nat):Int) by omega,show((d9 n.toNat:Int)/256)=((d9 n.toNat/256:Nat):Int) by omega,fM,fM,fM,fM]
theorem lM{α β:Type}{m:Option α}{k:α→Option β}(h : ∃x,m=some x)(hk : ∀x,∃y,k x=some y): ∃y,bnd m k=some y:=by
 obtain⟨x,rfl⟩:=h;exact hk x
theorem pH{α β:Type}{m:Option α}{k:α→Option β}(p:α→Prop)(h : ∃x,m=some x∧p x)(hk : ∀x,p x→∃y,k x=some y): ∃y,bnd m k=some y:=by
 obtain⟨x,rfl,hp⟩:=h;exact hk x hp
theorem fO{α β:Type}{e:α}{k:α→Option β}(h : ∃y,k e=some y): ∃y,letm e k=some y:=h
theorem s_{α:Type}{b:Bool}{x z:Option α}(h:b=true→∃y,x=some y)(h2:b=false→∃y,z=some y): ∃y,cond b x z=some y:=by
 cases b with
 |true=>exact h rfl
 |false=>exact h2 rfl
theorem rG{α:Type}(x:α): ∃y,some x=some y:=⟨x,rfl⟩
theorem fA{α:Type}{l:List α}{k:Nat}(h:k<l.length): ∃x,aI l (k:Int)=some x:=⟨l[k],aE (List.getElem?_eq_getElem h)⟩
theorem wO{α:Type}{l:List α}{k:Nat}(h:k≤l.length):Gk.cut l (k:Int) (l.length:Int)=some (l.drop k):=by
 unfold Gk.cut
 rw[if_pos (by omega)];simp
theorem mL{α:Type}{l:List α}{k:Nat}(h:k≤l.length): ∃x,Gk.cut l (k:Int) (l.length:Int)=some x∧x.length=l.length-k:=⟨_,wO h,List.length_drop⟩
theorem qu(x:UInt64)(n:UInt64): ∃y:UInt64,(dO .u64 x (UInt64.toNat n:Int):Option UInt64)=some y:=by
 refine⟨_,(show(if((UInt64.toNat n:Nat):Int)<0 then none else some (fX .u64 (cO .u64 x*2^min ((UInt64.toNat n:Nat):Int).toNat (IntKind.bits .u64))))=some _ from if_neg (by omega))⟩
theorem pj{s:List UInt8}(h:8≤s.length): ∃x,au s=some x:=by
 unfold au
 refine lM (fA (k:=0) (by omega)) fun _=>fO ?_
 refine lM (fA (k:=1) (by omega)) fun _=>fO ?_
 refine lM (qu _ _) fun _=>fO ?_
 refine lM (fA (k:=2) (by omega)) fun _=>fO ?_
 refine lM (qu _ _) fun _=>fO ?_
 refine lM (fA (k:=3) (by omega)) fun _=>fO ?_
 refine lM (qu _ _) fun _=>fO ?_
 refine lM (fA (k:=4) (by omega)) fun _=>fO ?_
 refine lM (qu _ _) fun _=>fO ?_
 refine lM (fA (k:=5) (by omega)) fun _=>fO ?_
 refine lM (qu _ _) fun _=>fO ?_
 refine lM (fA (k:=6) (by omega)) fun _=>fO ?_
 refine lM (qu _ _) fun _=>fO ?_
 refine lM (fA (k:=7) (by omega)) fun _=>fO ?_
 refine lM (qu _ _) fun _=>fO ?_
 exact rG _
theorem Pt : ∀c:Fin 256,(Option.map (fun y:UInt8=>decide (y.toNat<16)) (cg .u8 (UInt8.ofNat c.1) (UInt64.toNat 4:Int)):Option Bool)=some true:=by decide +kernel
theorem NJ(x:UInt8): ∃y:UInt8,@Eq (Option UInt8) (cg .u8 x (UInt64.toNat 4:Int)) (some y)∧y.toNat<16:=by
 have h:=Pt ⟨x.toNat,UInt8.toNat_lt x⟩
 have e:UInt8.ofNat x.toNat=x:=by simp
 rw[show(UInt8.ofNat ((⟨x.toNat,UInt8.toNat_lt x⟩:Fin 256).1))=x from e]at h
 obtain⟨y,h1,h2⟩:=Option.map_eq_some_iff.1 h
 exact⟨y,h1,of_decide_eq_true h2⟩
theorem BV(self4:List UInt8→Option (Bool⊕Unit))(L:Nat)(h4 : ∀t:List UInt8,t.length≤L→∃v,self4 t=some v): ∀(f:Nat) (s:List UInt8),s.length<f→s.length≤L→∃v,aM (R:=(Bool⊕Unit)) (S:=(List UInt8)) (fun self25 s24=>bnd (β:=Bool) (letm (decide (32<(s24.length:Int))) fun x26=>cond x26 (bnd (au s24) fun x27=>bnd (Gk.cut s24 8 (s24.length:Int)) fun x28=>bnd (au x28) fun x29=>letm ((aS .or .u64 (x27:UInt64) (x29:UInt64):UInt64)) fun x30=>bnd (Gk.cut s24 16 (s24.length:Int)) fun x31=>bnd (au x31) fun x32=>bnd (Gk.cut s24 24 (s24.length:Int)) fun x33=>bnd (au x33) fun x34=>letm ((aS .or .u64 (x32:UInt64) (x34:UInt64):UInt64)) fun x35=>letm ((aS .or .u64 (x30:UInt64) (x35:UInt64):UInt64)) fun x36=>letm ((aS .and .u64 (x36:UInt64) (9259542123273814144:UInt64):UInt64)) fun x37=>letm (((UInt64.toNat x37:Int)==(UInt64.toNat 0:Int))) fun x38=>some x38) (some false)) fun v39=>cond v39 (bnd (Gk.cut s24 32 (s24.length:Int)) fun x40=>self25 x40) (self4 s24)) f s=some v
 |0,s,hf,_=>absurd hf (Nat.not_lt_zero _)
 |f+1,s,hf,hl=>by
  rw[bd]
  refine pH (fun b=>b=true→32<s.length) ?_ fun b hb=>?_
  ·by_cases h:32<s.length
   ·refine(?_ : ∃y,_=some y).elim fun y hy=>⟨y,hy,fun _=>h⟩
    refine fO (s_ (fun _=>?_) (fun h=>?_))
    ·refine lM (pj (by omega)) fun _=>?_
     refine pH _ (mL (k:=8) (by omega)) fun _ h1=>?_
     refine lM (pj (by omega)) fun _=>fO ?_
     refine pH _ (mL (k:=16) (by omega)) fun _ h2=>?_
     refine lM (pj (by omega)) fun _=>?_
     refine pH _ (mL (k:=24) (by omega)) fun _ h3=>?_
     refine lM (pj (by omega)) fun _=>fO (fO (fO (fO (rG _))))
    ·exact rG _
   ·refine⟨false,?_,fun h=>by cases h⟩
    rw[ab,decide_eq_false (by omega)];rfl
  ·refine s_ (fun h=>?_) (fun _=>h4 s hl)
   have:=hb h
   refine pH _ (mL (k:=32) (by omega)) fun t ht=>?_
   exact BV self4 L h4 f t (by omega) (by omega)
theorem B8 : ∀(f:Nat) (s:List UInt8),s.length<f→s.length≤1000000→∃v,aM (R:=(Bool⊕Unit)) (S:=(List UInt8)) (fun self4 s3=>letm (decide (0<(s3.length:Int))) fun x5=>cond x5 (bnd (aI s3 0) fun x6=>letm (decide ((UInt8.toNat x6:Int)<(UInt8.toNat 128:Int))) fun x7=>cond x7 (bnd (Gk.cut s3 1 (s3.length:Int)) fun x8=>bnd (β:=Bool) (letm (decide (8<(x8.length:Int))) fun x9=>cond x9 (bnd (au x8) fun x10=>letm ((aS .and .u64 (x10:UInt64) (9259542123273814144:UInt64):UInt64)) fun x11=>letm (((UInt64.toNat x11:Int)==(UInt64.toNat 0:Int))) fun x12=>some x12) (some false)) fun v13=>cond v13 (bnd (Gk.cut x8 8 (x8.length:Int)) fun x14=>bnd (β:=Bool) (letm (decide (16<(x14.length:Int))) fun x15=>cond x15 (bnd (au x14) fun x16=>bnd (Gk.cut x14 8 (x14.length:Int)) fun x17=>bnd (au x17) fun x18=>letm ((aS .or .u64 (x16:UInt64) (x18:UInt64):UInt64)) fun x19=>letm ((aS .and .u64 (x19:UInt64) (9259542123273814144:UInt64):UInt64)) fun x20=>letm (((UInt64.toNat x20:Int)==(UInt64.toNat 0:Int))) fun x21=>some x21) (some false)) fun v22=>cond v22 (bnd (Gk.cut x14 16 (x14.length:Int)) fun x23=>aM (R:=(Bool⊕Unit)) (S:=(List UInt8)) (fun self25 s24=>bnd (β:=Bool) (letm (decide (32<(s24.length:Int))) fun x26=>cond x26 (bnd (au s24) fun x27=>bnd (Gk.cut s24 8 (s24.length:Int)) fun x28=>bnd (au x28) fun x29=>letm ((aS .or .u64 (x27:UInt64) (x29:UInt64):UInt64)) fun x30=>bnd (Gk.cut s24 16 (s24.length:Int)) fun x31=>bnd (au x31) fun x32=>bnd (Gk.cut s24 24 (s24.length:Int)) fun x33=>bnd (au x33) fun x34=>letm ((aS .or .u64 (x32:UInt64) (x34:UInt64):UInt64)) fun x35=>letm ((aS .or .u64 (x30:UInt64) (x35:UInt64):UInt64)) fun x36=>letm ((aS .and .u64 (x36:UInt64) (9259542123273814144:UInt64):UInt64)) fun x37=>letm (((UInt64.toNat x37:Int)==(UInt64.toNat 0:Int))) fun x38=>some x38) (some false)) fun v39=>cond v39 (bnd (Gk.cut s24 32 (s24.length:Int)) fun x40=>self25 x40) (self4 s24)) bA x23) (self4 x14)) (self4 x8)) (bnd (aI ql (UInt8.toNat x6:Int)) fun x41=>letm ((av (bits .and .u8 (UInt8.toNat x41) (UInt8.toNat 7)))) fun x42=>letm ((aA (UInt8.toNat x42:Int))) fun x43=>bnd (cg .u8 x41 (UInt64.toNat 4:Int)) fun x44=>bnd (aI qN (UInt8.toNat x44:Int)) fun x45=>letm ((x43==2)) fun x46=>cond x46 (bnd (β:=Bool) (letm (decide ((s3.length:Int)<2)) fun x47=>cond x47 (some true) (bnd (aI s3 1) fun x48=>letm (decide ((UInt8.toNat x48:Int)<(UInt8.toNat x45.1:Int))) fun x49=>cond x49 (some true) (bnd (aI s3 1) fun x50=>letm (decide ((UInt8.toNat x45.2:Int)<(UInt8.toNat x50:Int))) fun x51=>some x51))) fun v52=>cond v52 (some (.inl false)) (bnd (Gk.cut s3 2 (s3.length:Int)) fun x53=>self4 x53)) (letm ((x43==3)) fun x54=>cond x54 (bnd (β:=Bool) (letm (decide ((s3.length:Int)<3)) fun x55=>cond x55 (some true) (bnd (aI s3 1) fun x56=>letm (decide ((UInt8.toNat x56:Int)<(UInt8.toNat x45.1:Int))) fun x57=>cond x57 (some true) (bnd (aI s3 1) fun x58=>letm (decide ((UInt8.toNat x45.2:Int)<(UInt8.toNat x58:Int))) fun x59=>cond x59 (some true) (bnd (aI s3 2) fun x60=>letm (decide ((UInt8.toNat x60:Int)<(UInt8.toNat 128:Int))) fun x61=>cond x61 (some true) (bnd (aI s3 2) fun x62=>letm (decide ((UInt8.toNat 191:Int)<(UInt8.toNat x62:Int))) fun x63=>some x63))))) fun v64=>cond v64 (some (.inl false)) (bnd (Gk.cut s3 3 (s3.length:Int)) fun x65=>self4 x65)) (letm ((x43==4)) fun x66=>cond x66 (bnd (β:=Bool) (letm (decide ((s3.length:Int)<4)) fun x67=>cond x67 (some true) (bnd (aI s3 1) fun x68=>letm (decide ((UInt8.toNat x68:Int)<(UInt8.toNat x45.1:Int))) fun x69=>cond x69 (some true) (bnd (aI s3 1) fun x70=>letm (decide ((UInt8.toNat x45.2:Int)<(UInt8.toNat x70:Int))) fun x71=>cond x71 (some true) (bnd (aI s3 2) fun x72=>letm (decide ((UInt8.toNat x72:Int)<(UInt8.toNat 128:Int))) fun x73=>cond x73 (some true) (bnd (aI s3 2) fun x74=>letm (decide ((UInt8.toNat 191:Int)<(UInt8.toNat x74:Int))) fun x75=>cond x75 (some true) (bnd (aI s3 3) fun x76=>letm (decide ((UInt8.toNat x76:Int)<(UInt8.toNat 128:Int))) fun x77=>cond x77 (some true) (bnd (aI s3 3) fun x78=>letm (decide ((UInt8.toNat 191:Int)<(UInt8.toNat x78:Int))) fun x79=>some x79))))))) fun v80=>cond v80 (some (.inl false)) (bnd (Gk.cut s3 4 (s3.length:Int)) fun x81=>self4 x81)) (some (.inl false)))))) (some (.inr ()))) f s=some v
 |0,s,hf,_=>absurd hf (Nat.not_lt_zero _)
 |f+1,s,hf,hl=>by
  have ih:=fun(t:List UInt8) (ht:t.length<s.length)=>B8 f t (by omega) (by omega)
  rw[bd]
  refine fO (s_ (fun h0=>?_) (fun _=>rG _))
  have h0:0<s.length:=by have:=of_decide_eq_true h0;omega
  refine lM (fA (k:=0) (by omega)) fun x6=>fO (s_ (fun _=>?_) (fun _=>?_))
  ·refine pH _ (mL (k:=1) (by omega)) fun x8 h8=>?_
   refine pH (fun b=>b=true→8<x8.length) ?_ fun b hb=>s_ (fun h=>?_) (fun _=>ih _ (by omega))
   ·by_cases h:8<x8.length
    ·refine(?_ : ∃y,_=some y).elim fun y hy=>⟨y,hy,fun _=>h⟩
     exact fO (s_ (fun _=>lM (pj (by omega)) fun _=>fO (fO (rG _))) (fun _=>rG _))
    ·exact⟨false,by rw[ab,decide_eq_false (by omega)];rfl,fun h=>by cases h⟩
   ·have:=hb h
    refine pH _ (mL (k:=8) (by omega)) fun x14 h14=>?_
    refine pH (fun b=>b=true→16<x14.length) ?_ fun b hb=>s_ (fun h=>?_) (fun _=>ih _ (by omega))
    ·by_cases h:16<x14.length
     ·refine(?_ : ∃y,_=some y).elim fun y hy=>⟨y,hy,fun _=>h⟩
      refine fO (s_ (fun _=>?_) (fun _=>rG _))
      refine lM (pj (by omega)) fun _=>?_
      refine pH _ (mL (k:=8) (by omega)) fun _ h1=>?_
      exact lM (pj (by omega)) fun _=>fO (fO (fO (rG _)))
     ·exact⟨false,by rw[ab,decide_eq_false (by omega)];rfl,fun h=>by cases h⟩
    ·have:=hb h
     refine pH _ (mL (k:=16) (by omega)) fun x23 h23=>?_
     exact BV _ x23.length (fun t ht=>ih t (by omega)) bA x23 (by rw[cG];omega) (Nat.le_refl _)
  ·refine lM (fA (k:=x6.toNat) (by have:=UInt8.toNat_lt x6;rw[w8];exact this)) fun x41=>fO (fO ?_)
   refine pH _ (NJ x41) fun x44 h44=>?_
   refine lM (fA (k:=x44.toNat) (by rw[xy];exact h44)) fun x45=>fO (s_ (fun _=>?_) (fun _=>fO (s_ (fun _=>?_) (fun _=>fO (s_ (fun _=>?_) (fun _=>rG _))))))
   ·refine pH (fun b=>b=false→2≤s.length) ?_ fun b hb=>s_ (fun _=>rG _) (fun h=>?_)
    ·by_cases h:2≤s.length
     ·refine(?_ : ∃y,_=some y).elim fun y hy=>⟨y,hy,fun _=>h⟩
      refine fO (s_ (fun _=>rG _) (fun _=>?_))
      refine lM (fA (k:=1) (by omega)) fun _=>fO (s_ (fun _=>rG _) (fun _=>?_))
      exact lM (fA (k:=1) (by omega)) fun _=>fO (rG _)
     ·exact⟨true,by rw[ab,decide_eq_true (by omega)];rfl,fun h=>by cases h⟩
    ·have:=hb h
     refine pH _ (mL (k:=2) (by omega)) fun _ ht=>ih _ (by omega)
   ·refine pH (fun b=>b=false→3≤s.length) ?_ fun b hb=>s_ (fun _=>rG _) (fun h=>?_)
    ·by_cases h:3≤s.length
     ·refine(?_ : ∃y,_=some y).elim fun y hy=>⟨y,hy,fun _=>h⟩
      refine fO (s_ (fun _=>rG _) (fun _=>?_))
      refine lM (fA (k:=1) (by omega)) fun _=>fO (s_ (fun _=>rG _) (fun _=>?_))
      refine lM (fA (k:=1) (by omega)) fun _=>fO (s_ (fun _=>rG _) (fun _=>?_))
      refine lM (fA (k:=2) (by omega)) fun _=>fO (s_ (fun _=>rG _) (fun _=>?_))
      exact lM (fA (k:=2) (by omega)) fun _=>fO (rG _)
     ·exact⟨true,by rw[ab,decide_eq_true (by omega)];rfl,fun h=>by cases h⟩
    ·have:=hb h
     refine pH _ (mL (k:=3) (by omega)) fun _ ht=>ih _ (by omega)
   ·refine pH (fun b=>b=false→4≤s.length) ?_ fun b hb=>s_ (fun _=>rG _) (fun h=>?_)
    ·by_cases h:4≤s.length
     ·refine(?_ : ∃y,_=some y).elim fun y hy=>⟨y,hy,fun _=>h⟩
      refine fO (s_ (fun _=>rG _) (fun _=>?_))
      refine lM (fA (k:=1) (by omega)) fun _=>fO (s_ (fun _=>rG _) (fun _=>?_))
      refine lM (fA (k:=1) (by omega)) fun _=>fO (s_ (fun _=>rG _) (fun _=>?_))
      refine lM (fA (k:=2) (by omega)) fun _=>fO (s_ (fun _=>rG _) (fun _=>?_))
      refine lM (fA (k:=2) (by omega)) fun _=>fO (s_ (fun _=>rG _) (fun _=>?_))
      refine lM (fA (k:=3) (by omega)) fun _=>fO (s_ (fun _=>rG _) (fun _=>?_))
      exact lM (fA (k:=3) (by omega)) fun _=>fO (rG _)
     ·exact⟨true,by rw[ab,decide_eq_true (by omega)];rfl,fun h=>by cases h⟩
    ·have:=hb h
     refine pH _ (mL (k:=4) (by omega)) fun _ ht=>ih _ (by omega)
theorem MO{s:List UInt8}(h:s.length≤1000000): ∃v,bw s=some v:=by
 unfold bw
 have e:Gk.cut s 0 (s.length:Int)=some s:=by
  have:=wO (l:=s) (k:=0) (by omega)
  rwa [List.drop_zero]at this
 rw[e,ae,e,ae]
 obtain⟨v,hv⟩:=B8 bA s (by rw[cG];omega) h
 rw[hv]
 cases v with
 |inl q=>exact⟨q,rfl⟩
 |inr _=>exact⟨true,rfl⟩
def hd(m:Nat)(n:UInt64):List UInt8:=
 if n.toNat<24 then [UInt8.ofNat (32*m+n.toNat)]else if n.toNat<256 then [UInt8.ofNat (32*m+24),UInt8.ofNat n.toNat]
 else if n.toNat<65536 then [UInt8.ofNat (32*m+25),UInt8.ofNat (n.toNat/256),UInt8.ofNat n.toNat]
 else if n.toNat<4294967296 then [UInt8.ofNat (32*m+26),UInt8.ofNat (n.toNat/16777216),UInt8.ofNat (n.toNat/65536),UInt8.ofNat (n.toNat/256),UInt8.ofNat n.toNat]
 else UInt8.ofNat (32*m+27)::GT n
theorem jb(m:Nat)(n:UInt64):1≤(hd m n).length∧(hd m n).length≤9:=by
 unfold hd GT
 split
 ·simp
 ·split
  ·simp
  ·split
   ·simp
   ·split<;>simp
theorem yg : ∀(m:Fin 8) (n:Fin 24),cj (UInt8.ofNat m.1) (UInt64.ofNat n.1)=some [UInt8.ofNat (32*m.1+n.1)]∧az (m.1:Int) (UInt64.ofNat n.1)=some [UInt8.ofNat (32*m.1+n.1)]:=by decide +kernel
theorem dS(a b:Nat):decide ((a:Int)<(b:Int))=decide (a<b):=by
 rw[Bool.eq_iff_iff,decide_eq_true_eq,decide_eq_true_eq];omega
theorem SR : ∀m:Fin 8,(Option.map (fun x:UInt8=>x.toNat) (dO .u8 (UInt8.ofNat m.1) (UInt64.toNat 5:Int)):Option Nat)=some (32*m.1):=by decide +kernel
theorem Q7(m:Fin 8): @Eq (Option UInt8) (dO .u8 (UInt8.ofNat m.1) (UInt64.toNat 5:Int)) (some (UInt8.ofNat (32*m.1))):=by
 obtain⟨x,h1,h2⟩:=Option.map_eq_some_iff.1 (SR m)
 have h1 : @Eq (Option UInt8) (dO .u8 (UInt8.ofNat m.1) (UInt64.toNat 5:Int)) (some x):=h1
 refine h1.trans (congrArg some ?_)
 apply UInt8.toNat_inj.1
 have:=m.2
 rw[UInt8.toNat_ofNat']
 have h2:x.toNat=32*m.1:=h2
 omega
theorem tS(m:Fin 8):av (bits .or .u8 (UInt8.toNat (UInt8.ofNat (32*m.1))) (UInt8.toNat 24))=UInt8.ofNat (32*m.1+24)∧av (bits .or .u8 (UInt8.toNat (UInt8.ofNat (32*m.1))) (UInt8.toNat 25))=UInt8.ofNat (32*m.1+25)∧
  av (bits .or .u8 (UInt8.toNat (UInt8.ofNat (32*m.1))) (UInt8.toNat 26))=UInt8.ofNat (32*m.1+26)∧av (bits .or .u8 (UInt8.toNat (UInt8.ofNat (32*m.1))) (UInt8.toNat 27))=UInt8.ofNat (32*m.1+27):=by
 revert m;decide +kernel
theorem GI(c:UInt8)(a1:UInt64):aM (R:=(List UInt8)) (S:=((List UInt8)×Int)) (fun self25 s24=>
  letm (decide (0≤s24.2)) fun x26=>
  cond x26 (bnd ((cg .u64 (a1:UInt64) s24.2:Option UInt64)) fun(x27:UInt64)=>
  letm ((av (UInt64.toNat x27:Int))) fun x28=>
  bnd (app s24.1 [x28]) fun x29=>
  letm ((aA (s24.2-8))) fun x30=>
  self25 (x29,x30))
   (some s24.1)) bA ([c],56)=some (c::GT a1):=by kernel_rfl
theorem lZ(m:Fin 8)(n:UInt64):cj (UInt8.ofNat m.1) n=some (hd m.1 n):=by
 have hn:=n.toNat_lt
 unfold hd
 by_cases h1:n.toNat<24
 ·rw[if_pos h1]
  have:=(yg m ⟨n.toNat,h1⟩).1
  simpa using this
 rw[if_neg h1]
 unfold cj
 refine ac (Q7 m) ?_
 rw[ab,show decide ((UInt64.toNat n:Int)<(UInt64.toNat 24:Int))=false from(dS _ 24).trans (decide_eq_false h1),aw,ab]
 by_cases h2:n.toNat<256
 ·rw[if_pos h2,show decide ((UInt64.toNat n:Int)<(UInt64.toNat 256:Int))=true from(dS _ 256).trans (decide_eq_true h2),bf,ab,ab,(tS m).1,fM]
 rw[if_neg h2,show decide ((UInt64.toNat n:Int)<(UInt64.toNat 256:Int))=false from(dS _ 256).trans (decide_eq_false h2),aw,ab]
 by_cases h3:n.toNat<65536
 ·rw[if_pos h3,show decide ((UInt64.toNat n:Int)<(UInt64.toNat 65536:Int))=true from(dS _ 65536).trans (decide_eq_true h3),bf,ab]
  refine ac (o9 n 8 (by omega)) ?_
  rw[ab,ab,(tS m).2.1,aV (by omega),fM,fM]
 rw[if_neg h3,show decide ((UInt64.toNat n:Int)<(UInt64.toNat 65536:Int))=false from(dS _ 65536).trans (decide_eq_false h3),aw,ab]
 by_cases h4:n.toNat<4294967296
 ·rw[if_pos h4,show decide ((UInt64.toNat n:Int)<(UInt64.toNat 4294967296:Int))=true from(dS _ 4294967296).trans (decide_eq_true h4),bf,ab]
  refine ac (o9 n 24 (by omega)) ?_
  rw[ab]
  refine ac (o9 n 16 (by omega)) ?_
  rw[ab]
  refine ac (o9 n 8 (by omega)) ?_
  rw[ab,ab,(tS m).2.2.1,aV (n:=n.toNat/2^24) (by omega),aV (n:=n.toNat/2^16) (by omega),aV (n:=n.toNat/2^8) (by omega),fM,fM,fM,fM]
 rw[if_neg h4,show decide ((UInt64.toNat n:Int)<(UInt64.toNat 4294967296:Int))=false from(dS _ 4294967296).trans (decide_eq_false h4),aw,ab,(tS m).2.2.2]
 exact GI _ n
theorem AT : ∀m:Fin 8,av (aA (aA (32*(m.1:Int))+24))=UInt8.ofNat (32*m.1+24)∧av (aA (aA (32*(m.1:Int))+24))+1=UInt8.ofNat (32*m.1+25)∧av (aA (aA (32*(m.1:Int))+24))+2=UInt8.ofNat (32*m.1+26)∧av (aA (aA (32*(m.1:Int))+24))+3=UInt8.ofNat (32*m.1+27):=by decide +kernel
def M2(a1:UInt64):((List UInt8×Int)→Option (List UInt8))→(List UInt8×Int)→Option (List UInt8):=fun self34 s33=>
 letm (decide (0≤s33.2)) fun x35=>
 cond x35 (letm ((aB s33.2)) fun x36=>
 letm ((8*x36)) fun x37=>
 bnd ((cg .u64 (a1:UInt64) (UInt64.toNat x37:Int):Option UInt64)) fun(x38:UInt64)=>
 letm ((av (UInt64.toNat x38:Int))) fun x39=>
 bnd (app s33.1 [x39]) fun x40=>
 letm ((aA (s33.2-1))) fun x41=>
 self34 (x40,x41))
  (some s33.1)
theorem Rd(c:UInt8)(n:UInt64):aM (M2 n) bA ([c],aA (1-1))=some [c,av ((UInt64.ofNat (n.toNat/2^0)).toNat:Int)]:=by kernel_rfl
theorem Q4(c:UInt8)(n:UInt64):aM (M2 n) bA ([c],aA (2-1))=some [c,av ((UInt64.ofNat (n.toNat/2^8)).toNat:Int),av ((UInt64.ofNat (n.toNat/2^0)).toNat:Int)]:=by kernel_rfl
theorem Q3(c:UInt8)(n:UInt64):aM (M2 n) bA ([c],aA (4-1))=some [c,av ((UInt64.ofNat (n.toNat/2^24)).toNat:Int),av ((UInt64.ofNat (n.toNat/2^16)).toNat:Int),av ((UInt64.ofNat (n.toNat/2^8)).toNat:Int),av ((UInt64.ofNat (n.toNat/2^0)).toNat:Int)]:=by kernel_rfl
theorem Ru(c:UInt8)(n:UInt64):aM (M2 n) bA ([c],aA (8-1))=some (c::GT n):=by kernel_rfl
theorem mW(m:Fin 8)(n:UInt64):az (m.1:Int) n=some (hd m.1 n):=by
 have hn:=n.toNat_lt
 unfold hd
 by_cases h1:n.toNat<24
 ·rw[if_pos h1]
  have:=(yg m ⟨n.toNat,h1⟩).2
  simpa using this
 rw[if_neg h1]
 have i0 : ∀x:UInt8,aI [x] (0:Int)=some x:=fun x=>aE (i:=0) rfl
 have i1 : ∀x:UInt8,aI [x] (((0:Int).toNat:Nat):Int)=some x:=fun x=>aE (i:=0) rfl
 unfold az
 rw[ab,ab,ab,ab,show decide ((UInt64.toNat n:Int)<(UInt64.toNat 24:Int))=false from(dS _ 24).trans (decide_eq_false h1),aw,ab]
 by_cases h2:n.toNat<256
 ·rw[if_pos h2,show decide ((UInt64.toNat n:Int)<(UInt64.toNat 256:Int))=true from(dS _ 256).trans (decide_eq_true h2),bf,jH,ab]
  refine(Rd _ n).trans ?_
  rw[(AT m).1,aV (by omega),fM,Nat.pow_zero,Nat.div_one]
 rw[if_neg h2,show decide ((UInt64.toNat n:Int)<(UInt64.toNat 256:Int))=false from(dS _ 256).trans (decide_eq_false h2),aw,ab]
 by_cases h3:n.toNat<65536
 ·rw[if_pos h3,show decide ((UInt64.toNat n:Int)<(UInt64.toNat 65536:Int))=true from(dS _ 65536).trans (decide_eq_true h3),bf,i0,ae,i1,ae,ab,ae,ae,ab,jH,ab]
  refine(Q4 _ n).trans ?_
  rw[(AT m).2.1,aV (n:=n.toNat/2^8) (by omega),aV (n:=n.toNat/2^0) (by omega),fM,fM,Nat.pow_zero,Nat.div_one]
 rw[if_neg h3,show decide ((UInt64.toNat n:Int)<(UInt64.toNat 65536:Int))=false from(dS _ 65536).trans (decide_eq_false h3),aw,ab]
 by_cases h4:n.toNat<4294967296
 ·rw[if_pos h4,show decide ((UInt64.toNat n:Int)<(UInt64.toNat 4294967296:Int))=true from(dS _ 4294967296).trans (decide_eq_true h4),bf,i0,ae,i1,ae,ab,ae,ae,ab,jH,ab]
  refine(Q3 _ n).trans ?_
  rw[(AT m).2.2.1,aV (n:=n.toNat/2^24) (by omega),aV (n:=n.toNat/2^16) (by omega),aV (n:=n.toNat/2^8) (by omega),aV (n:=n.toNat/2^0) (by omega),fM,fM,fM,fM,Nat.pow_zero,Nat.div_one]
 rw[if_neg h4,show decide ((UInt64.toNat n:Int)<(UInt64.toNat 4294967296:Int))=false from(dS _ 4294967296).trans (decide_eq_false h4),aw,i0,ae,i1,ae,ab,ae,ae,ab,jH,ab,(AT m).2.2.2]
 exact Ru _ n
theorem J0(a b:List UInt8)(ha:a.length≤2000000)(hb:b.length≤2000000): ∀(f:Nat) (i:Nat),i≤a.length→i≤b.length→a.length-i<f→aM (R:=Int) (S:=Int) (fun self3 s2=>
  bnd (β:=Bool) (letm (decide (s2<(a.length:Int))) fun x4=>
  cond x4 (letm (decide (s2<(b.length:Int))) fun x5=>
  some x5)
   (some false)) fun v6=>
  cond v6 (bnd (aI a s2) fun x7=>
  bnd (aI b s2) fun x8=>
  letm (((UInt8.toNat x7:Int) != (UInt8.toNat x8:Int))) fun x9=>
  cond x9 (bnd (aI a s2) fun x10=>
  bnd (aI b s2) fun x11=>
  letm (decide ((UInt8.toNat x10:Int)<(UInt8.toNat x11:Int))) fun x12=>
  cond x12 (some (-1))
   (some 1))
   (letm ((aA (s2+1))) fun x13=>
  self3 x13))
   (letm (decide ((a.length:Int)<(b.length:Int))) fun x14=>
  cond x14 (some (-1))
   (letm (decide ((b.length:Int)<(a.length:Int))) fun x15=>
  cond x15 (some 1)
   (some 0)))) f (i:Int)=some (Lib.compareBytes (a.drop i) (b.drop i))
 |0,i,_,_,hf=>absurd hf (Nat.not_lt_zero _)
 |f+1,i,h1,h2,hf=>by
  rw[bd,ab,ab,lF,ae,dS,dS]
  by_cases ca:i<a.length
  ·by_cases cb:i<b.length
   ·rw[decide_eq_true ca,decide_eq_true cb,show(true&&true)=true from rfl,bf,aE (List.getElem?_eq_getElem ca),ae,aE (List.getElem?_eq_getElem cb),ae,ab,ae,ae,ab,dS,
     List.drop_eq_getElem_cons ca,List.drop_eq_getElem_cons cb,Lib.compareBytes]
    generalize a[i]=p
    generalize b[i]=q
    by_cases hpq:p=q
    ·subst hpq
     rw[show(((UInt8.toNat p:Nat):Int) != ((UInt8.toNat p:Nat):Int))=false by simp,aw,ab,an (by omega) (by omega),if_neg (by simp),if_neg (by simp)]
     exact J0 a b ha hb f (i+1) (by omega) (by omega) (by omega)
    ·have hne:p.toNat≠q.toNat:=fun h=>hpq (UInt8.toNat_inj.1 h)
     rw[show(((UInt8.toNat p:Nat):Int) != ((UInt8.toNat q:Nat):Int))=true by rw[bne_iff_ne];omega,bf]
     by_cases hlt:p.toNat<q.toNat
     ·rw[decide_eq_true hlt,bf,if_pos (UInt8.lt_iff_toNat_lt.2 hlt)]
     ·rw[decide_eq_false hlt,aw,if_neg (fun h=>hlt (UInt8.lt_iff_toNat_lt.1 h)),if_pos (UInt8.lt_iff_toNat_lt.2 (by omega))]
   ·rw[decide_eq_true ca,decide_eq_false cb,show(true&&false)=false from rfl,aw,ab,dS,ab,dS,decide_eq_false (by omega),aw,decide_eq_true (by omega),bf,List.drop_eq_getElem_cons ca,List.drop_of_length_le (show b.length≤i by omega),Lib.compareBytes]
  ·rw[decide_eq_false ca,show(false&&decide (i<b.length))=false from rfl,aw,ab,dS,List.drop_of_length_le (show a.length≤i by omega)]
   by_cases cb:i<b.length
   ·rw[decide_eq_true (by omega),bf,List.drop_eq_getElem_cons cb,Lib.compareBytes]
   ·rw[decide_eq_false (by omega),aw,ab,dS,decide_eq_false (by omega),aw,List.drop_of_length_le (show b.length≤i by omega),Lib.compareBytes]
theorem sW(a b:List UInt8)(ha:a.length≤2000000)(hb:b.length≤2000000):bi a b=some (Lib.compareBytes a b):=
 J0 a b ha hb bA 0 (by omega) (by omega) (by rw[cG];omega)
def fB(k:Int)(n:UInt64)(b:List UInt8)(m:Nat):List UInt8:=
 if k=8 then fE n else if k=7∧24≤n.toNat then [248,UInt8.ofNat n.toNat]else if k=2∨k=3 then hd k.toNat (UInt64.ofNat b.length)++b
 else if k=4 then hd 4 (UInt64.ofNat m)else if k=5 then hd 5 (UInt64.ofNat (m/2))else hd k.toNat n
mutual
def aG:Tr→List UInt8
 | .mk k n b l=>fB k n b l.length++co l
def co:List Tr→List UInt8
 | []=>[]
 |x::l=>aG x++co l
end
mutual
def cD:Tr→Nat
 | .mk _ _ _ l=>1+dz l
def dz:List Tr→Nat
 | []=>0
 |x::l=>cD x+dz l
end
theorem fJ(k n b l):aG (.mk k n b l)=fB k n b l.length++co l:=by unfold aG;rfl
theorem bP:co [] = []:=by unfold co;rfl
theorem bh(x l):co (x::l)=aG x++co l:=by rw[co]
theorem fc(k n b l):cD (.mk k n b l)=1+dz l:=by unfold cD;rfl
theorem cU:dz []=0:=by unfold dz;rfl
theorem bC(x l):dz (x::l)=cD x+dz l:=by rw[dz]
theorem tL(x:Tr):1≤cD x:=by cases x;rw[fc];omega
theorem dA : ∀l:List Tr,l.length≤dz l
 | []=>by simp
 |x::l=>by have:=dA l;have:=tL x;rw[bC,List.length_cons];omega
noncomputable def Hj (b:List UInt8):Bool:=(bw b).getD false
theorem EO{b:List UInt8}(h:b.length≤1000000):bw b=some (Hj b):=by
 obtain⟨v,hv⟩:=MO h
 unfold Hj
 rw[hv];rfl
def qA(n:UInt64):Bool:=decide (n.toNat%9223372036854775808≤9218868437227405312)||decide (n.toNat=9221120237041090560)
def iw:List (List UInt8)→Bool
 |a::b::c::r=>decide (Lib.compareBytes a c<0)&&iw (c::r)
 |_=>true
noncomputable def rW (k:Int) (n:UInt64) (b:List UInt8) (l:List Tr):Bool:=
 bif k==0||k==1 then b.isEmpty&&l.isEmpty
 else bif k==2 then n.toNat==0&&l.isEmpty&&decide (b.length≤4096)
 else bif k==3 then n.toNat==0&&l.isEmpty&&decide (b.length≤4096)&&Hj b
 else bif k==7 then b.isEmpty&&l.isEmpty&&(decide (n.toNat<24)||decide (32≤n.toNat)&&decide (n.toNat<256))
 else bif k==8 then b.isEmpty&&l.isEmpty&&qA n
 else false
def Bu(k:Int)(n:UInt64)(b:List UInt8)(m:Nat)(d:Nat):Bool:=
 (k==4||k==5||k==6)&&decide (1≤d)&&b.isEmpty&&(bif k==6 then m==1 else n.toNat==0)&&(k != 5||m%2==0)
mutual
noncomputable def vT:Tr→Nat→Bool
 | .mk k n b l,d=>rW k n b l||Bu k n b l.length d&&vL l (d-1)&&(k != 5||iw (l.map aG))
noncomputable def vL:List Tr→Nat→Bool
 | [],_=>true
 |x::l,d=>vT x d&&vL l d
end
theorem od(k n b l d):vT (.mk k n b l) d=(rW k n b l||Bu k n b l.length d&&vL l (d-1)&&(k != 5||iw (l.map aG))):=by unfold vT;rfl
theorem kV(d):vL [] d=true:=by unfold vL;rfl
theorem fH(x l d):vL (x::l) d=(vT x d&&vL l d):=by rw[vL]
theorem NO{n:UInt64}(h:n.toNat=0):n=0:=UInt64.toNat_inj.1 h
theorem nU{k:Int}{n:UInt64}{b:List UInt8}{l:List Tr}{d:Nat}(h:vT (.mk k n b l) d=true):
  ((k=0∨k=1)∧b = []∧l = [])∨(k=2∧n=0∧l = []∧b.length≤4096)∨(k=3∧n=0∧l = []∧b.length≤4096∧Hj b=true)∨
  (k=7∧b = []∧l = []∧(n.toNat<24∨32≤n.toNat∧n.toNat<256))∨(k=8∧b = []∧l = []∧qA n=true)∨
  (k=4∧n=0∧b = []∧1≤d∧vL l (d-1)=true)∨(k=5∧n=0∧b = []∧1≤d∧l.length%2=0∧vL l (d-1)=true∧iw (l.map aG)=true)∨
  (k=6∧b = []∧1≤d∧∃y,l = [y]∧vT y (d-1)=true):=by
 rw[od,Bool.or_eq_true]at h
 rcases h with h |h
 ·unfold rW at h
  by_cases c1:(k==0||k==1)=true
  ·rw[c1,cond_true,Bool.and_eq_true,List.isEmpty_iff,List.isEmpty_iff]at h
   simp only[Bool.or_eq_true,beq_iff_eq]at c1
   exact .inl ⟨c1,h⟩
  rw[Bool.not_eq_true]at c1
  rw[c1,cond_false]at h
  by_cases c2:(k==2)=true
  ·rw[c2,cond_true]at h
   simp only[Bool.and_eq_true,beq_iff_eq,List.isEmpty_iff,decide_eq_true_eq]at h c2
   exact .inr (.inl ⟨c2,NO h.1.1,h.1.2,h.2⟩)
  rw[Bool.not_eq_true]at c2
  rw[c2,cond_false]at h
  by_cases c3:(k==3)=true
  ·rw[c3,cond_true]at h
   simp only[Bool.and_eq_true,beq_iff_eq,List.isEmpty_iff,decide_eq_true_eq]at h c3
   exact .inr (.inr (.inl ⟨c3,NO h.1.1.1,h.1.1.2,h.1.2,h.2⟩))
  rw[Bool.not_eq_true]at c3
  rw[c3,cond_false]at h
  by_cases c4:(k==7)=true
  ·rw[c4,cond_true]at h
   simp only[Bool.and_eq_true,Bool.or_eq_true,beq_iff_eq,List.isEmpty_iff,decide_eq_true_eq]at h c4
   exact .inr (.inr (.inr (.inl ⟨c4,h.1.1,h.1.2,h.2⟩)))
  rw[Bool.not_eq_true]at c4
  rw[c4,cond_false]at h
  by_cases c5:(k==8)=true
  ·rw[c5,cond_true]at h
   simp only[Bool.and_eq_true,beq_iff_eq,List.isEmpty_iff]at h c5
   exact .inr (.inr (.inr (.inr (.inl ⟨c5,h.1.1,h.1.2,h.2⟩))))
  rw[Bool.not_eq_true]at c5
  rw[c5,cond_false]at h
  cases h
 ·unfold Bu at h
  simp only[Bool.and_eq_true,Bool.or_eq_true,beq_iff_eq,bne_iff_ne,List.isEmpty_iff,decide_eq_true_eq]at h
  obtain⟨⟨⟨⟨⟨⟨hk,hd⟩,hb⟩,hn⟩,h5⟩,hL⟩,hA⟩:=h
  rcases hk with(rfl |rfl) |rfl
  ·have hn:(n.toNat==0)=true:=hn
   exact .inr (.inr (.inr (.inr (.inr (.inl ⟨rfl,NO (beq_iff_eq.1 hn),hb,hd,hL⟩)))))
  ·have hn:(n.toNat==0)=true:=hn
   exact .inr (.inr (.inr (.inr (.inr (.inr (.inl ⟨rfl,NO (beq_iff_eq.1 hn),hb,hd,by simpa using h5,hL,by simpa using hA⟩))))))
  ·have hn:(l.length==1)=true:=hn
   obtain⟨y,rfl⟩:=List.length_eq_one_iff.1 (beq_iff_eq.1 hn)
   rw[fH,kV,Bool.and_true]at hL
   exact .inr (.inr (.inr (.inr (.inr (.inr (.inr ⟨rfl,hb,hd,y,rfl,hL⟩))))))
theorem de(k:Int)(n:UInt64)(b:List UInt8)(m:Nat):1≤(fB k n b m).length∧(fB k n b m).length≤9+b.length:=by
 have f:=K5 n
 have g:=fun m' n'=>jb m' n'
 unfold fB
 split
 ·omega
 ·split
  ·simp;omega
  ·split
   ·have:=g k.toNat (UInt64.ofNat b.length);rw[List.length_append];omega
   ·split
    ·have:=g 4 (UInt64.ofNat m);omega
    ·split
     ·have:=g 5 (UInt64.ofNat (m/2));omega
     ·have:=g k.toNat n;omega
theorem ny{k:Int}{n:UInt64}{b:List UInt8}{l:List Tr}{d:Nat}(h:vT (.mk k n b l) d=true):b.length≤4096:=by
 rcases nU h with⟨_,rfl,_⟩ | ⟨_,_,_,h⟩ | ⟨_,_,_,h,_⟩ | ⟨_,rfl,_⟩ | ⟨_,rfl,_⟩ | ⟨_,_,rfl,_⟩ | ⟨_,_,rfl,_⟩ | ⟨_,rfl,_⟩<;>first |exact h |exact Nat.zero_le _
theorem oX{k:Int}{n:UInt64}{b:List UInt8}{l:List Tr}{d:Nat}(h:vT (.mk k n b l) d=true):l = []∨1≤d∧vL l (d-1)=true:=by
 rcases nU h with⟨_,_,h⟩ | ⟨_,_,h,_⟩ | ⟨_,_,h,_⟩ | ⟨_,_,h,_⟩ | ⟨_,_,h,_⟩ | ⟨_,_,_,h1,h⟩ | ⟨_,_,_,h1,_,h,_⟩ | ⟨_,_,h1,y,rfl,hy⟩
 ·exact .inl h
 ·exact .inl h
 ·exact .inl h
 ·exact .inl h
 ·exact .inl h
 ·exact .inr ⟨h1,h⟩
 ·exact .inr ⟨h1,h⟩
 ·exact .inr ⟨h1,by rw[fH,kV,hy];rfl⟩
mutual
theorem pS:(x:Tr)→(d:Nat)→vT x d=true→(aG x).length≤4105*cD x
 | .mk k n b l,d,h=>by
  have h1:=(de k n b l.length).2
  have h2:=ny h
  rw[fJ,fc,List.length_append]
  rcases oX h with rfl | ⟨_,hl⟩
  ·rw[bP,cU];simp only[List.length_nil]at h1⊢;omega
  ·have:=Do l _ hl
   omega
theorem Do:(l:List Tr)→(d:Nat)→vL l d=true→(co l).length≤4105*dz l
 | [],_,_=>by rw[bP];simp
 |x::l,d,h=>by
  rw[fH,Bool.and_eq_true]at h
  have h1:=pS x d h.1
  have h2:=Do l d h.2
  rw[bh,bC,List.length_append]
  omega
end
theorem h0(n:UInt64):az 0 n=some (hd 0 n):=mW 0 n
theorem h1(n:UInt64):az 1 n=some (hd 1 n):=mW 1 n
theorem h2(n:UInt64):az 2 n=some (hd 2 n):=mW 2 n
theorem h3(n:UInt64):az 3 n=some (hd 3 n):=mW 3 n
theorem h4(n:UInt64):az 4 n=some (hd 4 n):=mW 4 n
theorem h5(n:UInt64):az 5 n=some (hd 5 n):=mW 5 n
theorem h6(n:UInt64):az 6 n=some (hd 6 n):=mW 6 n
theorem MP{n:Nat}(h:n≤1000000):quo ((n:Nat):Int) 2=some ((n/2:Nat):Int):=by
 unfold quo
 rw[if_neg (by omega)]
 refine congrArg some ?_
 rw[show((n:Nat):Int).tdiv 2=((n/2:Nat):Int)from(Int.ofNat_tdiv n 2).symm,an (by omega) (by omega)]
theorem own0(n b m):fB 0 n b m=hd 0 n:=rfl
theorem G4(n b m):fB 1 n b m=hd 1 n:=rfl
theorem JV(n b m):fB 2 n b m=hd 2 (UInt64.ofNat b.length)++b:=rfl
theorem Me(n b m):fB 3 n b m=hd 3 (UInt64.ofNat b.length)++b:=rfl
theorem P5(n b m):fB 4 n b m=hd 4 (UInt64.ofNat m):=rfl
theorem Nk(n b m):fB 5 n b m=hd 5 (UInt64.ofNat (m/2)):=rfl
theorem P0(n b m):fB 6 n b m=hd 6 n:=rfl
theorem NH(n b m):fB 8 n b m=fE n:=rfl
theorem Ck(rec:Tr→Option (List UInt8))(d:Nat)(hr:1≤d→∀y,vT y (d-1)=true→cD y≤300→rec y=some (aG y))(x:Tr)(h:vT x d=true)(hc:cD x≤300):g9 rec x=some (aG x):=by
 obtain⟨k,n,b,l⟩:=x
 have hb:=ny h
 have hlen:=pS _ d h
 have key : ∀(l:List Tr),1≤d→vL l (d-1)=true→dz l≤300→∀(i:Nat) (s:List UInt8),s.length+(co l).length≤2000000→
   cF (R:=(List UInt8)) (S:=(List UInt8)) (α:=Go.Gk.Tr) (fun _ s28=>some s28) (fun x29 _ s31 self32=>bnd (rec x29) fun x33=>bnd (app s31 x33) fun x34=>self32 x34) l i s=some (s++co l):=by
  intro l
  induction l with
  |nil=>intro _ _ _ i s _;rw[eP,bP,List.append_nil]
  |cons y l ih=>
   intro hd1 hv hcl i s hs
   rw[fH,Bool.and_eq_true]at hv
   rw[bC]at hcl
   rw[bh,List.length_append]at hs
   rw[bT,hr hd1 y hv.1 (by omega),ae,aF (by omega),ae,ih hd1 hv.2 (by omega) _ _ (by rw[List.length_append];omega),bh,List.append_assoc]
 rw[fc]at hc hlen
 have hlen:(aG (.mk k n b l)).length≤1300000:=by omega
 rw[fJ,List.length_append]at hlen
 have hcl:l.length≤300:=by have:=dA l;omega
 rw[fJ]
 unfold g9
 rcases nU h with⟨hk,rfl,rfl⟩ | ⟨rfl,rfl,rfl,_⟩ | ⟨rfl,rfl,rfl,_,_⟩ | ⟨rfl,rfl,rfl,hn⟩ | ⟨rfl,rfl,rfl,_⟩ | ⟨rfl,rfl,rfl,g1,gl⟩ | ⟨rfl,rfl,rfl,g1,_,gl,_⟩ | ⟨rfl,rfl,g1,y,rfl,gy⟩
 ·rcases hk with rfl |rfl
  ·simp only[Tr.k,Tr.n,Tr.b,Tr.l,ab,ae]
   show fg (bnd (az 0 n) fun x4=>_) _ _=_
   rw[h0,ae,nR,bP,List.append_nil,own0]
  ·simp only[Tr.k,Tr.n,Tr.b,Tr.l,ab,ae]
   show fg (bnd (az 1 n) fun x4=>_) _ _=_
   rw[h1,ae,nR,bP,List.append_nil,G4]
 ·simp only[Tr.k,Tr.n,Tr.b,Tr.l,ab,ae,bJ]
  show fg (bnd (az 2 (UInt64.ofNat b.length)) fun x9=>_) _ _=_
  rw[h2,ae,aF (by have:=jb 2 (UInt64.ofNat b.length);omega),ae,nR,bP,List.append_nil,JV]
 ·simp only[Tr.k,Tr.n,Tr.b,Tr.l,ab,ae,bJ]
  show fg (bnd (az 3 (UInt64.ofNat b.length)) fun x9=>_) _ _=_
  rw[h3,ae,aF (by have:=jb 3 (UInt64.ofNat b.length);omega),ae,nR,bP,List.append_nil,Me]
 ·simp only[Tr.k,Tr.n,Tr.b,Tr.l,ab,ae]
  show fg (cond (decide ((UInt64.toNat n:Int)<(UInt64.toNat 24:Int))) _ _) _ _=_
  rw[show decide ((UInt64.toNat n:Int)<(UInt64.toNat 24:Int))=decide (n.toNat<24)from dS _ 24]
  by_cases c:n.toNat<24
  ·rw[decide_eq_true c,bf,nR,bP]
   have e:(224+n).toNat=224+n.toNat:=by
    rw[UInt64.toNat_add]
    show(224+n.toNat)%2^64=_
    omega
   show some [av ((224+n).toNat:Int)]=some (fB 7 n [] 0 ++ [])
   rw[e,fM]
   unfold fB hd
   rw[if_neg (by omega),if_neg (by omega),if_neg (by omega),if_neg (by omega),if_neg (by omega),if_pos c]
   rfl
  ·rw[decide_eq_false c,aw,nR,bP,fM]
   show some [248,UInt8.ofNat n.toNat]=some (fB 7 n [] 0 ++ [])
   unfold fB
   rw[if_neg (by omega),if_pos ⟨rfl,by omega⟩]
   rfl
 ·simp only[Tr.k,Tr.n,Tr.b,Tr.l,ab,ae]
  show fg (bnd (eH n) fun x4=>_) _ _=_
  rw[GV,ae,nR,bP,List.append_nil,NH]
 ·simp only[Tr.k,Tr.n,Tr.b,Tr.l,ab,ae,bJ]
  show fg (bnd (az 4 (UInt64.ofNat l.length)) fun x9=>_) _ _=_
  rw[h4,ae,jH]
  exact key l g1 gl (by omega) 0 _ (by have:=jb 4 (UInt64.ofNat l.length);omega)
 ·simp only[Tr.k,Tr.n,Tr.b,Tr.l,ab,ae,MP (show l.length≤1000000 by omega),bJ]
  show fg (bnd (az 5 (UInt64.ofNat (l.length/2))) fun x9=>_) _ _=_
  rw[h5,ae,jH]
  exact key l g1 gl (by omega) 0 _ (by have:=jb 5 (UInt64.ofNat (l.length/2));omega)
 ·simp only[Tr.k,Tr.n,Tr.b,Tr.l,ab,ae]
  show fg (bnd (az 6 n) fun x9=>_) _ _=_
  rw[h6,ae,jH]
  exact key [y] g1 (by rw[fH,kV,gy];rfl) (by omega) 0 _ (by have:=jb 6 n;omega)
theorem Jn(j:Nat): ∀(d:Nat) (x:Tr),vT x d=true→cD x≤300→ij (j+d+1) x=some (aG x)
 |0,x,h,hc=>Ck _ 0 (fun h=>absurd h (by omega)) x h hc
 |d+1,x,h,hc=>Ck _ (d+1) (fun _ y hy hcy=>Jn j d y hy hcy) x h hc
theorem c0(n:UInt64):cj 0 n=some (hd 0 n):=lZ 0 n
theorem c1(n:UInt64):cj 1 n=some (hd 1 n):=lZ 1 n
theorem c2(n:UInt64):cj 2 n=some (hd 2 n):=lZ 2 n
theorem c3(n:UInt64):cj 3 n=some (hd 3 n):=lZ 3 n
theorem c4(n:UInt64):cj 4 n=some (hd 4 n):=lZ 4 n
theorem c5(n:UInt64):cj 5 n=some (hd 5 n):=lZ 5 n
theorem c6(n:UInt64):cj 6 n=some (hd 6 n):=lZ 6 n
theorem c7(n:UInt64):cj 7 n=some (hd 7 n):=lZ 7 n
theorem Lg{n:UInt64}(h:n.toNat<24)(b m):fB 7 n b m=hd 7 n:=by
 unfold fB
 rw[if_neg (by omega),if_neg (by omega),if_neg (by omega),if_neg (by omega),if_neg (by omega)]
 rfl
theorem I1{n:UInt64}(h:24≤n.toNat)(b m):fB 7 n b m = [248,UInt8.ofNat n.toNat]:=by
 unfold fB
 rw[if_neg (by omega),if_pos ⟨rfl,h⟩]
theorem qm(a b:Nat):decide ((a:Int)≤(b:Int))=decide (a≤b):=by
 rw[Bool.eq_iff_iff,decide_eq_true_eq,decide_eq_true_eq];omega
theorem Le{k:Int}{n:UInt64}{b:List UInt8}{l:List Tr}{d:Nat}(h:vT (.mk k n b l) d=true)(hl:l.length≤1000000)(hk : ¬k=8)(h7 : ¬(k=7∧24≤n.toNat)):
  ∃p,jp (.mk k n b l)=some p∧∃e,cj p.1 p.2=some e∧e++b=fB k n b l.length∧1≤e.length∧e.length≤9:=by
 rcases nU h with⟨hk,rfl,rfl⟩ | ⟨rfl,rfl,rfl,_⟩ | ⟨rfl,rfl,rfl,_,_⟩ | ⟨rfl,rfl,rfl,hn⟩ | ⟨rfl,rfl,rfl,_⟩ | ⟨rfl,rfl,rfl,g1,gl⟩ | ⟨rfl,rfl,rfl,g1,_,gl,_⟩ | ⟨rfl,rfl,g1,y,rfl,gy⟩
 ·rcases hk with rfl |rfl
  ·exact⟨(0,n),rfl,_,c0 n,by rw[own0,List.append_nil],jb 0 n⟩
  ·exact⟨(1,n),rfl,_,c1 n,by rw[G4,List.append_nil],jb 1 n⟩
 ·exact⟨(2,UInt64.ofNat b.length),(show some (av 2,aB (b.length:Int))=_ by rw[bJ];rfl),_,c2 _,by rw[JV],jb 2 _⟩
 ·exact⟨(3,UInt64.ofNat b.length),(show some (av 3,aB (b.length:Int))=_ by rw[bJ];rfl),_,c3 _,by rw[Me],jb 3 _⟩
 ·exact⟨(7,n),rfl,_,c7 n,by rw[Lg (by omega),List.append_nil],jb 7 n⟩
 ·exact absurd rfl hk
 ·exact⟨(4,UInt64.ofNat l.length),(show some (4,aB (l.length:Int))=_ by rw[bJ]),_,c4 _,by rw[P5,List.append_nil],jb 4 _⟩
 ·exact⟨(5,UInt64.ofNat (l.length/2)),(show bnd (quo (l.length:Int) 2) (fun x9=>some (5,aB x9))=_ by rw[MP hl,ae,bJ]),_,c5 _,by rw[Nk,List.append_nil],jb 5 _⟩
 ·exact⟨(6,n),rfl,_,c6 n,by rw[P0,List.append_nil],jb 6 n⟩
theorem CT(rec:List UInt8→Tr→Option (List UInt8))(d:Nat)(hr:1≤d→∀s y,vT y (d-1)=true→cD y≤300→s.length+(aG y).length≤3000000→rec s y=some (s++aG y))(s0:List UInt8)(x:Tr)(h:vT x d=true)(hc:cD x≤300)
  (hs:s0.length+(aG x).length≤3000000):l_ rec s0 x=some (s0++aG x):=by
 obtain⟨k,n,b,l⟩:=x
 have key : ∀(l:List Tr),(l≠[]→1≤d)→(l = []∨vL l (d-1)=true)→dz l≤300→∀(i:Nat) (s:List UInt8),s.length+(co l).length≤3000000→
   cF (R:=(List UInt8)) (S:=(List UInt8)) (α:=Go.Gk.Tr) (fun k14 s15=>some s15) (fun x16 k17 s18 self19=>bnd (rec s18 x16) fun x20=>self19 x20) l i s=some (s++co l):=by
  intro l
  induction l with
  |nil=>intro _ _ _ i s _;rw[eP,bP,List.append_nil]
  |cons y l ih=>
   intro hd1 hv hcl i s hs
   have hd1:=hd1 (by simp)
   have hv:vL (y::l) (d-1)=true:=by rcases hv with h |h;cases h;exact h
   rw[fH,Bool.and_eq_true]at hv
   rw[bC]at hcl
   rw[bh,List.length_append]at hs
   rw[bT,hr hd1 s y hv.1 (by omega) (by omega),ae,ih (fun _=>hd1) (.inr hv.2) (by omega) _ _ (by rw[List.length_append];omega),bh,List.append_assoc]
 have hb:=ny h
 rw[fc]at hc
 rw[fJ,List.length_append]at hs
 have hcl:l.length≤300:=by have:=dA l;omega
 have hkid:=oX h
 rw[fJ]
 unfold l_
 by_cases h8:k=8
 ·subst h8
  have hnil:l = []:=by
   rcases nU h with⟨hk,_⟩ | ⟨hk,_⟩ | ⟨hk,_⟩ | ⟨hk,_⟩ | ⟨_,_,h,_⟩ | ⟨hk,_⟩ | ⟨hk,_⟩ | ⟨hk,_⟩<;>first |exact h |omega
  subst hnil
  rw[NH]at hs⊢
  rw[ab,show((Tr.mk 8 n b []).k==8)=true from rfl,bf]
  refine ac (sC n) ?_
  rw[aF (by omega),ae,bP,List.append_nil]
 rw[ab,show((Tr.mk k n b l).k==8)=false by show(k==8)=false;rw[←Bool.not_eq_true,beq_iff_eq];exact h8,aw,ab,ab,lF,ae,
  show decide ((UInt64.toNat 24:Int)≤(UInt64.toNat (Tr.mk k n b l).n:Int))=decide (24≤n.toNat)from qm 24 _]
 by_cases h7:k=7∧24≤n.toNat
 ·obtain⟨rfl,h24⟩:=h7
  have hnil:l = []:=by
   rcases nU h with⟨hk,_⟩ | ⟨hk,_⟩ | ⟨hk,_⟩ | ⟨_,_,h,_⟩ | ⟨hk,_⟩ | ⟨hk,_⟩ | ⟨hk,_⟩ | ⟨hk,_⟩<;>first |exact h |omega
  subst hnil
  rw[I1 h24]at hs⊢
  rw[decide_eq_true h24,show((Tr.mk 7 n b []).k==7&&true)=true from rfl,bf,ab]
  show bnd (app s0 [248,av (n.toNat:Int)]) _=_
  rw[fM,aF (by omega),ae,bP,List.append_nil]
 rw[show((Tr.mk k n b l).k==7&&decide (24≤n.toNat))=false by
  show(k==7&&decide (24≤n.toNat))=false
  rw[←Bool.not_eq_true,Bool.and_eq_true,beq_iff_eq,decide_eq_true_eq];exact h7,aw]
 obtain⟨p,hp,e,he,heq,e1,e9⟩:=Le h (by omega) h8 h7
 rw[←heq,List.length_append]at hs
 rw[←heq]
 refine ac hp (ac he ?_)
 rw[aF (by omega),ae]
 show bnd (app (s0++e) b) _=_
 rw[aF (by rw[List.length_append];omega),ae,show s0++(e++b++co l)=(s0++e++b)++co l by simp]
 refine key l (fun hne=>?_) ?_ (by omega) 0 _ (by simp only[List.length_append];omega)
 ·rcases hkid with rfl |h
  ·exact absurd rfl hne
  ·exact h.1
 ·rcases hkid with h |h
  ·exact .inl h
  ·exact .inr h.2
theorem I4(j:Nat): ∀(d:Nat) (s:List UInt8) (x:Tr),vT x d=true→cD x≤300→s.length+(aG x).length≤3000000→mm (j+d+1) s x=some (s++aG x)
 |0,s,x,h,hc,hs=>CT _ 0 (fun h=>absurd h (by omega)) s x h hc hs
 |d+1,s,x,h,hc,hs=>CT _ (d+1) (fun _ s y hy hcy hsy=>I4 j d s y hy hcy hsy) s x h hc hs
theorem np{d:Nat}{x:Tr}(h:vT x d=true)(hd:d≤9)(hc:cD x≤300):db [] x=some (aG x):=by
 have hl:=pS x d h
 have:=I4 (40-d) d [] x h hc (by simp;omega)
 rw[show 40-d+d+1=41 by omega]at this
 exact this
theorem v_{d:Nat}{x:Tr}(h:vT x d=true)(hd:d≤9)(hc:cD x≤300):aZ x=some (aG x):=by
 have:=Jn (39-d) d x h hc
 rw[show 39-d+d+1=40 by omega]at this
 exact this
noncomputable def vM (k:Int) (n:UInt64) (b:List UInt8) (l:List Tr) (d:Nat):Bool:=rW k n b l||Bu k n b l.length d
def pc(k:Int)(n bl ll d:Nat)(u q:Prop):Prop:=
 ((k=0∨k=1)∧bl=0∧ll=0)∨(k=2∧n=0∧ll=0∧bl≤4096)∨(k=3∧n=0∧ll=0∧bl≤4096∧u)∨(k=7∧bl=0∧ll=0∧(n<24∨32≤n∧n<256))∨(k=8∧bl=0∧ll=0∧q)∨
 (k=4∧n=0∧bl=0∧1≤d)∨(k=5∧n=0∧bl=0∧1≤d∧ll%2=0)∨(k=6∧bl=0∧1≤d∧ll=1)
theorem BP{α:Type}(l:List α):l.isEmpty=decide (l.length=0):=by cases l<;>simp
theorem t6(k:Int)(n:UInt64)(b:List UInt8)(l:List Tr)(d:Nat):vM k n b l d=true↔pc k n.toNat b.length l.length d (Hj b=true) (qA n=true):=by
 unfold vM rW Bu pc
 by_cases c0:k=0
 ·subst c0;simp[BP]
 by_cases c1:k=1
 ·subst c1;simp[BP]
 by_cases c2:k=2
 ·subst c2;simp[BP,and_assoc,and_comm,and_left_comm]
 by_cases c3:k=3
 ·subst c3;simp[BP,and_assoc]
 by_cases c4:k=4
 ·subst c4;simp[BP,and_assoc,and_comm,and_left_comm]
 by_cases c5:k=5
 ·subst c5;simp[BP,and_assoc,and_comm,and_left_comm]
 by_cases c6:k=6
 ·subst c6;simp[BP,and_assoc,and_comm,and_left_comm]
 by_cases c7:k=7
 ·subst c7;simp[BP,and_assoc]
 by_cases c8:k=8
 ·subst c8;simp[BP,and_assoc]
 ·simp[c0,c1,c2,c3,c4,c5,c6,c7,c8]
theorem Py(k n b l d):vT (.mk k n b l) d=(vM k n b l d&&vL l (d-1)&&(k != 5||iw (l.map aG))):=by
 rw[od]
 unfold vM
 cases hl:rW k n b l with
 |false=>simp[Bool.and_assoc]
 |true=>
  have h:vM k n b l d=true:=by unfold vM;rw[hl];rfl
  have hll:l = []:=by
   unfold rW at hl
   by_cases c1:(k==0||k==1)=true
   ·rw[c1,cond_true,Bool.and_eq_true,List.isEmpty_iff,List.isEmpty_iff]at hl;exact hl.2
   rw[Bool.not_eq_true]at c1
   rw[c1,cond_false]at hl
   cases e2:(k==2)<;>cases e3:(k==3)<;>cases e7:(k==7)<;>cases e8:(k==8)<;>simp[e2,e3,e7,e8]at hl<;>first |exact hl.1.1.2 |exact hl.1.2 |exact hl.2.1 |skip
  subst hll
  simp[kV,iw]
theorem zZ(l:List Tr)(i:Nat):iw ((l.drop i).map aG)=if h:i+2<l.length then(decide (Lib.compareBytes (aG l[i]) (aG l[i+2])<0)&&iw ((l.drop (i+2)).map aG))else true:=by
 split
 ·rename_i h
  have e2:l.drop (i+2)=l[i+2]::l.drop (i+3):=List.drop_eq_getElem_cons h
  have e0:l.drop i=l[i]::l[i+1]::l.drop (i+2):=by rw[List.drop_eq_getElem_cons (show i<l.length by omega),List.drop_eq_getElem_cons (show i+1<l.length by omega)]
  rw[e0,e2]
  simp only[List.map_cons,iw]
 ·rename_i h
  have hl:(l.drop i).length≤2:=by rw[List.length_drop];omega
  generalize l.drop i=m at hl
  match m,hl with
  | [],_=>simp[iw]
  | [_],_=>simp[iw]
  | [_,_],_=>simp[iw]
theorem sA{l:List Tr}{d:Nat}(h:vL l d=true): ∀(i:Nat) (hi:i<l.length),vT l[i] d=true:=by
 induction l with
 |nil=>intro i hi;exact absurd hi (Nat.not_lt_zero _)
 |cons x l ih=>
  rw[fH,Bool.and_eq_true]at h
  intro i hi
  cases i with
  |zero=>exact h.1
  |succ i=>exact ih h.2 i (by simpa using hi)
theorem qL{l:List Tr}: ∀(i:Nat) (hi:i<l.length),cD l[i]≤dz l:=by
 induction l with
 |nil=>intro i hi;exact absurd hi (Nat.not_lt_zero _)
 |cons x l ih=>
  intro i hi
  rw[bC]
  cases i with
  |zero=>show cD x≤_;omega
  |succ i=>have:=ih i (by simpa using hi);simp only[List.getElem_cons_succ];omega
theorem FZ(x:Int):decide ((0:Int)≤x)=!decide (x<0):=by
 rw[Bool.eq_iff_iff,decide_eq_true_eq,Bool.not_eq_true',decide_eq_false_iff_not];omega
theorem I3(l:List Tr)(d:Nat)(hd:d≤9)(h:vL l d=true)(hc:dz l≤300):gJ l=some (iw (l.map aG)):=by
 have hll:=dA l
 have key : ∀(f i:Nat),i≤l.length→l.length<f+i→aM (R:=Bool) (S:=Int) (fun self2 s1=>
   letm (decide (s1<(l.length:Int))) fun x3=>
   cond x3 (letm ((aA (s1-2))) fun x4=>
   bnd (aI l x4) fun x5=>
   bnd (db [] x5) fun x6=>
   bnd (aI l s1) fun x7=>
   bnd (db [] x7) fun x8=>
   bnd (dl x6 x8) fun x9=>
   letm (decide (0≤x9)) fun x10=>
   cond x10 (some false)
    (letm ((aA (s1+2))) fun x11=>
   self2 x11))
    (some true)) (f+1) ((i+2:Nat):Int)=some (iw ((l.drop i).map aG)):=by
  intro f
  induction f with
  |zero=>intro i hi hf;omega
  |succ f ih=>
   intro i hi hf
   rw[bd,ab,dS,zZ]
   by_cases c:i+2<l.length
   ·have e1:db [] l[i]=some (aG l[i]):=np (sA h i (by omega)) hd (by have:=qL (l:=l) i (by omega);omega)
    have e2:db [] l[i+2]=some (aG l[i+2]):=np (sA h (i+2) c) hd (by have:=qL (l:=l) (i+2) c;omega)
    rw[decide_eq_true c,bf,dif_pos c,ab,an (by omega) (by omega),show((i+2:Nat):Int)-2=(i:Int) by omega,aE (List.getElem?_eq_getElem (show i<l.length by omega)),ae,e1,ae,
     aE (List.getElem?_eq_getElem c),ae,e2,ae]
    refine ac (show dl (aG l[i]) (aG l[i+2])=some (Lib.compareBytes (aG l[i]) (aG l[i+2]))from rfl) ?_
    rw[ab,FZ]
    cases hcm:decide (Lib.compareBytes (aG l[i]) (aG l[i+2])<0)with
    |false=>rfl
    |true=>
     rw[show(!true)=false from rfl,aw,ab,an (by omega) (by omega),Bool.true_and]
     exact ih (i+2) (by omega) (by omega)
   ·rw[decide_eq_false c,aw,dif_neg c]
 exact key 1180591620717411303423 0 (by omega) (by omega)
theorem F9(l:List Tr)(d:Nat)(hd:d≤8)(h:vL l d=true)(hc:dz l≤300)(k:Int)(rec:Tr→Option (List UInt8))(hrec : ∀y,vT y d=true→cD y≤300→rec y=some (aG y))(v:Int):aM (R:=Int) (S:=Int) (fun self61 s60=>
  bnd (β:=Bool) (letm ((k==5)) fun x62=>
  cond x62 (letm (decide (s60<(l.length:Int))) fun x63=>
  some x63)
   (some false)) fun v64=>
  cond v64 (letm ((aA (s60-2))) fun x65=>
  bnd (aI l x65) fun x66=>
  bnd (rec x66) fun x67=>
  bnd (aI l s60) fun x68=>
  bnd (rec x68) fun x69=>
  bnd (bi x67 x69) fun x70=>
  letm (decide (0≤x70)) fun x71=>
  cond x71 (some (-1))
   (letm ((aA (s60+2))) fun x72=>
  self61 x72))
   (some v)) bA 2=some (if(k != 5||iw (l.map aG))=true then v else -1):=by
 have hll:=dA l
 by_cases hk:k=5
 ·subst hk
  rw[show((5:Int) != 5)=false from rfl,Bool.false_or]
  have key : ∀(f i:Nat),i≤l.length→l.length<f+i→aM (R:=Int) (S:=Int) (fun self61 s60=>
   bnd (β:=Bool) (letm (((5:Int)==5)) fun x62=>
   cond x62 (letm (decide (s60<(l.length:Int))) fun x63=>
   some x63)
    (some false)) fun v64=>
   cond v64 (letm ((aA (s60-2))) fun x65=>
   bnd (aI l x65) fun x66=>
   bnd (rec x66) fun x67=>
   bnd (aI l s60) fun x68=>
   bnd (rec x68) fun x69=>
   bnd (bi x67 x69) fun x70=>
   letm (decide (0≤x70)) fun x71=>
   cond x71 (some (-1))
    (letm ((aA (s60+2))) fun x72=>
   self61 x72))
    (some v)) (f+1) ((i+2:Nat):Int)=some (if iw ((l.drop i).map aG)=true then v else -1):=by
   intro f
   induction f with
   |zero=>intro i hi hf;omega
   |succ f ih=>
    intro i hi hf
    rw[bd,ab,show((5:Int)==5)=true from rfl,bf,ab,ae,dS,zZ]
    by_cases c:i+2<l.length
    ·have g1:=qL (l:=l) i (by omega)
     have g2:=qL (l:=l) (i+2) c
     have e1:=hrec _ (sA h i (by omega)) (by omega)
     have e2:=hrec _ (sA h (i+2) c) (by omega)
     have l1:=pS _ d (sA h i (by omega))
     have l2:=pS _ d (sA h (i+2) c)
     rw[decide_eq_true c,bf,dif_pos c,ab,an (by omega) (by omega),show((i+2:Nat):Int)-2=(i:Int) by omega,aE (List.getElem?_eq_getElem (show i<l.length by omega)),ae,e1,ae,
      aE (List.getElem?_eq_getElem c),ae,e2,ae,sW _ _ (by omega) (by omega),ae,ab,FZ]
     cases hcm:decide (Lib.compareBytes (aG l[i]) (aG l[i+2])<0)with
     |false=>rfl
     |true=>
      rw[show(!true)=false from rfl,aw,ab,an (by omega) (by omega),Bool.true_and]
      exact ih (i+2) (by omega) (by omega)
    ·rw[decide_eq_false c,aw,dif_neg c]
     rfl
  exact key 1180591620717411303423 0 (by omega) (by omega)
 ·rw[show bA=1180591620717411303423+1 from rfl,bd,ab,show(k==5)=false by rw[←Bool.not_eq_true,beq_iff_eq];exact hk,aw,ae,aw,show(k != 5)=true by rw[bne_iff_ne];exact hk]
  rfl
theorem mK{α:Type}{c:Bool}{x y r:Option α}(h1:c=true→x=r)(h2:c=false→y=r):cond c x y=r:=by
 cases c with
 |true=>exact h1 rfl
 |false=>exact h2 rfl
theorem Iw(n:Nat):Gk.rem ((n:Nat):Int) 2=some ((n%2:Nat):Int):=by
 unfold Gk.rem
 rw[if_neg (by omega)]
 exact congrArg some (Int.ofNat_tmod n 2).symm
theorem FO{n:Nat}:decide ((0:Int)<(n:Int))=decide (0<n):=by
 rw[Bool.eq_iff_iff,decide_eq_true_eq,decide_eq_true_eq];omega
noncomputable def xn (x:Tr) (d n:Nat):Int:=if vT x d=true∧cD x≤n then((n-cD x:Nat):Int)else -1
theorem jP{x:Tr}{d n:Nat}(h : ¬(vT x d=true∧cD x≤n)):xn x d n = -1:=if_neg h
theorem rn{x:Tr}{d n:Nat}(h:vT x d=true∧cD x≤n):xn x d n=((n-cD x:Nat):Int):=if_pos h
theorem De(rec:Tr→Int→Int→Option Int)(d:Nat)(hd:d≤8)(hd1:1≤d)(hr : ∀y (n:Nat),n≤256→rec y (n:Int) (8-((d-1:Nat):Int))=some (xn y (d-1) n)): ∀(l:List Tr) (i n:Nat),n≤256→
  cF (R:=(Int⊕Int)) (S:=Int) (α:=Go.Gk.Tr) (fun k50 s51=>some (.inr s51)) (fun x52 k53 s54 self55=>
   letm ((aA (8-(d:Int)+1))) fun x56=>
   bnd (rec x52 s54 x56) fun x57=>
   letm (decide (x57<0)) fun x58=>
   cond x58 (some (.inl (-1)))
    (self55 x57)) l i (n:Int)=some (if vL l (d-1)=true∧dz l≤n then .inr ((n-dz l:Nat):Int)else .inl (-1))
 | [],i,n,hn=>by rw[eP,kV,cU,if_pos ⟨rfl,by omega⟩];rfl
 |x::l,i,n,hn=>by
  rw[bT,ab,an (by omega) (by omega),show(8:Int)-(d:Int)+1=8-((d-1:Nat):Int) by omega,hr x n hn,ae,ab,fH,bC]
  have hp:=tL x
  by_cases h:vT x (d-1)=true∧cD x≤n
  ·rw[rn h,decide_eq_false (by omega),aw]
   have ih:=De rec d hd hd1 hr l (i+1) (n-cD x) (by omega)
   rw[an (by omega) (by omega),show(8:Int)-(d:Int)+1=8-((d-1:Nat):Int) by omega]at ih
   refine ih.trans ?_
   rw[h.1,Bool.true_and]
   by_cases h2:vL l (d-1)=true∧dz l≤n-cD x
   ·rw[if_pos h2,if_pos ⟨h2.1,by omega⟩,show n-cD x-dz l=n-(cD x+dz l) by omega]
   ·rw[if_neg h2,if_neg (fun h3=>h2 ⟨h3.1,by omega⟩)]
  ·rw[jP h,show decide ((-1:Int)<0)=true from rfl,bf,if_neg]
   rintro⟨h1,h2⟩
   rw[Bool.and_eq_true]at h1
   exact h ⟨h1.1,by omega⟩
theorem O7(x:Tr)(d:Nat):vT x d=(vM x.k x.n x.b x.l d&&vL x.l (d-1)&&(x.k != 5||iw (x.l.map aG))):=by
 obtain⟨k,n,b,l⟩:=x
 exact Py k n b l d
theorem qq(x:Tr):cD x=1+dz x.l:=by
 obtain⟨k,n,b,l⟩:=x
 exact fc k n b l
theorem Cq{x:Tr}{d:Nat}(h : ¬pc x.k x.n.toNat x.b.length x.l.length d (Hj x.b=true) (qA x.n=true)): ¬vT x d=true:=by
 rw[←t6,Bool.not_eq_true]at h
 rw[O7,h];simp
theorem K0{k:Int}{n bl ll d:Nat}{u q:Prop}(ha:0≤k)(hb:k≤8)(g1:0<bl→k=2∨k=3)(g2:0<ll→k=4∨k=5∨k=6)(g3:k=2∨k=3∨k=4∨k=5→n=0)(hbl:bl≤4096)(hu:k=3→u)(g7:k=7→n<24∨32≤n∧n<256)(hq:k=8→q)
  (gd:k=4∨k=5∨k=6→1≤d) (g6:k=6→ll=1) (g5:k=5→ll%2=0):pc k n bl ll d u q:=by
 unfold pc
 have hk:k=0∨k=1∨k=2∨k=3∨k=4∨k=5∨k=6∨k=7∨k=8:=by omega
 rcases hk with rfl |rfl |rfl |rfl |rfl |rfl |rfl |rfl |rfl
 ·exact .inl ⟨.inl rfl,by omega,by omega⟩
 ·exact .inl ⟨.inr rfl,by omega,by omega⟩
 ·exact .inr (.inl ⟨rfl,g3 (by omega),by omega,hbl⟩)
 ·exact .inr (.inr (.inl ⟨rfl,g3 (by omega),by omega,hbl,hu rfl⟩))
 ·exact .inr (.inr (.inr (.inr (.inr (.inl ⟨rfl,g3 (by omega),by omega,gd (by omega)⟩)))))
 ·exact .inr (.inr (.inr (.inr (.inr (.inr (.inl ⟨rfl,g3 (by omega),by omega,gd (by omega),g5 rfl⟩))))))
 ·exact .inr (.inr (.inr (.inr (.inr (.inr (.inr ⟨rfl,by omega,gd (by omega),g6 rfl⟩))))))
 ·exact .inr (.inr (.inr (.inl ⟨rfl,by omega,by omega,g7 rfl⟩)))
 ·exact .inr (.inr (.inr (.inr (.inl ⟨rfl,by omega,by omega,hq rfl⟩))))
theorem Ap(rec:Tr→Int→Int→Option Int)(d:Nat)(hd:d≤8)(hr:1≤d→∀y (n:Nat),n≤256→rec y (n:Int) (8-((d-1:Nat):Int))=some (xn y (d-1) n))(x:Tr)(n:Nat)(hn:n≤256):
  gF rec x (n:Int) (8-(d:Int))=some (xn x d n):=by
 have hp:=qq x
 have hpl:=dA x.l
 unfold gF
 rw[ab]
 refine mK (fun h=>?_) (fun h=>?_)
 ·rw[decide_eq_true_eq]at h
  rw[jP (by omega)]
 rw[decide_eq_false_iff_not]at h
 have hn1:((n:Int)-1)=((n-1:Nat):Int):=by omega
 rw[ab,an (by omega) (by omega),hn1]
 simp only[ab,vr,lF,ae,yj,Iw]
 have hz:((UInt64.toNat 0:Nat):Int)=0:=rfl
 have h23:((UInt64.toNat 23:Nat):Int)=23:=rfl
 have h32:((UInt64.toNat 32:Nat):Int)=32:=rfl
 have h255:((UInt64.toNat 255:Nat):Int)=255:=rfl
 have hN:((UInt64.toNat 9221120237041090560:Nat):Int)=9221120237041090560:=rfl
 refine mK (fun g1=>?_) (fun g1=>?_)
 ·rw[jP]
  rintro⟨hv,_⟩
  refine Cq (fun ho=>?_) hv
  unfold pc at ho
  rw[hz]at g1
  simp only[Bool.or_eq_true,Bool.and_eq_true,decide_eq_true_eq,beq_iff_eq,bne_iff_ne,Bool.not_eq_true',Bool.or_eq_false_iff,beq_eq_false_iff_ne]at g1
  omega
 by_cases hb:4096<x.b.length
 ·have hbb:decide ((4096:Int)<(x.b.length:Int))=true:=decide_eq_true (by omega)
  rw[hbb,bf,ae,bf,jP]
  rintro⟨hv,_⟩
  refine Cq (fun ho=>?_) hv
  unfold pc at ho
  omega
 have hbb:decide ((4096:Int)<(x.b.length:Int))=false:=decide_eq_false (by omega)
 rw[hbb,aw,EO (by omega),ae,lF,ae]
 refine mK (fun g2=>?_) (fun g2=>?_)
 ·rw[jP]
  rintro⟨hv,_⟩
  refine Cq (fun ho=>?_) hv
  unfold pc at ho
  simp only[Bool.and_eq_true,beq_iff_eq,Bool.not_eq_true']at g2
  rw[g2.2]at ho
  have:=g2.1
  simp only[Bool.false_eq_true,and_false,false_or,or_false]at ho
  omega
 refine mK (fun g3=>?_) (fun g3=>?_)
 ·rw[jP]
  rintro⟨hv,_⟩
  refine Cq (fun ho=>?_) hv
  unfold pc qA at ho
  rw[h23,h32,h255,hN]at g3
  simp only[Bool.or_eq_true,Bool.and_eq_true,decide_eq_true_eq,beq_iff_eq,bne_iff_ne,Bool.not_eq_true',Bool.or_eq_false_iff,beq_eq_false_iff_ne]at g3 ho
  omega
 refine mK (fun g4=>?_) (fun g4=>?_)
 ·rw[jP]
  rintro⟨hv,hcn⟩
  refine Cq (fun ho=>?_) hv
  unfold pc at ho
  simp only[Bool.or_eq_true,Bool.and_eq_true,decide_eq_true_eq,beq_iff_eq,bne_iff_ne,Bool.not_eq_true',Bool.or_eq_false_iff,beq_eq_false_iff_ne]at g4
  omega
 have hown:pc x.k x.n.toNat x.b.length x.l.length d (Hj x.b=true) (qA x.n=true):=by
  rw[hz]at g1
  rw[h23,h32,h255,hN]at g3
  simp only[←Bool.not_eq_true,Bool.not_eq_true',Bool.or_eq_true,Bool.and_eq_true,decide_eq_true_eq,beq_iff_eq,bne_iff_ne]at g1 g2 g3 g4
  refine K0 (by omega) (by omega) (by omega) (by omega) (by omega) (by omega) (fun h=>?_) (by omega) (fun h=>?_) (by omega) (by omega) (by omega)
  ·cases hu:Hj x.b with
   |true=>rfl
   |false=>exact absurd ⟨h,by rw[hu];simp⟩ g2
  ·unfold qA
   rw[Bool.or_eq_true,decide_eq_true_eq,decide_eq_true_eq]
   omega
 have hle:x.l.length≤n-1:=by
  simp only[←Bool.not_eq_true,Bool.or_eq_true,decide_eq_true_eq]at g4
  omega
 have hoV:vM x.k x.n x.b x.l d=true:=(t6 _ _ _ _ _).2 hown
 have hvx:vT x d=(vL x.l (d-1)&&(x.k != 5||iw (x.l.map aG))):=by rw[O7,hoV,Bool.true_and]
 by_cases hd1:1≤d
 ·have hk:=De rec d hd hd1 (hr hd1) x.l 0 (n-1) (by omega)
  simp only[ab]at hk
  rw[hk]
  by_cases hv:vL x.l (d-1)=true∧dz x.l≤n-1
  ·rw[if_pos hv,jH]
   have hq:=F9 x.l (d-1) (by omega) hv.1 (by omega) x.k aZ (fun y hy hc=>v_ hy (by omega) hc) ((n-1-dz x.l:Nat):Int)
   simp only[ab,lF,ae]at hq
   rw[hq]
   by_cases ha:(x.k != 5||iw (x.l.map aG))=true
   ·rw[if_pos ha,rn ⟨by rw[hvx,hv.1,ha];rfl,by omega⟩,show n-1-dz x.l=n-cD x by omega]
   ·rw[if_neg ha,jP]
    rintro⟨h1,_⟩
    rw[hvx,Bool.and_eq_true]at h1
    exact ha h1.2
  ·rw[if_neg hv,nR,jP]
   rintro⟨h1,h2⟩
   rw[hvx,Bool.and_eq_true]at h1
   exact hv ⟨h1.1,by omega⟩
 ·have hnil:x.l = []:=by
   unfold pc at hown
   exact List.length_eq_zero_iff.1 (by omega)
  rw[hnil]at hvx hp hpl⊢
  rw[eP,jH]
  have hq:=F9 [] 0 (by omega) (kV 0) (by rw[cU];omega) x.k aZ (fun y hy hc=>v_ hy (by omega) hc) ((n-1:Nat):Int)
  simp only[ab,lF,ae]at hq
  rw[hq]
  have ha:(x.k != 5||iw (([]:List Tr).map aG))=true:=by simp[iw]
  rw[cU]at hp
  rw[kV,Bool.true_and,ha]at hvx
  rw[if_pos ha,rn ⟨hvx,by omega⟩,show n-cD x=n-1 by omega]
theorem FR(j:Nat): ∀(d:Nat),d≤8→∀(x:Tr) (n:Nat),n≤256→gC (j+d+1) x (n:Int) (8-(d:Int))=some (xn x d n)
 |0,hd,x,n,hn=>Ap _ 0 hd (fun h=>absurd h (by omega)) x n hn
 |d+1,hd,x,n,hn=>Ap _ (d+1) hd (fun _ y n hn=>FR j d (by omega) y n hn) x n hn
noncomputable def eU (x:Tr):Bool:=vT x 8&&decide (cD x≤256)&&decide ((aG x).length≤4096)
theorem mo(x:Tr):bv x=some (eU x):=by
 have hl:eW x 256 0=some (xn x 8 256):=FR 31 8 (by omega) x 256 (by omega)
 unfold bv eU
 rw[hl,ae,ab]
 by_cases h:vT x 8=true∧cD x≤256
 ·rw[rn h,decide_eq_true (by omega),bf,v_ h.1 (by omega) (by omega),ae,ab,ae,h.1,decide_eq_true h.2]
  refine congrArg some ?_
  rw[Bool.eq_iff_iff,decide_eq_true_eq,Bool.true_and,Bool.true_and,decide_eq_true_eq]
  omega
 ·rw[jP h,show decide ((0:Int)≤ -1)=false from rfl,aw,ae]
  refine congrArg some ?_
  cases hv:vT x 8 with
  |false=>rfl
  |true=>
   rw[decide_eq_false (fun hc=>h ⟨hv,hc⟩)];rfl
theorem ie{α:Type}(l:List α):((l.length:Int)==0)=l.isEmpty:=by cases l<;>simp;omega
theorem nz(n:UInt64):(((UInt64.toNat n:Nat):Int)==((UInt64.toNat 0:Nat):Int))=(n.toNat==0):=by
 rw[Bool.eq_iff_iff,beq_iff_eq,beq_iff_eq];exact Int.natCast_inj
theorem NC(a b:Bool):cond a (some (b,true)) (some (false,true))=some (a&&b,true):=by cases a<;>rfl
theorem Kw(a b:Bool):cond a (some (true,true)) (some (b,true))=some (a||b,true):=by cases a<;>rfl
def iH(k:Int):Bool:=k==0||k==1||k==2||k==3||k==7||k==8
theorem OW(n:UInt64):feq n n=decide (n.toNat%9223372036854775808≤9218868437227405312):=ue n
theorem I7(x:Tr)(hb:x.b.length≤4096):lX x=some (rW x.k x.n x.b x.l,iH x.k):=by
 have hu:=EO (b:=x.b) (by omega)
 have hN:(((UInt64.toNat x.n:Nat):Int)==((UInt64.toNat 9221120237041090560:Nat):Int))=decide (x.n.toNat=9221120237041090560):=by
  rw[Bool.eq_iff_iff,beq_iff_eq,decide_eq_true_eq];exact Int.natCast_inj
 have h24:decide (((UInt64.toNat x.n:Nat):Int)<((UInt64.toNat 24:Nat):Int))=decide (x.n.toNat<24):=dS _ 24
 have h32:decide (((UInt64.toNat 32:Nat):Int)≤((UInt64.toNat x.n:Nat):Int))=decide (32≤x.n.toNat):=qm 32 _
 have h256:decide (((UInt64.toNat x.n:Nat):Int)<((UInt64.toNat 256:Nat):Int))=decide (x.n.toNat<256):=dS _ 256
 unfold lX rW iH
 simp only[ab,vr,ae,hu,ie,nz,OW,hN,h24,h32,h256,NC,Kw]
 have hbd:decide (x.b.length≤4096)=true:=decide_eq_true hb
 rw[hbd]
 by_cases c0:(x.k==0||x.k==1)=true
 ·rw[c0,bf,cond_true];rfl
 rw[Bool.not_eq_true]at c0
 rw[c0,aw,cond_false,Bool.false_or]
 by_cases c2:(x.k==2)=true
 ·rw[c2,bf,cond_true,Bool.and_true];rfl
 rw[Bool.not_eq_true]at c2
 rw[c2,aw,cond_false,Bool.false_or]
 by_cases c3:(x.k==3)=true
 ·rw[c3,bf,cond_true,Bool.and_true,Bool.and_assoc];rfl
 rw[Bool.not_eq_true]at c3
 rw[c3,aw,cond_false,Bool.false_or]
 by_cases c7:(x.k==7)=true
 ·rw[c7,bf,cond_true,Bool.and_assoc];rfl
 rw[Bool.not_eq_true]at c7
 rw[c7,aw,cond_false,Bool.false_or]
 by_cases c8:(x.k==8)=true
 ·rw[c8,bf,cond_true,Bool.and_assoc];rfl
 rw[Bool.not_eq_true]at c8
 rw[c8,aw,cond_false]
theorem G3{k:Int}{n:UInt64}{b:List UInt8}{l:List Tr}{d:Nat}{u q:Prop}(h:pc k n.toNat b.length l.length d u q)(hl:l.length≤1000000)(hk : ¬k=8)(h7 : ¬k=7):
  ∃p,jp (.mk k n b l)=some p∧∃e,cj p.1 p.2=some e∧e.length+b.length=(fB k n b l.length).length:=by
 rcases h with⟨hk,hb,_⟩ | ⟨rfl,hn,hb⟩ | ⟨rfl,hn,hb⟩ | ⟨rfl,hb,_⟩ | ⟨rfl,hb,_⟩ | ⟨rfl,hn,hb,_⟩ | ⟨rfl,hn,hb,_⟩ | ⟨rfl,hb,_⟩
 ·rcases hk with rfl |rfl
  ·exact⟨(0,n),rfl,_,c0 n,by rw[own0];omega⟩
  ·exact⟨(1,n),rfl,_,c1 n,by rw[G4];omega⟩
 ·exact⟨(2,UInt64.ofNat b.length),(show some (av 2,aB (b.length:Int))=_ by rw[bJ];rfl),_,c2 _,by rw[JV,List.length_append]⟩
 ·exact⟨(3,UInt64.ofNat b.length),(show some (av 3,aB (b.length:Int))=_ by rw[bJ];rfl),_,c3 _,by rw[Me,List.length_append]⟩
 ·exact absurd rfl h7
 ·exact absurd rfl hk
 ·exact⟨(4,UInt64.ofNat l.length),(show some (4,aB (l.length:Int))=_ by rw[bJ]),hd 4 (UInt64.ofNat l.length),c4 _,by rw[P5];omega⟩
 ·exact⟨(5,UInt64.ofNat (l.length/2)),(show bnd (quo (l.length:Int) 2) (fun x9=>some (5,aB x9))=_ by rw[MP hl,ae,bJ]),hd 5 (UInt64.ofNat (l.length/2)),c5 _,by rw[Nk];omega⟩
 ·exact⟨(6,n),rfl,_,c6 n,by rw[P0];omega⟩
theorem B1(x:Tr)(d i s:Nat){u q:Prop}(h:pc x.k x.n.toNat x.b.length x.l.length d u q)(hl:x.l.length≤256)(hb:x.b.length≤4096)(hs:s≤4096):
  dN ((i:Int),(s:Int)) x=some (decide (s+(fB x.k x.n x.b x.l.length).length≤4096),((i:Int),((s+(fB x.k x.n x.b x.l.length).length:Nat):Int))):=by
 have fin : ∀m:Nat,letm (decide ((((i:Int),((s+m:Nat):Int)):aH).2≤4096)) (fun x14=>some (x14,(((i:Int),((s+m:Nat):Int)):aH)))=some (decide (s+m≤4096),((i:Int),((s+m:Nat):Int))):=by
  intro m
  rw[ab]
  show some (decide (((s+m:Nat):Int)≤4096),_)=_
  rw[show decide (((s+m:Nat):Int)≤4096)=decide (s+m≤4096)from qm _ 4096]
 unfold dN
 by_cases h8:x.k=8
 ·have hf:=K5 x.n
  have e:fB x.k x.n x.b x.l.length=fE x.n:=by rw[h8,NH]
  rw[e]
  refine ac (y:=((i:Int),((s+(fE x.n).length:Nat):Int))) ?_ (fin _)
  rw[ab,show(x.k==8)=true by rw[h8];rfl,bf,sC,ae,ab]
  show some ((i:Int),aA ((s:Int)+((fE x.n).length:Int)))=_
  rw[an (by omega) (by omega)]
  rfl
 have k8:(x.k==8)=false:=by rw[←Bool.not_eq_true,beq_iff_eq];exact h8
 by_cases h7:x.k=7
 ·by_cases c:24≤x.n.toNat
  ·have e:fB x.k x.n x.b x.l.length = [248,UInt8.ofNat x.n.toNat]:=by rw[h7,I1 c]
   rw[e]
   refine ac (y:=((i:Int),((s+2:Nat):Int))) ?_ (fin 2)
   rw[ab,k8,aw,ab,show(x.k==7)=true by rw[h7];rfl,bf,ab,ab,show decide (((UInt64.toNat 24:Nat):Int)≤((UInt64.toNat x.n:Nat):Int))=decide (24≤x.n.toNat)from qm 24 _,decide_eq_true c,bf,ab]
   show some ((i:Int),aA (aA ((s:Int)+1)+1))=_
   rw[an (x:=(s:Int)+1) (by omega) (by omega),an (by omega) (by omega)]
   refine congrArg some (Prod.ext rfl ?_)
   show(s:Int)+1+1=((s+2:Nat):Int)
   omega
  ·have e:fB x.k x.n x.b x.l.length = [UInt8.ofNat (32*7+x.n.toNat)]:=by rw[h7,Lg (by omega)];unfold hd;rw[if_pos (by omega)]
   rw[e]
   refine ac (y:=((i:Int),((s+1:Nat):Int))) ?_ (fin 1)
   rw[ab,k8,aw,ab,show(x.k==7)=true by rw[h7];rfl,bf,ab,ab,show decide (((UInt64.toNat 24:Nat):Int)≤((UInt64.toNat x.n:Nat):Int))=decide (24≤x.n.toNat)from qm 24 _,decide_eq_false c,aw]
   show some ((i:Int),aA ((s:Int)+1))=_
   rw[an (by omega) (by omega)]
   rfl
 have k7:(x.k==7)=false:=by rw[←Bool.not_eq_true,beq_iff_eq];exact h7
 obtain⟨k,n,b,l⟩:=x
 obtain⟨p,hp,e,he,hlen⟩:=G3 h (Nat.le_trans hl (by omega)) h8 h7
 have hol:=(de k n b l.length).2
 have hl2:b.length≤4096:=hb
 have hlen:e.length+b.length=(fB k n b l.length).length:=hlen
 show bnd _ _=some (decide (s+(fB k n b l.length).length≤4096),((i:Int),((s+(fB k n b l.length).length:Nat):Int)))
 refine ac (y:=((i:Int),((s+(fB k n b l.length).length:Nat):Int))) ?_ (fin _)
 rw[ab,k8,aw,ab,k7,aw]
 refine ac hp (ac he ?_)
 rw[ab,ab]
 show some ((i:Int),aA ((s:Int)+aA ((e.length:Int)+(b.length:Int))))=_
 rw[an (x:=(e.length:Int)+(b.length:Int)) (by omega) (by omega),an (by omega) (by omega)]
 refine congrArg some (Prod.ext rfl ?_)
 show(s:Int)+((e.length:Int)+(b.length:Int))=((s+(fB k n b l.length).length:Nat):Int)
 omega
def SO(x:Tr)(d i s:Nat):Prop:=vT x d=true∧i+cD x≤256∧s+(aG x).length≤4096
theorem wr(x:Tr):aG x=fB x.k x.n x.b x.l.length++co x.l:=by
 obtain⟨k,n,b,l⟩:=x
 exact fJ k n b l
theorem IZ(x:Tr):1≤(fB x.k x.n x.b x.l.length).length:=(de _ _ _ _).1
def vA(x:Tr)(d i s:Nat)(r:Option (Bool×aH)):Prop:=
 (SO x d i s∧r=some (true,(((i+cD x:Nat):Int),((s+(aG x).length:Nat):Int))))∨(¬SO x d i s∧∃c',r=some (false,c'))
theorem zB(rec:aH→Tr→Int→Option (Bool×aH))(d:Nat)(hd:d≤8)(hd1:1≤d)(hr : ∀y i s,i≤256→s≤4096→vA y (d-1) i s (rec ((i:Int),(s:Int)) y (8-((d-1:Nat):Int))))(bn:Nat→aH→Option (Bool×aH)): ∀(l:List Tr) (k i s:Nat),i≤256→s≤4096→
  ((vL l (d-1)=true∧i+dz l≤256∧s+(co l).length≤4096)∧cF (R:=(Bool×aH)) (S:=aH) (α:=Go.Gk.Tr) bn (fun x42 k43 s44 self45=>
   letm ((aA (8-(d:Int)+1))) fun x46=>
   bnd (rec s44 x42 x46) fun x47=>
   letm ((!x47.1)) fun x48=>
   cond x48 (some (false,x47.2))
    (self45 x47.2)) l k ((i:Int),(s:Int))=bn (k+l.length) (((i+dz l:Nat):Int),((s+(co l).length:Nat):Int)))∨
  (¬(vL l (d-1)=true∧i+dz l≤256∧s+(co l).length≤4096)∧∃c',cF (R:=(Bool×aH)) (S:=aH) (α:=Go.Gk.Tr) bn (fun x42 k43 s44 self45=>
   letm ((aA (8-(d:Int)+1))) fun x46=>
   bnd (rec s44 x42 x46) fun x47=>
   letm ((!x47.1)) fun x48=>
   cond x48 (some (false,x47.2))
    (self45 x47.2)) l k ((i:Int),(s:Int))=some (false,c'))
 | [],k,i,s,hi,hs=>by
  refine .inl ⟨⟨kV _,by rw[cU];omega,by rw[bP];simpa using hs⟩,?_⟩
  rw[eP,cU,bP];rfl
 |x::l,k,i,s,hi,hs=>by
  rw[bT,ab,an (by omega) (by omega),show(8:Int)-(d:Int)+1=8-((d-1:Nat):Int) by omega,fH,bC,bh,List.length_append]
  rcases hr x i s hi hs with⟨⟨h1,h2,h3⟩,e⟩ | ⟨hno,c',e⟩
  ·rw[e,ae,ab,show(!true)=false from rfl,aw,h1,Bool.true_and]
   have ih:=zB rec d hd hd1 hr bn l (k+1) (i+cD x) (s+(aG x).length) h2 h3
   rw[an (by omega) (by omega),show(8:Int)-(d:Int)+1=8-((d-1:Nat):Int) by omega]at ih
   rw[show i+(cD x+dz l)=i+cD x+dz l by omega,show s+((aG x).length+(co l).length)=s+(aG x).length+(co l).length by omega,show k+(x::l).length=k+1+l.length by rw[List.length_cons];omega]
   exact ih
  ·refine .inr ⟨?_,c',?_⟩
   ·rintro⟨h1,h2,h3⟩
    rw[Bool.and_eq_true]at h1
    exact hno ⟨h1.1,by omega,by omega⟩
   ·rw[e,ae,ab];rfl
theorem CD(rec:aH→Tr→Int→Option (Bool×aH))(d:Nat)(hd:d≤8)(hr:1≤d→∀y i s,i≤256→s≤4096→vA y (d-1) i s (rec ((i:Int),(s:Int)) y (8-((d-1:Nat):Int))))(x:Tr)(i s:Nat)(hi:i≤256)(hs:s≤4096):
  vA x d i s (gB rec ((i:Int),(s:Int)) x (8-(d:Int))):=by
 have hp:=qq x
 have hpl:=dA x.l
 have hen:=wr x
 have no : ∀c',¬SO x d i s→vA x d i s (some (false,c')):=fun c' h=>.inr ⟨h,c',rfl⟩
 unfold gB
 rw[ab,an (x:=(i:Int)+1) (by omega) (by omega)]
 simp only[ab,vr,lF,ae,Iw]
 have split : ∀{c:Bool} {p q:Option (Bool×aH)},(c=true→vA x d i s p)→(c=false→vA x d i s q)→vA x d i s (cond c p q):=fun{c p q} h1 h2=>by
  cases c with
  |true=>exact h1 rfl
  |false=>exact h2 rfl
 refine split (fun g1=>?_) (fun g1=>?_)
 ·refine no _ (fun h=>?_)
  simp only[Bool.or_eq_true,decide_eq_true_eq]at g1
  have:=h.2.1
  have h2:x.b.length≤4096:=by
   have hv:=h.1
   obtain⟨k,n,b,l⟩:=x
   exact ny hv
  omega
 simp only[Bool.or_eq_false_iff,decide_eq_false_iff_not]at g1
 rw[I7 x (by omega),ae,show(i:Int)+1=((i+1:Nat):Int) by omega]
 have hvx:=O7 x d
 refine split (fun hlf=>?_) (fun hlf=>?_)
 ·have hlf:iH x.k=true:=hlf
  have hk:x.k=0∨x.k=1∨x.k=2∨x.k=3∨x.k=7∨x.k=8:=by
   unfold iH at hlf
   simp only[Bool.or_eq_true,beq_iff_eq]at hlf
   omega
  cases hlv:rW x.k x.n x.b x.l with
  |false=>
   show vA x d i s (some (false,_))
   refine no _ (fun h=>?_)
   have hv:=h.1
   rw[hvx,Bool.and_eq_true,Bool.and_eq_true]at hv
   have ho:=hv.1.1
   unfold vM Bu at ho
   rw[hlv,Bool.false_or]at ho
   simp only[Bool.and_eq_true,Bool.or_eq_true,beq_iff_eq]at ho
   omega
  |true=>
   have hoV:vM x.k x.n x.b x.l d=true:=by unfold vM;rw[hlv];rfl
   have hown:=(t6 _ _ _ _ _).1 hoV
   have hnil:x.l = []:=by
    have:=hown
    unfold pc at this
    exact List.length_eq_zero_iff.1 (by omega)
   have hv:vT x d=true:=by rw[hvx,hoV,hnil,kV];simp[iw]
   have hsp:=B1 x d (i+1) s hown (by omega) (by omega) hs
   show vA x d i s (bnd (bnd (dN (((i+1:Nat):Int),(s:Int)) x) fun x9=>some (x9.1,x9.2)) fun v10=>some (v10.1,v10.2))
   rw[hsp,ae,ae]
   rw[hnil,bP,List.append_nil]at hen
   rw[hnil,cU]at hp
   rw[hnil]at hsp⊢
   by_cases c:s+(fB x.k x.n x.b ([]:List Tr).length).length≤4096
   ·refine .inl ⟨⟨hv,by omega,by rw[hen];exact c⟩,?_⟩
    rw[decide_eq_true c,hen,hp]
   ·refine .inr ⟨fun h=>c ?_,(((i+1:Nat):Int),((s+(fB x.k x.n x.b ([]:List Tr).length).length:Nat):Int)),?_⟩
    ·have:=h.2.2;rw[hen]at this;exact this
    ·rw[decide_eq_false c]
 have hlf:iH x.k=false:=hlf
 have hnl : ¬(x.k=0∨x.k=1∨x.k=2∨x.k=3∨x.k=7∨x.k=8):=by
  unfold iH at hlf
  simp only[Bool.or_eq_false_iff,beq_eq_false_iff_ne]at hlf
  omega
 have ofv:vT x d=true→pc x.k x.n.toNat x.b.length x.l.length d (Hj x.b=true) (qA x.n=true):=by
  intro h
  rw[hvx,Bool.and_eq_true,Bool.and_eq_true]at h
  exact(t6 _ _ _ _ _).1 h.1.1
 refine split (fun g2=>?_) (fun g2=>?_)
 ·refine no _ (fun h=>?_)
  have ho:=ofv h.1
  unfold pc at ho
  simp only[Bool.or_eq_true,decide_eq_true_eq]at g2
  omega
 simp only[Bool.or_eq_false_iff,decide_eq_false_iff_not]at g2
 have hz:((UInt64.toNat 0:Nat):Int)=0:=rfl
 have e3:(bif x.k==6 then
      bif (x.l.length:Int) != 1 then some true
      else
       bif x.k != 6 then some ((x.n.toNat:Int) != ((UInt64.toNat 0:Nat):Int)||x.k==5&&((x.l.length%2:Nat):Int)==1)
       else some (x.k==5&&((x.l.length%2:Nat):Int)==1)
     else
      bif x.k != 6 then some ((x.n.toNat:Int) != ((UInt64.toNat 0:Nat):Int)||x.k==5&&((x.l.length%2:Nat):Int)==1)
      else some (x.k==5&&((x.l.length%2:Nat):Int)==1))=some (decide (x.k=6∧x.l.length≠1∨x.k≠6∧x.n.toNat≠0∨x.k=5∧x.l.length%2=1)):=by
  by_cases c6:x.k=6
  ·rw[show(x.k==6)=true by rw[c6];rfl,show(x.k != 6)=false by rw[c6];rfl,show(x.k==5)=false by rw[c6];rfl,bf,aw,Bool.false_and]
   by_cases c1:x.l.length=1
   ·rw[show((x.l.length:Int) != 1)=false by rw[c1];rfl,aw,decide_eq_false (by omega)]
   ·rw[show((x.l.length:Int) != 1)=true by rw[bne_iff_ne];omega,bf,decide_eq_true (by omega)]
  ·rw[show(x.k==6)=false by rw[←Bool.not_eq_true,beq_iff_eq];exact c6,show(x.k != 6)=true by rw[bne_iff_ne];exact c6,aw,bf]
   refine congrArg some ?_
   rw[hz,Bool.eq_iff_iff,decide_eq_true_eq]
   simp only[Bool.or_eq_true,Bool.and_eq_true,bne_iff_ne,beq_iff_eq]
   omega
 rw[e3,ae]
 refine split (fun g3=>?_) (fun g3=>?_)
 ·refine no _ (fun h=>?_)
  have ho:=ofv h.1
  unfold pc at ho
  rw[decide_eq_true_eq]at g3
  omega
 rw[decide_eq_false_iff_not]at g3
 have hown:pc x.k x.n.toNat x.b.length x.l.length d (Hj x.b=true) (qA x.n=true):=K0 (by omega) (by omega) (by omega) (by omega) (by omega) (by omega) (by omega) (by omega) (by omega) (by omega) (by omega) (by omega)
 have hoV:vM x.k x.n x.b x.l d=true:=(t6 _ _ _ _ _).2 hown
 rw[hoV,Bool.true_and]at hvx
 rw[B1 x d (i+1) s hown (by omega) (by omega) hs,ae]
 have hlen:(aG x).length=(fB x.k x.n x.b x.l.length).length+(co x.l).length:=by rw[hen,List.length_append]
 by_cases c:s+(fB x.k x.n x.b x.l.length).length≤4096
 ·rw[decide_eq_true c,show(!(true,(((i+1:Nat):Int),((s+(fB x.k x.n x.b x.l.length).length:Nat):Int))).1)=false from rfl,aw]
  have hd1:1≤d:=by omega
  by_cases ci:i+1≤256
  ·have hk:=zB rec d hd hd1 (hr hd1) (fun x_1 s38=>bnd (bif x.k != 5 then some true else bnd (gJ x.l) fun x6=>some x6) fun v41=>some (v41,s38)) x.l 0 (i+1) (s+(fB x.k x.n x.b x.l.length).length) ci c
   simp only[ab]at hk
   rcases hk with⟨⟨k1,k2,k3⟩,e⟩ | ⟨hno,c',e⟩
   ·rw[e]
    have hasc:(bif x.k != 5 then some true else bnd (gJ x.l) fun x6=>some x6)=some (x.k != 5||iw (x.l.map aG)):=by
     rw[I3 x.l (d-1) (by omega) k1 (by omega),ae,vr]
    rw[hasc,ae]
    rw[k1,Bool.true_and]at hvx
    cases ha:(x.k != 5||iw (x.l.map aG))with
    |true=>
     rw[ha]at hvx
     refine .inl ⟨⟨hvx,by omega,by omega⟩,?_⟩
     rw[hlen,hp,show i+1+dz x.l=i+(1+dz x.l) by omega,show s+(fB x.k x.n x.b x.l.length).length+(co x.l).length=s+((fB x.k x.n x.b x.l.length).length+(co x.l).length) by omega]
    |false=>
     rw[ha]at hvx
     exact .inr ⟨(fun h=>Bool.noConfusion (hvx.symm.trans h.1)),_,rfl⟩
   ·rw[e]
    refine no _ (fun h=>hno ?_)
    have h1:=h.1
    rw[hvx,Bool.and_eq_true]at h1
    have h2:=h.2.1
    have h3:=h.2.2
    exact⟨h1.1,by omega,by omega⟩
  ·omega
 ·rw[decide_eq_false c]
  show vA x d i s (some (false,_))
  refine no _ (fun h=>c ?_)
  have:=h.2.2
  omega
theorem Jm(j:Nat): ∀(d:Nat),d≤8→∀(x:Tr) (i s:Nat),i≤256→s≤4096→vA x d i s (gq (j+d+1) ((i:Int),(s:Int)) x (8-(d:Int)))
 |0,hd,x,i,s,hi,hs=>CD _ 0 hd (fun h=>absurd h (by omega)) x i s hi hs
 |d+1,hd,x,i,s,hi,hs=>CD _ (d+1) hd (fun _ y i s hi hs=>Jm j d (by omega) y i s hi hs) x i s hi hs
theorem gj(x:Tr):bG x=some (eU x):=by
 have h:vA x 8 0 0 (eV (0,0) x 0):=Jm 31 8 (by omega) x 0 0 (by omega) (by omega)
 unfold bG eU
 rcases h with⟨⟨h1,h2,h3⟩,e⟩ | ⟨hno,c',e⟩
 ·rw[e,ae,h1,decide_eq_true (by omega),decide_eq_true (by omega)];rfl
 ·rw[e,ae]
  refine congrArg some ?_
  show false=_
  cases hv:vT x 8 with
  |false=>rfl
  |true=>
   by_cases hc:cD x≤256
   ·rw[decide_eq_true hc,decide_eq_false (fun hs=>hno ⟨hv,by omega,by omega⟩)];rfl
   ·rw[decide_eq_false hc];rfl
end Go.Proofs.YtiilbonamnegaaaGreatDoor
