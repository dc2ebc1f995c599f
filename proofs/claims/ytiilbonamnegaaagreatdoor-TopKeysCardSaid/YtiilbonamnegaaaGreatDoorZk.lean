/- A part of the proof of TopKeys. No condition. -/
import Derived.Test.YtiilbonamnegaaaGreatDoorZp
import Derived.Test.YtiilbonamnegaaaGreatDoorZj
namespace Go.Proofs.YtiilbonamnegaaaGreatDoor
open Go.Gk Go.RowKit
set_option maxRecDepth 100000
def y9:Nat→List UInt8→Nat
 |s,[]=>s
 |s,x::r=>y9 (s*256+x.toNat) r
theorem I6(s x r):y9 s (x::r)=y9 (s*256+x.toNat) r:=rfl
theorem Oq(s:UInt64)(x:UInt8)(h:s.toNat<72057594037927936):(aS .or .u64 (UInt64.ofNat (s.toNat*2^8%18446744073709551616)) (aB (UInt8.toNat x:Int)):UInt64)=UInt64.ofNat (s.toNat*256+x.toNat):=by
 have hx:=x.toNat_lt
 have e1:(UInt64.ofNat (s.toNat*2^8%18446744073709551616)).toNat=2^8*s.toNat:=by rw[aV (by omega)];omega
 have e2:(aB (UInt8.toNat x:Int)).toNat=x.toNat:=gU (by omega)
 rw[oF _ _ 8 s.toNat e1 (by rw[e2];omega),e1,e2]
 congr 1;omega
theorem JR(xs:List UInt8)(h8:xs.length≤8)(Z:UInt64→Option (UInt64×(Bool×ak))): ∀(r k:Nat) (s:UInt64),k+r=xs.length→s.toNat<256^k→
  jB (R:=(UInt64×(Bool×ak))) (S:=UInt64) (fun _ s7=>Z s7)
   (fun k9 s10 self11=>bnd (aI xs (k9:Int)) fun x12=>bnd ((dO .u64 (s10:UInt64) (UInt64.toNat 8:Int):Option UInt64)) fun(x13:UInt64)=>letm ((aB (UInt8.toNat x12:Int))) fun x14=>letm ((aS .or .u64 (x13:UInt64) (x14:UInt64):UInt64)) fun x15=>self11 x15) r k s=Z (UInt64.ofNat (y9 s.toNat (xs.drop k)))
 |0,k,s,hk,hs=>by
  rw[sw,List.drop_of_length_le (by omega)]
  congr 1;unfold y9;simp
 |r+1,k,s,hk,hs=>by
  have hlt:k<xs.length:=by omega
  have h7:k≤7:=by omega
  have hp:256^k≤256^7:=Nat.pow_le_pow_right (by omega) h7
  have hs7:s.toNat<72057594037927936:=Nat.lt_of_lt_of_le hs hp
  have hx:=(xs[k]).toNat_lt
  rw[my,aE (List.getElem?_eq_getElem hlt),ae]
  refine ac (GP s 8 (by omega)) ?_
  rw[ab,ab,Oq s _ hs7]
  have hn:(UInt64.ofNat (s.toNat*256+(xs[k]).toNat)).toNat=s.toNat*256+(xs[k]).toNat:=aV (by omega)
  rw[JR xs h8 Z r (k+1) _ (by omega) (by rw[hn,Nat.pow_succ];omega),hn,List.drop_eq_getElem_cons hlt,I6]
theorem HC(pre xs post:List UInt8):Gk.cut (pre++(xs++post)) (pre.length:Int) ((pre.length+xs.length:Nat):Int)=some xs:=by
 have:=iF (xs:=pre++(xs++post)) (lo:=pre.length) (hi:=pre.length+xs.length) (by omega) (by simp)
 rw[this,List.take_append,List.take_of_length_le (by omega),show pre.length+xs.length-pre.length=xs.length by omega,List.take_left',List.drop_left']
 ·rfl
 ·rfl
theorem P2{B pre xs post:List UInt8}{k:Nat}{i:Int}(hB:B=pre++(xs++post))(hl:B.length≤100000)(hk:xs.length=k)(h8:k≤8)(_h1:1≤k):
  f5 (B,((pre.length:Int),i)) (k:Int)=some (UInt64.ofNat (y9 0 xs),(true,(B,(((pre.length+k:Nat):Int),i)))):=by
 have hlen:B.length=pre.length+(k+post.length):=by rw[hB];simp[hk]
 unfold f5
 simp only[ab]
 rw[an (x:=(B.length:Int)-_) (by omega) (by omega),decide_eq_false (by omega),aw,an (by omega) (by omega)]
 have hc:=HC pre xs post
 rw[←hB,hk]at hc
 rw[show((pre.length:Int)+(k:Int))=((pre.length+k:Nat):Int) by omega]
 rw[hc,ae,rl (by omega),ae]
 have hg:=JR xs (by omega) (fun s7=>some (s7,(true,(B,(((pre.length+k:Nat):Int),i))))) xs.length 0 0 (by omega) (by decide)
 simp only[ab]at hg
 exact hg
theorem Rg : ∀c:Fin 256,(Option.map (fun x:UInt8=>x.toNat) (cg .u8 (UInt8.ofNat c.1) (UInt64.toNat 5:Int)):Option Nat)=some (c.1/32):=by decide +kernel
theorem RQ : ∀c:Fin 256,av (bits .and .u8 (UInt8.toNat (UInt8.ofNat c.1)) (UInt8.toNat 31))=UInt8.ofNat (c.1%32):=by decide +kernel
theorem mZ(x:UInt8): @Eq (Option UInt8) (cg .u8 x (UInt64.toNat 5:Int)) (some (UInt8.ofNat (x.toNat/32))):=by
 have:=Rg ⟨x.toNat,UInt8.toNat_lt x⟩
 rw[show UInt8.ofNat ((⟨x.toNat,UInt8.toNat_lt x⟩:Fin 256).1)=x by simp]at this
 obtain⟨y,h1,h2⟩:=Option.map_eq_some_iff.1 this
 have h1 : @Eq (Option UInt8) (cg .u8 x (UInt64.toNat 5:Int)) (some y):=h1
 refine h1.trans (congrArg some (UInt8.toNat_inj.1 ?_))
 have h2:y.toNat=x.toNat/32:=h2
 have hx:=UInt8.toNat_lt x
 rw[h2,UInt8.toNat_ofNat']
 omega
theorem o6(x:UInt8):av (bits .and .u8 (UInt8.toNat x) (UInt8.toNat 31))=UInt8.ofNat (x.toNat%32):=by
 have:=RQ ⟨x.toNat,UInt8.toNat_lt x⟩
 rwa [show UInt8.ofNat ((⟨x.toNat,UInt8.toNat_lt x⟩:Fin 256).1)=x by simp]at this
theorem d7{n:Nat}(h:n<256):(UInt8.ofNat n).toNat=n:=by rw[UInt8.toNat_ofNat'];omega
theorem Of{B pre post:List UInt8}{c:UInt8}{i:Int}(hB:B=pre++(c::post))(hl:B.length≤100000)(hc:c.toNat%32<24):
  cf (B,((pre.length:Int),i))=some (c,(UInt64.ofNat (c.toNat%32),(0,(B,(((pre.length+1:Nat):Int),i))))):=by
 have hlen:B.length=pre.length+(1+post.length):=by rw[hB];simp;omega
 unfold cf
 simp only[ab]
 rw[show(((pre.length:Int)==(B.length:Int)))=false by rw[←Bool.not_eq_true,beq_iff_eq];omega,aw]
 rw[aE (x:=c) (by rw[hB];simp),ae,o6,d7 (by omega),show((UInt8.toNat 27:Nat):Int)=27 from rfl,show((UInt8.toNat 24:Nat):Int)=24 from rfl]
 rw[decide_eq_false (by omega),aw,decide_eq_true (by omega),bf,an (by omega) (by omega),bJ,show((pre.length:Int)+1)=((pre.length+1:Nat):Int) by omega]
theorem RL : ∀j:Fin 4,Gk.shl 1 (((UInt8.ofNat (24+j.1))-24:UInt8).toNat:Int)=some ((2^j.1:Nat):Int):=by decide +kernel
theorem tF{B pre xs post:List UInt8}{c:UInt8}{i:Int}(j:Fin 4)(hB:B=pre++(c::(xs++post)))(hl:B.length≤100000)(hc:c.toNat%32=24+j.1)(hx:xs.length=2^j.1)
  (hs:c.toNat/32<7→(hd 0 (UInt64.ofNat (y9 0 xs))).length=1+2^j.1) :
  cf (B,((pre.length:Int),i))=some (c,(UInt64.ofNat (y9 0 xs),(0,(B,(((pre.length+(1+2^j.1):Nat):Int),i))))):=by
 have hj:=j.2
 have hlen:B.length=pre.length+(1+(2^j.1+post.length)):=by rw[hB];simp[hx];omega
 have hp8:2^j.1≤8:=by
  have:2^j.1≤2^3:=Nat.pow_le_pow_right (by omega) (by omega)
  omega
 have hp1:1≤2^j.1:=Nat.one_le_two_pow
 unfold cf
 simp only[ab]
 rw[show(((pre.length:Int)==(B.length:Int)))=false by rw[←Bool.not_eq_true,beq_iff_eq];omega,aw]
 rw[aE (x:=c) (by rw[hB];simp),ae,o6,hc,d7 (n:=24+j.1) (by omega),show((UInt8.toNat 27:Nat):Int)=27 from rfl,show((UInt8.toNat 24:Nat):Int)=24 from rfl]
 rw[decide_eq_false (by omega),aw,decide_eq_false (by omega),aw,RL j,ae,an (x:=(pre.length:Int)+1) (by omega) (by omega)]
 have hn:=P2 (B:=B) (pre:=pre ++ [c]) (xs:=xs) (post:=post) (k:=2^j.1) (i:=i) (by rw[hB];simp) hl hx hp8 hp1
 rw[List.length_append,List.length_singleton]at hn
 rw[show((pre.length:Int)+1)=((pre.length+1:Nat):Int) by omega,hn,ae,Bool.not_true,aw]
 have hv:(bnd (cg .u8 c (UInt64.toNat 5:Int)) fun(x12:UInt8)=>cond (decide ((UInt8.toNat x12:Int)<(UInt8.toNat 7:Int))) (bnd (cj 0 (UInt64.ofNat (y9 0 xs))) fun x14=>bnd (some ((2^j.1:Nat):Int)) fun x16=>some ((x14.length:Int) != aA (1+x16))) (some false):Option Bool)=some false:=by
  refine ac (mZ c) ?_
  rw[d7 (n:=c.toNat/32) (by have:=c.toNat_lt;omega),show((UInt8.toNat 7:Nat):Int)=7 from rfl]
  by_cases h7:c.toNat/32<7
  ·rw[decide_eq_true (by omega),bf,show cj 0 (UInt64.ofNat (y9 0 xs))=some (hd 0 (UInt64.ofNat (y9 0 xs)))from lZ 0 _,ae,ae,hs h7,an (by omega) (by omega)]
   rw[show(((1+2^j.1:Nat):Int) != 1+((2^j.1:Nat):Int))=false by simp]
  ·rw[decide_eq_false (by omega),aw]
 refine ac hv ?_
 rw[aw,show pre.length+1+2^j.1=pre.length+(1+2^j.1) by omega]
theorem Tb{n:Nat}(h:n<256):y9 0 [UInt8.ofNat n]=n:=by simp only[y9,UInt8.toNat_ofNat'];omega
theorem TB{n:Nat}(h:n<65536):y9 0 [UInt8.ofNat (n/256),UInt8.ofNat n]=n:=by simp only[y9,UInt8.toNat_ofNat'];omega
theorem Su{n:Nat}(h:n<4294967296):y9 0 [UInt8.ofNat (n/16777216),UInt8.ofNat (n/65536),UInt8.ofNat (n/256),UInt8.ofNat n]=n:=by simp only[y9,UInt8.toNat_ofNat'];omega
theorem Az(n:UInt64):y9 0 (GT n)=n.toNat:=by
 have hn:=n.toNat_lt
 have e : ∀k,((UInt64.ofNat (n.toNat/2^k)).toNat:Nat)=n.toNat/2^k:=fun k=>aV (Nat.lt_of_le_of_lt (Nat.div_le_self _ _) hn)
 unfold GT
 simp only[e,fM,y9,UInt8.toNat_ofNat']
 omega
theorem Fv{n:UInt64}(h:n.toNat<24)(m:Nat):(hd m n).length=1:=by unfold hd;rw[if_pos h];rfl
theorem FY{n:UInt64}(h : ¬n.toNat<24)(h2:n.toNat<256)(m:Nat):(hd m n).length=2:=by unfold hd;rw[if_neg h,if_pos h2];rfl
theorem Gq{n:UInt64}(h2 : ¬n.toNat<256)(h3:n.toNat<65536)(m:Nat):(hd m n).length=3:=by unfold hd;rw[if_neg (by omega),if_neg h2,if_pos h3];rfl
theorem Gl{n:UInt64}(h2 : ¬n.toNat<65536)(h3:n.toNat<4294967296)(m:Nat):(hd m n).length=5:=by unfold hd;rw[if_neg (by omega),if_neg (by omega),if_neg h2,if_pos h3];rfl
theorem Gb{n:UInt64}(h2 : ¬n.toNat<4294967296)(m:Nat):(hd m n).length=9:=by unfold hd;rw[if_neg (by omega),if_neg (by omega),if_neg (by omega),if_neg h2];rfl
theorem fI(n:UInt64):UInt64.ofNat n.toNat=n:=by simp
theorem kS{B pre post:List UInt8}{i:Int}(m:Nat)(hm:m<7)(n:UInt64)(hB:B=pre++(hd m n++post))(hl:B.length≤100000):
  ∃c:UInt8,c.toNat/32=m∧cf (B,((pre.length:Int),i))=some (c,(n,(0,(B,(((pre.length+(hd m n).length:Nat):Int),i))))):=by
 have hn:=n.toNat_lt
 by_cases h1:n.toNat<24
 ·refine⟨UInt8.ofNat (32*m+n.toNat),by rw[d7 (by omega)];omega,?_⟩
  have:=Of (B:=B) (pre:=pre) (post:=post) (c:=UInt8.ofNat (32*m+n.toNat)) (i:=i) (by rw[hB];unfold hd;rw[if_pos h1];rfl) hl (by rw[d7 (by omega)];omega)
  rw[this,Fv h1,d7 (by omega),show(32*m+n.toNat)%32=n.toNat by omega,fI]
 by_cases h2:n.toNat<256
 ·refine⟨UInt8.ofNat (32*m+24),by rw[d7 (by omega)];omega,?_⟩
  have:=tF (B:=B) (pre:=pre) (xs:=[UInt8.ofNat n.toNat]) (post:=post) (c:=UInt8.ofNat (32*m+24)) (i:=i) 0 (by rw[hB];unfold hd;rw[if_neg h1,if_pos h2];rfl) hl (by rw[d7 (by omega)];show _=24+0;omega) rfl (fun _=>by rw[Tb h2,fI,FY h1 h2];rfl)
  rw[this,FY h1 h2,Tb h2,fI];rfl
 by_cases h3:n.toNat<65536
 ·refine⟨UInt8.ofNat (32*m+25),by rw[d7 (by omega)];omega,?_⟩
  have:=tF (B:=B) (pre:=pre) (xs:=[UInt8.ofNat (n.toNat/256),UInt8.ofNat n.toNat]) (post:=post) (c:=UInt8.ofNat (32*m+25)) (i:=i) 1 (by rw[hB];unfold hd;rw[if_neg h1,if_neg h2,if_pos h3];rfl) hl (by rw[d7 (by omega)];show _=24+1;omega) rfl (fun _=>by rw[TB h3,fI,Gq h2 h3];rfl)
  rw[this,Gq h2 h3,TB h3,fI];rfl
 by_cases h4:n.toNat<4294967296
 ·refine⟨UInt8.ofNat (32*m+26),by rw[d7 (by omega)];omega,?_⟩
  have:=tF (B:=B) (pre:=pre) (xs:=[UInt8.ofNat (n.toNat/16777216),UInt8.ofNat (n.toNat/65536),UInt8.ofNat (n.toNat/256),UInt8.ofNat n.toNat]) (post:=post) (c:=UInt8.ofNat (32*m+26)) (i:=i) 2 (by rw[hB];unfold hd;rw[if_neg h1,if_neg h2,if_neg h3,if_pos h4];rfl) hl (by rw[d7 (by omega)];show _=24+2;omega) rfl (fun _=>by rw[Su h4,fI,Gl h3 h4];rfl)
  rw[this,Gl h3 h4,Su h4,fI];rfl
 ·refine⟨UInt8.ofNat (32*m+27),by rw[d7 (by omega)];omega,?_⟩
  have:=tF (B:=B) (pre:=pre) (xs:=GT n) (post:=post) (c:=UInt8.ofNat (32*m+27)) (i:=i) 3 (by rw[hB];unfold hd;rw[if_neg h1,if_neg h2,if_neg h3,if_neg h4];rfl) hl (by rw[d7 (by omega)];show _=24+3;omega) rfl (fun _=>by rw[Az,fI,Gb h4];rfl)
  rw[this,Gb h4,Az,fI];rfl
open Ieee
set_option maxRecDepth 100000
theorem tT{q M:Nat}(hq:q≤2045)(h1:4503599627370496≤M)(h2:M<9007199254740992):double.read (q*4503599627370496+M) = .number false M (-1074+q):=Ku false q M hq h1 h2
theorem MC{M:Nat}(h1:4503599627370496≤M)(h2:M<9007199254740992):(M*4503599627370496).log2=104:=by
 have hne:M*4503599627370496≠0:=by omega
 have a:104≤(M*4503599627370496).log2:=(Nat.le_log2 hne).2 (by omega)
 have b:(M*4503599627370496).log2<105:=(Nat.log2_lt hne).2 (by omega)
 omega
theorem Hn{q M:Nat}(hq:q≤2045)(h1:4503599627370496≤M)(h2:M<9007199254740992):double.mul 4607182418800017408 (q*4503599627370496+M)=some (q*4503599627370496+M):=by
 have e1:double.read 4607182418800017408 = .number false 4503599627370496 (-1074+(1022:Nat)):=tT (q:=1022) (M:=4503599627370496) (by omega) (by omega) (by omega)
 unfold Format.mul
 rw[e1,tT hq h1 h2]
 show some (double.nearest false (4503599627370496*M) (-1074+(1022:Nat)+(-1074+(q:Int))))=_
 refine congrArg some ?_
 rw[Nat.mul_comm]
 unfold Format.nearest
 rw[if_neg (by omega)]
 dsimp only
 rw[MC h1 h2,Pq,xT,Ag]
 have hf:(double.fractionBits:Int)=52:=rfl
 rw[hf,Int.max_eq_left (by omega)]
 rw[show(-1074+((1022:Nat):Int)+(-1074+(q:Int))-(-1074+((1022:Nat):Int)+(-1074+(q:Int))+((104:Nat):Int)-52)).toNat=0 by omega,show(-1074+((1022:Nat):Int)+(-1074+(q:Int))+((104:Nat):Int)-52-(-1074+((1022:Nat):Int)+(-1074+(q:Int)))).toNat=52 by omega,Nat.shiftLeft_zero]
 have hc:=Gn false M 52 (by omega)
 rw[show(2:Nat)^52=4503599627370496 from rfl]at hc
 rw[hc,show(-1074+((1022:Nat):Int)+(-1074+(q:Int))+((104:Nat):Int)-52 - -1074).toNat=q by omega,Nat.min_eq_left (by omega)]
 rfl
theorem Bn(a b:Int):compare a b=if a<b then .lt else if a=b then .eq else .gt:=rfl
theorem wU{q M r K:Nat}(hq:q≤2045)(h1:4503599627370496≤M)(h2:M<9007199254740992){z:Nat}(hz:double.read z = .number false K (-1074+r)):
  double.order (q*4503599627370496+M) z=some (compare ((M*2^(q-r):Nat):Int) ((K*2^(r-q):Nat):Int)):=by
 unfold Format.order
 rw[tT hq h1 h2,hz]
 show some (compare (signed false M (-1074+(q:Int)-min (-1074+(q:Int)) (-1074+(r:Int))).toNat) (signed false K (-1074+(r:Int)-min (-1074+(q:Int)) (-1074+(r:Int))).toNat))=_
 have e1:(-1074+(q:Int)-min (-1074+(q:Int)) (-1074+(r:Int))).toNat=q-r:=by omega
 have e2:(-1074+(r:Int)-min (-1074+(q:Int)) (-1074+(r:Int))).toNat=r-q:=by omega
 rw[e1,e2]
 show some (compare ((M <<< (q-r):Nat):Int) ((K <<< (r-q):Nat):Int))=_
 rw[Nat.shiftLeft_eq,Nat.shiftLeft_eq]
theorem G8:double.read 0 = .number false 0 (-1074+(0:Nat)):=by
 unfold Format.read
 dsimp only
 rw[HE,xT]
 rfl
structure E_(x:UInt64)(q M:Nat):Prop where
 e:x.toNat=q*4503599627370496+M
 q:q≤2045
 l:4503599627370496≤M
 h:M<9007199254740992
theorem E_.lt{x:UInt64}{q M:Nat}(h:E_ x q M):x.toNat<9223372036854775808:=by have:=h.e;have:=h.q;have:=h.h;omega
theorem E_.feq0{x:UInt64}{q M:Nat}(h:E_ x q M):feq x 0=false:=by
 show(double.order x.toNat (0:UInt64).toNat==some .eq)=false
 rw[h.e,wU h.q h.l h.h (z:=(0:UInt64).toNat) (K:=0) (r:=0) G8,Bn,Nat.zero_mul]
 have hp:0<M*2^(q-0):=Nat.mul_pos (by have:=h.l;omega) (Nat.two_pow_pos _)
 rw[if_neg (by omega),if_neg (by omega)]
 rfl
theorem E_.feq{x:UInt64}{q M:Nat}(h:E_ x q M):feq x x=true:=by
 show(FloatKind.f64.format.order x.toNat x.toNat==some .eq)=true
 rw[ue]
 have:=h.e;have:=h.q;have:=h.h
 exact decide_eq_true (by omega)
theorem E_.nmax{x:UInt64}{q M:Nat}(h:E_ x q M):Sq x 9218868437227405311=false:=by
 show(double.order x.toNat (9218868437227405311:UInt64).toNat==some .gt)=false
 have hz:double.read (9218868437227405311:UInt64).toNat = .number false 9007199254740991 (-1074+(2045:Nat)):=tT (q:=2045) (M:=9007199254740991) (by omega) (by omega) (by omega)
 rw[h.e,wU h.q h.l h.h hz,Bn]
 have hq:=h.q
 have hM:=h.h
 rw[show q-2045=0 by omega,Nat.pow_zero,Nat.mul_one]
 have hp:1≤2^(2045-q):=Nat.one_le_two_pow
 have hm:9007199254740991≤9007199254740991*2^(2045-q):=Nat.le_mul_of_pos_right _ hp
 generalize 9007199254740991*2^(2045-q)=K at hm
 by_cases c:(M:Int)<(K:Int)
 ·rw[if_pos c];rfl
 ·rw[if_neg c,if_pos (by omega)];rfl
theorem E_.nmin{x:UInt64}{q M:Nat}(h:E_ x q M):MZ x 4503599627370496=false:=by
 show(double.order x.toNat (4503599627370496:UInt64).toNat==some .lt)=false
 have hz:double.read (4503599627370496:UInt64).toNat = .number false 4503599627370496 (-1074+(0:Nat)):=tT (q:=0) (M:=4503599627370496) (by omega) (by omega) (by omega)
 rw[h.e,wU h.q h.l h.h hz,Bn]
 have hp:1≤2^(q-0):=Nat.one_le_two_pow
 have hm:M≤M*2^(q-0):=Nat.le_mul_of_pos_right _ hp
 have hl:=h.l
 rw[show 0-q=0 by omega,Nat.pow_zero,Nat.mul_one]
 generalize M*2^(q-0)=K at hm
 rw[if_neg (by omega)]
 by_cases c:(K:Int)=((4503599627370496:Nat):Int)
 ·rw[if_pos c];rfl
 ·rw[if_neg c];rfl
theorem Ip(a b:UInt64):(aS .andNot .u64 a b:UInt64)=UInt64.ofNat (a.toNat &&& (18446744073709551615-b.toNat)):=by
 show aB (IntKind.u64.wrap (((BitVec.ofInt 64 (a.toNat:Int) &&& ~~~ BitVec.ofInt 64 (b.toNat:Int)).toNat:Nat):Int))=_
 rw[BitVec.toNat_and,BitVec.toNat_not,rb,rb,lu]
 have:a.toNat &&& (2^64-1-b.toNat)<18446744073709551616:=Nat.lt_of_le_of_lt Nat.and_le_left a.toNat_lt
 rw[gU this,bJ]
theorem Ac{a:UInt64}(h:a.toNat<9223372036854775808):(aS .andNot .u64 a (9223372036854775808:UInt64):UInt64)=a:=by
 rw[Ip,show 18446744073709551615-(9223372036854775808:UInt64).toNat=2^63-1 from rfl,Nat.and_two_pow_sub_one_eq_mod,Nat.mod_eq_of_lt h,fI]
theorem K2{a:UInt64}(h:a.toNat<9223372036854775808):(aS .andNot .u64 a (9218868437227405312:UInt64):UInt64)=UInt64.ofNat (a.toNat%4503599627370496):=by
 rw[Ip]
 congr 1
 have e:a.toNat=a.toNat &&& (2^63-1):=by rw[Nat.and_two_pow_sub_one_eq_mod,Nat.mod_eq_of_lt h]
 rw[e,Nat.and_assoc,show(2^63-1) &&& (18446744073709551615-(9218868437227405312:UInt64).toNat)=2^52-1 by decide,Nat.and_two_pow_sub_one_eq_mod,←e]
theorem II{a:UInt64}(h:a.toNat<9223372036854775808):kX a=some a:=by
 unfold kX
 exact eB rfl (eB (Ac h) rfl)
theorem SJ{q M:Nat}(h1:4503599627370496≤M)(h2:M<9007199254740992):(q*4503599627370496+M)%4503599627370496=M-4503599627370496:=by omega
theorem TA{e m k:Nat}(hk:k=1051-e)(h1:999≤e)(h2:e≤1008):(52-k+998)*4503599627370496+(m+4503599627370496)=e*4503599627370496+m:=by omega
theorem xS{x:UInt64}{q M:Nat}(h:E_ x q M)(k:Int)(h0 : -1000≤k)(h1:k≤1000){r:Nat}(hr:(r:Int)=(q:Int)+k)(hr2:r≤2045): ∃y,fh x k=some y∧E_ y r M:=by
 have hM:=h.h
 have hL:=h.l
 have hE:=h.e
 have hq:=h.q
 have hy:(UInt64.ofNat (r*4503599627370496+M)).toNat=r*4503599627370496+M:=aV (by omega)
 refine⟨UInt64.ofNat (r*4503599627370496+M),?_,⟨hy,hr2,hL,hM⟩⟩
 unfold fh
 refine ac ?_ rfl
 unfold oU
 rw[ab,h.feq0,aw]
 have hinf:jo x 0=some false:=by
  unfold jo
  refine ac (y:=x) ?_ ?_
  ·rw[ab,show((0:Int)==0)=true from rfl,bf,II h.lt,ae]
  ·rw[ab,h.nmax]
 have hnan:jt x=some false:=by
  unfold jt
  rw[ab,h.feq];rfl
 refine ac (y:=false) ?_ ?_
 ·rw[hinf,ae,aw,hnan,ae]
 have hnorm:jv x=some (x,0):=by
  unfold jv
  rw[II h.lt,ae,ab,h.nmin,aw]
 rw[aw,hnorm,ae,ab,an (x:=k+0) (by omega) (by omega),ab]
 refine ac (o9 x 52 (by omega)) ?_
 have e9:x.toNat/2^52=q+1:=by rw[hE];omega
 have e11:sS .and ((q+1:Nat):Int) 2047=((q+1:Nat):Int):=by
  have:=L2 (a:=q+1) (b:=2047) (by omega) (by omega)
  rw[show((2047:Nat):Int)=2047 from rfl]at this
  rw[this,show 2047=2^11-1 from rfl,Nat.and_two_pow_sub_one_eq_mod,Nat.mod_eq_of_lt (by omega)]
 rw[e9,aV (n:=q+1) (by omega),ab,an (x:=((q+1:Nat):Int)) (by omega) (by omega),ab,e11,ab,an (x:=((q+1:Nat):Int)-1023) (by omega) (by omega),ab,an (x:=k+0+(((q+1:Nat):Int)-1023)) (by omega) (by omega)]
 rw[ab,decide_eq_false (by omega),aw,ab,decide_eq_false (by omega),aw]
 refine ac (y:=(k+0+(((q+1:Nat):Int)-1023),(4607182418800017408:UInt64))) ?_ ?_
 ·rw[ab,decide_eq_false (by omega),aw]
 rw[ab,K2 h.lt,ab,an (by omega) (by omega),ab]
 have e24:k+0+(((q+1:Nat):Int)-1023)+1023=((r+1:Nat):Int):=by omega
 rw[e24,bJ]
 refine ac (GP _ 52 (by omega)) ?_
 have e26:(UInt64.ofNat (r+1)).toNat*2^52%18446744073709551616=(r+1)*4503599627370496:=by rw[aV (by omega)];omega
 have e23:x.toNat%4503599627370496=M-4503599627370496:=by rw[hE];exact SJ hL hM
 rw[e26,e23]
 have hor:(aS .or .u64 (UInt64.ofNat (M-4503599627370496)) (UInt64.ofNat ((r+1)*4503599627370496)):UInt64)=UInt64.ofNat (r*4503599627370496+M):=by
  have h1:=Mn (UInt64.ofNat (M-4503599627370496)) (UInt64.ofNat ((r+1)*4503599627370496))
  rw[aV (n:=M-4503599627370496) (by omega),aV (n:=(r+1)*4503599627370496) (by omega),Nat.or_comm,Nat.mul_comm (r+1)]at h1
  rw[Nat.mul_comm (r+1)]
  refine h1.trans (congrArg UInt64.ofNat ?_)
  have h2:=Nat.two_pow_add_eq_or_of_lt (i:=52) (b:=M-4503599627370496) (by show _<4503599627370496;omega) (r+1)
  rw[show(2:Nat)^52=4503599627370496 from rfl]at h2
  rw[←h2];omega
 refine eB hor (eB rfl ?_)
 refine ac (y:=UInt64.ofNat (r*4503599627370496+M)) ?_ rfl
 show(double.mul (4607182418800017408:UInt64).toNat (UInt64.ofNat (r*4503599627370496+M)).toNat).map UInt64.ofNat=_
 rw[hy,show(4607182418800017408:UInt64).toNat=4607182418800017408 from rfl,Hn hr2 hL hM]
 rfl
theorem IC{m:Nat}(h0:m≠0)(h1:m<8388608):E_ (EJ (m:Int)) (m.log2+1022) (m*2^(52-m.log2)):=by
 have hl:m.log2≤22:=by have:=(Nat.log2_lt h0).2 (show m<2^23 from h1);omega
 obtain⟨b1,b2⟩:=zE h0 (by omega)
 have e:double.nearest false m 0=(m.log2+1022)*4503599627370496+m*2^(52-m.log2):=by
  rw[Fq false m 0 h0 (by omega) (by omega) (by omega),show(0+(m.log2:Int)+1022).toNat=m.log2+1022 by omega];rfl
 refine⟨?_,by omega,b1,b2⟩
 show(UInt64.ofNat (double.nearest (decide ((m:Int)<0)) (m:Int).natAbs 0)).toNat=_
 rw[decide_eq_false (by omega),Int.natAbs_natCast,e,aV (by omega)]
def NR(p:Nat→Bool):Nat→Nat→Bool
 |0,_=>true
 |n+1,h=>p h&&NR p n (h+1)
theorem Cl{p:Nat→Bool}: ∀{n h:Nat},NR p n h=true→∀i,h≤i→i<h+n→p i=true
 |0,h,_,i,h1,h2=>by omega
 |n+1,h,hw,i,h1,h2=>by
  unfold NR at hw
  rw[Bool.and_eq_true]at hw
  by_cases e:i=h
  ·rw[e];exact hw.1
  ·exact Cl hw.2 i (by omega) (by omega)
theorem MX:NR (fun m=>match gM .add (EJ (m:Int)) (4652218415073722368:UInt64)with |some w=>Nat.beq w.toNat (4652218415073722368+m*4398046511104) |none=>false) 1024 0=true:=by decide +kernel
theorem Lj{m:Nat}(h:m<1024): ∃y,gM .add (EJ (m:Int)) (4652218415073722368:UInt64)=some y∧E_ y 1032 (4503599627370496+m*4398046511104):=by
 have:=Cl MX m (by omega) (by omega)
 revert this
 cases hf:gM .add (EJ (m:Int)) (4652218415073722368:UInt64)with
 |none=>intro this;cases this
 |some y=>
  intro this
  have:=Nat.eq_of_beq_eq_true this
  exact⟨y,rfl,by omega,by omega,by omega,by omega⟩
theorem Ad{a k m:Nat}(ha:a<65536)(hm:m=2^k-1)(hm2:m<65536):(aS .and .u16 (a:Int) (m:Int):Int)=((a%2^k:Nat):Int):=by
 have h1:(BitVec.ofInt 16 (a:Int)).toNat=a:=by
  rw[BitVec.ofInt_natCast,BitVec.toNat_ofNat];exact Nat.mod_eq_of_lt (by omega)
 have h2:(BitVec.ofInt 16 (m:Int)).toNat=m:=by
  rw[BitVec.ofInt_natCast,BitVec.toNat_ofNat];exact Nat.mod_eq_of_lt (by omega)
 show IntKind.u16.wrap (((BitVec.ofInt 16 (a:Int) &&& BitVec.ofInt 16 (m:Int)).toNat:Nat):Int)=_
 rw[BitVec.toNat_and,h1,h2,hm,Nat.and_two_pow_sub_one_eq_mod,Iy]
 have:a%2^k≤a:=Nat.mod_le _ _
 omega
theorem Ob{a:Nat}(k:Nat)(hk:k≤16): @Eq (Option Int) (cg .u16 (a:Int) (k:Int)) (some ((a/2^k:Nat):Int)):=by
 show(if(k:Int)<0 then none else some (Int.ediv (a:Int) (2^min (k:Int).toNat 16)))=_
 rw[if_neg (by omega),show min ((k:Int).toNat) 16=k by omega]
 refine congrArg some ?_
 show(a:Int)/(2^k)=_
 push_cast
 rfl
theorem Bk{v:UInt64}(h:v.toNat<9223372036854775808):dF v (13830554455654793216:UInt64)=some (UInt64.ofNat (9223372036854775808+v.toNat)):=by
 unfold dF
 have ha:(aS .and .u64 (13830554455654793216:UInt64) (9223372036854775808:UInt64):UInt64)=UInt64.ofNat 9223372036854775808:=by
  rw[Oy];exact congrArg UInt64.ofNat (by decide)
 have ho:(aS .or .u64 v (UInt64.ofNat 9223372036854775808):UInt64)=UInt64.ofNat (9223372036854775808+v.toNat):=by
  have h1:=Mn v (UInt64.ofNat 9223372036854775808)
  rw[aV (n:=9223372036854775808) (by omega),Nat.or_comm]at h1
  refine h1.trans (congrArg UInt64.ofNat ?_)
  have h2:=Nat.two_pow_add_eq_or_of_lt (i:=63) (b:=v.toNat) (by show _<9223372036854775808;omega) 1
  rw[show(2:Nat)^63*1=9223372036854775808 from rfl]at h2
  rw[←h2]
 exact eB rfl (eB (Ac h) (eB rfl (eB ha (eB ho rfl))))
theorem fF{ρ ρ' Y:Type}{X:Option (ρ⊕Y)}{w:ρ→ρ'}{K:Y→Option ρ'}{y:Y}{r:Option ρ'}(h:X=some (.inr y))(h2:K y=r):fg X w K=r:=by rw[h];exact h2
theorem zA{ρ ρ' Y:Type}{X:Option (ρ⊕Y)}{w:ρ→ρ'}{K:Y→Option ρ'}{q:ρ}(h:X=some (.inl q)):fg X w K=some (w q):=by rw[h];rfl
def vn(e m:Int):Option (UInt64⊕UInt64):=
 letm (e==31) fun x6=>
 cond x6 (letm (m != (0:Int)) fun x8=>cond x8 (some (.inl 9221120237041090560)) (bnd (kY 1) fun x9=>some (.inr x9)))
  (letm (e==0) fun x10=>cond x10 (bnd (fh (EJ m) (-24)) fun x11=>some (.inr x11))
  (bnd (gM .add (EJ m) (4652218415073722368:UInt64)) fun x12=>letm ((aA (e-25))) fun x13=>bnd (fh x12 x13) fun x14=>some (.inr x14)))
theorem oJ{g r:Nat}(hg:g<2)(hr:r<32768){v:UInt64}(hv:v.toNat<9223372036854775808)(hc:vn ((r/1024:Nat):Int) ((r%1024:Nat):Int)=some (.inr v)):
  g_ ((g*32768+r:Nat):Int)=some (UInt64.ofNat (g*9223372036854775808+v.toNat)):=by
 have e1:(aS .and .u16 ((g*32768+r:Nat):Int) (1023:Int):Int)=((r%1024:Nat):Int):=by
  have:=Ad (a:=g*32768+r) (k:=10) (m:=1023) (by omega) rfl (by omega)
  refine this.trans ?_
  rw[show(2:Nat)^10=1024 from rfl,show(g*32768+r)%1024=r%1024 by omega]
 have e4:(aS .and .u16 (((g*32768+r)/2^10:Nat):Int) (31:Int):Int)=((r/1024:Nat):Int):=by
  have:=Ad (a:=(g*32768+r)/2^10) (k:=5) (m:=31) (by omega) rfl (by omega)
  refine this.trans ?_
  rw[show(2:Nat)^10=1024 from rfl,show(2:Nat)^5=32 from rfl,show(g*32768+r)/1024%32=r/1024 by omega]
 unfold g_
 refine eB e1 (eB rfl ?_)
 refine ac (Ob 10 (by omega)) ?_
 refine eB e4 ?_
 rw[show aA (Gk.cO .u16 ((r/1024:Nat):Int))=((r/1024:Nat):Int)from an (by show(-9223372036854775808:Int)≤((r/1024:Nat):Int);omega) (by show((r/1024:Nat):Int)<9223372036854775808;omega),ab]
 have hc2:=hc
 refine fF (y:=v) ?_ ?_
 ·refine Eq.trans ?_ hc
  unfold vn
  rw[ab,ab]
  cases hb:(((r/1024:Nat):Int)==31)with
  |false=>rfl
  |true=>
   rw[bf]
   exact eB (congrArg (fun z:Int=>z != 0) e1) rfl
 ·refine ac (y:=UInt64.ofNat (g*9223372036854775808+v.toNat)) ?_ rfl
  refine ac (Ob 15 (by omega)) ?_
  rw[show(2:Nat)^15=32768 from rfl,show(g*32768+r)/32768=g by omega,ab]
  show cond ((g:Int)==(1:Int)) _ _=_
  rcases(show g=0∨g=1 by omega)with rfl |rfl
  ·show some v=_
   rw[Nat.zero_mul,Nat.zero_add,fI]
  ·show bnd (dF v (13830554455654793216:UInt64)) _=_
   rw[Bk hv,ae,Nat.one_mul]
theorem GO:vn 31 0=some (.inr 9218868437227405312):=by kernel_rfl
theorem DG:vn 0 0=some (.inr 0):=by kernel_rfl
theorem Hg{m:Nat}(h0:m≠0)(h1:m<1024): ∃y,vn 0 (m:Int)=some (.inr y)∧y.toNat=(m.log2+998)*4503599627370496+m*2^(52-m.log2)∧y.toNat<9223372036854775808:=by
 have hn:=IC h0 (by omega)
 have hl:m.log2≤9:=by have:=(Nat.log2_lt h0).2 (show m<2^10 from h1);omega
 obtain⟨y,hy,hN⟩:=xS hn (-24) (by omega) (by omega) (r:=m.log2+998) (by omega) (by omega)
 refine⟨y,?_,hN.e,hN.lt⟩
 unfold vn
 rw[ab,show((0:Int)==31)=false from rfl,aw,ab,show((0:Int)==0)=true from rfl,bf,hy,ae]
theorem EC{e m:Nat}(he:1≤e)(he2:e≤30)(h1:m<1024): ∃y,vn (e:Int) (m:Int)=some (.inr y)∧y.toNat=(e+1007)*4503599627370496+(4503599627370496+m*4398046511104)∧y.toNat<9223372036854775808:=by
 obtain⟨a,ha,hA⟩:=Lj h1
 obtain⟨y,hy,hN⟩:=xS hA ((e:Int)-25) (by omega) (by omega) (r:=e+1007) (by omega) (by omega)
 refine⟨y,?_,hN.e,hN.lt⟩
 unfold vn
 rw[ab,show((e:Int)==31)=false by rw[←Bool.not_eq_true,beq_iff_eq];omega,aw,ab,show((e:Int)==0)=false by rw[←Bool.not_eq_true,beq_iff_eq];omega,aw,ha,ae,ab,an (by omega) (by omega),hy,ae]
theorem DB{n:UInt64}(h5:lQ n.toNat=true):g_ ((jZ n.toNat:Nat):Int)=some n:=by
 have hn:=n.toNat_lt
 have hm:=mu n.toNat
 have he:=o5 n.toNat
 have hsp:n.toNat=n.toNat/9223372036854775808*9223372036854775808+(cq n.toNat*4503599627370496+io n.toNat):=by unfold cq io;omega
 have hg:n.toNat/9223372036854775808<2:=by omega
 have fin : ∀{v:UInt64},v.toNat=cq n.toNat*4503599627370496+io n.toNat→UInt64.ofNat (n.toNat/9223372036854775808*9223372036854775808+v.toNat)=n:=fun{v} hv=>by
  rw[hv,←hsp,fI]
 unfold lQ at h5
 unfold jZ
 by_cases c1:cq n.toNat=2047
 ·rw[if_pos c1]at h5⊢
  have h5:=of_decide_eq_true h5
  have:=oJ hg (r:=31744) (by omega) (v:=9218868437227405312) (by decide) GO
  rw[this,fin]
  rw[c1,h5];rfl
 rw[if_neg c1]at h5⊢
 by_cases c2:cq n.toNat=0
 ·rw[if_pos c2]at h5⊢
  have h5:=of_decide_eq_true h5
  have:=oJ hg (r:=0) (by omega) (v:=0) (by decide) DG
  rw[Nat.add_zero]at this
  rw[this,fin]
  rw[c2,h5];rfl
 rw[if_neg c2]at h5⊢
 by_cases c3:1039≤cq n.toNat
 ·rw[if_pos c3]at h5;cases h5
 rw[if_neg c3]at h5⊢
 by_cases c4:1008<cq n.toNat
 ·rw[if_pos c4]at h5⊢
  have h5:=of_decide_eq_true h5
  obtain⟨y,hy,hv,hlt⟩:=EC (e:=cq n.toNat-1008) (m:=io n.toNat/4398046511104) (by omega) (by omega) (by omega)
  have e1:((cq n.toNat-1008)*1024+io n.toNat/4398046511104)/1024=cq n.toNat-1008:=by omega
  have e2:((cq n.toNat-1008)*1024+io n.toNat/4398046511104)%1024=io n.toNat/4398046511104:=by omega
  have:=oJ hg (r:=(cq n.toNat-1008)*1024+io n.toNat/4398046511104) (by omega) hlt (by rw[e1,e2];exact hy)
  rw[Nat.add_assoc,this,fin]
  rw[hv];omega
 rw[if_neg c4]at h5⊢
 by_cases c5:cq n.toNat<999
 ·rw[if_pos c5]at h5;cases h5
 rw[if_neg c5]at h5⊢
 have h5:=of_decide_eq_true h5
 obtain⟨k,hk⟩ : ∃k,k=1051-cq n.toNat:=⟨_,rfl⟩
 rw[←hk]at h5⊢
 obtain⟨q,hq⟩ : ∃q,q=(io n.toNat+4503599627370496)/2^k:=⟨_,rfl⟩
 have hqm:io n.toNat+4503599627370496=q*2^k:=by rw[hq];exact(Nat.div_mul_cancel (Nat.dvd_of_mod_eq_zero h5)).symm
 rw[←hq]
 have hk1:43≤k:=by omega
 have hk2:k≤52:=by omega
 have p1:2^(52-k)*2^k=4503599627370496:=by rw[←Nat.pow_add,show 52-k+k=52 by omega]
 have p2:2^(52-k+1)*2^k=9007199254740992:=by rw[←Nat.pow_add,show 52-k+1+k=53 by omega]
 have hpk:0<2^k:=Nat.two_pow_pos k
 have q1:2^(52-k)≤q:=Nat.le_of_mul_le_mul_right (by rw[p1,←hqm];omega) hpk
 have q2:q<2^(52-k+1):=Nat.lt_of_mul_lt_mul_right (a:=2^k) (by rw[p2,←hqm];omega)
 have q0:q≠0:=by have:=Nat.two_pow_pos (52-k);omega
 have hlog:q.log2=52-k:=by
  have a:=(Nat.le_log2 q0).2 q1
  have b:=(Nat.log2_lt q0).2 q2
  omega
 have q3:q<1024:=by
  have:2^(52-k+1)≤2^10:=Nat.pow_le_pow_right (by omega) (by omega)
  omega
 obtain⟨y,hy,hv,hlt⟩:=Hg q0 q3
 have:=oJ hg (r:=q) (by omega) hlt (by rw[show q/1024=0 by omega,show q%1024=q by omega];exact hy)
 rw[this,fin]
 rw[hv,hlog,show 52-(52-k)=k from Nat.sub_sub_self hk2,←hqm]
 exact TA hk (Nat.le_of_not_lt c5) (Nat.le_of_not_lt c4)
theorem Ms{n:UInt64}(h:n.toNat%9223372036854775808≤9218868437227405312)(h8:li n.toNat=true):d9 n.toNat<4294967296∧vm (UInt32.ofNat (d9 n.toNat))=some n:=by
 have hf:=zY n.toNat n.toNat_lt h
 rw[h8]at hf
 obtain⟨h1,h2⟩:=(kN n.toNat_lt).1 hf
 refine⟨h1,?_⟩
 unfold vm
 rw[kK h1,h2]
 show some (UInt64.ofNat n.toNat)=_
 rw[fI]
theorem GM:g_ 32256=some 9221120237041090560:=by kernel_rfl
theorem uP{c:UInt8}{n:UInt64}{j:Nat}(hj:j<4)(hc:c.toNat%32=24+j)(hl:(fE n).length=1+2^j)(J:Tr):
  (bnd (ef (n,J).1) fun x18=>letm ((av (bits .and .u8 (UInt8.toNat c) (UInt8.toNat 31)))) fun x19=>letm ((x19-24)) fun x20=>bnd (Gk.shl 1 (UInt8.toNat x20:Int)) fun x21=>letm ((aA (1+x21))) fun x22=>letm (((x18.length:Int) != x22)) fun x23=>
   cond x23 (some ((Tr.mk 0 0 [] []),(4:Int))) (some ((Tr.mk 8 (n,J).1 [] []),0)))=some (Tr.mk 8 n [] [],0):=by
 refine ac (sC n) ?_
 have hs:Gk.shl 1 (((UInt8.ofNat (24+j))-24:UInt8).toNat:Int)=some ((2^j:Nat):Int):=RL ⟨j,hj⟩
 rw[ab,o6,hc,ab,hs,ae,ab]
 have hp:2^j≤2^3:=Nat.pow_le_pow_right (by omega) (by omega)
 rw[an (by omega) (by omega),ab,hl,show(((1+2^j:Nat):Int) != 1+((2^j:Nat):Int))=false by simp,aw]
theorem Sl(a b:UInt8)(h:a.toNat≠b.toNat):((UInt8.toNat a:Int)==(UInt8.toNat b:Int))=false:=by
 rw[←Bool.not_eq_true,beq_iff_eq];omega
theorem F5{c:UInt8}{v n:UInt64}(hc:c.toNat%32=25)(hv:v.toNat<65536)(hw:g_ (v.toNat:Int)=some n)(hn:n.toNat=9221120237041090560→v.toNat=32256)(hl:(fE n).length=3):cW c v=some (Tr.mk 8 n [] [],0):=by
 unfold cW
 refine fF (y:=(n,Tr.mk 0 0 [] [])) ?_ (uP (j:=1) (by omega) hc hl _)
 rw[ab,o6,hc,ab,show((UInt8.toNat (UInt8.ofNat 25):Int)==(UInt8.toNat 24:Int))=false from rfl,aw,ab,show((UInt8.toNat (UInt8.ofNat 25):Int)==(UInt8.toNat 25:Int))=true from rfl,bf,ab,uI (by omega) (by omega)]
 refine ac hw ?_
 refine ac (y:=false) ?_ rfl
 rw[ab,show((UInt64.toNat (9221120237041090560:UInt64):Nat):Int)=9221120237041090560 from rfl]
 by_cases e:n.toNat=9221120237041090560
 ·rw[e,hn e];rfl
 ·rw[show((n.toNat:Int)==9221120237041090560)=false by rw[←Bool.not_eq_true,beq_iff_eq];omega];rfl
theorem Nc{c:UInt8}{v n:UInt64}(hc:c.toNat%32=26)(hv:vm (aq (v.toNat:Int))=some n)(hl:(fE n).length=5):cW c v=some (Tr.mk 8 n [] [],0):=by
 unfold cW
 refine fF (y:=(n,Tr.mk 0 0 [] [])) ?_ (uP (j:=2) (by omega) hc hl _)
 rw[ab,o6,hc,ab,show((UInt8.toNat (UInt8.ofNat 26):Int)==(UInt8.toNat 24:Int))=false from rfl,aw,ab,show((UInt8.toNat (UInt8.ofNat 26):Int)==(UInt8.toNat 25:Int))=false from rfl,aw,ab,show((UInt8.toNat (UInt8.ofNat 26):Int)==(UInt8.toNat 26:Int))=true from rfl,bf,ab,ab]
 exact ac hv rfl
theorem Mj{c:UInt8}{n:UInt64}(hc:c.toNat%32=27)(hl:(fE n).length=9):cW c n=some (Tr.mk 8 n [] [],0):=by
 unfold cW
 refine fF (y:=(n,Tr.mk 0 0 [] [])) ?_ (uP (j:=3) (by omega) hc hl _)
 rw[ab,o6,hc]
 rfl
theorem Hi{c:UInt8}{n:UInt64}(hc:c.toNat%32<24):cW c n=some (Tr.mk 7 n [] [],0):=by
 unfold cW
 refine(zA (q:=(Tr.mk 7 n [] [],(0:Int))) ?_).trans rfl
 rw[ab,o6,ab]
 have e:(UInt8.ofNat (c.toNat%32)).toNat=c.toNat%32:=d7 (by omega)
 rw[Sl _ 24 (by rw[e];show c.toNat%32≠24;omega),aw,ab,Sl _ 25 (by rw[e];show c.toNat%32≠25;omega),aw,ab,Sl _ 26 (by rw[e];show c.toNat%32≠26;omega),aw,ab,Sl _ 27 (by rw[e];show c.toNat%32≠27;omega),aw]
theorem HU{c:UInt8}{n:UInt64}(hc:c.toNat%32=24)(hn:32≤n.toNat):cW c n=some (Tr.mk 7 n [] [],0):=by
 unfold cW
 refine(zA (q:=(Tr.mk 7 n [] [],(0:Int))) ?_).trans rfl
 rw[ab,o6,hc,ab,show((UInt8.toNat (UInt8.ofNat 24):Int)==(UInt8.toNat 24:Int))=true from rfl,bf,ab,show((UInt64.toNat (32:UInt64):Nat):Int)=32 from rfl,decide_eq_false (by omega),aw]
theorem Fp{n:UInt64}(h:9218868437227405312<n.toNat%9223372036854775808∨lQ n.toNat=true):(fE n).length=3:=by
 unfold fE
 by_cases c:9218868437227405312<n.toNat%9223372036854775808
 ·rw[if_pos c];rfl
 ·rcases h with h |h
  ·exact absurd h c
  ·rw[if_neg c,if_pos h];rfl
theorem Ky{B pre post:List UInt8}{i:Int}{n:UInt64}(h:qA n=true)(hB:B=pre++(fE n++post))(hl:B.length≤100000):
  ∃c v,c.toNat/32=7∧cf (B,((pre.length:Int),i))=some (c,(v,(0,(B,(((pre.length+(fE n).length:Nat):Int),i)))))∧cW c v=some (Tr.mk 8 n [] [],0):=by
 have hn:=n.toNat_lt
 have hv5:=Dj n.toNat hn
 have hv8:=yi n.toNat hn
 by_cases c:9218868437227405312<n.toNat%9223372036854775808
 ·have e:n.toNat=9221120237041090560:=by
   unfold qA at h
   rw[Bool.or_eq_true,decide_eq_true_eq,decide_eq_true_eq]at h
   omega
  have hf:fE n = [249,126,0]:=by unfold fE;rw[if_pos c]
  rw[hf]at hB⊢
  have hh:=tF (B:=B) (pre:=pre) (xs:=[126,0]) (post:=post) (c:=249) (i:=i) 1 hB hl rfl rfl (fun h=>absurd h (by decide))
  refine⟨249,UInt64.ofNat (y9 0 [126,0]),by decide,hh,?_⟩
  exact F5 (by decide) (by decide) (by rw[show((UInt64.ofNat (y9 0 [126,0])).toNat:Int)=32256 from rfl,GM];exact congrArg some (UInt64.toNat_inj.1 e.symm)) (fun _=>by decide) (Fp (.inl c))
 by_cases c5:lQ n.toNat=true
 ·have hf:fE n = [249,UInt8.ofNat (jZ n.toNat/256),UInt8.ofNat (jZ n.toNat)]:=by unfold fE;rw[if_neg c,if_pos c5]
  rw[hf]at hB⊢
  have hh:=tF (B:=B) (pre:=pre) (xs:=[UInt8.ofNat (jZ n.toNat/256),UInt8.ofNat (jZ n.toNat)]) (post:=post) (c:=249) (i:=i) 1 hB hl rfl rfl (fun h=>absurd h (by decide))
  rw[TB hv5]at hh
  have e:(UInt64.ofNat (jZ n.toNat)).toNat=jZ n.toNat:=aV (by omega)
  refine⟨249,UInt64.ofNat (jZ n.toNat),by decide,hh,?_⟩
  exact F5 (by decide) (by omega) (by rw[e];exact DB c5) (fun hh=>absurd hh (by omega)) (Fp (.inr c5))
 by_cases c8:li n.toNat=true
 ·have hf:fE n = [250,UInt8.ofNat (d9 n.toNat/16777216),UInt8.ofNat (d9 n.toNat/65536),UInt8.ofNat (d9 n.toNat/256),UInt8.ofNat (d9 n.toNat)]:=by unfold fE;rw[if_neg c,if_neg c5,if_pos c8]
  have hl5:(fE n).length=5:=by rw[hf];rfl
  rw[hf]at hB⊢
  have hh:=tF (B:=B) (pre:=pre) (xs:=[UInt8.ofNat (d9 n.toNat/16777216),UInt8.ofNat (d9 n.toNat/65536),UInt8.ofNat (d9 n.toNat/256),UInt8.ofNat (d9 n.toNat)]) (post:=post) (c:=250) (i:=i) 2 hB hl rfl rfl (fun h=>absurd h (by decide))
  rw[Su hv8]at hh
  have e:(UInt64.ofNat (d9 n.toNat)).toNat=d9 n.toNat:=aV (by omega)
  refine⟨250,UInt64.ofNat (d9 n.toNat),by decide,hh,?_⟩
  exact Nc (by decide) (by rw[e,jX];exact(Ms (by omega) c8).2) hl5
 ·have hf:fE n=251::GT n:=by unfold fE;rw[if_neg c,if_neg c5,if_neg c8]
  have hl9:(fE n).length=9:=by rw[hf];rfl
  rw[hf]at hB⊢
  have hh:=tF (B:=B) (pre:=pre) (xs:=GT n) (post:=post) (c:=251) (i:=i) 3 hB hl rfl rfl (fun h=>absurd h (by decide))
  rw[Az,fI]at hh
  exact⟨251,n,by decide,hh,Mj (by decide) hl9⟩
theorem Cj{B pre post:List UInt8}{i:Int}{n:UInt64}(h:n.toNat<24∨32≤n.toNat∧n.toNat<256)(hB:B=pre++(fB 7 n [] 0++post))(hl:B.length≤100000):
  ∃c v,c.toNat/32=7∧cf (B,((pre.length:Int),i))=some (c,(v,(0,(B,(((pre.length+(fB 7 n [] 0).length:Nat):Int),i)))))∧cW c v=some (Tr.mk 7 n [] [],0):=by
 rcases h with h | ⟨h1,h2⟩
 ·rw[Lg h]at hB⊢
  have hh:=Of (B:=B) (pre:=pre) (post:=post) (c:=UInt8.ofNat (32*7+n.toNat)) (i:=i) (by rw[hB];unfold hd;rw[if_pos h];rfl) hl (by rw[d7 (by omega)];omega)
  refine⟨UInt8.ofNat (32*7+n.toNat),n,by rw[d7 (by omega)];omega,?_,Hi (by rw[d7 (by omega)];omega)⟩
  rw[hh,Fv h,d7 (by omega),show(32*7+n.toNat)%32=n.toNat by omega,fI]
 ·rw[I1 (by omega)]at hB⊢
  have hh:=tF (B:=B) (pre:=pre) (xs:=[UInt8.ofNat n.toNat]) (post:=post) (c:=248) (i:=i) 0 hB hl rfl rfl (fun h=>absurd h (by decide))
  rw[Tb h2,fI]at hh
  exact⟨248,n,by decide,hh,HU (by decide) h1⟩
set_option maxRecDepth 100000
def KC(rec:ak→Int→Option (Tr×(Int×ak)))(d:Nat)(x:Tr):Prop:=
 ∀(B pre post:List UInt8) (i:Nat),B=pre++(aG x++post)→B.length≤4096→i+cD x≤256→
  rec (B,((pre.length:Int),(i:Int))) (8-(d:Int))=some (x,(0,(B,(((pre.length+(aG x).length:Nat):Int),((i+cD x:Nat):Int)))))
def LD(rec:ak→Int→Option (Tr×(Int×ak)))(a1:Int):((UInt64×(ak×(Tr×(Tr×(List Tr)))))→Option ((Tr×(Int×ak))⊕(ak×(Tr×(Tr×(List Tr))))))→(UInt64×(ak×(Tr×(Tr×(List Tr)))))→Option ((Tr×(Int×ak))⊕(ak×(Tr×(Tr×(List Tr))))):=fun self38 s37=>
 letm (decide ((UInt64.toNat 0:Int)<(UInt64.toNat s37.1:Int))) fun x39=>
 cond x39 (letm ((aA (a1+1))) fun x40=>
 bnd (rec s37.2.1 x40) fun x41=>
 letm ((x41.2.1 != 0)) fun x42=>
 cond x42 (some (.inl ((Tr.mk 0 0 [] []),(x41.2.1,x41.2.2))))
  (bnd (app s37.2.2.2.2 [x41.1]) fun x43=>
 letm ((s37.1-1)) fun x44=>
 self38 (x44,(x41.2.2,(s37.2.2.1,(s37.2.2.2.1,x43))))))
  (some (.inr (s37.2.1,(s37.2.2.1,(s37.2.2.2.1,s37.2.2.2.2)))))
theorem Ns{n:Nat}(h:n+1<18446744073709551616):(UInt64.ofNat (n+1)-1:UInt64)=UInt64.ofNat n:=by
 apply UInt64.toNat_inj.1
 rw[UInt64.toNat_sub_of_le _ _ (by rw[UInt64.le_iff_toNat_le,aV h];show 1≤n+1;omega),aV h,aV (by omega)]
 show n+1-1=n;omega
theorem FK{n:Nat}(h:n+1<18446744073709551616):(UInt64.ofNat n+1:UInt64)=UInt64.ofNat (n+1):=by
 apply UInt64.toNat_inj.1
 rw[UInt64.toNat_add,aV (by omega),aV h]
 show(n+1)%2^64=_;omega
theorem KS(rec:ak→Int→Option (Tr×(Int×ak)))(d:Nat)(hd1:1≤d)(hd:d≤8)(hr : ∀y,vT y (d-1)=true→KC rec (d-1) y)(J M:Tr): ∀(l acc:List Tr) (f:Nat) (B pre post:List UInt8) (i:Nat),l.length<f→vL l (d-1)=true→B=pre++(co l++post)→B.length≤4096→i+dz l≤256→acc.length+l.length≤1000→
  aM (LD rec (8-(d:Int))) f (UInt64.ofNat l.length,((B,((pre.length:Int),(i:Int))),(J,(M,acc))))=some (.inr ((B,(((pre.length+(co l).length:Nat):Int),((i+dz l:Nat):Int))),(J,(M,acc++l))))
 | [],acc,f+1,B,pre,post,i,_,_,_,_,_,_=>by
  rw[bd,bP,cU,List.append_nil]
  unfold LD
  rfl
 |x::l,acc,f+1,B,pre,post,i,hf,hv,hB,hl,hc,ha=>by
  rw[fH,Bool.and_eq_true]at hv
  rw[bC]at hc⊢
  rw[bh]at hB⊢
  rw[List.length_cons]at hf ha
  have hcx:=dA l
  have hx:=hr x hv.1 B pre (co l++post) i (by rw[hB];simp) hl (by omega)
  have ih:=KS rec d hd1 hd hr J M l (acc ++ [x]) f B (pre++aG x) post (i+cD x) (by omega) hv.2 (by rw[hB];simp) hl (by omega) (by simp;omega)
  rw[List.length_append]at ih
  rw[bd,List.length_cons]
  unfold LD
  simp only[ab]
  rw[show((UInt64.toNat 0:Nat):Int)=0 from rfl,aV (by omega),decide_eq_true (by omega),bf,an (by omega) (by omega),show(8:Int)-(d:Int)+1=8-((d-1:Nat):Int) by omega]
  rw[hx,ae,show((0:Int) != 0)=false from rfl,aw,aF (by simp;omega),ae,Ns (by omega)]
  rw[List.length_append,show pre.length+((aG x).length+(co l).length)=pre.length+(aG x).length+(co l).length by omega,show i+(cD x+dz l)=i+cD x+dz l by omega]
  rw[List.append_assoc]at ih
  unfold LD at ih
  simp only[ab]at ih
  rw[an (by omega) (by omega),show(8:Int)-(d:Int)+1=8-((d-1:Nat):Int) by omega]at ih
  exact ih
theorem tW(a b:UInt8)(x y:List UInt8):Lib.compareBytes (a::x) (b::y)=if a.toNat<b.toNat then -1 else if b.toNat<a.toNat then 1 else Lib.compareBytes x y:=by
 rw[Lib.compareBytes]
 simp only[UInt8.lt_iff_toNat_lt]
theorem Qx : ∀a b:List UInt8,Lib.compareBytes b a = - Lib.compareBytes a b
 | [],[]=>rfl
 | [],_::_=>rfl
 |_::_,[]=>rfl
 |a::x,b::y=>by
  rw[tW,tW,Qx x y]
  split<;>split<;>first |rfl |omega
def Pk(rec:ak→Int→Option (Tr×(Int×ak)))(a1:UInt64)(a2:Int):((List UInt8)×(UInt64×(ak×(Tr×(Tr×(List Tr)))))→Option (Tr×(Int×ak)))→(List UInt8)×(UInt64×(ak×(Tr×(Tr×(List Tr)))))→Option (Tr×(Int×ak)):=fun self4 s3=>
 letm (decide ((UInt64.toNat s3.2.1:Int)<(UInt64.toNat a1:Int))) fun x5=>
 cond x5 (bnd (rec s3.2.2.1 a2) fun x6=>
 letm ((x6.2.1 != 0)) fun x7=>
 cond x7 (some ((Tr.mk 0 0 [] []),(x6.2.1,x6.2.2)))
  (bnd (Gk.cut x6.2.2.1 s3.2.2.1.2.1 x6.2.2.2.1) fun x8=>
 fg (ρ:=(Tr×(Int×ak))) (ρ':=(Tr×(Int×ak))) (Y:=Tr) (letm (decide ((UInt64.toNat 0:Int)<(UInt64.toNat s3.2.1:Int))) fun x9=>
 cond x9 (bnd (dl x8 s3.1) fun x10=>
 letm ((x10==0)) fun x11=>
 cond x11 (some (.inl ((Tr.mk 0 0 [] []),(7,x6.2.2))))
  (letm (decide (x10<0)) fun x12=>
 cond x12 (some (.inl ((Tr.mk 0 0 [] []),(6,x6.2.2))))
  (some (.inr s3.2.2.2.1))))
  (some (.inr s3.2.2.2.1))) (fun q=>q) fun v13=>
 bnd (rec x6.2.2 a2) fun x14=>
 letm ((x14.2.1 != 0)) fun x15=>
 cond x15 (some ((Tr.mk 0 0 [] []),(x14.2.1,x14.2.2)))
  (bnd (app s3.2.2.2.2.2 [x6.1,x14.1]) fun x16=>
 letm ((s3.2.1+1)) fun x17=>
 self4 (x8,(x17,(x14.2.2,(v13,(s3.2.2.2.2.1,x16))))))))
  (some ((Tr.mk s3.2.2.2.2.1.k s3.2.2.2.2.1.n s3.2.2.2.2.1.b s3.2.2.2.2.2),(0,s3.2.2.1)))
theorem eQ{α:Type}{c:Bool}{x y r:Option α}(h:c=true)(h2:x=r):cond c x y=r:=by rw[h];exact h2
theorem bo{α:Type}{c:Bool}{x y r:Option α}(h:c=false)(h2:y=r):cond c x y=r:=by rw[h];exact h2
theorem tc{a b:List UInt8}:dl a b=some (Lib.compareBytes a b):=rfl
theorem JM(rec:ak→Int→Option (Tr×(Int×ak)))(d:Nat)(hd1:1≤d)(hd:d≤8)(hr : ∀y,vT y (d-1)=true→KC rec (d-1) y)(N:Nat)(hN:N≤1000): ∀(r:Nat) (l acc:List Tr) (f:Nat) (B pre post:List UInt8) (i:Nat) (J:Tr) (last:List UInt8),l.length=2*r→acc.length=2*(N-r)→r≤N→r<f→vL l (d-1)=true→iw (l.map aG)=true→(r<N→∀x∈l.head?,Lib.compareBytes last (aG x)<0)→B=pre++(co l++post)→B.length≤4096→i+dz l≤256→
  aM (Pk rec (UInt64.ofNat N) (8-((d-1:Nat):Int))) f (last,(UInt64.ofNat (N-r),((B,((pre.length:Int),(i:Int))),(J,(Tr.mk 5 0 [] [],acc)))))=some (Tr.mk 5 0 [] (acc++l),(0,(B,(((pre.length+(co l).length:Nat):Int),((i+dz l:Nat):Int)))))
 |0,l,acc,f+1,B,pre,post,i,J,last,hl,_,_,_,_,_,_,_,_,_=>by
  have:l = []:=List.length_eq_zero_iff.1 (by omega)
  subst this
  rw[bd,bP,cU,List.append_nil]
  unfold Pk
  rw[ab,aV (by omega),aV (by omega),decide_eq_false (by omega),aw]
  rfl
 |r+1,l,acc,f+1,B,pre,post,i,J,last,hll,hacc,hrN,hf,hv,has,hlast,hB,hl,hc=>by
  match l,hll with
  |k::v::l,hll=>
  have hll:l.length=2*r:=by simp only[List.length_cons]at hll;omega
  rw[fH,fH,Bool.and_eq_true,Bool.and_eq_true]at hv
  rw[bC,bC]at hc⊢
  rw[bh,bh]at hB⊢
  have hcl:=dA l
  have hk:=hr k hv.1 B pre (aG v++co l++post) i (by rw[hB];simp) hl (by omega)
  have hvv:=hr v hv.2.1 B (pre++aG k) (co l++post) (i+cD k) (by rw[hB];simp) hl (by omega)
  rw[List.length_append]at hvv
  have hcut:=HC pre (aG k) (aG v++co l++post)
  rw[show pre++(aG k++(aG v++co l++post))=B by rw[hB];simp]at hcut
  have hasl:iw (l.map aG)=true∧∀x∈l.head?,Lib.compareBytes (aG k) (aG x)<0:=by
   cases l with
   |nil=>exact⟨rfl,fun x hx=>by cases hx⟩
   |cons y l=>
    simp only[List.map_cons,iw,Bool.and_eq_true,decide_eq_true_eq]at has
    exact⟨has.2,fun x hx=>by cases hx;exact has.1⟩
  have ih:=JM rec d hd1 hd hr N hN r l (acc ++ [k,v]) f B (pre++aG k++aG v) post (i+cD k+cD v) J (aG k) hll (by simp;omega) (by omega) (by omega) hv.2.2 hasl.1 (fun _=>hasl.2) (by rw[hB];simp) hl (by omega)
  rw[bd]
  unfold Pk
  rw[ab]
  refine eQ (decide_eq_true (by show(((UInt64.ofNat (N-(r+1))).toNat:Nat):Int)<(((UInt64.ofNat N).toNat:Nat):Int);rw[aV (by omega),aV (by omega)];omega)) ?_
  refine ac hk ?_
  rw[ab]
  show cond false _ _=_
  rw[aw]
  refine ac hcut ?_
  have hJ : ∀{R:Option (Tr×(Int×ak))} {K:Tr→Option (Tr×(Int×ak))},K J=R→fg (ρ:=(Tr×(Int×ak))) (ρ':=(Tr×(Int×ak))) (Y:=Tr) (letm (decide ((UInt64.toNat 0:Int)<(UInt64.toNat (UInt64.ofNat (N-(r+1))):Int))) fun x9=>
    cond x9 (bnd (dl (aG k) last) fun x10=>letm ((x10==0)) fun x11=>cond x11 (some (.inl ((Tr.mk 0 0 [] []),(7,(B,(((pre.length+(aG k).length:Nat):Int),((i+cD k:Nat):Int))))))) (letm (decide (x10<0)) fun x12=>
    cond x12 (some (.inl ((Tr.mk 0 0 [] []),(6,(B,(((pre.length+(aG k).length:Nat):Int),((i+cD k:Nat):Int))))))) (some (.inr J)))) (some (.inr J))) (fun q=>q) K=R:=by
   intro R K hK
   rw[ab,show((UInt64.toNat 0:Nat):Int)=0 from rfl,aV (by omega)]
   by_cases h0:N-(r+1)=0
   ·rw[decide_eq_false (by omega),aw,jH,hK]
   ·have hlt:=hlast (by omega) k (by simp)
    have hrv:=Qx last (aG k)
    rw[decide_eq_true (by omega),bf,tc,ae,ab,show(Lib.compareBytes (aG k) last==0)=false by rw[←Bool.not_eq_true,beq_iff_eq];omega,aw,ab,decide_eq_false (by omega),aw,jH,hK]
  refine hJ ?_
  refine ac hvv ?_
  rw[ab]
  show cond false _ _=_
  rw[aw,aF (by simp;omega),ae,ab,FK (by omega),show N-(r+1)+1=N-r by omega]
  simp only[List.length_append]at ih⊢
  rw[show pre.length+((aG k).length+((aG v).length+(co l).length))=pre.length+(aG k).length+(aG v).length+(co l).length by omega,show i+(cD k+(cD v+dz l))=i+cD k+cD v+dz l by omega]
  rw[List.append_assoc]at ih
  exact ih
theorem dD{k:Int}{n:UInt64}{b:List UInt8}:cD (.mk k n b [])=1:=by rw[fc,cU]
theorem cV{k:Int}{n:UInt64}{b:List UInt8}:aG (.mk k n b [])=fB k n b 0:=by rw[fJ,bP,List.append_nil];rfl
theorem zi(rec:ak→Int→Option (Tr×(Int×ak)))(d:Nat)(hd8:d≤8)(hr:1≤d→∀y,vT y (d-1)=true→KC rec (d-1) y)(x:Tr)(h:vT x d=true):KC (gZ rec) d x:=by
 intro B pre post i hB hl hc
 have hl':B.length≤100000:=by omega
 have hpos:=tL x
 have hst:aA ((i:Int)+1)=((i+1:Nat):Int):=by rw[an (by omega) (by omega)];omega
 have h256:(((i:Int))==256)=false:=by rw[←Bool.not_eq_true,beq_iff_eq];omega
 -- what follows the head
 have start : ∀{c:UInt8} {v:UInt64} {hlen:Nat} {R:Option (Tr×(Int×ak))} {K:UInt8×(UInt64×(Int×ak))→Option (Tr×(Int×ak))},
   cf (B,((pre.length:Int),((i+1:Nat):Int)))=some (c,(v,(0,(B,(((pre.length+hlen:Nat):Int),((i+1:Nat):Int))))))→K (c,(v,(0,(B,(((pre.length+hlen:Nat):Int),((i+1:Nat):Int))))))=R→
   (letm ((i:Int)==256) fun x2=>cond x2 (some ((Tr.mk 0 0 [] []),(8,(B,((pre.length:Int),(i:Int)))))) (letm (aA ((i:Int)+1)) fun x3=>bnd (cf (B,((pre.length:Int),x3))) K))=R:=by
  intro c v hlen R K hh hK
  rw[ab,h256,aw,ab,hst]
  exact ac hh hK
 obtain⟨k,n,b,l⟩:=x
 unfold gZ
 rcases nU h with⟨hk,rfl,rfl⟩ | ⟨rfl,rfl,rfl,hb⟩ | ⟨rfl,rfl,rfl,hb,hu⟩ | ⟨rfl,rfl,rfl,hn⟩ | ⟨rfl,rfl,rfl,hn⟩ | ⟨rfl,rfl,rfl,g1,gl⟩ | ⟨rfl,rfl,rfl,g1,g2,gl,ga⟩ | ⟨rfl,rfl,g1,y,rfl,gy⟩
 ·rcases hk with rfl |rfl
  ·rw[cV,own0]at hB⊢
   rw[dD]
   obtain⟨c,hc7,hh⟩:=kS (i:=((i+1:Nat):Int)) 0 (by omega) n hB hl'
   refine start hh ?_
   rw[ab]
   show cond false _ _=_
   rw[aw]
   refine ac (mZ c) ?_
   rw[hc7,ab]
   rfl
  ·rw[cV,G4]at hB⊢
   rw[dD]
   obtain⟨c,hc7,hh⟩:=kS (i:=((i+1:Nat):Int)) 1 (by omega) n hB hl'
   refine start hh ?_
   rw[ab]
   show cond false _ _=_
   rw[aw]
   refine ac (mZ c) ?_
   rw[hc7,ab]
   rfl
 ·rw[cV,JV]at hB⊢
  rw[dD]
  have hbl:(UInt64.ofNat b.length).toNat=b.length:=aV (by omega)
  have hlB:B.length=pre.length+((hd 2 (UInt64.ofNat b.length)).length+(b.length+post.length)):=by rw[hB];simp
  obtain⟨c,hc7,hh⟩:=kS (i:=((i+1:Nat):Int)) (pre:=pre) (post:=b++post) 2 (by omega) (UInt64.ofNat b.length) (by rw[hB];simp) hl'
  refine start hh ?_
  dsimp only
  rw[ab]
  show cond false _ _=_
  rw[aw]
  refine ac (mZ c) ?_
  rw[hc7,ab]
  refine ac (y:=false) rfl ?_
  rw[aw]
  refine ac (y:=true) rfl ?_
  rw[bf,ab,an (x:=(B.length:Int)-_) (by omega) (by omega),ab,ab]
  rw[show((B.length:Int)-((pre.length+(hd 2 (UInt64.ofNat b.length)).length:Nat):Int))=((b.length+post.length:Nat):Int) by omega,gU (by omega),hbl,decide_eq_false (by omega),aw,ab,an (x:=((b.length:Nat):Int)) (by omega) (by omega),ab,an (by omega) (by omega)]
  have hcut:=HC (pre++hd 2 (UInt64.ofNat b.length)) b post
  rw[show pre++hd 2 (UInt64.ofNat b.length)++(b++post)=B by rw[hB];simp,List.length_append]at hcut
  rw[show((pre.length+(hd 2 (UInt64.ofNat b.length)).length:Nat):Int)+((b.length:Nat):Int)=((pre.length+(hd 2 (UInt64.ofNat b.length)).length+b.length:Nat):Int) by omega]
  refine ac hcut (ac (hD (l:=b) (by omega)) ?_)
  rw[ab,ab]
  refine ac (y:=false) rfl ?_
  rw[aw,List.length_append]
  have ew : ∀h:Nat,pre.length+h+b.length≤5000→aA (((pre.length+h:Nat):Int)+((b.length:Nat):Int))=((pre.length+(h+b.length):Nat):Int):=fun h hh=>by rw[an (by omega) (by omega)];omega
  rw[ew _ (by omega)]
  rfl
 ·rw[cV,Me]at hB⊢
  rw[dD]
  have hbl:(UInt64.ofNat b.length).toNat=b.length:=aV (by omega)
  have hlB:B.length=pre.length+((hd 3 (UInt64.ofNat b.length)).length+(b.length+post.length)):=by rw[hB];simp
  obtain⟨c,hc7,hh⟩:=kS (i:=((i+1:Nat):Int)) (pre:=pre) (post:=b++post) 3 (by omega) (UInt64.ofNat b.length) (by rw[hB];simp) hl'
  refine start hh ?_
  dsimp only
  rw[ab]
  show cond false _ _=_
  rw[aw]
  refine ac (mZ c) ?_
  rw[hc7,ab]
  refine ac (y:=false) rfl ?_
  rw[aw]
  refine ac (y:=true) rfl ?_
  rw[bf,ab,an (x:=(B.length:Int)-_) (by omega) (by omega),ab,ab]
  rw[show((B.length:Int)-((pre.length+(hd 3 (UInt64.ofNat b.length)).length:Nat):Int))=((b.length+post.length:Nat):Int) by omega,gU (by omega),hbl,decide_eq_false (by omega),aw,ab,an (x:=((b.length:Nat):Int)) (by omega) (by omega),ab,an (by omega) (by omega)]
  have hcut:=HC (pre++hd 3 (UInt64.ofNat b.length)) b post
  rw[show pre++hd 3 (UInt64.ofNat b.length)++(b++post)=B by rw[hB];simp,List.length_append]at hcut
  rw[show((pre.length+(hd 3 (UInt64.ofNat b.length)).length:Nat):Int)+((b.length:Nat):Int)=((pre.length+(hd 3 (UInt64.ofNat b.length)).length+b.length:Nat):Int) by omega]
  refine ac hcut (ac (hD (l:=b) (by omega)) ?_)
  rw[ab,ab]
  refine ac (y:=false) ?_ ?_
  ·show bnd (bw b) (fun x24=>letm (!x24) fun x25=>some x25)=some false
   rw[EO (by omega),hu];rfl
  rw[aw,List.length_append]
  have ew : ∀h:Nat,pre.length+h+b.length≤5000→aA (((pre.length+h:Nat):Int)+((b.length:Nat):Int))=((pre.length+(h+b.length):Nat):Int):=fun h hh=>by rw[an (by omega) (by omega)];omega
  rw[ew _ (by omega)]
  rfl
 ·rw[cV]at hB⊢
  rw[dD]
  obtain⟨c,v,hc7,hh,hs⟩:=Cj (i:=((i+1:Nat):Int)) hn hB hl'
  refine start hh ?_
  dsimp only
  rw[ab]
  show cond false _ _=_
  rw[aw]
  refine ac (mZ c) ?_
  rw[hc7,ab]
  refine ac (y:=false) rfl ?_
  rw[aw]
  refine ac (y:=false) rfl ?_
  rw[aw,ab]
  show cond true _ _=_
  rw[bf]
  exact ac hs rfl
 ·rw[cV,NH]at hB⊢
  rw[dD]
  obtain⟨c,v,hc7,hh,hs⟩:=Ky (i:=((i+1:Nat):Int)) hn hB hl'
  refine start hh ?_
  dsimp only
  rw[ab]
  show cond false _ _=_
  rw[aw]
  refine ac (mZ c) ?_
  rw[hc7,ab]
  refine ac (y:=false) rfl ?_
  rw[aw]
  refine ac (y:=false) rfl ?_
  rw[aw,ab]
  show cond true _ _=_
  rw[bf]
  exact ac hs rfl
 ·have hcl:=dA l
  rw[fJ,P5]at hB⊢
  rw[fc]at hc⊢
  have hlB:B.length=pre.length+((hd 4 (UInt64.ofNat l.length)).length+((co l).length+post.length)):=by rw[hB];simp
  obtain⟨c,hc7,hh⟩:=kS (i:=((i+1:Nat):Int)) (pre:=pre) (post:=co l++post) 4 (by omega) (UInt64.ofNat l.length) (by rw[hB];simp) hl'
  refine start hh ?_
  dsimp only
  rw[ab]
  show cond false _ _=_
  rw[aw]
  refine ac (mZ c) ?_
  rw[hc7,ab]
  refine ac (y:=false) rfl ?_
  rw[aw]
  refine ac (y:=false) rfl ?_
  rw[aw,ab]
  show cond false _ _=_
  rw[aw,ab,decide_eq_false (by omega),aw,ab]
  show cond false _ _=_
  rw[aw,ab]
  show cond false _ _=_
  rw[aw]
  have hloop:=KS rec d g1 hd8 (hr g1) (Tr.mk 0 0 [] []) (Tr.mk 4 0 [] []) l [] bA B (pre++hd 4 (UInt64.ofNat l.length)) post (i+1) (by rw[cG];omega) gl (by rw[hB];simp) hl (by omega) (by simp;omega)
  rw[List.length_append]at hloop
  refine fF hloop ?_
  rw[List.nil_append,List.length_append,show pre.length+((hd 4 (UInt64.ofNat l.length)).length+(co l).length)=pre.length+(hd 4 (UInt64.ofNat l.length)).length+(co l).length by omega,show i+(1+dz l)=i+1+dz l by omega]
  rfl
 ·have hcl:=dA l
  rw[fJ,Nk]at hB⊢
  rw[fc]at hc⊢
  have hlB:B.length=pre.length+((hd 5 (UInt64.ofNat (l.length/2))).length+((co l).length+post.length)):=by rw[hB];simp
  obtain⟨c,hc7,hh⟩:=kS (i:=((i+1:Nat):Int)) (pre:=pre) (post:=co l++post) 5 (by omega) (UInt64.ofNat (l.length/2)) (by rw[hB];simp) hl'
  refine start hh ?_
  dsimp only
  rw[ab]
  show cond false _ _=_
  rw[aw]
  refine ac (mZ c) ?_
  rw[hc7,ab]
  refine ac (y:=false) rfl ?_
  rw[aw]
  refine ac (y:=false) rfl ?_
  rw[aw,ab]
  show cond false _ _=_
  rw[aw,ab,decide_eq_false (by omega),aw,ab]
  show cond true _ _=_
  rw[bf,ab,an (x:=8-(d:Int)+1) (by omega) (by omega),show(8:Int)-(d:Int)+1=8-((d-1:Nat):Int) by omega]
  have hloop:=JM rec d g1 hd8 (hr g1) (l.length/2) (by omega) (l.length/2) l [] bA B (pre++hd 5 (UInt64.ofNat (l.length/2))) post (i+1) (Tr.mk 0 0 [] []) [] (by omega) (by simp) (by omega) (by rw[cG];omega) gl ga (fun h=>absurd h (by omega)) (by rw[hB];simp) hl (by omega)
  rw[List.length_append,Nat.sub_self]at hloop
  refine ac (y:=(Tr.mk 5 0 [] l,(0,(B,(((pre.length+(hd 5 (UInt64.ofNat (l.length/2))).length+(co l).length:Nat):Int),((i+1+dz l:Nat):Int)))))) ?_ ?_
  ·unfold jG
   exact hloop
  rw[List.length_append,show pre.length+((hd 5 (UInt64.ofNat (l.length/2))).length+(co l).length)=pre.length+(hd 5 (UInt64.ofNat (l.length/2))).length+(co l).length by omega,show i+(1+dz l)=i+1+dz l by omega]
 ·have hcy:=tL y
  rw[fJ,P0,bh,bP,List.append_nil]at hB⊢
  rw[fc,bC,cU]at hc⊢
  have hlB:B.length=pre.length+((hd 6 n).length+((aG y).length+post.length)):=by rw[hB];simp
  obtain⟨c,hc7,hh⟩:=kS (i:=((i+1:Nat):Int)) (pre:=pre) (post:=aG y++post) 6 (by omega) n (by rw[hB];simp) hl'
  refine start hh ?_
  dsimp only
  rw[ab]
  show cond false _ _=_
  rw[aw]
  refine ac (mZ c) ?_
  rw[hc7,ab]
  refine ac (y:=false) rfl ?_
  rw[aw]
  refine ac (y:=false) rfl ?_
  rw[aw,ab]
  show cond false _ _=_
  rw[aw,ab,decide_eq_false (by omega),aw,ab]
  show cond false _ _=_
  rw[aw,ab]
  show cond true _ _=_
  rw[bf,ab,an (x:=8-(d:Int)+1) (by omega) (by omega),show(8:Int)-(d:Int)+1=8-((d-1:Nat):Int) by omega]
  have hy:=hr g1 y gy B (pre++hd 6 n) post (i+1) (by rw[hB];simp) hl (by omega)
  rw[List.length_append]at hy
  refine ac hy ?_
  rw[ab]
  show cond false _ _=_
  rw[aw,List.length_append,show pre.length+((hd 6 n).length+(aG y).length)=pre.length+(hd 6 n).length+(aG y).length by omega,show i+(1+(cD y+0))=i+1+cD y by omega]
  rfl
theorem CG(j:Nat): ∀(d:Nat),d≤8→∀x,vT x d=true→KC (gV (j+d+1)) d x
 |0,h8,x,h=>zi _ 0 h8 (fun h=>absurd h (by omega)) x h
 |d+1,h8,x,h=>zi _ (d+1) h8 (fun _ y hy=>CG j d (by omega) y hy) x h
theorem nf{x:Tr}(h:eU x=true):iz (aG x)=some (x,0):=by
 unfold eU at h
 simp only[Bool.and_eq_true,decide_eq_true_eq]at h
 obtain⟨⟨hv,hc⟩,hl⟩:=h
 have hi:=CG 31 8 (by omega) x hv (aG x) [] [] 0 (by simp) hl (by omega)
 have hi:cz (aG x,(0,0)) 0=some (x,(0,(aG x,(((aG x).length:Int),((cD x:Nat):Int))))):=by
  have:=hi
  simp only[List.length_nil,Nat.zero_add]at this
  exact this
 have hp:lb (aG x)=some (x,(((aG x).length:Int),0)):=by
  unfold lb
  rw[ab,show min ((aG x).length:Int) 4096=((aG x).length:Int) by omega]
  have hcut:Gk.cut (aG x) 0 ((aG x).length:Int)=some (aG x):=by
   have:=iF (xs:=aG x) (lo:=0) (hi:=(aG x).length) (by omega) (Nat.le_refl _)
   rw[List.take_length]at this
   exact this
  refine ac hcut (ac hi ?_)
  rfl
 unfold iz
 rw[ab,decide_eq_false (by omega),aw]
 refine ac hp ?_
 rw[ab]
 show cond false _ _=_
 rw[aw,ab]
 show cond (decide (((aG x).length:Int)<((aG x).length:Int))) _ _=_
 rw[decide_eq_false (by omega),aw]
theorem LI{x y:Tr}(hx:eU x=true)(hy:eU y=true)(h:aG x=aG y):x=y:=by
 have a:=nf hx
 rw[h,nf hy]at a
 injection a with a
 injection a with a _
 exact a.symm
end Go.Proofs.YtiilbonamnegaaaGreatDoor
