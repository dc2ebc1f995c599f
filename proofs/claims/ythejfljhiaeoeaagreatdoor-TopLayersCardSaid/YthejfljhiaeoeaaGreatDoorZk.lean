import Derived.Test.YthejfljhiaeoeaaGreatDoorZp
import Derived.Test.YthejfljhiaeoeaaGreatDoorZj
namespace Go.Proofs.YthejfljhiaeoeaaGreatDoor
open Go.Gk Go.RowKit
set_option maxRecDepth 100000
def xX:Nat→List UInt8→Nat
 |s,[]=>s
 |s,x::r=>xX (s*256+x.toNat) r
theorem IT(s x r):xX s (x::r)=xX (s*256+x.toNat) r:=rfl
theorem Qn(s:UInt64)(x:UInt8)(h:s.toNat<72057594037927936):(aU .or .u64 (UInt64.ofNat (s.toNat*2^8%18446744073709551616)) (aC (UInt8.toNat x:Int)):UInt64)=UInt64.ofNat (s.toNat*256+x.toNat):=by
 have hx:=x.toNat_lt
 have e1:(UInt64.ofNat (s.toNat*2^8%18446744073709551616)).toNat=2^8*s.toNat:=by rw[aO (by omega)];omega
 have e2:(aC (UInt8.toNat x:Int)).toNat=x.toNat:=gD (by omega)
 rw[nR _ _ 8 s.toNat e1 (by rw[e2];omega),e1,e2]
 congr 1;omega
theorem Im(xs:List UInt8)(h8:xs.length≤8)(Z:UInt64→Option (UInt64×(Bool×ak))): ∀(r k:Nat) (s:UInt64),k+r=xs.length→s.toNat<256^k→
  mG (R:=(UInt64×(Bool×ak))) (S:=UInt64) (fun _ s7=>Z s7)
   (fun k9 s10 self11=>bnd (aV xs (k9:Int)) fun x12=>bnd ((et .u64 (s10:UInt64) (UInt64.toNat 8:Int):Option UInt64)) fun(x13:UInt64)=>letm ((aC (UInt8.toNat x12:Int))) fun x14=>letm ((aU .or .u64 (x13:UInt64) (x14:UInt64):UInt64)) fun x15=>self11 x15) r k s=Z (UInt64.ofNat (xX s.toNat (xs.drop k)))
 |0,k,s,hk,hs=>by
  rw[DQ,List.drop_of_length_le (by omega)]
  congr 1;unfold xX;simp
 |r+1,k,s,hk,hs=>by
  have hlt:k<xs.length:=by omega
  have h7:k≤7:=by omega
  have hp:256^k≤256^7:=Nat.pow_le_pow_right (by omega) h7
  have hs7:s.toNat<72057594037927936:=Nat.lt_of_lt_of_le hs hp
  have hx:=(xs[k]).toNat_lt
  rw[rS,aM (List.getElem?_eq_getElem hlt),ae]
  refine ac (Gn s 8 (by omega)) ?_
  rw[aa,aa,Qn s _ hs7]
  have hn:(UInt64.ofNat (s.toNat*256+(xs[k]).toNat)).toNat=s.toNat*256+(xs[k]).toNat:=aO (by omega)
  rw[Im xs h8 Z r (k+1) _ (by omega) (by rw[hn,Nat.pow_succ];omega),hn,List.drop_eq_getElem_cons hlt,IT]
theorem KK(pre xs post:List UInt8):Gk.cut (pre++(xs++post)) (pre.length:Int) ((pre.length+xs.length:Nat):Int)=some xs:=by
 have:=gn (xs:=pre++(xs++post)) (lo:=pre.length) (hi:=pre.length+xs.length) (by omega) (by simp)
 rw[this,List.take_append,List.take_of_length_le (by omega),show pre.length+xs.length-pre.length=xs.length by omega,List.take_left',List.drop_left']
 ·rfl
 ·rfl
theorem Pm{B pre xs post:List UInt8}{k:Nat}{i:Int}(hB:B=pre++(xs++post))(hl:B.length≤100000)(hk:xs.length=k)(h8:k≤8)(_h1:1≤k):
  fK (B,((pre.length:Int),i)) (k:Int)=some (UInt64.ofNat (xX 0 xs),(true,(B,(((pre.length+k:Nat):Int),i)))):=by
 have hlen:B.length=pre.length+(k+post.length):=by rw[hB];simp[hk]
 unfold fK
 simp only[aa]
 rw[ap (x:=(B.length:Int)-_) (by omega) (by omega),decide_eq_false (by omega),ay,ap (by omega) (by omega)]
 have hc:=KK pre xs post
 rw[←hB,hk]at hc
 rw[show((pre.length:Int)+(k:Int))=((pre.length+k:Nat):Int) by omega]
 rw[hc,ae,ui (by omega),ae]
 have hg:=Im xs (by omega) (fun s7=>some (s7,(true,(B,(((pre.length+k:Nat):Int),i))))) xs.length 0 0 (by omega) (by decide)
 simp only[aa]at hg
 exact hg
theorem QV : ∀c:Fin 256,(Option.map (fun x:UInt8=>x.toNat) (c_ .u8 (UInt8.ofNat c.1) (UInt64.toNat 5:Int)):Option Nat)=some (c.1/32):=by decide +kernel
theorem PU : ∀c:Fin 256,ar (bits .and .u8 (UInt8.toNat (UInt8.ofNat c.1)) (UInt8.toNat 31))=UInt8.ofNat (c.1%32):=by decide +kernel
theorem m_(x:UInt8): @Eq (Option UInt8) (c_ .u8 x (UInt64.toNat 5:Int)) (some (UInt8.ofNat (x.toNat/32))):=by
 have:=QV ⟨x.toNat,UInt8.toNat_lt x⟩
 rw[show UInt8.ofNat ((⟨x.toNat,UInt8.toNat_lt x⟩:Fin 256).1)=x by simp]at this
 obtain⟨y,h1,h2⟩:=Option.map_eq_some_iff.1 this
 have h1 : @Eq (Option UInt8) (c_ .u8 x (UInt64.toNat 5:Int)) (some y):=h1
 refine h1.trans (congrArg some (UInt8.toNat_inj.1 ?_))
 have h2:y.toNat=x.toNat/32:=h2
 have hx:=UInt8.toNat_lt x
 rw[h2,UInt8.toNat_ofNat']
 omega
theorem qk(x:UInt8):ar (bits .and .u8 (UInt8.toNat x) (UInt8.toNat 31))=UInt8.ofNat (x.toNat%32):=by
 have:=PU ⟨x.toNat,UInt8.toNat_lt x⟩
 rwa [show UInt8.ofNat ((⟨x.toNat,UInt8.toNat_lt x⟩:Fin 256).1)=x by simp]at this
theorem gI{n:Nat}(h:n<256):(UInt8.ofNat n).toNat=n:=by rw[UInt8.toNat_ofNat'];omega
theorem Nb{B pre post:List UInt8}{c:UInt8}{i:Int}(hB:B=pre++(c::post))(hl:B.length≤100000)(hc:c.toNat%32<24):
  bG (B,((pre.length:Int),i))=some (c,(UInt64.ofNat (c.toNat%32),(0,(B,(((pre.length+1:Nat):Int),i))))):=by
 have hlen:B.length=pre.length+(1+post.length):=by rw[hB];simp;omega
 unfold bG
 simp only[aa]
 rw[show(((pre.length:Int)==(B.length:Int)))=false by rw[←Bool.not_eq_true,beq_iff_eq];omega,ay]
 rw[aM (x:=c) (by rw[hB];simp),ae,qk,gI (by omega),show((UInt8.toNat 27:Nat):Int)=27 from rfl,show((UInt8.toNat 24:Nat):Int)=24 from rfl]
 rw[decide_eq_false (by omega),ay,decide_eq_true (by omega),a7,ap (by omega) (by omega),bC,show((pre.length:Int)+1)=((pre.length+1:Nat):Int) by omega]
theorem Q_ : ∀j:Fin 4,Gk.shl 1 (((UInt8.ofNat (24+j.1))-24:UInt8).toNat:Int)=some ((2^j.1:Nat):Int):=by decide +kernel
theorem sV{B pre xs post:List UInt8}{c:UInt8}{i:Int}(j:Fin 4)(hB:B=pre++(c::(xs++post)))(hl:B.length≤100000)(hc:c.toNat%32=24+j.1)(hx:xs.length=2^j.1)
  (hs:c.toNat/32<7→(hd 0 (UInt64.ofNat (xX 0 xs))).length=1+2^j.1) :
  bG (B,((pre.length:Int),i))=some (c,(UInt64.ofNat (xX 0 xs),(0,(B,(((pre.length+(1+2^j.1):Nat):Int),i))))):=by
 have hj:=j.2
 have hlen:B.length=pre.length+(1+(2^j.1+post.length)):=by rw[hB];simp[hx];omega
 have hp8:2^j.1≤8:=by
  have:2^j.1≤2^3:=Nat.pow_le_pow_right (by omega) (by omega)
  omega
 have hp1:1≤2^j.1:=Nat.one_le_two_pow
 unfold bG
 simp only[aa]
 rw[show(((pre.length:Int)==(B.length:Int)))=false by rw[←Bool.not_eq_true,beq_iff_eq];omega,ay]
 rw[aM (x:=c) (by rw[hB];simp),ae,qk,hc,gI (n:=24+j.1) (by omega),show((UInt8.toNat 27:Nat):Int)=27 from rfl,show((UInt8.toNat 24:Nat):Int)=24 from rfl]
 rw[decide_eq_false (by omega),ay,decide_eq_false (by omega),ay,Q_ j,ae,ap (x:=(pre.length:Int)+1) (by omega) (by omega)]
 have hn:=Pm (B:=B) (pre:=pre ++ [c]) (xs:=xs) (post:=post) (k:=2^j.1) (i:=i) (by rw[hB];simp) hl hx hp8 hp1
 rw[List.length_append,List.length_singleton]at hn
 rw[show((pre.length:Int)+1)=((pre.length+1:Nat):Int) by omega,hn,ae,Bool.not_true,ay]
 have hv:(bnd (c_ .u8 c (UInt64.toNat 5:Int)) fun(x12:UInt8)=>cond (decide ((UInt8.toNat x12:Int)<(UInt8.toNat 7:Int))) (bnd (bJ 0 (UInt64.ofNat (xX 0 xs))) fun x14=>bnd (some ((2^j.1:Nat):Int)) fun x16=>some ((x14.length:Int) != aF (1+x16))) (some false):Option Bool)=some false:=by
  refine ac (m_ c) ?_
  rw[gI (n:=c.toNat/32) (by have:=c.toNat_lt;omega),show((UInt8.toNat 7:Nat):Int)=7 from rfl]
  by_cases h7:c.toNat/32<7
  ·rw[decide_eq_true (by omega),a7,show bJ 0 (UInt64.ofNat (xX 0 xs))=some (hd 0 (UInt64.ofNat (xX 0 xs)))from lC 0 _,ae,ae,hs h7,ap (by omega) (by omega)]
   rw[show(((1+2^j.1:Nat):Int) != 1+((2^j.1:Nat):Int))=false by simp]
  ·rw[decide_eq_false (by omega),ay]
 refine ac hv ?_
 rw[ay,show pre.length+1+2^j.1=pre.length+(1+2^j.1) by omega]
theorem RC{n:Nat}(h:n<256):xX 0 [UInt8.ofNat n]=n:=by simp only[xX,UInt8.toNat_ofNat'];omega
theorem RB{n:Nat}(h:n<65536):xX 0 [UInt8.ofNat (n/256),UInt8.ofNat n]=n:=by simp only[xX,UInt8.toNat_ofNat'];omega
theorem RU{n:Nat}(h:n<4294967296):xX 0 [UInt8.ofNat (n/16777216),UInt8.ofNat (n/65536),UInt8.ofNat (n/256),UInt8.ofNat n]=n:=by simp only[xX,UInt8.toNat_ofNat'];omega
theorem zV(n:UInt64):xX 0 (Fx n)=n.toNat:=by
 have hn:=n.toNat_lt
 have e : ∀k,((UInt64.ofNat (n.toNat/2^k)).toNat:Nat)=n.toNat/2^k:=fun k=>aO (Nat.lt_of_le_of_lt (Nat.div_le_self _ _) hn)
 unfold Fx
 simp only[e,fq,xX,UInt8.toNat_ofNat']
 omega
theorem EY{n:UInt64}(h:n.toNat<24)(m:Nat):(hd m n).length=1:=by unfold hd;rw[if_pos h];rfl
theorem E9{n:UInt64}(h : ¬n.toNat<24)(h2:n.toNat<256)(m:Nat):(hd m n).length=2:=by unfold hd;rw[if_neg h,if_pos h2];rfl
theorem D_{n:UInt64}(h2 : ¬n.toNat<256)(h3:n.toNat<65536)(m:Nat):(hd m n).length=3:=by unfold hd;rw[if_neg (by omega),if_neg h2,if_pos h3];rfl
theorem EC{n:UInt64}(h2 : ¬n.toNat<65536)(h3:n.toNat<4294967296)(m:Nat):(hd m n).length=5:=by unfold hd;rw[if_neg (by omega),if_neg (by omega),if_neg h2,if_pos h3];rfl
theorem Ex{n:UInt64}(h2 : ¬n.toNat<4294967296)(m:Nat):(hd m n).length=9:=by unfold hd;rw[if_neg (by omega),if_neg (by omega),if_neg (by omega),if_neg h2];rfl
theorem fW(n:UInt64):UInt64.ofNat n.toNat=n:=by simp
theorem j8{B pre post:List UInt8}{i:Int}(m:Nat)(hm:m<7)(n:UInt64)(hB:B=pre++(hd m n++post))(hl:B.length≤100000):
  ∃c:UInt8,c.toNat/32=m∧bG (B,((pre.length:Int),i))=some (c,(n,(0,(B,(((pre.length+(hd m n).length:Nat):Int),i))))):=by
 have hn:=n.toNat_lt
 by_cases h1:n.toNat<24
 ·refine⟨UInt8.ofNat (32*m+n.toNat),by rw[gI (by omega)];omega,?_⟩
  have:=Nb (B:=B) (pre:=pre) (post:=post) (c:=UInt8.ofNat (32*m+n.toNat)) (i:=i) (by rw[hB];unfold hd;rw[if_pos h1];rfl) hl (by rw[gI (by omega)];omega)
  rw[this,EY h1,gI (by omega),show(32*m+n.toNat)%32=n.toNat by omega,fW]
 by_cases h2:n.toNat<256
 ·refine⟨UInt8.ofNat (32*m+24),by rw[gI (by omega)];omega,?_⟩
  have:=sV (B:=B) (pre:=pre) (xs:=[UInt8.ofNat n.toNat]) (post:=post) (c:=UInt8.ofNat (32*m+24)) (i:=i) 0 (by rw[hB];unfold hd;rw[if_neg h1,if_pos h2];rfl) hl (by rw[gI (by omega)];show _=24+0;omega) rfl (fun _=>by rw[RC h2,fW,E9 h1 h2];rfl)
  rw[this,E9 h1 h2,RC h2,fW];rfl
 by_cases h3:n.toNat<65536
 ·refine⟨UInt8.ofNat (32*m+25),by rw[gI (by omega)];omega,?_⟩
  have:=sV (B:=B) (pre:=pre) (xs:=[UInt8.ofNat (n.toNat/256),UInt8.ofNat n.toNat]) (post:=post) (c:=UInt8.ofNat (32*m+25)) (i:=i) 1 (by rw[hB];unfold hd;rw[if_neg h1,if_neg h2,if_pos h3];rfl) hl (by rw[gI (by omega)];show _=24+1;omega) rfl (fun _=>by rw[RB h3,fW,D_ h2 h3];rfl)
  rw[this,D_ h2 h3,RB h3,fW];rfl
 by_cases h4:n.toNat<4294967296
 ·refine⟨UInt8.ofNat (32*m+26),by rw[gI (by omega)];omega,?_⟩
  have:=sV (B:=B) (pre:=pre) (xs:=[UInt8.ofNat (n.toNat/16777216),UInt8.ofNat (n.toNat/65536),UInt8.ofNat (n.toNat/256),UInt8.ofNat n.toNat]) (post:=post) (c:=UInt8.ofNat (32*m+26)) (i:=i) 2 (by rw[hB];unfold hd;rw[if_neg h1,if_neg h2,if_neg h3,if_pos h4];rfl) hl (by rw[gI (by omega)];show _=24+2;omega) rfl (fun _=>by rw[RU h4,fW,EC h3 h4];rfl)
  rw[this,EC h3 h4,RU h4,fW];rfl
 ·refine⟨UInt8.ofNat (32*m+27),by rw[gI (by omega)];omega,?_⟩
  have:=sV (B:=B) (pre:=pre) (xs:=Fx n) (post:=post) (c:=UInt8.ofNat (32*m+27)) (i:=i) 3 (by rw[hB];unfold hd;rw[if_neg h1,if_neg h2,if_neg h3,if_neg h4];rfl) hl (by rw[gI (by omega)];show _=24+3;omega) rfl (fun _=>by rw[zV,fW,Ex h4];rfl)
  rw[this,Ex h4,zV,fW];rfl
open Ieee
set_option maxRecDepth 100000
theorem rW{q M:Nat}(hq:q≤2045)(h1:4503599627370496≤M)(h2:M<9007199254740992):double.read (q*4503599627370496+M) = .number false M (-1074+q):=Jq false q M hq h1 h2
theorem KR{M:Nat}(h1:4503599627370496≤M)(h2:M<9007199254740992):(M*4503599627370496).log2=104:=by
 have hne:M*4503599627370496≠0:=by omega
 have a:104≤(M*4503599627370496).log2:=(Nat.le_log2 hne).2 (by omega)
 have b:(M*4503599627370496).log2<105:=(Nat.log2_lt hne).2 (by omega)
 omega
theorem GP{q M:Nat}(hq:q≤2045)(h1:4503599627370496≤M)(h2:M<9007199254740992):double.mul 4607182418800017408 (q*4503599627370496+M)=some (q*4503599627370496+M):=by
 have e1:double.read 4607182418800017408 = .number false 4503599627370496 (-1074+(1022:Nat)):=rW (q:=1022) (M:=4503599627370496) (by omega) (by omega) (by omega)
 unfold Format.mul
 rw[e1,rW hq h1 h2]
 show some (double.nearest false (4503599627370496*M) (-1074+(1022:Nat)+(-1074+(q:Int))))=_
 refine congrArg some ?_
 rw[Nat.mul_comm]
 unfold Format.nearest
 rw[if_neg (by omega)]
 dsimp only
 rw[KR h1 h2,O5,wu,yx]
 have hf:(double.fractionBits:Int)=52:=rfl
 rw[hf,Int.max_eq_left (by omega)]
 rw[show(-1074+((1022:Nat):Int)+(-1074+(q:Int))-(-1074+((1022:Nat):Int)+(-1074+(q:Int))+((104:Nat):Int)-52)).toNat=0 by omega,show(-1074+((1022:Nat):Int)+(-1074+(q:Int))+((104:Nat):Int)-52-(-1074+((1022:Nat):Int)+(-1074+(q:Int)))).toNat=52 by omega,Nat.shiftLeft_zero]
 have hc:=EN false M 52 (by omega)
 rw[show(2:Nat)^52=4503599627370496 from rfl]at hc
 rw[hc,show(-1074+((1022:Nat):Int)+(-1074+(q:Int))+((104:Nat):Int)-52 - -1074).toNat=q by omega,Nat.min_eq_left (by omega)]
 rfl
theorem A1(a b:Int):compare a b=if a<b then .lt else if a=b then .eq else .gt:=rfl
theorem we{q M r K:Nat}(hq:q≤2045)(h1:4503599627370496≤M)(h2:M<9007199254740992){z:Nat}(hz:double.read z = .number false K (-1074+r)):
  double.order (q*4503599627370496+M) z=some (compare ((M*2^(q-r):Nat):Int) ((K*2^(r-q):Nat):Int)):=by
 unfold Format.order
 rw[rW hq h1 h2,hz]
 show some (compare (signed false M (-1074+(q:Int)-min (-1074+(q:Int)) (-1074+(r:Int))).toNat) (signed false K (-1074+(r:Int)-min (-1074+(q:Int)) (-1074+(r:Int))).toNat))=_
 have e1:(-1074+(q:Int)-min (-1074+(q:Int)) (-1074+(r:Int))).toNat=q-r:=by omega
 have e2:(-1074+(r:Int)-min (-1074+(q:Int)) (-1074+(r:Int))).toNat=r-q:=by omega
 rw[e1,e2]
 show some (compare ((M <<< (q-r):Nat):Int) ((K <<< (r-q):Nat):Int))=_
 rw[Nat.shiftLeft_eq,Nat.shiftLeft_eq]
theorem FG:double.read 0 = .number false 0 (-1074+(0:Nat)):=by
 unfold Format.read
 dsimp only
 rw[Gj,wu]
 rfl
structure Eh(x:UInt64)(q M:Nat):Prop where
 e:x.toNat=q*4503599627370496+M
 q:q≤2045
 l:4503599627370496≤M
 h:M<9007199254740992
theorem Eh.lt{x:UInt64}{q M:Nat}(h:Eh x q M):x.toNat<9223372036854775808:=by have:=h.e;have:=h.q;have:=h.h;omega
theorem Eh.feq0{x:UInt64}{q M:Nat}(h:Eh x q M):feq x 0=false:=by
 show(double.order x.toNat (0:UInt64).toNat==some .eq)=false
 rw[h.e,we h.q h.l h.h (z:=(0:UInt64).toNat) (K:=0) (r:=0) FG,A1,Nat.zero_mul]
 have hp:0<M*2^(q-0):=Nat.mul_pos (by have:=h.l;omega) (Nat.two_pow_pos _)
 rw[if_neg (by omega),if_neg (by omega)]
 rfl
theorem Eh.feq{x:UInt64}{q M:Nat}(h:Eh x q M):feq x x=true:=by
 show(FloatKind.f64.format.order x.toNat x.toNat==some .eq)=true
 rw[sX]
 have:=h.e;have:=h.q;have:=h.h
 exact decide_eq_true (by omega)
theorem Eh.nmax{x:UInt64}{q M:Nat}(h:Eh x q M):Rc x 9218868437227405311=false:=by
 show(double.order x.toNat (9218868437227405311:UInt64).toNat==some .gt)=false
 have hz:double.read (9218868437227405311:UInt64).toNat = .number false 9007199254740991 (-1074+(2045:Nat)):=rW (q:=2045) (M:=9007199254740991) (by omega) (by omega) (by omega)
 rw[h.e,we h.q h.l h.h hz,A1]
 have hq:=h.q
 have hM:=h.h
 rw[show q-2045=0 by omega,Nat.pow_zero,Nat.mul_one]
 have hp:1≤2^(2045-q):=Nat.one_le_two_pow
 have hm:9007199254740991≤9007199254740991*2^(2045-q):=Nat.le_mul_of_pos_right _ hp
 generalize 9007199254740991*2^(2045-q)=K at hm
 by_cases c:(M:Int)<(K:Int)
 ·rw[if_pos c];rfl
 ·rw[if_neg c,if_pos (by omega)];rfl
theorem Eh.nmin{x:UInt64}{q M:Nat}(h:Eh x q M):QR x 4503599627370496=false:=by
 show(double.order x.toNat (4503599627370496:UInt64).toNat==some .lt)=false
 have hz:double.read (4503599627370496:UInt64).toNat = .number false 4503599627370496 (-1074+(0:Nat)):=rW (q:=0) (M:=4503599627370496) (by omega) (by omega) (by omega)
 rw[h.e,we h.q h.l h.h hz,A1]
 have hp:1≤2^(q-0):=Nat.one_le_two_pow
 have hm:M≤M*2^(q-0):=Nat.le_mul_of_pos_right _ hp
 have hl:=h.l
 rw[show 0-q=0 by omega,Nat.pow_zero,Nat.mul_one]
 generalize M*2^(q-0)=K at hm
 rw[if_neg (by omega)]
 by_cases c:(K:Int)=((4503599627370496:Nat):Int)
 ·rw[if_pos c];rfl
 ·rw[if_neg c];rfl
theorem H8(a b:UInt64):(aU .andNot .u64 a b:UInt64)=UInt64.ofNat (a.toNat &&& (18446744073709551615-b.toNat)):=by
 show aC (IntKind.u64.wrap (((BitVec.ofInt 64 (a.toNat:Int) &&& ~~~ BitVec.ofInt 64 (b.toNat:Int)).toNat:Nat):Int))=_
 rw[BitVec.toNat_and,BitVec.toNat_not,qD,qD,wrap_u64]
 have:a.toNat &&& (2^64-1-b.toNat)<18446744073709551616:=Nat.lt_of_le_of_lt Nat.and_le_left a.toNat_lt
 rw[gD this,bC]
theorem zu{a:UInt64}(h:a.toNat<9223372036854775808):(aU .andNot .u64 a (9223372036854775808:UInt64):UInt64)=a:=by
 rw[H8,show 18446744073709551615-(9223372036854775808:UInt64).toNat=2^63-1 from rfl,Nat.and_two_pow_sub_one_eq_mod,Nat.mod_eq_of_lt h,fW]
theorem Hr{a:UInt64}(h:a.toNat<9223372036854775808):(aU .andNot .u64 a (9218868437227405312:UInt64):UInt64)=UInt64.ofNat (a.toNat%4503599627370496):=by
 rw[H8]
 congr 1
 have e:a.toNat=a.toNat &&& (2^63-1):=by rw[Nat.and_two_pow_sub_one_eq_mod,Nat.mod_eq_of_lt h]
 rw[e,Nat.and_assoc,show(2^63-1) &&& (18446744073709551615-(9218868437227405312:UInt64).toNat)=2^52-1 by decide,Nat.and_two_pow_sub_one_eq_mod,←e]
theorem J3{a:UInt64}(h:a.toNat<9223372036854775808):mn a=some a:=by
 unfold mn
 exact dQ rfl (dQ (zu h) rfl)
theorem Rq{q M:Nat}(h1:4503599627370496≤M)(h2:M<9007199254740992):(q*4503599627370496+M)%4503599627370496=M-4503599627370496:=by omega
theorem RM{e m k:Nat}(hk:k=1051-e)(h1:999≤e)(h2:e≤1008):(52-k+998)*4503599627370496+(m+4503599627370496)=e*4503599627370496+m:=by omega
theorem xC{x:UInt64}{q M:Nat}(h:Eh x q M)(k:Int)(h0 : -1000≤k)(h1:k≤1000){r:Nat}(hr:(r:Int)=(q:Int)+k)(hr2:r≤2045): ∃y,gN x k=some y∧Eh y r M:=by
 have hM:=h.h
 have hL:=h.l
 have hE:=h.e
 have hq:=h.q
 have hy:(UInt64.ofNat (r*4503599627370496+M)).toNat=r*4503599627370496+M:=aO (by omega)
 refine⟨UInt64.ofNat (r*4503599627370496+M),?_,⟨hy,hr2,hL,hM⟩⟩
 unfold gN
 refine ac ?_ rfl
 unfold nX
 rw[aa,h.feq0,ay]
 have hinf:lK x 0=some false:=by
  unfold lK
  refine ac (y:=x) ?_ ?_
  ·rw[aa,show((0:Int)==0)=true from rfl,a7,J3 h.lt,ae]
  ·rw[aa,h.nmax]
 have hnan:lH x=some false:=by
  unfold lH
  rw[aa,h.feq];rfl
 refine ac (y:=false) ?_ ?_
 ·rw[hinf,ae,ay,hnan,ae]
 have hnorm:iM x=some (x,0):=by
  unfold iM
  rw[J3 h.lt,ae,aa,h.nmin,ay]
 rw[ay,hnorm,ae,aa,ap (x:=k+0) (by omega) (by omega),aa]
 refine ac (n_ x 52 (by omega)) ?_
 have e9:x.toNat/2^52=q+1:=by rw[hE];omega
 have e11:rN .and ((q+1:Nat):Int) 2047=((q+1:Nat):Int):=by
  have:=Mi (a:=q+1) (b:=2047) (by omega) (by omega)
  rw[show((2047:Nat):Int)=2047 from rfl]at this
  rw[this,show 2047=2^11-1 from rfl,Nat.and_two_pow_sub_one_eq_mod,Nat.mod_eq_of_lt (by omega)]
 rw[e9,aO (n:=q+1) (by omega),aa,ap (x:=((q+1:Nat):Int)) (by omega) (by omega),aa,e11,aa,ap (x:=((q+1:Nat):Int)-1023) (by omega) (by omega),aa,ap (x:=k+0+(((q+1:Nat):Int)-1023)) (by omega) (by omega)]
 rw[aa,decide_eq_false (by omega),ay,aa,decide_eq_false (by omega),ay]
 refine ac (y:=(k+0+(((q+1:Nat):Int)-1023),(4607182418800017408:UInt64))) ?_ ?_
 ·rw[aa,decide_eq_false (by omega),ay]
 rw[aa,Hr h.lt,aa,ap (by omega) (by omega),aa]
 have e24:k+0+(((q+1:Nat):Int)-1023)+1023=((r+1:Nat):Int):=by omega
 rw[e24,bC]
 refine ac (Gn _ 52 (by omega)) ?_
 have e26:(UInt64.ofNat (r+1)).toNat*2^52%18446744073709551616=(r+1)*4503599627370496:=by rw[aO (by omega)];omega
 have e23:x.toNat%4503599627370496=M-4503599627370496:=by rw[hE];exact Rq hL hM
 rw[e26,e23]
 have hor:(aU .or .u64 (UInt64.ofNat (M-4503599627370496)) (UInt64.ofNat ((r+1)*4503599627370496)):UInt64)=UInt64.ofNat (r*4503599627370496+M):=by
  have h1:=Mj (UInt64.ofNat (M-4503599627370496)) (UInt64.ofNat ((r+1)*4503599627370496))
  rw[aO (n:=M-4503599627370496) (by omega),aO (n:=(r+1)*4503599627370496) (by omega),Nat.or_comm,Nat.mul_comm (r+1)]at h1
  rw[Nat.mul_comm (r+1)]
  refine h1.trans (congrArg UInt64.ofNat ?_)
  have h2:=Nat.two_pow_add_eq_or_of_lt (i:=52) (b:=M-4503599627370496) (by show _<4503599627370496;omega) (r+1)
  rw[show(2:Nat)^52=4503599627370496 from rfl]at h2
  rw[←h2];omega
 refine dQ hor (dQ rfl ?_)
 refine ac (y:=UInt64.ofNat (r*4503599627370496+M)) ?_ rfl
 show(double.mul (4607182418800017408:UInt64).toNat (UInt64.ofNat (r*4503599627370496+M)).toNat).map UInt64.ofNat=_
 rw[hy,show(4607182418800017408:UInt64).toNat=4607182418800017408 from rfl,GP hr2 hL hM]
 rfl
theorem Id{m:Nat}(h0:m≠0)(h1:m<8388608):Eh (KH (m:Int)) (m.log2+1022) (m*2^(52-m.log2)):=by
 have hl:m.log2≤22:=by have:=(Nat.log2_lt h0).2 (show m<2^23 from h1);omega
 obtain⟨b1,b2⟩:=zz h0 (by omega)
 have e:double.nearest false m 0=(m.log2+1022)*4503599627370496+m*2^(52-m.log2):=by
  rw[Ec false m 0 h0 (by omega) (by omega) (by omega),show(0+(m.log2:Int)+1022).toNat=m.log2+1022 by omega];rfl
 refine⟨?_,by omega,b1,b2⟩
 show(UInt64.ofNat (double.nearest (decide ((m:Int)<0)) (m:Int).natAbs 0)).toNat=_
 rw[decide_eq_false (by omega),Int.natAbs_natCast,e,aO (by omega)]
def M9(p:Nat→Bool):Nat→Nat→Bool
 |0,_=>true
 |n+1,h=>p h&&M9 p n (h+1)
theorem Bk{p:Nat→Bool}: ∀{n h:Nat},M9 p n h=true→∀i,h≤i→i<h+n→p i=true
 |0,h,_,i,h1,h2=>by omega
 |n+1,h,hw,i,h1,h2=>by
  unfold M9 at hw
  rw[Bool.and_eq_true]at hw
  by_cases e:i=h
  ·rw[e];exact hw.1
  ·exact Bk hw.2 i (by omega) (by omega)
theorem My:M9 (fun m=>match xD .add (KH (m:Int)) (4652218415073722368:UInt64)with |some w=>Nat.beq w.toNat (4652218415073722368+m*4398046511104) |none=>false) 1024 0=true:=by decide +kernel
theorem Ix{m:Nat}(h:m<1024): ∃y,xD .add (KH (m:Int)) (4652218415073722368:UInt64)=some y∧Eh y 1032 (4503599627370496+m*4398046511104):=by
 have:=Bk My m (by omega) (by omega)
 revert this
 cases hf:xD .add (KH (m:Int)) (4652218415073722368:UInt64)with
 |none=>intro this;cases this
 |some y=>
  intro this
  have:=Nat.eq_of_beq_eq_true this
  exact⟨y,rfl,by omega,by omega,by omega,by omega⟩
theorem y3{a k m:Nat}(ha:a<65536)(hm:m=2^k-1)(hm2:m<65536):(aU .and .u16 (a:Int) (m:Int):Int)=((a%2^k:Nat):Int):=by
 have h1:(BitVec.ofInt 16 (a:Int)).toNat=a:=by
  rw[BitVec.ofInt_natCast,BitVec.toNat_ofNat];exact Nat.mod_eq_of_lt (by omega)
 have h2:(BitVec.ofInt 16 (m:Int)).toNat=m:=by
  rw[BitVec.ofInt_natCast,BitVec.toNat_ofNat];exact Nat.mod_eq_of_lt (by omega)
 show IntKind.u16.wrap (((BitVec.ofInt 16 (a:Int) &&& BitVec.ofInt 16 (m:Int)).toNat:Nat):Int)=_
 rw[BitVec.toNat_and,h1,h2,hm,Nat.and_two_pow_sub_one_eq_mod,Ji]
 have:a%2^k≤a:=Nat.mod_le _ _
 omega
theorem NF{a:Nat}(k:Nat)(hk:k≤16): @Eq (Option Int) (c_ .u16 (a:Int) (k:Int)) (some ((a/2^k:Nat):Int)):=by
 show(if(k:Int)<0 then none else some (Int.ediv (a:Int) (2^min (k:Int).toNat 16)))=_
 rw[if_neg (by omega),show min ((k:Int).toNat) 16=k by omega]
 refine congrArg some ?_
 show(a:Int)/(2^k)=_
 push_cast
 rfl
theorem z6{v:UInt64}(h:v.toNat<9223372036854775808):fF v (13830554455654793216:UInt64)=some (UInt64.ofNat (9223372036854775808+v.toNat)):=by
 unfold fF
 have ha:(aU .and .u64 (13830554455654793216:UInt64) (9223372036854775808:UInt64):UInt64)=UInt64.ofNat 9223372036854775808:=by
  rw[NA];exact congrArg UInt64.ofNat (by decide)
 have ho:(aU .or .u64 v (UInt64.ofNat 9223372036854775808):UInt64)=UInt64.ofNat (9223372036854775808+v.toNat):=by
  have h1:=Mj v (UInt64.ofNat 9223372036854775808)
  rw[aO (n:=9223372036854775808) (by omega),Nat.or_comm]at h1
  refine h1.trans (congrArg UInt64.ofNat ?_)
  have h2:=Nat.two_pow_add_eq_or_of_lt (i:=63) (b:=v.toNat) (by show _<9223372036854775808;omega) 1
  rw[show(2:Nat)^63*1=9223372036854775808 from rfl]at h2
  rw[←h2]
 exact dQ rfl (dQ (zu h) (dQ rfl (dQ ha (dQ ho rfl))))
theorem iF{ρ ρ' Y:Type}{X:Option (ρ⊕Y)}{w:ρ→ρ'}{K:Y→Option ρ'}{y:Y}{r:Option ρ'}(h:X=some (.inr y))(h2:K y=r):fI X w K=r:=by rw[h];exact h2
theorem yH{ρ ρ' Y:Type}{X:Option (ρ⊕Y)}{w:ρ→ρ'}{K:Y→Option ρ'}{q:ρ}(h:X=some (.inl q)):fI X w K=some (w q):=by rw[h];rfl
def uO(e m:Int):Option (UInt64⊕UInt64):=
 letm (e==31) fun x6=>
 cond x6 (letm (m != (0:Int)) fun x8=>cond x8 (some (.inl 9221120237041090560)) (bnd (lZ 1) fun x9=>some (.inr x9)))
  (letm (e==0) fun x10=>cond x10 (bnd (gN (KH m) (-24)) fun x11=>some (.inr x11))
  (bnd (xD .add (KH m) (4652218415073722368:UInt64)) fun x12=>letm ((aF (e-25))) fun x13=>bnd (gN x12 x13) fun x14=>some (.inr x14)))
theorem nO{g r:Nat}(hg:g<2)(hr:r<32768){v:UInt64}(hv:v.toNat<9223372036854775808)(hc:uO ((r/1024:Nat):Int) ((r%1024:Nat):Int)=some (.inr v)):
  gK ((g*32768+r:Nat):Int)=some (UInt64.ofNat (g*9223372036854775808+v.toNat)):=by
 have e1:(aU .and .u16 ((g*32768+r:Nat):Int) (1023:Int):Int)=((r%1024:Nat):Int):=by
  have:=y3 (a:=g*32768+r) (k:=10) (m:=1023) (by omega) rfl (by omega)
  refine this.trans ?_
  rw[show(2:Nat)^10=1024 from rfl,show(g*32768+r)%1024=r%1024 by omega]
 have e4:(aU .and .u16 (((g*32768+r)/2^10:Nat):Int) (31:Int):Int)=((r/1024:Nat):Int):=by
  have:=y3 (a:=(g*32768+r)/2^10) (k:=5) (m:=31) (by omega) rfl (by omega)
  refine this.trans ?_
  rw[show(2:Nat)^10=1024 from rfl,show(2:Nat)^5=32 from rfl,show(g*32768+r)/1024%32=r/1024 by omega]
 unfold gK
 refine dQ e1 (dQ rfl ?_)
 refine ac (NF 10 (by omega)) ?_
 refine dQ e4 ?_
 rw[show aF (Gk.eF .u16 ((r/1024:Nat):Int))=((r/1024:Nat):Int)from ap (by show(-9223372036854775808:Int)≤((r/1024:Nat):Int);omega) (by show((r/1024:Nat):Int)<9223372036854775808;omega),aa]
 have hc2:=hc
 refine iF (y:=v) ?_ ?_
 ·refine Eq.trans ?_ hc
  unfold uO
  rw[aa,aa]
  cases hb:(((r/1024:Nat):Int)==31)with
  |false=>rfl
  |true=>
   rw[a7]
   exact dQ (congrArg (fun z:Int=>z != 0) e1) rfl
 ·refine ac (y:=UInt64.ofNat (g*9223372036854775808+v.toNat)) ?_ rfl
  refine ac (NF 15 (by omega)) ?_
  rw[show(2:Nat)^15=32768 from rfl,show(g*32768+r)/32768=g by omega,aa]
  show cond ((g:Int)==(1:Int)) _ _=_
  rcases(show g=0∨g=1 by omega)with rfl |rfl
  ·show some v=_
   rw[Nat.zero_mul,Nat.zero_add,fW]
  ·show bnd (fF v (13830554455654793216:UInt64)) _=_
   rw[z6 hv,ae,Nat.one_mul]
theorem GU:uO 31 0=some (.inr 9218868437227405312):=by kernel_rfl
theorem DM:uO 0 0=some (.inr 0):=by kernel_rfl
theorem GO{m:Nat}(h0:m≠0)(h1:m<1024): ∃y,uO 0 (m:Int)=some (.inr y)∧y.toNat=(m.log2+998)*4503599627370496+m*2^(52-m.log2)∧y.toNat<9223372036854775808:=by
 have hn:=Id h0 (by omega)
 have hl:m.log2≤9:=by have:=(Nat.log2_lt h0).2 (show m<2^10 from h1);omega
 obtain⟨y,hy,hN⟩:=xC hn (-24) (by omega) (by omega) (r:=m.log2+998) (by omega) (by omega)
 refine⟨y,?_,hN.e,hN.lt⟩
 unfold uO
 rw[aa,show((0:Int)==31)=false from rfl,ay,aa,show((0:Int)==0)=true from rfl,a7,hy,ae]
theorem C2{e m:Nat}(he:1≤e)(he2:e≤30)(h1:m<1024): ∃y,uO (e:Int) (m:Int)=some (.inr y)∧y.toNat=(e+1007)*4503599627370496+(4503599627370496+m*4398046511104)∧y.toNat<9223372036854775808:=by
 obtain⟨a,ha,hA⟩:=Ix h1
 obtain⟨y,hy,hN⟩:=xC hA ((e:Int)-25) (by omega) (by omega) (r:=e+1007) (by omega) (by omega)
 refine⟨y,?_,hN.e,hN.lt⟩
 unfold uO
 rw[aa,show((e:Int)==31)=false by rw[←Bool.not_eq_true,beq_iff_eq];omega,ay,aa,show((e:Int)==0)=false by rw[←Bool.not_eq_true,beq_iff_eq];omega,ay,ha,ae,aa,ap (by omega) (by omega),hy,ae]
theorem DZ{n:UInt64}(h5:ld n.toNat=true):gK ((jy n.toNat:Nat):Int)=some n:=by
 have hn:=n.toNat_lt
 have hm:=ml n.toNat
 have he:=n8 n.toNat
 have hsp:n.toNat=n.toNat/9223372036854775808*9223372036854775808+(bM n.toNat*4503599627370496+gW n.toNat):=by unfold bM gW;omega
 have hg:n.toNat/9223372036854775808<2:=by omega
 have fin : ∀{v:UInt64},v.toNat=bM n.toNat*4503599627370496+gW n.toNat→UInt64.ofNat (n.toNat/9223372036854775808*9223372036854775808+v.toNat)=n:=fun{v} hv=>by
  rw[hv,←hsp,fW]
 unfold ld at h5
 unfold jy
 by_cases c1:bM n.toNat=2047
 ·rw[if_pos c1]at h5⊢
  have h5:=of_decide_eq_true h5
  have:=nO hg (r:=31744) (by omega) (v:=9218868437227405312) (by decide) GU
  rw[this,fin]
  rw[c1,h5];rfl
 rw[if_neg c1]at h5⊢
 by_cases c2:bM n.toNat=0
 ·rw[if_pos c2]at h5⊢
  have h5:=of_decide_eq_true h5
  have:=nO hg (r:=0) (by omega) (v:=0) (by decide) DM
  rw[Nat.add_zero]at this
  rw[this,fin]
  rw[c2,h5];rfl
 rw[if_neg c2]at h5⊢
 by_cases c3:1039≤bM n.toNat
 ·rw[if_pos c3]at h5;cases h5
 rw[if_neg c3]at h5⊢
 by_cases c4:1008<bM n.toNat
 ·rw[if_pos c4]at h5⊢
  have h5:=of_decide_eq_true h5
  obtain⟨y,hy,hv,hlt⟩:=C2 (e:=bM n.toNat-1008) (m:=gW n.toNat/4398046511104) (by omega) (by omega) (by omega)
  have e1:((bM n.toNat-1008)*1024+gW n.toNat/4398046511104)/1024=bM n.toNat-1008:=by omega
  have e2:((bM n.toNat-1008)*1024+gW n.toNat/4398046511104)%1024=gW n.toNat/4398046511104:=by omega
  have:=nO hg (r:=(bM n.toNat-1008)*1024+gW n.toNat/4398046511104) (by omega) hlt (by rw[e1,e2];exact hy)
  rw[Nat.add_assoc,this,fin]
  rw[hv];omega
 rw[if_neg c4]at h5⊢
 by_cases c5:bM n.toNat<999
 ·rw[if_pos c5]at h5;cases h5
 rw[if_neg c5]at h5⊢
 have h5:=of_decide_eq_true h5
 obtain⟨k,hk⟩ : ∃k,k=1051-bM n.toNat:=⟨_,rfl⟩
 rw[←hk]at h5⊢
 obtain⟨q,hq⟩ : ∃q,q=(gW n.toNat+4503599627370496)/2^k:=⟨_,rfl⟩
 have hqm:gW n.toNat+4503599627370496=q*2^k:=by rw[hq];exact(Nat.div_mul_cancel (Nat.dvd_of_mod_eq_zero h5)).symm
 rw[←hq]
 have hk1:43≤k:=by omega
 have hk2:k≤52:=by omega
 have p1:2^(52-k)*2^k=4503599627370496:=by rw[←Nat.pow_add,show 52-k+k=52 by omega]
 have p2:2^(52-k+1)*2^k=9007199254740992:=by rw[←Nat.pow_add,show 52-k+1+k=53 by omega]
 have hpk:0<2^k:=Nat.two_pow_pos k
 have q1:2^(52-k)≤q:=Nat.le_of_mul_le_mul_right (by rw[p1,←hqm];omega) hpk
 have q2:q<2^(52-k+1):=Nat.lt_of_mul_lt_mul_right (a:=2^k) (by rw[p2,←hqm];omega)
 have q0:q≠0:=by have:=Nat.two_pow_pos (52-k);omega
 have hlog:q.log2=52-k:=by
  have a:=(Nat.le_log2 q0).2 q1
  have b:=(Nat.log2_lt q0).2 q2
  omega
 have q3:q<1024:=by
  have:2^(52-k+1)≤2^10:=Nat.pow_le_pow_right (by omega) (by omega)
  omega
 obtain⟨y,hy,hv,hlt⟩:=GO q0 q3
 have:=nO hg (r:=q) (by omega) hlt (by rw[show q/1024=0 by omega,show q%1024=q by omega];exact hy)
 rw[this,fin]
 rw[hv,hlog,show 52-(52-k)=k from Nat.sub_sub_self hk2,←hqm]
 exact RM hk (Nat.le_of_not_lt c5) (Nat.le_of_not_lt c4)
theorem Md{n:UInt64}(h:n.toNat%9223372036854775808≤9218868437227405312)(h8:kF n.toNat=true):dO n.toNat<4294967296∧xG (UInt32.ofNat (dO n.toNat))=some n:=by
 have hf:=y7 n.toNat n.toNat_lt h
 rw[h8]at hf
 obtain⟨h1,h2⟩:=(j6 n.toNat_lt).1 hf
 refine⟨h1,?_⟩
 unfold xG
 rw[j4 h1,h2]
 show some (UInt64.ofNat n.toNat)=_
 rw[fW]
theorem Fy:gK 32256=some 9221120237041090560:=by kernel_rfl
theorem tU{c:UInt8}{n:UInt64}{j:Nat}(hj:j<4)(hc:c.toNat%32=24+j)(hl:(fE n).length=1+2^j)(J:Tr):
  (bnd (dT (n,J).1) fun x18=>letm ((ar (bits .and .u8 (UInt8.toNat c) (UInt8.toNat 31)))) fun x19=>letm ((x19-24)) fun x20=>bnd (Gk.shl 1 (UInt8.toNat x20:Int)) fun x21=>letm ((aF (1+x21))) fun x22=>letm (((x18.length:Int) != x22)) fun x23=>
   cond x23 (some ((Tr.mk 0 0 [] []),(4:Int))) (some ((Tr.mk 8 (n,J).1 [] []),0)))=some (Tr.mk 8 n [] [],0):=by
 refine ac (rP n) ?_
 have hs:Gk.shl 1 (((UInt8.ofNat (24+j))-24:UInt8).toNat:Int)=some ((2^j:Nat):Int):=Q_ ⟨j,hj⟩
 rw[aa,qk,hc,aa,hs,ae,aa]
 have hp:2^j≤2^3:=Nat.pow_le_pow_right (by omega) (by omega)
 rw[ap (by omega) (by omega),aa,hl,show(((1+2^j:Nat):Int) != 1+((2^j:Nat):Int))=false by simp,ay]
theorem Ri(a b:UInt8)(h:a.toNat≠b.toNat):((UInt8.toNat a:Int)==(UInt8.toNat b:Int))=false:=by
 rw[←Bool.not_eq_true,beq_iff_eq];omega
theorem Ed{c:UInt8}{v n:UInt64}(hc:c.toNat%32=25)(hv:v.toNat<65536)(hw:gK (v.toNat:Int)=some n)(hn:n.toNat=9221120237041090560→v.toNat=32256)(hl:(fE n).length=3):cC c v=some (Tr.mk 8 n [] [],0):=by
 unfold cC
 refine iF (y:=(n,Tr.mk 0 0 [] [])) ?_ (tU (j:=1) (by omega) hc hl _)
 rw[aa,qk,hc,aa,show((UInt8.toNat (UInt8.ofNat 25):Int)==(UInt8.toNat 24:Int))=false from rfl,ay,aa,show((UInt8.toNat (UInt8.ofNat 25):Int)==(UInt8.toNat 25:Int))=true from rfl,a7,aa,t_ (by omega) (by omega)]
 refine ac hw ?_
 refine ac (y:=false) ?_ rfl
 rw[aa,show((UInt64.toNat (9221120237041090560:UInt64):Nat):Int)=9221120237041090560 from rfl]
 by_cases e:n.toNat=9221120237041090560
 ·rw[e,hn e];rfl
 ·rw[show((n.toNat:Int)==9221120237041090560)=false by rw[←Bool.not_eq_true,beq_iff_eq];omega];rfl
theorem KM{c:UInt8}{v n:UInt64}(hc:c.toNat%32=26)(hv:xG (gY (v.toNat:Int))=some n)(hl:(fE n).length=5):cC c v=some (Tr.mk 8 n [] [],0):=by
 unfold cC
 refine iF (y:=(n,Tr.mk 0 0 [] [])) ?_ (tU (j:=2) (by omega) hc hl _)
 rw[aa,qk,hc,aa,show((UInt8.toNat (UInt8.ofNat 26):Int)==(UInt8.toNat 24:Int))=false from rfl,ay,aa,show((UInt8.toNat (UInt8.ofNat 26):Int)==(UInt8.toNat 25:Int))=false from rfl,ay,aa,show((UInt8.toNat (UInt8.ofNat 26):Int)==(UInt8.toNat 26:Int))=true from rfl,a7,aa,aa]
 exact ac hv rfl
theorem M6{c:UInt8}{n:UInt64}(hc:c.toNat%32=27)(hl:(fE n).length=9):cC c n=some (Tr.mk 8 n [] [],0):=by
 unfold cC
 refine iF (y:=(n,Tr.mk 0 0 [] [])) ?_ (tU (j:=3) (by omega) hc hl _)
 rw[aa,qk,hc]
 rfl
theorem Gd{c:UInt8}{n:UInt64}(hc:c.toNat%32<24):cC c n=some (Tr.mk 7 n [] [],0):=by
 unfold cC
 refine(yH (q:=(Tr.mk 7 n [] [],(0:Int))) ?_).trans rfl
 rw[aa,qk,aa]
 have e:(UInt8.ofNat (c.toNat%32)).toNat=c.toNat%32:=gI (by omega)
 rw[Ri _ 24 (by rw[e];show c.toNat%32≠24;omega),ay,aa,Ri _ 25 (by rw[e];show c.toNat%32≠25;omega),ay,aa,Ri _ 26 (by rw[e];show c.toNat%32≠26;omega),ay,aa,Ri _ 27 (by rw[e];show c.toNat%32≠27;omega),ay]
theorem GT{c:UInt8}{n:UInt64}(hc:c.toNat%32=24)(hn:32≤n.toNat):cC c n=some (Tr.mk 7 n [] [],0):=by
 unfold cC
 refine(yH (q:=(Tr.mk 7 n [] [],(0:Int))) ?_).trans rfl
 rw[aa,qk,hc,aa,show((UInt8.toNat (UInt8.ofNat 24):Int)==(UInt8.toNat 24:Int))=true from rfl,a7,aa,show((UInt64.toNat (32:UInt64):Nat):Int)=32 from rfl,decide_eq_false (by omega),ay]
theorem Fb{n:UInt64}(h:9218868437227405312<n.toNat%9223372036854775808∨ld n.toNat=true):(fE n).length=3:=by
 unfold fE
 by_cases c:9218868437227405312<n.toNat%9223372036854775808
 ·rw[if_pos c];rfl
 ·rcases h with h |h
  ·exact absurd h c
  ·rw[if_neg c,if_pos h];rfl
theorem I3{B pre post:List UInt8}{i:Int}{n:UInt64}(h:pY n=true)(hB:B=pre++(fE n++post))(hl:B.length≤100000):
  ∃c v,c.toNat/32=7∧bG (B,((pre.length:Int),i))=some (c,(v,(0,(B,(((pre.length+(fE n).length:Nat):Int),i)))))∧cC c v=some (Tr.mk 8 n [] [],0):=by
 have hn:=n.toNat_lt
 have hv5:=A9 n.toNat hn
 have hv8:=vD n.toNat hn
 by_cases c:9218868437227405312<n.toNat%9223372036854775808
 ·have e:n.toNat=9221120237041090560:=by
   unfold pY at h
   rw[Bool.or_eq_true,decide_eq_true_eq,decide_eq_true_eq]at h
   omega
  have hf:fE n = [249,126,0]:=by unfold fE;rw[if_pos c]
  rw[hf]at hB⊢
  have hh:=sV (B:=B) (pre:=pre) (xs:=[126,0]) (post:=post) (c:=249) (i:=i) 1 hB hl rfl rfl (fun h=>absurd h (by decide))
  refine⟨249,UInt64.ofNat (xX 0 [126,0]),by decide,hh,?_⟩
  exact Ed (by decide) (by decide) (by rw[show((UInt64.ofNat (xX 0 [126,0])).toNat:Int)=32256 from rfl,Fy];exact congrArg some (UInt64.toNat_inj.1 e.symm)) (fun _=>by decide) (Fb (.inl c))
 by_cases c5:ld n.toNat=true
 ·have hf:fE n = [249,UInt8.ofNat (jy n.toNat/256),UInt8.ofNat (jy n.toNat)]:=by unfold fE;rw[if_neg c,if_pos c5]
  rw[hf]at hB⊢
  have hh:=sV (B:=B) (pre:=pre) (xs:=[UInt8.ofNat (jy n.toNat/256),UInt8.ofNat (jy n.toNat)]) (post:=post) (c:=249) (i:=i) 1 hB hl rfl rfl (fun h=>absurd h (by decide))
  rw[RB hv5]at hh
  have e:(UInt64.ofNat (jy n.toNat)).toNat=jy n.toNat:=aO (by omega)
  refine⟨249,UInt64.ofNat (jy n.toNat),by decide,hh,?_⟩
  exact Ed (by decide) (by omega) (by rw[e];exact DZ c5) (fun hh=>absurd hh (by omega)) (Fb (.inr c5))
 by_cases c8:kF n.toNat=true
 ·have hf:fE n = [250,UInt8.ofNat (dO n.toNat/16777216),UInt8.ofNat (dO n.toNat/65536),UInt8.ofNat (dO n.toNat/256),UInt8.ofNat (dO n.toNat)]:=by unfold fE;rw[if_neg c,if_neg c5,if_pos c8]
  have hl5:(fE n).length=5:=by rw[hf];rfl
  rw[hf]at hB⊢
  have hh:=sV (B:=B) (pre:=pre) (xs:=[UInt8.ofNat (dO n.toNat/16777216),UInt8.ofNat (dO n.toNat/65536),UInt8.ofNat (dO n.toNat/256),UInt8.ofNat (dO n.toNat)]) (post:=post) (c:=250) (i:=i) 2 hB hl rfl rfl (fun h=>absurd h (by decide))
  rw[RU hv8]at hh
  have e:(UInt64.ofNat (dO n.toNat)).toNat=dO n.toNat:=aO (by omega)
  refine⟨250,UInt64.ofNat (dO n.toNat),by decide,hh,?_⟩
  exact KM (by decide) (by rw[e,jz];exact(Md (by omega) c8).2) hl5
 ·have hf:fE n=251::Fx n:=by unfold fE;rw[if_neg c,if_neg c5,if_neg c8]
  have hl9:(fE n).length=9:=by rw[hf];rfl
  rw[hf]at hB⊢
  have hh:=sV (B:=B) (pre:=pre) (xs:=Fx n) (post:=post) (c:=251) (i:=i) 3 hB hl rfl rfl (fun h=>absurd h (by decide))
  rw[zV,fW]at hh
  exact⟨251,n,by decide,hh,M6 (by decide) hl9⟩
theorem Cg{B pre post:List UInt8}{i:Int}{n:UInt64}(h:n.toNat<24∨32≤n.toNat∧n.toNat<256)(hB:B=pre++(fg 7 n [] 0++post))(hl:B.length≤100000):
  ∃c v,c.toNat/32=7∧bG (B,((pre.length:Int),i))=some (c,(v,(0,(B,(((pre.length+(fg 7 n [] 0).length:Nat):Int),i)))))∧cC c v=some (Tr.mk 7 n [] [],0):=by
 rcases h with h | ⟨h1,h2⟩
 ·rw[Ky h]at hB⊢
  have hh:=Nb (B:=B) (pre:=pre) (post:=post) (c:=UInt8.ofNat (32*7+n.toNat)) (i:=i) (by rw[hB];unfold hd;rw[if_pos h];rfl) hl (by rw[gI (by omega)];omega)
  refine⟨UInt8.ofNat (32*7+n.toNat),n,by rw[gI (by omega)];omega,?_,Gd (by rw[gI (by omega)];omega)⟩
  rw[hh,EY h,gI (by omega),show(32*7+n.toNat)%32=n.toNat by omega,fW]
 ·rw[IY (by omega)]at hB⊢
  have hh:=sV (B:=B) (pre:=pre) (xs:=[UInt8.ofNat n.toNat]) (post:=post) (c:=248) (i:=i) 0 hB hl rfl rfl (fun h=>absurd h (by decide))
  rw[RC h2,fW]at hh
  exact⟨248,n,by decide,hh,GT (by decide) h1⟩
set_option maxRecDepth 100000
def JW(rec:ak→Int→Option (Tr×(Int×ak)))(d:Nat)(x:Tr):Prop:=
 ∀(B pre post:List UInt8) (i:Nat),B=pre++(aK x++post)→B.length≤4096→i+bU x≤256→
  rec (B,((pre.length:Int),(i:Int))) (8-(d:Int))=some (x,(0,(B,(((pre.length+(aK x).length:Nat):Int),((i+bU x:Nat):Int)))))
def LL(rec:ak→Int→Option (Tr×(Int×ak)))(a1:Int):((UInt64×(ak×(Tr×(Tr×(List Tr)))))→Option ((Tr×(Int×ak))⊕(ak×(Tr×(Tr×(List Tr))))))→(UInt64×(ak×(Tr×(Tr×(List Tr)))))→Option ((Tr×(Int×ak))⊕(ak×(Tr×(Tr×(List Tr))))):=fun self38 s37=>
 letm (decide ((UInt64.toNat 0:Int)<(UInt64.toNat s37.1:Int))) fun x39=>
 cond x39 (letm ((aF (a1+1))) fun x40=>
 bnd (rec s37.2.1 x40) fun x41=>
 letm ((x41.2.1 != 0)) fun x42=>
 cond x42 (some (.inl ((Tr.mk 0 0 [] []),(x41.2.1,x41.2.2))))
  (bnd (cO s37.2.2.2.2 [x41.1]) fun x43=>
 letm ((s37.1-1)) fun x44=>
 self38 (x44,(x41.2.2,(s37.2.2.1,(s37.2.2.2.1,x43))))))
  (some (.inr (s37.2.1,(s37.2.2.1,(s37.2.2.2.1,s37.2.2.2.2)))))
theorem K5{n:Nat}(h:n+1<18446744073709551616):(UInt64.ofNat (n+1)-1:UInt64)=UInt64.ofNat n:=by
 apply UInt64.toNat_inj.1
 rw[UInt64.toNat_sub_of_le _ _ (by rw[UInt64.le_iff_toNat_le,aO h];show 1≤n+1;omega),aO h,aO (by omega)]
 show n+1-1=n;omega
theorem Ms{n:Nat}(h:n+1<18446744073709551616):(UInt64.ofNat n+1:UInt64)=UInt64.ofNat (n+1):=by
 apply UInt64.toNat_inj.1
 rw[UInt64.toNat_add,aO (by omega),aO h]
 show(n+1)%2^64=_;omega
theorem Hm(rec:ak→Int→Option (Tr×(Int×ak)))(d:Nat)(hd1:1≤d)(hd:d≤8)(hr : ∀y,vT y (d-1)=true→JW rec (d-1) y)(J M:Tr): ∀(l acc:List Tr) (f:Nat) (B pre post:List UInt8) (i:Nat),l.length<f→vL l (d-1)=true→B=pre++(cU l++post)→B.length≤4096→i+cV l≤256→acc.length+l.length≤1000→
  bo (LL rec (8-(d:Int))) f (UInt64.ofNat l.length,((B,((pre.length:Int),(i:Int))),(J,(M,acc))))=some (.inr ((B,(((pre.length+(cU l).length:Nat):Int),((i+cV l:Nat):Int))),(J,(M,acc++l))))
 | [],acc,f+1,B,pre,post,i,_,_,_,_,_,_=>by
  rw[bS,bB,cN,List.append_nil]
  unfold LL
  rfl
 |x::l,acc,f+1,B,pre,post,i,hf,hv,hB,hl,hc,ha=>by
  rw[fk,Bool.and_eq_true]at hv
  rw[bf]at hc⊢
  rw[aX]at hB⊢
  rw[List.length_cons]at hf ha
  have hcx:=cW l
  have hx:=hr x hv.1 B pre (cU l++post) i (by rw[hB];simp) hl (by omega)
  have ih:=Hm rec d hd1 hd hr J M l (acc ++ [x]) f B (pre++aK x) post (i+bU x) (by omega) hv.2 (by rw[hB];simp) hl (by omega) (by simp;omega)
  rw[List.length_append]at ih
  rw[bS,List.length_cons]
  unfold LL
  simp only[aa]
  rw[show((UInt64.toNat 0:Nat):Int)=0 from rfl,aO (by omega),decide_eq_true (by omega),a7,ap (by omega) (by omega),show(8:Int)-(d:Int)+1=8-((d-1:Nat):Int) by omega]
  rw[hx,ae,show((0:Int) != 0)=false from rfl,ay,aD (by simp;omega),ae,K5 (by omega)]
  rw[List.length_append,show pre.length+((aK x).length+(cU l).length)=pre.length+(aK x).length+(cU l).length by omega,show i+(bU x+cV l)=i+bU x+cV l by omega]
  rw[List.append_assoc]at ih
  unfold LL at ih
  simp only[aa]at ih
  rw[ap (by omega) (by omega),show(8:Int)-(d:Int)+1=8-((d-1:Nat):Int) by omega]at ih
  exact ih
theorem sY(a b:UInt8)(x y:List UInt8):Lib.compareBytes (a::x) (b::y)=if a.toNat<b.toNat then -1 else if b.toNat<a.toNat then 1 else Lib.compareBytes x y:=by
 rw[Lib.compareBytes]
 simp only[UInt8.lt_iff_toNat_lt]
theorem PE : ∀a b:List UInt8,Lib.compareBytes b a = - Lib.compareBytes a b
 | [],[]=>rfl
 | [],_::_=>rfl
 |_::_,[]=>rfl
 |a::x,b::y=>by
  rw[sY,sY,PE x y]
  split<;>split<;>first |rfl |omega
def Or(rec:ak→Int→Option (Tr×(Int×ak)))(a1:UInt64)(a2:Int):((List UInt8)×(UInt64×(ak×(Tr×(Tr×(List Tr)))))→Option (Tr×(Int×ak)))→(List UInt8)×(UInt64×(ak×(Tr×(Tr×(List Tr)))))→Option (Tr×(Int×ak)):=fun self4 s3=>
 letm (decide ((UInt64.toNat s3.2.1:Int)<(UInt64.toNat a1:Int))) fun x5=>
 cond x5 (bnd (rec s3.2.2.1 a2) fun x6=>
 letm ((x6.2.1 != 0)) fun x7=>
 cond x7 (some ((Tr.mk 0 0 [] []),(x6.2.1,x6.2.2)))
  (bnd (Gk.cut x6.2.2.1 s3.2.2.1.2.1 x6.2.2.2.1) fun x8=>
 fI (ρ:=(Tr×(Int×ak))) (ρ':=(Tr×(Int×ak))) (Y:=Tr) (letm (decide ((UInt64.toNat 0:Int)<(UInt64.toNat s3.2.1:Int))) fun x9=>
 cond x9 (bnd (dK x8 s3.1) fun x10=>
 letm ((x10==0)) fun x11=>
 cond x11 (some (.inl ((Tr.mk 0 0 [] []),(7,x6.2.2))))
  (letm (decide (x10<0)) fun x12=>
 cond x12 (some (.inl ((Tr.mk 0 0 [] []),(6,x6.2.2))))
  (some (.inr s3.2.2.2.1))))
  (some (.inr s3.2.2.2.1))) (fun q=>q) fun v13=>
 bnd (rec x6.2.2 a2) fun x14=>
 letm ((x14.2.1 != 0)) fun x15=>
 cond x15 (some ((Tr.mk 0 0 [] []),(x14.2.1,x14.2.2)))
  (bnd (cO s3.2.2.2.2.2 [x6.1,x14.1]) fun x16=>
 letm ((s3.2.1+1)) fun x17=>
 self4 (x8,(x17,(x14.2.2,(v13,(s3.2.2.2.2.1,x16))))))))
  (some ((Tr.mk s3.2.2.2.2.1.k s3.2.2.2.2.1.n s3.2.2.2.2.1.b s3.2.2.2.2.2),(0,s3.2.2.1)))
theorem AV{α:Type}{c:Bool}{x y r:Option α}(h:c=true)(h2:x=r):cond c x y=r:=by rw[h];exact h2
theorem MH{α:Type}{c:Bool}{x y r:Option α}(h:c=false)(h2:y=r):cond c x y=r:=by rw[h];exact h2
theorem AU{a b:List UInt8}:dK a b=some (Lib.compareBytes a b):=rfl
theorem HU(rec:ak→Int→Option (Tr×(Int×ak)))(d:Nat)(hd1:1≤d)(hd:d≤8)(hr : ∀y,vT y (d-1)=true→JW rec (d-1) y)(N:Nat)(hN:N≤1000): ∀(r:Nat) (l acc:List Tr) (f:Nat) (B pre post:List UInt8) (i:Nat) (J:Tr) (last:List UInt8),l.length=2*r→acc.length=2*(N-r)→r≤N→r<f→vL l (d-1)=true→jR (l.map aK)=true→(r<N→∀x∈l.head?,Lib.compareBytes last (aK x)<0)→B=pre++(cU l++post)→B.length≤4096→i+cV l≤256→
  bo (Or rec (UInt64.ofNat N) (8-((d-1:Nat):Int))) f (last,(UInt64.ofNat (N-r),((B,((pre.length:Int),(i:Int))),(J,(Tr.mk 5 0 [] [],acc)))))=some (Tr.mk 5 0 [] (acc++l),(0,(B,(((pre.length+(cU l).length:Nat):Int),((i+cV l:Nat):Int)))))
 |0,l,acc,f+1,B,pre,post,i,J,last,hl,_,_,_,_,_,_,_,_,_=>by
  have:l = []:=List.length_eq_zero_iff.1 (by omega)
  subst this
  rw[bS,bB,cN,List.append_nil]
  unfold Or
  rw[aa,aO (by omega),aO (by omega),decide_eq_false (by omega),ay]
  rfl
 |r+1,l,acc,f+1,B,pre,post,i,J,last,hll,hacc,hrN,hf,hv,has,hlast,hB,hl,hc=>by
  match l,hll with
  |k::v::l,hll=>
  have hll:l.length=2*r:=by simp only[List.length_cons]at hll;omega
  rw[fk,fk,Bool.and_eq_true,Bool.and_eq_true]at hv
  rw[bf,bf]at hc⊢
  rw[aX,aX]at hB⊢
  have hcl:=cW l
  have hk:=hr k hv.1 B pre (aK v++cU l++post) i (by rw[hB];simp) hl (by omega)
  have hvv:=hr v hv.2.1 B (pre++aK k) (cU l++post) (i+bU k) (by rw[hB];simp) hl (by omega)
  rw[List.length_append]at hvv
  have hcut:=KK pre (aK k) (aK v++cU l++post)
  rw[show pre++(aK k++(aK v++cU l++post))=B by rw[hB];simp]at hcut
  have hasl:jR (l.map aK)=true∧∀x∈l.head?,Lib.compareBytes (aK k) (aK x)<0:=by
   cases l with
   |nil=>exact⟨rfl,fun x hx=>by cases hx⟩
   |cons y l=>
    simp only[List.map_cons,jR,Bool.and_eq_true,decide_eq_true_eq]at has
    exact⟨has.2,fun x hx=>by cases hx;exact has.1⟩
  have ih:=HU rec d hd1 hd hr N hN r l (acc ++ [k,v]) f B (pre++aK k++aK v) post (i+bU k+bU v) J (aK k) hll (by simp;omega) (by omega) (by omega) hv.2.2 hasl.1 (fun _=>hasl.2) (by rw[hB];simp) hl (by omega)
  rw[bS]
  unfold Or
  rw[aa]
  refine AV (decide_eq_true (by show(((UInt64.ofNat (N-(r+1))).toNat:Nat):Int)<(((UInt64.ofNat N).toNat:Nat):Int);rw[aO (by omega),aO (by omega)];omega)) ?_
  refine ac hk ?_
  rw[aa]
  show cond false _ _=_
  rw[ay]
  refine ac hcut ?_
  have hJ : ∀{R:Option (Tr×(Int×ak))} {K:Tr→Option (Tr×(Int×ak))},K J=R→fI (ρ:=(Tr×(Int×ak))) (ρ':=(Tr×(Int×ak))) (Y:=Tr) (letm (decide ((UInt64.toNat 0:Int)<(UInt64.toNat (UInt64.ofNat (N-(r+1))):Int))) fun x9=>
    cond x9 (bnd (dK (aK k) last) fun x10=>letm ((x10==0)) fun x11=>cond x11 (some (.inl ((Tr.mk 0 0 [] []),(7,(B,(((pre.length+(aK k).length:Nat):Int),((i+bU k:Nat):Int))))))) (letm (decide (x10<0)) fun x12=>
    cond x12 (some (.inl ((Tr.mk 0 0 [] []),(6,(B,(((pre.length+(aK k).length:Nat):Int),((i+bU k:Nat):Int))))))) (some (.inr J)))) (some (.inr J))) (fun q=>q) K=R:=by
   intro R K hK
   rw[aa,show((UInt64.toNat 0:Nat):Int)=0 from rfl,aO (by omega)]
   by_cases h0:N-(r+1)=0
   ·rw[decide_eq_false (by omega),ay,i6,hK]
   ·have hlt:=hlast (by omega) k (by simp)
    have hrv:=PE last (aK k)
    rw[decide_eq_true (by omega),a7,AU,ae,aa,show(Lib.compareBytes (aK k) last==0)=false by rw[←Bool.not_eq_true,beq_iff_eq];omega,ay,aa,decide_eq_false (by omega),ay,i6,hK]
  refine hJ ?_
  refine ac hvv ?_
  rw[aa]
  show cond false _ _=_
  rw[ay,aD (by simp;omega),ae,aa,Ms (by omega),show N-(r+1)+1=N-r by omega]
  simp only[List.length_append]at ih⊢
  rw[show pre.length+((aK k).length+((aK v).length+(cU l).length))=pre.length+(aK k).length+(aK v).length+(cU l).length by omega,show i+(bU k+(bU v+cV l))=i+bU k+bU v+cV l by omega]
  rw[List.append_assoc]at ih
  exact ih
theorem dz{k:Int}{n:UInt64}{b:List UInt8}:bU (.mk k n b [])=1:=by rw[fP,cN]
theorem dd{k:Int}{n:UInt64}{b:List UInt8}:aK (.mk k n b [])=fg k n b 0:=by rw[fM,bB,List.append_nil];rfl
theorem zd(rec:ak→Int→Option (Tr×(Int×ak)))(d:Nat)(hd8:d≤8)(hr:1≤d→∀y,vT y (d-1)=true→JW rec (d-1) y)(x:Tr)(h:vT x d=true):JW (gV rec) d x:=by
 intro B pre post i hB hl hc
 have hl':B.length≤100000:=by omega
 have hpos:=tu x
 have hst:aF ((i:Int)+1)=((i+1:Nat):Int):=by rw[ap (by omega) (by omega)];omega
 have h256:(((i:Int))==256)=false:=by rw[←Bool.not_eq_true,beq_iff_eq];omega
 -- what follows the head
 have start : ∀{c:UInt8} {v:UInt64} {hlen:Nat} {R:Option (Tr×(Int×ak))} {K:UInt8×(UInt64×(Int×ak))→Option (Tr×(Int×ak))},
   bG (B,((pre.length:Int),((i+1:Nat):Int)))=some (c,(v,(0,(B,(((pre.length+hlen:Nat):Int),((i+1:Nat):Int))))))→K (c,(v,(0,(B,(((pre.length+hlen:Nat):Int),((i+1:Nat):Int))))))=R→
   (letm ((i:Int)==256) fun x2=>cond x2 (some ((Tr.mk 0 0 [] []),(8,(B,((pre.length:Int),(i:Int)))))) (letm (aF ((i:Int)+1)) fun x3=>bnd (bG (B,((pre.length:Int),x3))) K))=R:=by
  intro c v hlen R K hh hK
  rw[aa,h256,ay,aa,hst]
  exact ac hh hK
 obtain⟨k,n,b,l⟩:=x
 unfold gV
 rcases nd h with⟨hk,rfl,rfl⟩ | ⟨rfl,rfl,rfl,hb⟩ | ⟨rfl,rfl,rfl,hb,hu⟩ | ⟨rfl,rfl,rfl,hn⟩ | ⟨rfl,rfl,rfl,hn⟩ | ⟨rfl,rfl,rfl,g1,gl⟩ | ⟨rfl,rfl,rfl,g1,g2,gl,ga⟩ | ⟨rfl,rfl,g1,y,rfl,gy⟩
 ·rcases hk with rfl |rfl
  ·rw[dd,own0]at hB⊢
   rw[dz]
   obtain⟨c,hc7,hh⟩:=j8 (i:=((i+1:Nat):Int)) 0 (by omega) n hB hl'
   refine start hh ?_
   rw[aa]
   show cond false _ _=_
   rw[ay]
   refine ac (m_ c) ?_
   rw[hc7,aa]
   rfl
  ·rw[dd,L1]at hB⊢
   rw[dz]
   obtain⟨c,hc7,hh⟩:=j8 (i:=((i+1:Nat):Int)) 1 (by omega) n hB hl'
   refine start hh ?_
   rw[aa]
   show cond false _ _=_
   rw[ay]
   refine ac (m_ c) ?_
   rw[hc7,aa]
   rfl
 ·rw[dd,LA]at hB⊢
  rw[dz]
  have hbl:(UInt64.ofNat b.length).toNat=b.length:=aO (by omega)
  have hlB:B.length=pre.length+((hd 2 (UInt64.ofNat b.length)).length+(b.length+post.length)):=by rw[hB];simp
  obtain⟨c,hc7,hh⟩:=j8 (i:=((i+1:Nat):Int)) (pre:=pre) (post:=b++post) 2 (by omega) (UInt64.ofNat b.length) (by rw[hB];simp) hl'
  refine start hh ?_
  dsimp only
  rw[aa]
  show cond false _ _=_
  rw[ay]
  refine ac (m_ c) ?_
  rw[hc7,aa]
  refine ac (y:=false) rfl ?_
  rw[ay]
  refine ac (y:=true) rfl ?_
  rw[a7,aa,ap (x:=(B.length:Int)-_) (by omega) (by omega),aa,aa]
  rw[show((B.length:Int)-((pre.length+(hd 2 (UInt64.ofNat b.length)).length:Nat):Int))=((b.length+post.length:Nat):Int) by omega,gD (by omega),hbl,decide_eq_false (by omega),ay,aa,ap (x:=((b.length:Nat):Int)) (by omega) (by omega),aa,ap (by omega) (by omega)]
  have hcut:=KK (pre++hd 2 (UInt64.ofNat b.length)) b post
  rw[show pre++hd 2 (UInt64.ofNat b.length)++(b++post)=B by rw[hB];simp,List.length_append]at hcut
  rw[show((pre.length+(hd 2 (UInt64.ofNat b.length)).length:Nat):Int)+((b.length:Nat):Int)=((pre.length+(hd 2 (UInt64.ofNat b.length)).length+b.length:Nat):Int) by omega]
  refine ac hcut (ac (eY (l:=b) (by omega)) ?_)
  rw[aa,aa]
  refine ac (y:=false) rfl ?_
  rw[ay,List.length_append]
  have ew : ∀h:Nat,pre.length+h+b.length≤5000→aF (((pre.length+h:Nat):Int)+((b.length:Nat):Int))=((pre.length+(h+b.length):Nat):Int):=fun h hh=>by rw[ap (by omega) (by omega)];omega
  rw[ew _ (by omega)]
  rfl
 ·rw[dd,LJ]at hB⊢
  rw[dz]
  have hbl:(UInt64.ofNat b.length).toNat=b.length:=aO (by omega)
  have hlB:B.length=pre.length+((hd 3 (UInt64.ofNat b.length)).length+(b.length+post.length)):=by rw[hB];simp
  obtain⟨c,hc7,hh⟩:=j8 (i:=((i+1:Nat):Int)) (pre:=pre) (post:=b++post) 3 (by omega) (UInt64.ofNat b.length) (by rw[hB];simp) hl'
  refine start hh ?_
  dsimp only
  rw[aa]
  show cond false _ _=_
  rw[ay]
  refine ac (m_ c) ?_
  rw[hc7,aa]
  refine ac (y:=false) rfl ?_
  rw[ay]
  refine ac (y:=true) rfl ?_
  rw[a7,aa,ap (x:=(B.length:Int)-_) (by omega) (by omega),aa,aa]
  rw[show((B.length:Int)-((pre.length+(hd 3 (UInt64.ofNat b.length)).length:Nat):Int))=((b.length+post.length:Nat):Int) by omega,gD (by omega),hbl,decide_eq_false (by omega),ay,aa,ap (x:=((b.length:Nat):Int)) (by omega) (by omega),aa,ap (by omega) (by omega)]
  have hcut:=KK (pre++hd 3 (UInt64.ofNat b.length)) b post
  rw[show pre++hd 3 (UInt64.ofNat b.length)++(b++post)=B by rw[hB];simp,List.length_append]at hcut
  rw[show((pre.length+(hd 3 (UInt64.ofNat b.length)).length:Nat):Int)+((b.length:Nat):Int)=((pre.length+(hd 3 (UInt64.ofNat b.length)).length+b.length:Nat):Int) by omega]
  refine ac hcut (ac (eY (l:=b) (by omega)) ?_)
  rw[aa,aa]
  refine ac (y:=false) ?_ ?_
  ·show bnd (bk b) (fun x24=>letm (!x24) fun x25=>some x25)=some false
   rw[CQ (by omega),hu];rfl
  rw[ay,List.length_append]
  have ew : ∀h:Nat,pre.length+h+b.length≤5000→aF (((pre.length+h:Nat):Int)+((b.length:Nat):Int))=((pre.length+(h+b.length):Nat):Int):=fun h hh=>by rw[ap (by omega) (by omega)];omega
  rw[ew _ (by omega)]
  rfl
 ·rw[dd]at hB⊢
  rw[dz]
  obtain⟨c,v,hc7,hh,hs⟩:=Cg (i:=((i+1:Nat):Int)) hn hB hl'
  refine start hh ?_
  dsimp only
  rw[aa]
  show cond false _ _=_
  rw[ay]
  refine ac (m_ c) ?_
  rw[hc7,aa]
  refine ac (y:=false) rfl ?_
  rw[ay]
  refine ac (y:=false) rfl ?_
  rw[ay,aa]
  show cond true _ _=_
  rw[a7]
  exact ac hs rfl
 ·rw[dd,C9]at hB⊢
  rw[dz]
  obtain⟨c,v,hc7,hh,hs⟩:=I3 (i:=((i+1:Nat):Int)) hn hB hl'
  refine start hh ?_
  dsimp only
  rw[aa]
  show cond false _ _=_
  rw[ay]
  refine ac (m_ c) ?_
  rw[hc7,aa]
  refine ac (y:=false) rfl ?_
  rw[ay]
  refine ac (y:=false) rfl ?_
  rw[ay,aa]
  show cond true _ _=_
  rw[a7]
  exact ac hs rfl
 ·have hcl:=cW l
  rw[fM,O0]at hB⊢
  rw[fP]at hc⊢
  have hlB:B.length=pre.length+((hd 4 (UInt64.ofNat l.length)).length+((cU l).length+post.length)):=by rw[hB];simp
  obtain⟨c,hc7,hh⟩:=j8 (i:=((i+1:Nat):Int)) (pre:=pre) (post:=cU l++post) 4 (by omega) (UInt64.ofNat l.length) (by rw[hB];simp) hl'
  refine start hh ?_
  dsimp only
  rw[aa]
  show cond false _ _=_
  rw[ay]
  refine ac (m_ c) ?_
  rw[hc7,aa]
  refine ac (y:=false) rfl ?_
  rw[ay]
  refine ac (y:=false) rfl ?_
  rw[ay,aa]
  show cond false _ _=_
  rw[ay,aa,decide_eq_false (by omega),ay,aa]
  show cond false _ _=_
  rw[ay,aa]
  show cond false _ _=_
  rw[ay]
  have hloop:=Hm rec d g1 hd8 (hr g1) (Tr.mk 0 0 [] []) (Tr.mk 4 0 [] []) l [] cS B (pre++hd 4 (UInt64.ofNat l.length)) post (i+1) (by rw[dU];omega) gl (by rw[hB];simp) hl (by omega) (by simp;omega)
  rw[List.length_append]at hloop
  refine iF hloop ?_
  rw[List.nil_append,List.length_append,show pre.length+((hd 4 (UInt64.ofNat l.length)).length+(cU l).length)=pre.length+(hd 4 (UInt64.ofNat l.length)).length+(cU l).length by omega,show i+(1+cV l)=i+1+cV l by omega]
  rfl
 ·have hcl:=cW l
  rw[fM,OD]at hB⊢
  rw[fP]at hc⊢
  have hlB:B.length=pre.length+((hd 5 (UInt64.ofNat (l.length/2))).length+((cU l).length+post.length)):=by rw[hB];simp
  obtain⟨c,hc7,hh⟩:=j8 (i:=((i+1:Nat):Int)) (pre:=pre) (post:=cU l++post) 5 (by omega) (UInt64.ofNat (l.length/2)) (by rw[hB];simp) hl'
  refine start hh ?_
  dsimp only
  rw[aa]
  show cond false _ _=_
  rw[ay]
  refine ac (m_ c) ?_
  rw[hc7,aa]
  refine ac (y:=false) rfl ?_
  rw[ay]
  refine ac (y:=false) rfl ?_
  rw[ay,aa]
  show cond false _ _=_
  rw[ay,aa,decide_eq_false (by omega),ay,aa]
  show cond true _ _=_
  rw[a7,aa,ap (x:=8-(d:Int)+1) (by omega) (by omega),show(8:Int)-(d:Int)+1=8-((d-1:Nat):Int) by omega]
  have hloop:=HU rec d g1 hd8 (hr g1) (l.length/2) (by omega) (l.length/2) l [] cS B (pre++hd 5 (UInt64.ofNat (l.length/2))) post (i+1) (Tr.mk 0 0 [] []) [] (by omega) (by simp) (by omega) (by rw[dU];omega) gl ga (fun h=>absurd h (by omega)) (by rw[hB];simp) hl (by omega)
  rw[List.length_append,Nat.sub_self]at hloop
  refine ac (y:=(Tr.mk 5 0 [] l,(0,(B,(((pre.length+(hd 5 (UInt64.ofNat (l.length/2))).length+(cU l).length:Nat):Int),((i+1+cV l:Nat):Int)))))) ?_ ?_
  ·unfold iW
   exact hloop
  rw[List.length_append,show pre.length+((hd 5 (UInt64.ofNat (l.length/2))).length+(cU l).length)=pre.length+(hd 5 (UInt64.ofNat (l.length/2))).length+(cU l).length by omega,show i+(1+cV l)=i+1+cV l by omega]
 ·have hcy:=tu y
  rw[fM,OH,aX,bB,List.append_nil]at hB⊢
  rw[fP,bf,cN]at hc⊢
  have hlB:B.length=pre.length+((hd 6 n).length+((aK y).length+post.length)):=by rw[hB];simp
  obtain⟨c,hc7,hh⟩:=j8 (i:=((i+1:Nat):Int)) (pre:=pre) (post:=aK y++post) 6 (by omega) n (by rw[hB];simp) hl'
  refine start hh ?_
  dsimp only
  rw[aa]
  show cond false _ _=_
  rw[ay]
  refine ac (m_ c) ?_
  rw[hc7,aa]
  refine ac (y:=false) rfl ?_
  rw[ay]
  refine ac (y:=false) rfl ?_
  rw[ay,aa]
  show cond false _ _=_
  rw[ay,aa,decide_eq_false (by omega),ay,aa]
  show cond false _ _=_
  rw[ay,aa]
  show cond true _ _=_
  rw[a7,aa,ap (x:=8-(d:Int)+1) (by omega) (by omega),show(8:Int)-(d:Int)+1=8-((d-1:Nat):Int) by omega]
  have hy:=hr g1 y gy B (pre++hd 6 n) post (i+1) (by rw[hB];simp) hl (by omega)
  rw[List.length_append]at hy
  refine ac hy ?_
  rw[aa]
  show cond false _ _=_
  rw[ay,List.length_append,show pre.length+((hd 6 n).length+(aK y).length)=pre.length+(hd 6 n).length+(aK y).length by omega,show i+(1+(bU y+0))=i+1+bU y by omega]
  rfl
theorem Ce(j:Nat): ∀(d:Nat),d≤8→∀x,vT x d=true→JW (gL (j+d+1)) d x
 |0,h8,x,h=>zd _ 0 h8 (fun h=>absurd h (by omega)) x h
 |d+1,h8,x,h=>zd _ (d+1) h8 (fun _ y hy=>Ce j d (by omega) y hy) x h
theorem n5{x:Tr}(h:eV x=true):jh (aK x)=some (x,0):=by
 unfold eV at h
 simp only[Bool.and_eq_true,decide_eq_true_eq]at h
 obtain⟨⟨hv,hc⟩,hl⟩:=h
 have hi:=Ce 31 8 (by omega) x hv (aK x) [] [] 0 (by simp) hl (by omega)
 have hi:bT (aK x,(0,0)) 0=some (x,(0,(aK x,(((aK x).length:Int),((bU x:Nat):Int))))):=by
  have:=hi
  simp only[List.length_nil,Nat.zero_add]at this
  exact this
 have hp:kx (aK x)=some (x,(((aK x).length:Int),0)):=by
  unfold kx
  rw[aa,show min ((aK x).length:Int) 4096=((aK x).length:Int) by omega]
  have hcut:Gk.cut (aK x) 0 ((aK x).length:Int)=some (aK x):=by
   have:=gn (xs:=aK x) (lo:=0) (hi:=(aK x).length) (by omega) (Nat.le_refl _)
   rw[List.take_length]at this
   exact this
  refine ac hcut (ac hi ?_)
  rfl
 unfold jh
 rw[aa,decide_eq_false (by omega),ay]
 refine ac hp ?_
 rw[aa]
 show cond false _ _=_
 rw[ay,aa]
 show cond (decide (((aK x).length:Int)<((aK x).length:Int))) _ _=_
 rw[decide_eq_false (by omega),ay]
theorem LF{x y:Tr}(hx:eV x=true)(hy:eV y=true)(h:aK x=aK y):x=y:=by
 have a:=n5 hx
 rw[h,n5 hy]at a
 injection a with a
 injection a with a _
 exact a.symm
end Go.Proofs.YthejfljhiaeoeaaGreatDoor
