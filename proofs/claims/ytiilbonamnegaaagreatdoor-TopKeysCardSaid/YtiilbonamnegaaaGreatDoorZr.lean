/- A part of the proof of TopKeys. No condition. -/
import Derived.Laws.FloatArith
import Derived.WalkKit
namespace Go.Gk
open Go Ieee
theorem SH(neg:Bool)(n:Nat):Toward.even.cut neg n 0=n:=by
 unfold Toward.cut
 simp[Nat.mod_one]
theorem Gn(neg:Bool)(m k:Nat)(hm:m≠0):Toward.even.cut neg (m*2^k) k=m:=by
 have hk:0<2^k:=Nat.two_pow_pos k
 have hl:k≤(m*2^k).log2:=(Nat.le_log2 (Nat.mul_ne_zero hm (by omega))).2 (Nat.le_mul_of_pos_left _ (by omega))
 unfold Toward.cut
 rw[Nat.min_eq_left (by omega),Nat.one_shiftLeft]
 dsimp only
 rw[Nat.mul_div_cancel _ hk,Nat.mul_mod_left]
 have e:(2^k==2*0)=false:=by simp
 simp only[e,Bool.false_and,Bool.or_false,Nat.mul_zero,Nat.not_lt_zero,decide_false,Bool.toNat_false,Nat.add_zero]
theorem zE{m:Nat}(hm:m≠0)(hL:m.log2≤52):4503599627370496≤m*2^(52-m.log2)∧m*2^(52-m.log2)<9007199254740992:=by
 have a:=Nat.log2_self_le hm
 have b:=Nat.lt_log2_self (n:=m)
 have e:2^m.log2*2^(52-m.log2)=4503599627370496:=by rw[←Nat.pow_add,show m.log2+(52-m.log2)=52 by omega]
 have e2:2^(m.log2+1)*2^(52-m.log2)=9007199254740992:=by rw[←Nat.pow_add,show m.log2+1+(52-m.log2)=53 by omega]
 constructor
 ·rw[←e];exact Nat.mul_le_mul_right _ a
 ·rw[←e2];exact Nat.mul_lt_mul_of_pos_right b (Nat.two_pow_pos _)
theorem xT:double.binade=4503599627370496:=by decide
theorem Ag:double.infRung=9218868437227405312:=by decide
theorem HE:double.signWeight=9223372036854775808:=by decide
theorem Pq:double.leastPlace = -1074:=by decide
theorem Gx:single.binade=8388608:=by decide
theorem C1:single.infRung=2139095040:=by decide
theorem IU:single.signWeight=2147483648:=by decide
theorem Rp:single.leastPlace = -149:=by decide
theorem Fq(neg:Bool)(m:Nat)(p:Int)(hm:m≠0)(hL:m.log2≤23)(h1 : -149≤p)(h2:p+m.log2≤127):
  double.nearest neg m p=double.word neg ((p+m.log2+1022).toNat*4503599627370496+m*2^(52-m.log2)):=by
 have hb:=zE hm (by omega)
 unfold Format.nearest
 rw[if_neg hm]
 dsimp only
 rw[Pq,xT,Ag]
 have hf:(double.fractionBits:Int)=52:=rfl
 rw[hf,Int.max_eq_left (by omega)]
 rw[show(p-(p+(m.log2:Int)-52)).toNat=52-m.log2 by omega,show(p+(m.log2:Int)-52-p).toNat=0 by omega,SH,Nat.shiftLeft_eq]
 rw[show(p+(m.log2:Int)-52 - -1074).toNat=(p+m.log2+1022).toNat by omega]
 generalize m*2^(52-m.log2)=M at hb
 rw[Nat.min_eq_left (by omega)]
theorem Ku(neg:Bool)(q M:Nat)(hq:q≤2045)(h1:4503599627370496≤M)(h2:M<9007199254740992):
  double.read (double.word neg (q*4503599627370496+M)) = .number neg M (-1074+q):=by
 have e1:double.word neg (q*4503599627370496+M)/double.signWeight%2=neg.toNat∧double.word neg (q*4503599627370496+M)%double.signWeight=q*4503599627370496+M:=by
  unfold Format.word
  rw[HE]
  cases neg<;>simp<;>omega
 unfold Format.read
 dsimp only
 rw[e1.1,e1.2,xT,Ag,Pq,if_neg (by omega),if_pos (by omega)]
 have e2:(q*4503599627370496+M)%4503599627370496=M-4503599627370496:=by omega
 have e3:(q*4503599627370496+M)/4503599627370496=q+1:=by omega
 rw[e2,e3,show 4503599627370496+(M-4503599627370496)=M by omega,show q+1-1=q by omega]
 cases neg<;>rfl
theorem DY(s:Nat)(hs:s<4294967296)(hf:s%2147483648<2139095040): ∃(neg:Bool) (m:Nat) (p:Int),single.read s = .number neg m p∧s=single.word neg (s%2147483648)∧ -149≤p∧((s%2147483648=0∧m=0)∨(m≠0∧m.log2≤23∧p+m.log2≤127∧s%2147483648=(p+149).toNat*8388608+m∧(p = -149∨m.log2=23))):=by
 refine⟨s/2147483648%2==1,if s%2147483648<8388608 then s%2147483648 else 8388608+s%2147483648%8388608,if s%2147483648<8388608 then -149 else -149+((s%2147483648/8388608-1:Nat):Int),?_,?_,?_,?_⟩
 ·unfold Format.read
  dsimp only
  rw[IU,Gx,C1,Rp]
  split
  ·rfl
  ·rfl
 ·unfold Format.word
  rw[IU]
  cases hb:s/2147483648%2==1 with
  |false=>simp at hb⊢;omega
  |true=>simp at hb⊢;omega
 ·split<;>omega
 ·split
  ·rename_i h
   by_cases h0:s%2147483648=0
   ·exact .inl ⟨h0,h0⟩
   ·refine .inr ⟨h0,?_,?_,by omega,.inl rfl⟩
    ·have:=(Nat.log2_lt h0 (k:=23)).2 h
     omega
    ·have:=(Nat.log2_lt h0 (k:=23)).2 h
     omega
  ·rename_i h
   have hl:(8388608+s%2147483648%8388608).log2=23:=by
    have a:=(Nat.log2_lt (n:=8388608+s%2147483648%8388608) (by omega) (k:=24)).2 (by omega)
    have b:=(Nat.le_log2 (n:=8388608+s%2147483648%8388608) (by omega) (k:=23)).2 (by omega)
    omega
   refine .inr ⟨by omega,by omega,by omega,by omega,.inr hl⟩
theorem R'(neg:Bool)(m:Nat)(p:Int)(hm:m≠0)(hL:m.log2≤23)(h1 : -149≤p)(h2:p+m.log2≤127)(hr:(p+149).toNat*8388608+m<2139095040)(hc:p = -149∨m.log2=23):
  single.nearest neg (m*2^(52-m.log2)) (-1074+((p+m.log2+1022).toNat:Nat))=single.word neg ((p+149).toNat*8388608+m):=by
 have hb:=zE hm (by omega)
 have hl:(m*2^(52-m.log2)).log2=52:=by
  have a:=(Nat.log2_lt (n:=m*2^(52-m.log2)) (by omega) (k:=53)).2 (by omega)
  have b:=(Nat.le_log2 (n:=m*2^(52-m.log2)) (by omega) (k:=52)).2 (by omega)
  omega
 have e0:(-1074+((p+m.log2+1022).toNat:Nat):Int)=p+m.log2-52:=by omega
 rw[e0]
 unfold Format.nearest
 rw[if_neg (by omega)]
 dsimp only
 rw[hl,Rp,Gx,C1]
 have hf:(single.fractionBits:Int)=23:=rfl
 rw[hf]
 have em:max (p+(m.log2:Int)-52+((52:Nat):Int)-23) (-149)=p:=by
  rcases hc with h |h
  ·rw[Int.max_eq_right (by omega)];omega
  ·rw[Int.max_eq_left (by omega)];omega
 rw[em,show(p+(m.log2:Int)-52-p).toNat=0 by omega,show(p-(p+(m.log2:Int)-52)).toNat=52-m.log2 by omega,Nat.shiftLeft_zero,Gn _ _ _ hm,show(p - -149).toNat=(p+149).toNat by omega]
 rw[Nat.min_eq_left (by omega)]
theorem D_(neg:Bool):double.read (double.word neg double.infRung) = .infinity neg:=by cases neg<;>decide
theorem sQ(s:Nat)(hs:s<4294967296)(h:s%2147483648=2139095040): ∃neg,single.read s = .infinity neg∧s=single.word neg single.infRung:=by
 have e:s=2139095040∨s=4286578688:=by omega
 rcases e with rfl |rfl
 ·exact⟨false,by decide,by decide⟩
 ·exact⟨true,by decide,by decide⟩
theorem Bf(s:Nat)(hs:s<4294967296)(d:Nat)(h:floatToFloatBits .f32 s .f64=some d):floatToFloatBits .f64 d .f32=some s:=by
 unfold floatToFloatBits at h
 rw[if_neg (by decide)]at h
 have hd:FloatKind.f32.decode s=single.read s:=rfl
 rw[hd]at h
 rcases Nat.lt_trichotomy (s%2147483648) 2139095040 with hr |hr |hr
 ·obtain⟨neg,m,p,e1,e2,h1,h3⟩:=DY s hs hr
  rw[e1]at h
  simp only at h
  split at h
  ·cases h
  ·cases h
   have he:FloatKind.f64.encode (.number neg m p)=double.nearest neg m p:=rfl
   unfold floatToFloatBits
   rw[if_neg (by decide),he]
   rcases h3 with⟨h0,rfl⟩ | ⟨hm,hL,h2,h4,h5⟩
   ·rw[h0]at e2
    rw[e2,show double.nearest neg 0 p=double.word neg 0 by unfold Format.nearest;rw[if_pos rfl]]
    cases neg<;>decide
   ·rw[Fq neg m p hm hL h1 h2]
    have hb:=zE hm (by omega)
    have hdd : ∀x,FloatKind.f64.decode x=double.read x:=fun _=>rfl
    rw[hdd,Ku neg _ _ (by omega) hb.1 hb.2]
    simp only
    have hee : ∀a b c,FloatKind.f32.encode (.number a b c)=single.nearest a b c:=fun _ _ _=>rfl
    rw[hee,R' neg m p hm hL h1 h2 (by omega) h5,←h4,←e2,hd,e1]
    rfl
 ·obtain⟨neg,e1,e2⟩:=sQ s hs hr
  rw[e1]at h
  cases h
  unfold floatToFloatBits
  rw[if_neg (by decide),show FloatKind.f64.decode (FloatKind.f64.encode (.infinity neg)) = .infinity neg from D_ neg]
  simp only
  rw[e2]
  rfl
 ·have : ∃neg fr,single.read s = .nan neg fr:=by
   unfold Format.read
   dsimp only
   rw[IU,Gx,C1,if_neg (by omega),if_neg (by omega),if_neg (by omega)]
   exact⟨_,_,rfl⟩
  obtain⟨_,_,e⟩:=this
  rw[e]at h
  cases h
theorem F_(s:Nat)(h:2139095040<s%2147483648): ∃neg fr,single.read s = .nan neg fr:=by
 unfold Format.read
 dsimp only
 rw[IU,Gx,C1,if_neg (by omega),if_neg (by omega),if_neg (by omega)]
 exact⟨_,_,rfl⟩
theorem LE(s:Nat)(h:9218868437227405312<s%9223372036854775808): ∃neg fr,double.read s = .nan neg fr:=by
 unfold Format.read
 dsimp only
 rw[HE,xT,Ag,if_neg (by omega),if_neg (by omega),if_neg (by omega)]
 exact⟨_,_,rfl⟩
theorem C9(s:Nat)(hs:s<4294967296)(hr:s%2147483648≤2139095040): ∃d,floatToFloatBits .f32 s .f64=some d∧d<18446744073709551616:=by
 have key : ∃d,floatToFloatBits .f32 s .f64=some d:=by
  unfold floatToFloatBits
  rw[if_neg (by decide)]
  have hd:FloatKind.f32.decode s=single.read s:=rfl
  rw[hd]
  rcases Nat.lt_or_ge (s%2147483648) 2139095040 with h |h
  ·obtain⟨neg,m,p,e1,e2,h1,h3⟩:=DY s hs h
   rw[e1]
   simp only
   have he:FloatKind.f64.encode (.number neg m p)=double.nearest neg m p:=rfl
   rw[he]
   rcases h3 with⟨h0,rfl⟩ | ⟨hm,hL,h2,h4,h5⟩
   ·rw[show double.nearest neg 0 p=double.word neg 0 by unfold Format.nearest;rw[if_pos rfl]]
    cases neg
    ·exact⟨0,by decide⟩
    ·exact⟨9223372036854775808,by decide⟩
   ·rw[Fq neg m p hm hL h1 h2]
    have hb:=zE hm (by omega)
    have hdd : ∀x,FloatKind.f64.decode x=double.read x:=fun _=>rfl
    rw[hdd,Ku neg _ _ (by omega) hb.1 hb.2]
    exact⟨_,rfl⟩
  ·obtain⟨neg,e1,_⟩:=sQ s hs (by omega)
   rw[e1]
   exact⟨_,rfl⟩
 obtain⟨d,h⟩:=key
 refine⟨d,h,?_⟩
 have:=floatToFloatBits_wf (src:=.f32) (bits:=s) (dst:=.f64) (r:=d) (by simpa [Lit.wf]using hs) h
 simpa [Lit.wf]using this
section
variable {P : Program} {w : World}
theorem AZ(S T:TypeId)(n:Nat)(hn:n%9223372036854775808≤9218868437227405312)(hs:(P.underlying S).isSome=true)(hd:P.underlying T=some (.float .f32))(h:floatToFloatBits .f64 n .f32=none):
  ∃s,s<4294967296∧(convert S T (.float .f64 n)).run P w = .ok (.float .f32 s) w.drew:=by
 obtain⟨u,hs'⟩:=Option.isSome_iff_exists.1 hs
 refine⟨(Question.floatToFloat n).cut (w.tape w.drawn (.floatToFloat n)),Nat.mod_lt _ (by decide),?_⟩
 unfold floatToFloatBits at h
 rw[if_neg (by decide)]at h
 split at h
 ·rename_i neg fr e
  exfalso
  have e:double.read n = .nan neg fr:=e
  unfold Format.read at e
  dsimp only at e
  rw[HE,xT,Ag]at e
  split at e
  ·cases e
  ·split at e
   ·cases e
   ·split at e
    ·cases e
    ·omega
 ·cases h
 ·rename_i sg m e he
  split at h
  ·rename_i hi
   have ne : ¬(FloatKind.f64=FloatKind.f32):=by decide
   cases u<;>simp[convert,run_underlying hs',run_underlying hd,Conv.floatToFloat,ne,he,hi,Question.forced]
  ·cases h
theorem CC(S T:TypeId)(s:Nat)(hr:2139095040<s%2147483648)(hs:(P.underlying S).isSome=true)(hd:P.underlying T=some (.float .f64)):
  ∃d,d<18446744073709551616∧9218868437227405312<d%9223372036854775808∧(convert S T (.float .f32 s)).run P w = .ok (.float .f64 d) w.drew:=by
 obtain⟨u,hs'⟩:=Option.isSome_iff_exists.1 hs
 obtain⟨neg,fr,e⟩:=F_ s hr
 have he:FloatKind.f32.decode s = .nan neg fr:=e
 refine⟨(Question.nanConv .f64 s).cut (w.tape w.drawn (.nanConv .f64 s)),?_,?_,?_⟩
 ·simp only[Question.cut];omega
 ·simp only[Question.cut]
  generalize w.tape w.drawn (Question.nanConv FloatKind.f64 s)=z
  have h1:z%2=0∨z%2=1:=by omega
  have h2:z/2%(2^52-1)<4503599627370495:=Nat.mod_lt _ (by decide)
  generalize z/2%(2^52-1)=y at h2
  rcases h1 with h1 |h1<;>rw[h1]<;>omega
 ·have ne : ¬(FloatKind.f32=FloatKind.f64):=by decide
  cases u<;>simp[convert,run_underlying hs',run_underlying hd,Conv.floatToFloat,ne,he,Question.forced]
end
def oh(n:Nat):Option Nat:=match floatToFloatBits .f64 n .f32 with
 |some s=>(match floatToFloatBits .f32 s .f64 with
  |some d=>if d=n then some s else none
  |none=>none)
 |none=>none
theorem JF{n s:Nat}(hn:n<18446744073709551616)(h:floatToFloatBits .f64 n .f32=some s):s<4294967296:=by
 have:=floatToFloatBits_wf (src:=.f64) (bits:=n) (dst:=.f32) (r:=s) (by simpa [Lit.wf]using hn) h
 simpa [Lit.wf]using this
theorem K8{n s:Nat}(hn:n<18446744073709551616)(h:oh n=some s):s<4294967296:=by
 unfold oh at h
 split at h
 ·rename_i s' h1
  split at h
  ·split at h
   ·cases h;exact JF hn h1
   ·cases h
  ·cases h
 ·cases h
theorem ID{s:Nat}(hs:s<4294967296)(h:floatToFloatBits .f32 s .f64=none):2139095040<s%2147483648:=by
 rcases Nat.lt_or_ge 2139095040 (s%2147483648)with h1 |h1
 ·exact h1
 ·obtain⟨d,e,_⟩:=C9 s hs h1
  rw[e]at h;cases h
theorem kN{n s:Nat}(hn:n<18446744073709551616):oh n=some s↔s<4294967296∧floatToFloatBits .f32 s .f64=some n:=by
 constructor
 ·intro h
  refine⟨K8 hn h,?_⟩
  unfold oh at h
  split at h
  ·split at h
   ·rename_i d e
    split at h
    ·rename_i hd
     cases h
     rw[e,hd]
    ·cases h
   ·cases h
  ·cases h
 ·rintro⟨hs,h⟩
  unfold oh
  rw[Bf s hs n h]
  simp only
  rw[h]
  simp
section
variable {P : Program} {w : World}
theorem Lw(S T S' T':TypeId)(n:Nat)(hn:n<18446744073709551616)(hq:n%9223372036854775808≤9218868437227405312)(hs:(P.underlying S).isSome=true)(hd:P.underlying T=some (.float .f32))(hs':(P.underlying S').isSome=true)(hd':P.underlying T'=some (.float .f64)):
  ∃s w1 d w2,(convert S T (.float .f64 n)).run P w = .ok (.float .f32 s) w1∧(convert S' T' (.float .f32 s)).run P w1 = .ok (.float .f64 d) w2∧s<4294967296∧d<18446744073709551616∧(w1=w∨w1=w.drew)∧(w2=w1∨w2=w1.drew)∧((d=n∧oh n=some s)∨(d≠n∧oh n=none)):=by
 have key : ∃s w1,(convert S T (.float .f64 n)).run P w = .ok (.float .f32 s) w1∧s<4294967296∧(w1=w∨w1=w.drew)∧(floatToFloatBits .f64 n .f32=some s∨floatToFloatBits .f64 n .f32=none):=by
  cases h:floatToFloatBits .f64 n .f32 with
  |some s=>exact⟨s,w,run_convert_float_float w S T .f64 .f32 n s hs hd h,JF hn h,.inl rfl,.inl rfl⟩
  |none=>
   obtain⟨s,h1,h2⟩:=AZ (w:=w) S T n hq hs hd h
   exact⟨s,_,h2,h1,.inr rfl,.inr rfl⟩
 obtain⟨s,w1,h1,h2,h3,h4⟩:=key
 cases h:floatToFloatBits .f32 s .f64 with
 |some d=>
  have hdl:d<18446744073709551616:=by
   have:=floatToFloatBits_wf (src:=.f32) (bits:=s) (dst:=.f64) (r:=d) (by simpa [Lit.wf]using h2) h
   simpa [Lit.wf]using this
  refine⟨s,w1,d,w1,h1,run_convert_float_float w1 S' T' .f32 .f64 s d hs' hd' h,h2,hdl,h3,.inl rfl,?_⟩
  by_cases e:d=n
  ·subst e
   exact .inl ⟨rfl,(kN hn).2 ⟨h2,h⟩⟩
  ·refine .inr ⟨e,?_⟩
   cases h6:oh n with
   |none=>rfl
   |some s'=>
    obtain⟨g1,g2⟩:=(kN hn).1 h6
    have g3:=Bf s' g1 n g2
    rcases h4 with h4 |h4
    ·rw[h4]at g3
     cases g3
     rw[h]at g2
     cases g2
     exact absurd rfl e
    ·rw[h4]at g3;cases g3
 |none=>
  have hr:=ID h2 h
  obtain⟨d,g1,g2,g3⟩:=CC (w:=w1) S' T' s hr hs' hd'
  refine⟨s,w1,d,w1.drew,h1,g3,h2,g1,h3,.inr rfl,.inr ⟨fun e=>by subst e;omega,?_⟩⟩
  cases h6:oh n with
  |none=>rfl
  |some s'=>
   obtain⟨k1,k2⟩:=(kN hn).1 h6
   have k3:=Bf s' k1 n k2
   rcases h4 with h4 |h4
   ·rw[h4]at k3
    cases k3
    rw[h]at k2
    cases k2
   ·rw[h4]at k3;cases k3
end
theorem ue(n:UInt64):(FloatKind.f64.format.order n.toNat n.toNat==some .eq)=decide (n.toNat%9223372036854775808≤9218868437227405312):=by
 show((double.read n.toNat).order (double.read n.toNat)==some .eq)=_
 by_cases h:n.toNat%9223372036854775808≤9218868437227405312
 ·rw[decide_eq_true h]
  unfold Format.read
  dsimp only
  rw[HE,xT,Ag]
  split
  ·simp[Datum.order]
  ·split
   ·simp[Datum.order]
   ·split
    ·simp[Datum.order]
    ·omega
 ·rw[decide_eq_false h]
  obtain⟨neg,fr,e⟩:=LE n.toNat (by omega)
  rw[e]
  rfl
end Go.Gk
