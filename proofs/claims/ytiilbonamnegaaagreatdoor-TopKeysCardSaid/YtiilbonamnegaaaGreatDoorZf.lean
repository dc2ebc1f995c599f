/- A part of the proof of TopKeys. No condition. -/
import Derived.Laws.Bits64b
import Derived.Test.YtiilbonamnegaaaGreatDoorZe
namespace Go.Gk
open Go.RowKit
theorem Ep(x:Int):aA x=(x+9223372036854775808)%18446744073709551616-9223372036854775808:=IntKind.wrap_i64 x
theorem an{x:Int}(h : -9223372036854775808≤x)(h':x<9223372036854775808):aA x=x:=by rw[Ep];omega
theorem DK{a b:Nat}(ha:a<9223372036854775808)(hb:b<9223372036854775808):sS .or (a:Int) (b:Int)=((a ||| b:Nat):Int):=by
 have hx:a ||| b<2^63:=Nat.or_lt_two_pow (by omega) (by omega)
 have h1:(BitVec.ofInt 64 (a:Int)).toNat=a:=by
  rw[BitVec.ofInt_natCast,BitVec.toNat_ofNat];exact Nat.mod_eq_of_lt (by omega)
 have h2:(BitVec.ofInt 64 (b:Int)).toNat=b:=by
  rw[BitVec.ofInt_natCast,BitVec.toNat_ofNat];exact Nat.mod_eq_of_lt (by omega)
 unfold sS
 show IntKind.i64.wrap (((BitVec.ofInt 64 (a:Int) ||| BitVec.ofInt 64 (b:Int)).toNat:Nat):Int)=_
 rw[BitVec.toNat_or,h1,h2,IntKind.wrap_i64]
 omega
theorem L2{a b:Nat}(ha:a<9223372036854775808)(hb:b<9223372036854775808):sS .and (a:Int) (b:Int)=((a &&& b:Nat):Int):=by
 have hx:a &&& b<2^63:=Nat.and_lt_two_pow _ (by omega)
 have h1:(BitVec.ofInt 64 (a:Int)).toNat=a:=by
  rw[BitVec.ofInt_natCast,BitVec.toNat_ofNat];exact Nat.mod_eq_of_lt (by omega)
 have h2:(BitVec.ofInt 64 (b:Int)).toNat=b:=by
  rw[BitVec.ofInt_natCast,BitVec.toNat_ofNat];exact Nat.mod_eq_of_lt (by omega)
 unfold sS
 show IntKind.i64.wrap (((BitVec.ofInt 64 (a:Int) &&& BitVec.ofInt 64 (b:Int)).toNat:Nat):Int)=_
 rw[BitVec.toNat_and,h1,h2,IntKind.wrap_i64]
 omega
theorem NI{a b:Nat}(hb:0<b)(ha:a<9223372036854775808):quo (a:Int) (b:Int)=some ((a/b:Nat):Int):=by
 unfold quo
 have h1:=Nat.div_le_self a b
 rw[if_neg (by omega),←Int.ofNat_tdiv]
 generalize a/b=q at h1⊢
 rw[an (by omega) (by omega)]
theorem FA{a b:Nat}(hb:0<b):rem (a:Int) (b:Int)=some ((a%b:Nat):Int):=by
 unfold rem
 rw[if_neg (by omega),←Int.ofNat_tmod]
theorem Iu{a b:Int}(hb:0<b): ∃q,rem a b=some q∧ -b<q∧q<b:=by
 unfold rem
 rw[if_neg (by omega)]
 refine⟨_,rfl,?_,?_⟩
 ·have:=Int.lt_tmod_of_pos a hb
  omega
 ·exact Int.tmod_lt_of_pos a hb
theorem Er{n:Nat}:av (n:Int)=UInt8.ofNat n:=by
 unfold av
 apply UInt8.toNat_inj.1
 simp
 omega
theorem aF{α:Type}{xs ys:List α}(h:xs.length+ys.length≤4294967296):app xs ys=some (xs++ys):=by
 unfold app zJ;rw[if_pos h]
theorem rl{n:Int}(h:n≤9223372036854775807):rng n=some n.toNat:=by unfold rng;rw[if_pos h]
theorem aE{α:Type}{xs:List α}{i:Nat}{x:α}(h:xs[i]?=some x):aI xs (i:Int)=some x:=by unfold aI;rw[if_pos (by omega)];simpa using h
theorem ae{α β:Type}{k:β→Option α}(y:β):bnd (some y) k=k y:=Eq.trans rfl rfl
theorem ab{α β:Type}(e:β)(k:β→Option α):letm e k=k e:=Eq.trans rfl rfl
theorem bf{α:Type}(x y:α):cond true x y=x:=Eq.trans rfl rfl
theorem aw{α:Type}(x y:α):cond false x y=y:=Eq.trans rfl rfl
theorem jH{ρ ρ' Y:Type}{w:ρ→ρ'}{k:Y→Option ρ'}(y:Y):fg (some (.inr y)) w k=k y:=Eq.trans rfl rfl
theorem nR{ρ ρ' Y:Type}{w:ρ→ρ'}{k:Y→Option ρ'}(q:ρ):fg (some (.inl q)) w k=some (w q):=Eq.trans rfl rfl
theorem eP{R S α:Type}{bn:Nat→S→Option R}{bs:α→Nat→S→(S→Option R)→Option R}{k:Nat}{s:S}:cF bn bs [] k s=bn k s:=rfl
theorem bT{R S α:Type}{bn:Nat→S→Option R}{bs:α→Nat→S→(S→Option R)→Option R}{x:α}{r:List α}{k:Nat}{s:S}:cF bn bs (x::r) k s=bs x k s (cF bn bs r (k+1)):=rfl
theorem sw{R S:Type}{bn:Nat→S→Option R}{bs:Nat→S→(S→Option R)→Option R}{k:Nat}{s:S}:jB bn bs 0 k s=bn k s:=rfl
theorem my{R S:Type}{bn:Nat→S→Option R}{bs:Nat→S→(S→Option R)→Option R}{r k:Nat}{s:S}:jB bn bs (r+1) k s=bs k s (jB bn bs r (k+1)):=rfl
theorem bd{R S:Type}{b:(S→Option R)→S→Option R}{n:Nat}{s:S}:aM b (n+1) s=b (aM b n) s:=rfl
theorem cG:bA=1180591620717411303423+1:=rfl
theorem K3(x:Int):av (aA x)=av x:=by
 unfold av;rw[Ep];congr 2;omega
theorem eT(x:Int):((av x).toNat:Int)=x%256:=by
 unfold av
 rw[UInt8.toNat_ofNat']
 omega
theorem LL{x y:Int}(h:x%256=y%256):av x=av y:=by unfold av;rw[h]
theorem QS{a b:Nat}(ha:a<256)(hb:b<256):bits .or .u8 (a:Int) (b:Int)=((a ||| b:Nat):Int):=by
 have hx:a ||| b<2^8:=Nat.or_lt_two_pow (by omega) (by omega)
 have h1:(BitVec.ofInt 8 (a:Int)).toNat=a:=by
  rw[BitVec.ofInt_natCast,BitVec.toNat_ofNat];exact Nat.mod_eq_of_lt (by omega)
 have h2:(BitVec.ofInt 8 (b:Int)).toNat=b:=by
  rw[BitVec.ofInt_natCast,BitVec.toNat_ofNat];exact Nat.mod_eq_of_lt (by omega)
 show IntKind.u8.wrap (((BitVec.ofInt 8 (a:Int) ||| BitVec.ofInt 8 (b:Int)).toNat:Nat):Int)=_
 rw[BitVec.toNat_or,h1,h2,wrap_u8,eT]
 omega
theorem Sh(a:Nat){b:Nat}(hb:b<16):(16*a) ||| b=16*a+b:=by
 have:=Nat.two_pow_add_eq_or_of_lt (i:=4) (b:=b) (by omega) a
 rw[show(2:Nat)^4=16 from rfl]at this
 omega
theorem TN(e:Int)(f:UInt8)(hf:f.toNat<16): ∃y:UInt8,dO .u8 (av e) ((UInt64.toNat 4:Nat):Int)=some y∧av (bits .or .u8 (UInt8.toNat y) (UInt8.toNat f))=av (aA (aA (16*e)+(f.toNat:Int))):=by
 refine⟨av (((av e).toNat:Int)*16),rfl,?_⟩
 rw[K3]
 have h1:(av (((av e).toNat:Int)*16)).toNat=16*((e%16).toNat):=by
  have h2:=eT e
  have h3:=eT (((av e).toNat:Int)*16)
  omega
 rw[QS (UInt8.toNat_lt _) (UInt8.toNat_lt _),h1,Sh _ hf]
 apply LL
 rw[Ep]
 omega
theorem S5(x:Int):Gk.shl x ((UInt64.toNat 4:Nat):Int)=some (aA (x*16)):=Eq.trans rfl rfl
theorem N_(x:Int):Gk.shr x ((UInt64.toNat 8:Nat):Int)=some (x/256):=Eq.trans rfl rfl
theorem Tn(x:Int):Gk.shr x ((UInt64.toNat 5:Nat):Int)=some (x/32):=Eq.trans rfl rfl
theorem vr(a b:Bool):cond a (some true) (some b)=some (a||b):=by cases a<;>exact Eq.trans rfl rfl
theorem lF(a b:Bool):cond a (some b) (some false)=some (a&&b):=by cases a<;>exact Eq.trans rfl rfl
theorem NQ(a b:Bool):cond a (some false) (some b)=some (!a&&b):=by cases a<;>exact Eq.trans rfl rfl
theorem Sz(a b p:Bool):cond a (some p) (some (b&&p))=some ((a||b)&&p):=by cases a<;>exact Eq.trans rfl rfl
theorem ac{α β:Type}{X:Option β}{K:β→Option α}{y:β}{r:Option α}(h:X=some y)(h2:K y=r):bnd X K=r:=by rw[h];exact h2
theorem iF{α:Type}{xs:List α}{lo hi:Nat}(h:lo≤hi)(h':hi≤xs.length):Gk.cut xs (lo:Int) (hi:Int)=some ((xs.take hi).drop lo):=by
 unfold Gk.cut;rw[if_pos (by omega)];simp
end Go.Gk
