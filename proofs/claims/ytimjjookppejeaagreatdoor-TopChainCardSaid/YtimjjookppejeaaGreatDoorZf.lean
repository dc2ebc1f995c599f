/- A part of the proof of TopChain. No condition. -/
import Derived.Laws.Bits64b
import Derived.Test.YtimjjookppejeaaGreatDoorZv
namespace Go.Gk
open Go.RowKit
theorem Oh(x:Int):aP x=(x+9223372036854775808)%18446744073709551616-9223372036854775808:=IntKind.wrap_i64 x
theorem qP{x:Int}(h : -9223372036854775808≤x)(h':x<9223372036854775808):aP x=x:=by rw[Oh];omega
theorem uL{a b:Nat}(hb:0<b)(ha:a<9223372036854775808):quo (a:Int) (b:Int)=some ((a/b:Nat):Int):=by
 unfold quo
 have h1:=Nat.div_le_self a b
 rw[if_neg (by omega),←Int.ofNat_tdiv]
 generalize a/b=q at h1⊢
 rw[qP (by omega) (by omega)]
theorem rF{a b:Nat}(hb:0<b):rem (a:Int) (b:Int)=some ((a%b:Nat):Int):=by
 unfold rem
 rw[if_neg (by omega),←Int.ofNat_tmod]
theorem IR{a b:Int}(hb:0<b): ∃q,rem a b=some q∧ -b<q∧q<b:=by
 unfold rem
 rw[if_neg (by omega)]
 refine⟨_,rfl,?_,?_⟩
 ·have:=Int.lt_tmod_of_pos a hb
  omega
 ·exact Int.tmod_lt_of_pos a hb
theorem lh{α:Type}{xs ys:List α}(h:xs.length+ys.length≤4294967296):app xs ys=some (xs++ys):=by
 unfold app wZ;rw[if_pos h]
theorem g8{α:Type}{xs:List α}{i:Nat}{x:α}(h:xs[i]?=some x):az xs (i:Int)=some x:=by unfold az;rw[if_pos (by omega)];simpa using h
theorem ae{α β:Type}{k:β→Option α}(y:β):bnd (some y) k=k y:=Eq.trans rfl rfl
theorem ao{α β:Type}(e:β)(k:β→Option α):letm e k=k e:=Eq.trans rfl rfl
theorem pZ{α:Type}(x y:α):cond true x y=x:=Eq.trans rfl rfl
theorem eB{α:Type}(x y:α):cond false x y=y:=Eq.trans rfl rfl
theorem Fi{R S α:Type}{bn:Nat→S→Option R}{bs:α→Nat→S→(S→Option R)→Option R}{k:Nat}{s:S}:cS bn bs [] k s=bn k s:=rfl
theorem vn{R S α:Type}{bn:Nat→S→Option R}{bs:α→Nat→S→(S→Option R)→Option R}{x:α}{r:List α}{k:Nat}{s:S}:cS bn bs (x::r) k s=bs x k s (cS bn bs r (k+1)):=rfl
theorem nZ{R S:Type}{b:(S→Option R)→S→Option R}{n:Nat}{s:S}:aM b (n+1) s=b (aM b n) s:=rfl
theorem eP:bk=1180591620717411303423+1:=rfl
theorem u6(x:Int):((aj x).toNat:Int)=x%256:=by
 unfold aj
 rw[UInt8.toNat_ofNat']
 omega
theorem an{α β:Type}{X:Option β}{K:β→Option α}{y:β}{r:Option α}(h:X=some y)(h2:K y=r):bnd X K=r:=by rw[h];exact h2
theorem tF{α:Type}{xs:List α}{lo hi:Nat}(h:lo≤hi)(h':hi≤xs.length):Gk.cut xs (lo:Int) (hi:Int)=some ((xs.take hi).drop lo):=by
 unfold Gk.cut;rw[if_pos (by omega)];simp
end Go.Gk
namespace Go.Proofs.YtimjjookppejeaaGreatDoor
open Go.Gk Go.RowKit
theorem Bu(a:Int){m:Int}(h0:0<m)(h1:m<4611686018427387904): ∃y,eS a m=some y∧0≤y∧y<m:=by
 obtain⟨q,hq,l1,l2⟩:=IR (a:=a) h0
 unfold eS
 rw[hq,ae,ao]
 by_cases h:q<0
 ·rw[decide_eq_true h,pZ,ao,ae,qP (by omega) (by omega)]
  exact⟨_,rfl,by omega,by omega⟩
 ·rw[decide_eq_false h,eB,ae]
  exact⟨_,rfl,by omega,by omega⟩
structure Dn(d:eA):Prop where
 lo:0≤d.2
 hi:d.2≤(d.1.length:Int)
 len:d.1.length≤maxLen
theorem KO{l:List Int}(h:l.length≤maxLen):Dn (l,0):=⟨Int.le_refl _,by show(0:Int)≤(l.length:Int);omega,h⟩
theorem yR{d:eA}(h:Dn d){n:Int}(h0:0<n)(h1:n<4611686018427387904): ∃v d',cR d n=some (v,d')∧0≤v∧v<n∧Dn d':=by
 have hm:maxLen=9223372036854775807:=rfl
 have a:=h.lo
 have b:=h.hi
 have c:=h.len
 unfold cR
 rw[ao]
 by_cases hq:(d.1.length:Int)≤d.2
 ·rw[decide_eq_true hq,pZ]
  exact⟨0,d,rfl,Int.le_refl _,h0,h⟩
 ·rw[decide_eq_false hq,eB,ao,ao,qP (x:=d.2+1) (by omega) (by omega),qP (by omega) (by omega)]
  obtain⟨i,hi⟩ : ∃i:Nat,d.2+1-1=(i:Int):=⟨d.2.toNat,by omega⟩
  have hlt:i<d.1.length:=by omega
  rw[hi,g8 (List.getElem?_eq_getElem hlt),ae]
  obtain⟨y,hy,y0,y1⟩:=Bu d.1[i] h0 h1
  rw[hy,ae]
  exact⟨_,_,rfl,y0,y1,by show 0≤d.2+1;omega,by show d.2+1≤(d.1.length:Int);omega,c⟩
end Go.Proofs.YtimjjookppejeaaGreatDoor
