import Derived.Laws.Bits64b
import Derived.Test.YthejfljhiaeoeaaGreatDoorZe
namespace Go.Gk
open Go.RowKit
theorem C0(x:Int):aF x=(x+9223372036854775808)%18446744073709551616-9223372036854775808:=IntKind.wrap_i64 x
theorem ap{x:Int}(h : -9223372036854775808≤x)(h':x<9223372036854775808):aF x=x:=by rw[C0];omega
theorem L8{a b:Nat}(hb:b≤64):shr (a:Int) (b:Int)=some ((a/2^b:Nat):Int):=by
 unfold shr
 have h2:((b:Int)).toNat=b:=by simp
 have e:(a:Int)/2^b=((a/2^b:Nat):Int):=by simp
 rw[if_neg (by omega),h2,Nat.min_eq_left (by omega),e]
theorem Di{a b:Nat}(ha:a<9223372036854775808)(hb:b<9223372036854775808):rN .or (a:Int) (b:Int)=((a ||| b:Nat):Int):=by
 have hx:a ||| b<2^63:=Nat.or_lt_two_pow (by omega) (by omega)
 have h1:(BitVec.ofInt 64 (a:Int)).toNat=a:=by
  rw[BitVec.ofInt_natCast,BitVec.toNat_ofNat];exact Nat.mod_eq_of_lt (by omega)
 have h2:(BitVec.ofInt 64 (b:Int)).toNat=b:=by
  rw[BitVec.ofInt_natCast,BitVec.toNat_ofNat];exact Nat.mod_eq_of_lt (by omega)
 unfold rN
 show IntKind.i64.wrap (((BitVec.ofInt 64 (a:Int) ||| BitVec.ofInt 64 (b:Int)).toNat:Nat):Int)=_
 rw[BitVec.toNat_or,h1,h2,IntKind.wrap_i64]
 omega
theorem Mi{a b:Nat}(ha:a<9223372036854775808)(hb:b<9223372036854775808):rN .and (a:Int) (b:Int)=((a &&& b:Nat):Int):=by
 have hx:a &&& b<2^63:=Nat.and_lt_two_pow _ (by omega)
 have h1:(BitVec.ofInt 64 (a:Int)).toNat=a:=by
  rw[BitVec.ofInt_natCast,BitVec.toNat_ofNat];exact Nat.mod_eq_of_lt (by omega)
 have h2:(BitVec.ofInt 64 (b:Int)).toNat=b:=by
  rw[BitVec.ofInt_natCast,BitVec.toNat_ofNat];exact Nat.mod_eq_of_lt (by omega)
 unfold rN
 show IntKind.i64.wrap (((BitVec.ofInt 64 (a:Int) &&& BitVec.ofInt 64 (b:Int)).toNat:Nat):Int)=_
 rw[BitVec.toNat_and,h1,h2,IntKind.wrap_i64]
 omega
theorem Fe{a b:Nat}(hb:0<b)(ha:a<9223372036854775808):quo (a:Int) (b:Int)=some ((a/b:Nat):Int):=by
 unfold quo
 have h1:=Nat.div_le_self a b
 rw[if_neg (by omega),←Int.ofNat_tdiv]
 generalize a/b=q at h1⊢
 rw[ap (by omega) (by omega)]
theorem Ml{a b:Nat}(hb:0<b):rem (a:Int) (b:Int)=some ((a%b:Nat):Int):=by
 unfold rem
 rw[if_neg (by omega),←Int.ofNat_tmod]
theorem IX{a b:Int}(hb:0<b): ∃q,rem a b=some q∧ -b<q∧q<b:=by
 unfold rem
 rw[if_neg (by omega)]
 refine⟨_,rfl,?_,?_⟩
 ·have:=Int.lt_tmod_of_pos a hb
  omega
 ·exact Int.tmod_lt_of_pos a hb
theorem Dl{n:Nat}:ar (n:Int)=UInt8.ofNat n:=by
 unfold ar
 apply UInt8.toNat_inj.1
 simp
 omega
theorem aD{α:Type}{xs ys:List α}(h:xs.length+ys.length≤4294967296):cO xs ys=some (xs++ys):=by
 unfold cO xR;rw[if_pos h]
theorem ui{n:Int}(h:n≤9223372036854775807):rng n=some n.toNat:=by unfold rng;rw[if_pos h]
theorem aM{α:Type}{xs:List α}{i:Nat}{x:α}(h:xs[i]?=some x):aV xs (i:Int)=some x:=by unfold aV;rw[if_pos (by omega)];simpa using h
theorem ae{α β:Type}{k:β→Option α}(y:β):bnd (some y) k=k y:=Eq.trans rfl rfl
theorem aa{α β:Type}(e:β)(k:β→Option α):letm e k=k e:=Eq.trans rfl rfl
theorem a7{α:Type}(x y:α):cond true x y=x:=Eq.trans rfl rfl
theorem ay{α:Type}(x y:α):cond false x y=y:=Eq.trans rfl rfl
theorem i6{ρ ρ' Y:Type}{w:ρ→ρ'}{k:Y→Option ρ'}(y:Y):fI (some (.inr y)) w k=k y:=Eq.trans rfl rfl
theorem nj{ρ ρ' Y:Type}{w:ρ→ρ'}{k:Y→Option ρ'}(q:ρ):fI (some (.inl q)) w k=some (w q):=Eq.trans rfl rfl
theorem eU{R S α:Type}{bn:Nat→S→Option R}{bs:α→Nat→S→(S→Option R)→Option R}{k:Nat}{s:S}:a6 bn bs [] k s=bn k s:=rfl
theorem bj{R S α:Type}{bn:Nat→S→Option R}{bs:α→Nat→S→(S→Option R)→Option R}{x:α}{r:List α}{k:Nat}{s:S}:a6 bn bs (x::r) k s=bs x k s (a6 bn bs r (k+1)):=rfl
theorem DQ{R S:Type}{bn:Nat→S→Option R}{bs:Nat→S→(S→Option R)→Option R}{k:Nat}{s:S}:mG bn bs 0 k s=bn k s:=rfl
theorem rS{R S:Type}{bn:Nat→S→Option R}{bs:Nat→S→(S→Option R)→Option R}{r k:Nat}{s:S}:mG bn bs (r+1) k s=bs k s (mG bn bs r (k+1)):=rfl
theorem bS{R S:Type}{b:(S→Option R)→S→Option R}{n:Nat}{s:S}:bo b (n+1) s=b (bo b n) s:=rfl
theorem dU:cS=1180591620717411303423+1:=rfl
theorem wy{R S α:Type}{bn:Nat→S→Option R}{bs:α→Nat→S→(S→Option R)→Option R}(f:S→α→S)(J:Nat→S→Prop): ∀(xs:List α) (k:Nat) (s:S),
  (∀i x s self,xs[i]?=some x→J (k+i) s→bs x (k+i) s self=self (f s x)∧J (k+i+1) (f s x))→J k s→a6 bn bs xs k s=bn (k+xs.length) (xs.foldl f s)∧J (k+xs.length) (xs.foldl f s)
 | [],k,s,_,hJ=>⟨rfl,hJ⟩
 |x::xs,k,s,h,hJ=>by
  obtain⟨h1,h2⟩:=h 0 x s (a6 bn bs xs (k+1)) rfl hJ
  obtain⟨h3,h4⟩:=wy f J xs (k+1) (f s x) (fun i y t self hy ht=>by
   have:=h (i+1) y t self hy (by rw[show k+(i+1)=k+1+i by omega];exact ht)
   rw[show k+(i+1)=k+1+i by omega]at this;exact this) h2
  rw[bj]
  refine⟨?_,by rw[List.length_cons,show k+(xs.length+1)=k+1+xs.length by omega];exact h4⟩
  rw[show bs x k s (a6 bn bs xs (k+1))=_ from h1,h3,List.length_cons,show k+(xs.length+1)=k+1+xs.length by omega];rfl
theorem wa{α β:Type}(f:α→β): ∀(xs:List α) (s:List β),xs.foldl (fun s x=>s ++ [f x]) s=s++xs.map f
 | [],s=>by simp
 |x::xs,s=>by simp[wa f xs]
theorem tO{R α β:Type}{bn:Nat→List β→Option R}{bs:α→Nat→List β→(List β→Option R)→Option R}(f:α→β)(xs:List α)(k:Nat)(s:List β)(hl:s.length+xs.length≤4294967296)
  (h : ∀x,x∈xs→∀k s self,bs x k s self=bnd (cO s [f x]) self):a6 bn bs xs k s=bn (k+xs.length) (s++xs.map f):=by
 obtain⟨h1,_⟩:=wy (bn:=bn) (bs:=bs) (fun s x=>s ++ [f x]) (fun i t=>t.length=s.length+(i-k)∧k≤i) xs k s (fun i x t self hx ht=>by
  have hi:i<xs.length:=(List.getElem?_eq_some_iff.1 hx).1
  refine⟨?_,by simp;omega,by omega⟩
  rw[h x (List.mem_of_getElem? hx),aD (by simp;omega)];rfl) ⟨by simp,Nat.le_refl _⟩
 rw[h1,wa]
theorem gX{R α β:Type}{bn:Nat→List β→Option R}{bs:α→Nat→List β→(List β→Option R)→Option R}(f:α→Option β): ∀(xs:List α) (k:Nat) (s:List β),s.length+xs.length≤4294967296→
  (∀x,x∈xs→∀k s self,bs x k s self=match f x with |some y=>bnd (cO s [y]) self |none=>self s)→a6 bn bs xs k s=bn (k+xs.length) (s++xs.filterMap f)
 | [],k,s,_,_=>by simp[a6]
 |x::xs,k,s,hl,h=>by
  rw[bj,h x (by simp)]
  simp only[List.length_cons]at hl⊢
  cases hf:f x with
  |none=>
   rw[List.filterMap_cons,hf]
   show a6 bn bs xs (k+1) s=_
   rw[gX f xs (k+1) s (by omega) fun y hy=>h y (by simp[hy])]
   rw[show k+1+xs.length=k+(xs.length+1) by omega]
  |some y=>
   rw[List.filterMap_cons,hf]
   show bnd (cO s [y]) _=_
   rw[aD (by simp;omega)]
   show a6 bn bs xs (k+1) (s ++ [y])=_
   rw[gX f xs (k+1) _ (by simp;omega) fun y hy=>h y (by simp[hy]),show k+1+xs.length=k+(xs.length+1) by omega]
   simp
theorem IV(x:Int):ar (aF x)=ar x:=by
 unfold ar;rw[C0];congr 2;omega
theorem eC(x:Int):((ar x).toNat:Int)=x%256:=by
 unfold ar
 rw[UInt8.toNat_ofNat']
 omega
theorem L7{x y:Int}(h:x%256=y%256):ar x=ar y:=by unfold ar;rw[h]
theorem PX{a b:Nat}(ha:a<256)(hb:b<256):bits .or .u8 (a:Int) (b:Int)=((a ||| b:Nat):Int):=by
 have hx:a ||| b<2^8:=Nat.or_lt_two_pow (by omega) (by omega)
 have h1:(BitVec.ofInt 8 (a:Int)).toNat=a:=by
  rw[BitVec.ofInt_natCast,BitVec.toNat_ofNat];exact Nat.mod_eq_of_lt (by omega)
 have h2:(BitVec.ofInt 8 (b:Int)).toNat=b:=by
  rw[BitVec.ofInt_natCast,BitVec.toNat_ofNat];exact Nat.mod_eq_of_lt (by omega)
 show IntKind.u8.wrap (((BitVec.ofInt 8 (a:Int) ||| BitVec.ofInt 8 (b:Int)).toNat:Nat):Int)=_
 rw[BitVec.toNat_or,h1,h2,wrap_u8,eC]
 omega
theorem Q9(a:Nat){b:Nat}(hb:b<16):(16*a) ||| b=16*a+b:=by
 have:=Nat.two_pow_add_eq_or_of_lt (i:=4) (b:=b) (by omega) a
 rw[show(2:Nat)^4=16 from rfl]at this
 omega
theorem ST(e:Int)(f:UInt8)(hf:f.toNat<16): ∃y:UInt8,et .u8 (ar e) ((UInt64.toNat 4:Nat):Int)=some y∧ar (bits .or .u8 (UInt8.toNat y) (UInt8.toNat f))=ar (aF (aF (16*e)+(f.toNat:Int))):=by
 refine⟨ar (((ar e).toNat:Int)*16),rfl,?_⟩
 rw[IV]
 have h1:(ar (((ar e).toNat:Int)*16)).toNat=16*((e%16).toNat):=by
  have h2:=eC e
  have h3:=eC (((ar e).toNat:Int)*16)
  omega
 rw[PX (UInt8.toNat_lt _) (UInt8.toNat_lt _),h1,Q9 _ hf]
 apply L7
 rw[C0]
 omega
theorem RR(x:Int):Gk.shl x ((UInt64.toNat 4:Nat):Int)=some (aF (x*16)):=Eq.trans rfl rfl
theorem ND(x:Int):Gk.shr x ((UInt64.toNat 8:Nat):Int)=some (x/256):=Eq.trans rfl rfl
theorem R2(x:Int):Gk.shr x ((UInt64.toNat 5:Nat):Int)=some (x/32):=Eq.trans rfl rfl
theorem oQ(a b:Bool):cond a (some true) (some b)=some (a||b):=by cases a<;>exact Eq.trans rfl rfl
theorem iz(a b:Bool):cond a (some b) (some false)=some (a&&b):=by cases a<;>exact Eq.trans rfl rfl
theorem A4(a b:Bool):cond a (some false) (some b)=some (!a&&b):=by cases a<;>exact Eq.trans rfl rfl
theorem RN(a b p:Bool):cond a (some p) (some (b&&p))=some ((a||b)&&p):=by cases a<;>exact Eq.trans rfl rfl
theorem ac{α β:Type}{X:Option β}{K:β→Option α}{y:β}{r:Option α}(h:X=some y)(h2:K y=r):bnd X K=r:=by rw[h];exact h2
theorem gn{α:Type}{xs:List α}{lo hi:Nat}(h:lo≤hi)(h':hi≤xs.length):Gk.cut xs (lo:Int) (hi:Int)=some ((xs.take hi).drop lo):=by
 unfold Gk.cut;rw[if_pos (by omega)];simp
end Go.Gk
