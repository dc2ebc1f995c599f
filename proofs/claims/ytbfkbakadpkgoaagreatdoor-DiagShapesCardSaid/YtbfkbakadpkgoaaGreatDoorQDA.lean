/-
  Floats: encoded alike by both texts; bytes looked through for letters. Of the models alone; no program; no condition but the ranges told.
-/
import Derived.Test.YtbfkbakadpkgoaaGreatDoorQ00
import Derived.Test.YtbfkbakadpkgoaaGreatDoorMo
import Derived.Test.YtbfkbakadpkgoaaGreatDoorFlt
namespace Go.Proofs.YtbfkbakadpkgoaaGreatDoor
open Go.Gk Go.RowKit
open Go.Gk Go.RowKit Go Ieee
theorem ofInt64 (a : UInt64) : (BitVec.ofInt 64 (a.toNat : Int)).toNat = a.toNat := by
 rw [BitVec.ofInt_natCast, BitVec.toNat_ofNat]; exact Nat.mod_eq_of_lt a.toNat_lt
theorem toU64_toNat {n : Nat} (h : n < 18446744073709551616) : (toU64 (n : Int)).toNat = n := by
 unfold toU64
 rw [UInt64.toNat_ofNat']
 omega
theorem toU64_nat' (n : Nat) : toU64 (n : Int) = UInt64.ofNat n := by
 apply UInt64.toNat_inj.1
 unfold toU64
 simp only [UInt64.toNat_ofNat']
 omega
theorem and64 (a b : UInt64) : (bitK .and .u64 a b : UInt64) = UInt64.ofNat (a.toNat &&& b.toNat) := by
 show toU64 (IntKind.u64.wrap (((BitVec.ofInt 64 (a.toNat : Int) &&& BitVec.ofInt 64 (b.toNat : Int)).toNat : Nat) : Int)) = _
 rw [BitVec.toNat_and, ofInt64, ofInt64, wrap_u64]
 have : a.toNat &&& b.toNat < 18446744073709551616 := Nat.lt_of_le_of_lt Nat.and_le_left a.toNat_lt
 rw [toU64_toNat this, toU64_nat']
theorem or64 (a b : UInt64) : (bitK .or .u64 a b : UInt64) = UInt64.ofNat (a.toNat ||| b.toNat) := by
 show toU64 (IntKind.u64.wrap (((BitVec.ofInt 64 (a.toNat : Int) ||| BitVec.ofInt 64 (b.toNat : Int)).toNat : Nat) : Int)) = _
 rw [BitVec.toNat_or, ofInt64, ofInt64, wrap_u64]
 have : a.toNat ||| b.toNat < 2 ^ 64 := Nat.or_lt_two_pow a.toNat_lt b.toNat_lt
 rw [toU64_toNat this, toU64_nat']
theorem nat64 {n : Nat} (h : n < 18446744073709551616) : (UInt64.ofNat n).toNat = n := by rw [UInt64.toNat_ofNat']; omega
theorem and_low (a : UInt64) (k : Nat) (m : UInt64) (hm : m.toNat = 2 ^ k - 1) : (bitK .and .u64 a m : UInt64) = UInt64.ofNat (a.toNat % 2 ^ k) := by
 rw [and64, hm, Nat.and_two_pow_sub_one_eq_mod]
theorem or_add (a b : UInt64) (k c : Nat) (ha : a.toNat = 2 ^ k * c) (hb : b.toNat < 2 ^ k) : (bitK .or .u64 a b : UInt64) = UInt64.ofNat (a.toNat + b.toNat) := by
 rw [or64, ha, ← Nat.two_pow_add_eq_or_of_lt hb]
theorem sr64 (x : UInt64) (k : Nat) (hk : k ≤ 64) : @Eq (Option UInt64) (shrK .u64 x (k : Int)) (some (UInt64.ofNat (x.toNat / 2 ^ k))) := by
 show shr64 x (k : Int) = _
 unfold shr64
 rw [if_neg (by omega), show min ((k : Int).toNat) 64 = k by omega]
theorem sl64 (x : UInt64) (k : Nat) (hk : k ≤ 64) : @Eq (Option UInt64) (shlK .u64 x (k : Int)) (some (UInt64.ofNat (x.toNat * 2 ^ k % 18446744073709551616))) := by
 show (if (k : Int) < 0 then none else some (fromI .u64 (toI .u64 x * 2 ^ min (k : Int).toNat 64))) = _
 rw [if_neg (by omega), show min ((k : Int).toNat) 64 = k by omega]
 show some (toU64 ((x.toNat : Int) * 2 ^ k)) = _
 rw [show ((x.toNat : Int) * 2 ^ k) = ((x.toNat * 2 ^ k : Nat) : Int) by push_cast; rfl, toU64_nat']
 refine congrArg some (UInt64.toNat_inj.1 ?_)
 rw [UInt64.toNat_ofNat', UInt64.toNat_ofNat']
 omega
theorem ofInt32 (a : UInt32) : (BitVec.ofInt 32 (a.toNat : Int)).toNat = a.toNat := by
 rw [BitVec.ofInt_natCast, BitVec.toNat_ofNat]; exact Nat.mod_eq_of_lt a.toNat_lt
theorem toU32_nat (n : Nat) : toU32 (n : Int) = UInt32.ofNat n := by
 apply UInt32.toNat_inj.1
 unfold toU32
 simp only [UInt32.toNat_ofNat']
 omega
theorem nat32 {n : Nat} (h : n < 4294967296) : (UInt32.ofNat n).toNat = n := by rw [UInt32.toNat_ofNat']; omega
theorem and32 (a b : UInt32) : (bitK .and .u32 a b : UInt32) = UInt32.ofNat (a.toNat &&& b.toNat) := by
 show toU32 (IntKind.u32.wrap (((BitVec.ofInt 32 (a.toNat : Int) &&& BitVec.ofInt 32 (b.toNat : Int)).toNat : Nat) : Int)) = _
 have : a.toNat &&& b.toNat < 4294967296 := Nat.lt_of_le_of_lt Nat.and_le_left a.toNat_lt
 rw [BitVec.toNat_and, ofInt32, ofInt32, wrap_u32, toU32_nat, toU32_nat, nat32 this]
theorem or32 (a b : UInt32) : (bitK .or .u32 a b : UInt32) = UInt32.ofNat (a.toNat ||| b.toNat) := by
 show toU32 (IntKind.u32.wrap (((BitVec.ofInt 32 (a.toNat : Int) ||| BitVec.ofInt 32 (b.toNat : Int)).toNat : Nat) : Int)) = _
 have : a.toNat ||| b.toNat < 2 ^ 32 := Nat.or_lt_two_pow a.toNat_lt b.toNat_lt
 rw [BitVec.toNat_or, ofInt32, ofInt32, wrap_u32, toU32_nat, toU32_nat, nat32 this]
theorem and32_low (a : UInt32) (k : Nat) (m : UInt32) (hm : m.toNat = 2 ^ k - 1) : (bitK .and .u32 a m : UInt32) = UInt32.ofNat (a.toNat % 2 ^ k) := by
 rw [and32, hm, Nat.and_two_pow_sub_one_eq_mod]
theorem sr32 (x : UInt32) (k : Nat) (hk : k ≤ 32) : @Eq (Option UInt32) (shrK .u32 x (k : Int)) (some (UInt32.ofNat (x.toNat / 2 ^ k))) := by
 show (if (k : Int) < 0 then none else some (toU32 ((UInt32.toNat x : Int) / 2 ^ min (k : Int).toNat 32))) = _
 rw [if_neg (by omega), show min ((k : Int).toNat) 32 = k by omega]
 rw [show ((x.toNat : Int) / 2 ^ k) = ((x.toNat / 2 ^ k : Nat) : Int) by push_cast; rfl, toU32_nat]
theorem sl32 (x : UInt32) (k : Nat) (hk : k ≤ 32) : @Eq (Option UInt32) (shlK .u32 x (k : Int)) (some (UInt32.ofNat (x.toNat * 2 ^ k % 4294967296))) := by
 show (if (k : Int) < 0 then none else some (fromI .u32 (toI .u32 x * 2 ^ min (k : Int).toNat 32))) = _
 rw [if_neg (by omega), show min ((k : Int).toNat) 32 = k by omega]
 show some (toU32 ((x.toNat : Int) * 2 ^ k)) = _
 rw [show ((x.toNat : Int) * 2 ^ k) = ((x.toNat * 2 ^ k : Nat) : Int) by push_cast; rfl, toU32_nat]
 refine congrArg some (UInt32.toNat_inj.1 ?_)
 rw [UInt32.toNat_ofNat', UInt32.toNat_ofNat']
 omega
theorem or16 {a b : Nat} (ha : a < 65536) (hb : b < 65536) : (bitK .or .u16 (a : Int) (b : Int) : Int) = ((a ||| b : Nat) : Int) := by
 have hx : a ||| b < 2 ^ 16 := Nat.or_lt_two_pow (by omega) (by omega)
 have h1 : (BitVec.ofInt 16 (a : Int)).toNat = a := by
  rw [BitVec.ofInt_natCast, BitVec.toNat_ofNat]; exact Nat.mod_eq_of_lt (by omega)
 have h2 : (BitVec.ofInt 16 (b : Int)).toNat = b := by
  rw [BitVec.ofInt_natCast, BitVec.toNat_ofNat]; exact Nat.mod_eq_of_lt (by omega)
 show IntKind.u16.wrap (((BitVec.ofInt 16 (a : Int) ||| BitVec.ofInt 16 (b : Int)).toNat : Nat) : Int) = _
 rw [BitVec.toNat_or, h1, h2]
 unfold IntKind.wrap
 simp only [show IntKind.u16.signed = false from rfl, IntKind.bits]
 simp
 omega
theorem bnd_of {α β : Type} {m : Option α} {y : α} {k : α → Option β} {r : Option β} (h : m = some y) (h2 : k y = r) : bnd m k = r := by
 subst h; exact h2
def eOf (n : Nat) : Nat := n / 4503599627370496 % 2048
def mOf (n : Nat) : Nat := n % 4503599627370496
def narV8 (n : Nat) : Nat :=
 if eOf n = 2047 then n / 9223372036854775808 * 2147483648 + 2139095040 else if eOf n = 0 then n / 9223372036854775808 * 2147483648
 else if 1151 ≤ eOf n then 0 else if 896 < eOf n then n / 9223372036854775808 * 2147483648 + (eOf n - 896) * 8388608 + mOf n / 536870912
 else if eOf n < 874 then 0 else n / 9223372036854775808 * 2147483648 + (mOf n + 4503599627370496) / 2 ^ (926 - eOf n)
def narB8 (n : Nat) : Bool :=
 if eOf n = 2047 then decide (mOf n = 0) else if eOf n = 0 then decide (mOf n = 0)
 else if 1151 ≤ eOf n then false else if 896 < eOf n then decide (mOf n % 536870912 = 0)
 else if eOf n < 874 then false else decide ((mOf n + 4503599627370496) % 2 ^ (926 - eOf n) = 0)
theorem eOf_eq (n : UInt64) : w64 (UInt64.toNat (bitK .and .u64 (UInt64.ofNat (n.toNat / 2 ^ 52)) (2047 : UInt64) : UInt64) : Int) = (eOf n.toNat : Int) := by
 have h := n.toNat_lt
 rw [and_low _ 11 _ rfl, nat64 (n := n.toNat / 2 ^ 52) (by omega), nat64 (by omega), w64_of (by omega) (by omega)]
 unfold eOf
 omega
theorem mOf_eq (n : UInt64) : (bitK .and .u64 n (4503599627370495 : UInt64) : UInt64) = UInt64.ofNat (mOf n.toNat) := and_low _ 52 _ rfl
theorem mOf_lt (n : Nat) : mOf n < 4503599627370496 := Nat.mod_lt _ (by omega)
theorem eOf_lt (n : Nat) : eOf n < 2048 := Nat.mod_lt _ (by omega)
theorem mNat (n : Nat) : (UInt64.ofNat (mOf n)).toNat = mOf n := nat64 (by have := mOf_lt n; omega)
theorem eqz (n : Nat) : (((UInt64.toNat (UInt64.ofNat (mOf n)) : Nat) : Int) == ((UInt64.toNat 0 : Nat) : Int)) = decide (mOf n = 0) := by
 rw [mNat, Bool.eq_iff_iff, beq_iff_eq, decide_eq_true_eq]
 exact Int.natCast_inj
theorem full_eq (n : Nat) : (bitK .or .u64 (UInt64.ofNat (mOf n)) (4503599627370496 : UInt64) : UInt64) = UInt64.ofNat (mOf n + 4503599627370496) := by
 have h := mOf_lt n
 rw [or64, mNat, Nat.or_comm]
 show UInt64.ofNat (4503599627370496 ||| mOf n) = _
 have := Nat.two_pow_add_eq_or_of_lt (i := 52) (b := mOf n) (by omega) 1
 rw [show (2 : Nat) ^ 52 * 1 = 4503599627370496 from rfl] at this
 rw [← this, Nat.add_comm]
theorem low_and (x : UInt64) (k : Nat) (hk : k < 64) : ∃ y : UInt64, @Eq (Option UInt64) (shlK .u64 (1 : UInt64) (k : Int)) (some y) ∧ ∀ z : UInt64, z = y - 1 → (bitK .and .u64 x z : UInt64) = UInt64.ofNat (x.toNat % 2 ^ k) := by
 have hp : 2 ^ k < 18446744073709551616 := by
  have := Nat.pow_lt_pow_right (a := 2) (by omega) hk
  simpa using this
 refine ⟨_, sl64 1 k (by omega), fun z hz => ?_⟩
 subst hz
 apply and_low
 have h1 : (1 : UInt64).toNat = 1 := rfl
 rw [h1, Nat.one_mul, Nat.mod_eq_of_lt hp]
 have h0 : 0 < 2 ^ k := Nat.two_pow_pos k
 have h2 := UInt64.toNat_sub_of_le (UInt64.ofNat (2 ^ k)) 1 (by rw [UInt64.le_iff_toNat_le, nat64 hp]; exact h0)
 rw [nat64 hp] at h2
 exact h2
theorem bz (x : Nat) (h : x < 18446744073709551616) : (((UInt64.toNat (UInt64.ofNat x) : Nat) : Int) == ((UInt64.toNat 0 : Nat) : Int)) = decide (x = 0) := by
 rw [nat64 h, Bool.eq_iff_iff, beq_iff_eq, decide_eq_true_eq]
 exact Int.natCast_inj
theorem sgn_shl (n : UInt64) (k : Nat) (hk : k ≤ 32) : @Eq (Option UInt64) (shlK .u64 (UInt64.ofNat (n.toNat / 2 ^ 63)) (k : Int)) (some (UInt64.ofNat (n.toNat / 9223372036854775808 * 2 ^ k))) := by
 have h := n.toNat_lt
 have h2 : n.toNat / 9223372036854775808 * 2 ^ k ≤ 1 * 2 ^ 32 := Nat.mul_le_mul (by omega) (Nat.pow_le_pow_right (by omega) hk)
 rw [sl64 _ k (by omega), nat64 (by omega)]
 exact congrArg (fun z => some (UInt64.ofNat z)) (Nat.mod_eq_of_lt (Nat.lt_of_le_of_lt h2 (by omega)))
theorem nar8 (n : UInt64) : m_coresecref01_Narrow n 8 23 = some (UInt64.ofNat (narV8 n.toNat), narB8 n.toNat) := by
 have hn := n.toNat_lt
 have hm := mOf_lt n.toNat
 have he := eOf_lt n.toNat
 unfold m_coresecref01_Narrow
 refine bnd_of (sr64 n 63 (by omega)) ?_
 rw [letm_e, letm_e, show toU64 (w64 (8 + 23)) = 31 from by kernel_rfl]
 refine bnd_of (sgn_shl n 31 (by omega)) ?_
 refine bnd_of (sr64 n 52 (by omega)) ?_
 rw [letm_e, letm_e, eOf_eq, letm_e, mOf_eq, letm_e]
 refine bnd_of (y := 256) (by kernel_rfl) ?_
 rw [letm_e, letm_e, letm_e]
 refine bnd_of (y := 128) (by kernel_rfl) ?_
 rw [letm_e, letm_e, show w64 (128 - 1) = 127 from by kernel_rfl, show w64 (256 - 1) = 255 from by kernel_rfl]
 unfold narV8 narB8
 by_cases h1 : eOf n.toNat = 2047
 ·rw [if_pos h1, if_pos h1, show (((eOf n.toNat : Nat) : Int) == 2047) = true from by rw [h1]; rfl, cd_t, letm_e, letm_e]
  refine bnd_of (y := (2139095040 : UInt64)) (by kernel_rfl) ?_
  rw [letm_e, letm_e, eqz, or_add (UInt64.ofNat (n.toNat / 9223372036854775808 * 2 ^ 31)) 2139095040 31 (n.toNat / 9223372036854775808) (by rw [nat64 (by omega), Nat.mul_comm]) (by decide), nat64 (by omega)]
  rfl
 rw [if_neg h1, if_neg h1, show (((eOf n.toNat : Nat) : Int) == 2047) = false from by rw [← Bool.not_eq_true, beq_iff_eq]; omega, cd_f, letm_e]
 by_cases h2 : eOf n.toNat = 0
 ·rw [if_pos h2, if_pos h2, show (((eOf n.toNat : Nat) : Int) == 0) = true from by rw [h2]; rfl, cd_t, letm_e, eqz]
 rw [if_neg h2, if_neg h2, show (((eOf n.toNat : Nat) : Int) == 0) = false from by rw [← Bool.not_eq_true, beq_iff_eq]; omega, cd_f, letm_e, letm_e, letm_e,
  w64_of (x := ((eOf n.toNat : Nat) : Int) - 1023) (by omega) (by omega), w64_of (by omega) (by omega)]
 by_cases h3 : 1151 ≤ eOf n.toNat
 ·rw [if_pos h3, if_pos h3, decide_eq_true (by omega), cd_t]
  rfl
 rw [if_neg h3, if_neg h3, decide_eq_false (by omega), cd_f, letm_e]
 by_cases h4 : 896 < eOf n.toNat
 ·rw [if_pos h4, if_pos h4, decide_eq_true (by omega), cd_t, letm_e, letm_e, show ((eOf n.toNat : Nat) : Int) - 1023 + 127 = ((eOf n.toNat - 896 : Nat) : Int) by omega, toU64_nat']
  refine bnd_of (sl64 _ 23 (by omega)) ?_
  rw [nat64 (n := eOf n.toNat - 896) (by omega), letm_e, letm_e, letm_e]
  refine bnd_of (sr64 _ 29 (by omega)) ?_
  rw [letm_e, letm_e, letm_e, mNat]
  obtain ⟨y, hy, hz⟩ := low_and (UInt64.ofNat (mOf n.toNat)) 29 (by omega)
  refine bnd_of hy ?_
  rw [letm_e, letm_e, hz _ rfl, letm_e, mNat, bz _ (by omega)]
  rw [or_add (UInt64.ofNat (n.toNat / 9223372036854775808 * 2 ^ 31)) (UInt64.ofNat ((eOf n.toNat - 896) * 2 ^ 23 % 18446744073709551616)) 31 (n.toNat / 9223372036854775808) (by rw [nat64 (by omega), Nat.mul_comm]) (by rw [nat64 (by omega)]; omega), nat64 (n := n.toNat / 9223372036854775808 * 2 ^ 31) (by omega), nat64 (n := (eOf n.toNat - 896) * 2 ^ 23 % 18446744073709551616) (by omega)]
  rw [or_add _ (UInt64.ofNat (mOf n.toNat / 2 ^ 29)) 23 (n.toNat / 9223372036854775808 * 256 + (eOf n.toNat - 896)) (by rw [nat64 (by omega)]; omega) (by rw [nat64 (by omega)]; omega), nat64 (n := mOf n.toNat / 2 ^ 29) (by omega), nat64 (by omega)]
  refine congrArg some (Prod.ext (congrArg UInt64.ofNat ?_) rfl)
  show _ = n.toNat / 9223372036854775808 * 2147483648 + (eOf n.toNat - 896) * 8388608 + mOf n.toNat / 536870912
  omega
 rw [if_neg h4, if_neg h4, decide_eq_false (by omega), cd_f, letm_e, full_eq, letm_e, letm_e, show w64 (53 - 23) = 30 from by kernel_rfl, w64_of (by omega) (by omega), letm_e]
 by_cases h5 : eOf n.toNat < 874
 ·rw [if_pos h5, if_pos h5, decide_eq_true (by omega), cd_t]
  rfl
 rw [if_neg h5, if_neg h5, decide_eq_false (by omega), cd_f, letm_e, show (30 : Int) - (((eOf n.toNat : Nat) : Int) - 1023 + 127) = ((926 - eOf n.toNat : Nat) : Int) by omega, toU64_nat', nat64 (n := 926 - eOf n.toNat) (by omega)]
 refine bnd_of (sr64 _ _ (by omega)) ?_
 rw [letm_e, letm_e, nat64 (n := 926 - eOf n.toNat) (by omega)]
 obtain ⟨y, hy, hz⟩ := low_and (UInt64.ofNat (mOf n.toNat + 4503599627370496)) (926 - eOf n.toNat) (by omega)
 refine bnd_of hy ?_
 have hd : (mOf n.toNat + 4503599627370496) / 2 ^ (926 - eOf n.toNat) < 16777216 := by
  have h30 : 2 ^ 30 ≤ 2 ^ (926 - eOf n.toNat) := Nat.pow_le_pow_right (by omega) (by omega)
  exact Nat.div_lt_of_lt_mul (Nat.lt_of_lt_of_le (by omega) (Nat.mul_le_mul_right 16777216 h30))
 rw [letm_e, letm_e, hz _ rfl, letm_e, nat64 (n := mOf n.toNat + 4503599627370496) (by omega), bz _ (Nat.lt_of_le_of_lt (Nat.mod_le _ _) (by omega))]
 rw [or_add (UInt64.ofNat (n.toNat / 9223372036854775808 * 2 ^ 31)) (UInt64.ofNat ((mOf n.toNat + 4503599627370496) / 2 ^ (926 - eOf n.toNat))) 31 (n.toNat / 9223372036854775808) (by rw [nat64 (by omega), Nat.mul_comm]) (by rw [nat64 (by omega)]; omega), nat64 (n := n.toNat / 9223372036854775808 * 2 ^ 31) (by omega), nat64 (n := (mOf n.toNat + 4503599627370496) / 2 ^ (926 - eOf n.toNat)) (by omega)]
def narV5 (n : Nat) : Nat :=
 if eOf n = 2047 then n / 9223372036854775808 * 32768 + 31744 else if eOf n = 0 then n / 9223372036854775808 * 32768
 else if 1039 ≤ eOf n then 0 else if 1008 < eOf n then n / 9223372036854775808 * 32768 + (eOf n - 1008) * 1024 + mOf n / 4398046511104
 else if eOf n < 999 then 0 else n / 9223372036854775808 * 32768 + (mOf n + 4503599627370496) / 2 ^ (1051 - eOf n)
def narB5 (n : Nat) : Bool :=
 if eOf n = 2047 then decide (mOf n = 0) else if eOf n = 0 then decide (mOf n = 0)
 else if 1039 ≤ eOf n then false else if 1008 < eOf n then decide (mOf n % 4398046511104 = 0)
 else if eOf n < 999 then false else decide ((mOf n + 4503599627370496) % 2 ^ (1051 - eOf n) = 0)
theorem nar5 (n : UInt64) : m_coresecref01_Narrow n 5 10 = some (UInt64.ofNat (narV5 n.toNat), narB5 n.toNat) := by
 have hn := n.toNat_lt
 have hm := mOf_lt n.toNat
 have he := eOf_lt n.toNat
 unfold m_coresecref01_Narrow
 refine bnd_of (sr64 n 63 (by omega)) ?_
 rw [letm_e, letm_e, show toU64 (w64 (5 + 10)) = 15 from by kernel_rfl]
 refine bnd_of (sgn_shl n 15 (by omega)) ?_
 refine bnd_of (sr64 n 52 (by omega)) ?_
 rw [letm_e, letm_e, eOf_eq, letm_e, mOf_eq, letm_e]
 refine bnd_of (y := 32) (by kernel_rfl) ?_
 rw [letm_e, letm_e, letm_e]
 refine bnd_of (y := 16) (by kernel_rfl) ?_
 rw [letm_e, letm_e, show w64 (16 - 1) = 15 from by kernel_rfl, show w64 (32 - 1) = 31 from by kernel_rfl]
 unfold narV5 narB5
 by_cases h1 : eOf n.toNat = 2047
 ·rw [if_pos h1, if_pos h1, show (((eOf n.toNat : Nat) : Int) == 2047) = true from by rw [h1]; rfl, cd_t, letm_e, letm_e]
  refine bnd_of (y := (31744 : UInt64)) (by kernel_rfl) ?_
  rw [letm_e, letm_e, eqz, or_add (UInt64.ofNat (n.toNat / 9223372036854775808 * 2 ^ 15)) 31744 15 (n.toNat / 9223372036854775808) (by rw [nat64 (by omega), Nat.mul_comm]) (by decide), nat64 (by omega)]
  rfl
 rw [if_neg h1, if_neg h1, show (((eOf n.toNat : Nat) : Int) == 2047) = false from by rw [← Bool.not_eq_true, beq_iff_eq]; omega, cd_f, letm_e]
 by_cases h2 : eOf n.toNat = 0
 ·rw [if_pos h2, if_pos h2, show (((eOf n.toNat : Nat) : Int) == 0) = true from by rw [h2]; rfl, cd_t, letm_e, eqz]
 rw [if_neg h2, if_neg h2, show (((eOf n.toNat : Nat) : Int) == 0) = false from by rw [← Bool.not_eq_true, beq_iff_eq]; omega, cd_f, letm_e, letm_e, letm_e,
  w64_of (x := ((eOf n.toNat : Nat) : Int) - 1023) (by omega) (by omega), w64_of (by omega) (by omega)]
 by_cases h3 : 1039 ≤ eOf n.toNat
 ·rw [if_pos h3, if_pos h3, decide_eq_true (by omega), cd_t]
  rfl
 rw [if_neg h3, if_neg h3, decide_eq_false (by omega), cd_f, letm_e]
 by_cases h4 : 1008 < eOf n.toNat
 ·rw [if_pos h4, if_pos h4, decide_eq_true (by omega), cd_t, letm_e, letm_e, show ((eOf n.toNat : Nat) : Int) - 1023 + 15 = ((eOf n.toNat - 1008 : Nat) : Int) by omega, toU64_nat']
  refine bnd_of (sl64 _ 10 (by omega)) ?_
  rw [nat64 (n := eOf n.toNat - 1008) (by omega), letm_e, letm_e, letm_e]
  refine bnd_of (sr64 _ 42 (by omega)) ?_
  rw [letm_e, letm_e, letm_e, mNat]
  obtain ⟨y, hy, hz⟩ := low_and (UInt64.ofNat (mOf n.toNat)) 42 (by omega)
  refine bnd_of hy ?_
  rw [letm_e, letm_e, hz _ rfl, letm_e, mNat, bz _ (by omega)]
  rw [or_add (UInt64.ofNat (n.toNat / 9223372036854775808 * 2 ^ 15)) (UInt64.ofNat ((eOf n.toNat - 1008) * 2 ^ 10 % 18446744073709551616)) 15 (n.toNat / 9223372036854775808) (by rw [nat64 (by omega), Nat.mul_comm]) (by rw [nat64 (by omega)]; omega), nat64 (n := n.toNat / 9223372036854775808 * 2 ^ 15) (by omega), nat64 (n := (eOf n.toNat - 1008) * 2 ^ 10 % 18446744073709551616) (by omega)]
  rw [or_add _ (UInt64.ofNat (mOf n.toNat / 2 ^ 42)) 10 (n.toNat / 9223372036854775808 * 32 + (eOf n.toNat - 1008)) (by rw [nat64 (by omega)]; omega) (by rw [nat64 (by omega)]; omega), nat64 (n := mOf n.toNat / 2 ^ 42) (by omega), nat64 (by omega)]
  refine congrArg some (Prod.ext (congrArg UInt64.ofNat ?_) rfl)
  show _ = n.toNat / 9223372036854775808 * 32768 + (eOf n.toNat - 1008) * 1024 + mOf n.toNat / 4398046511104
  omega
 rw [if_neg h4, if_neg h4, decide_eq_false (by omega), cd_f, letm_e, full_eq, letm_e, letm_e, show w64 (53 - 10) = 43 from by kernel_rfl, w64_of (by omega) (by omega), letm_e]
 by_cases h5 : eOf n.toNat < 999
 ·rw [if_pos h5, if_pos h5, decide_eq_true (by omega), cd_t]
  rfl
 rw [if_neg h5, if_neg h5, decide_eq_false (by omega), cd_f, letm_e, show (43 : Int) - (((eOf n.toNat : Nat) : Int) - 1023 + 15) = ((1051 - eOf n.toNat : Nat) : Int) by omega, toU64_nat', nat64 (n := 1051 - eOf n.toNat) (by omega)]
 refine bnd_of (sr64 _ _ (by omega)) ?_
 rw [letm_e, letm_e, nat64 (n := 1051 - eOf n.toNat) (by omega)]
 obtain ⟨y, hy, hz⟩ := low_and (UInt64.ofNat (mOf n.toNat + 4503599627370496)) (1051 - eOf n.toNat) (by omega)
 refine bnd_of hy ?_
 have hd : (mOf n.toNat + 4503599627370496) / 2 ^ (1051 - eOf n.toNat) < 2048 := by
  have h30 : 2 ^ 43 ≤ 2 ^ (1051 - eOf n.toNat) := Nat.pow_le_pow_right (by omega) (by omega)
  exact Nat.div_lt_of_lt_mul (Nat.lt_of_lt_of_le (by omega) (Nat.mul_le_mul_right 2048 h30))
 rw [letm_e, letm_e, hz _ rfl, letm_e, nat64 (n := mOf n.toNat + 4503599627370496) (by omega), bz _ (Nat.lt_of_le_of_lt (Nat.mod_le _ _) (by omega))]
 rw [or_add (UInt64.ofNat (n.toNat / 9223372036854775808 * 2 ^ 15)) (UInt64.ofNat ((mOf n.toNat + 4503599627370496) / 2 ^ (1051 - eOf n.toNat))) 15 (n.toNat / 9223372036854775808) (by rw [nat64 (by omega), Nat.mul_comm]) (by rw [nat64 (by omega)]; omega), nat64 (n := n.toNat / 9223372036854775808 * 2 ^ 15) (by omega), nat64 (n := (mOf n.toNat + 4503599627370496) / 2 ^ (1051 - eOf n.toNat)) (by omega)]
theorem wid_form (s n : Nat) (hs : s < 4294967296) (h : floatToFloatBits .f32 s .f64 = some n) :
  n / 9223372036854775808 = s / 2147483648 ∧ ((s % 2147483648 = 0 ∧ n % 9223372036854775808 = 0) ∨ (s % 2147483648 = 2139095040 ∧ n % 9223372036854775808 = 9218868437227405312) ∨
   (8388608 ≤ s % 2147483648 ∧ s % 2147483648 < 2139095040 ∧ n % 9223372036854775808 = s % 2147483648 * 536870912 + 4035225266123964416) ∨
   (0 < s % 2147483648 ∧ s % 2147483648 < 8388608 ∧ ∃ L, L ≤ 22 ∧ 2 ^ L ≤ s % 2147483648 ∧ s % 2147483648 < 2 ^ (L + 1) ∧ n % 9223372036854775808 = (L + 873) * 4503599627370496 + s % 2147483648 * 2 ^ (52 - L))) := by
 have hd : FloatKind.f32.decode s = single.read s := rfl
 have hW : ∀ (neg : Bool) (x y : Nat), x < 2147483648 → y < 9223372036854775808 → s = single.word neg x → double.word neg y / 9223372036854775808 = s / 2147483648 ∧ double.word neg y % 9223372036854775808 = y ∧ s % 2147483648 = x := by
  intro neg x y hx hy e
  subst e
  unfold Format.word
  rw [d_sw, s_sw]
  cases neg <;> simp <;> omega
 rcases Nat.lt_trichotomy (s % 2147483648) 2139095040 with hr | hr | hr
 ·unfold floatToFloatBits at h
  rw [if_neg (by decide), hd] at h
  obtain ⟨neg, m, p, e1, e2, h1, h3⟩ := read32 s hs hr
  rw [e1] at h
  simp only at h
  split at h
  ·cases h
  ·cases h
   have he : FloatKind.f64.encode (.number neg m p) = double.nearest neg m p := rfl
   rw [he]
   rcases h3 with ⟨h0, rfl⟩ | ⟨hm, hL, h2, h4, h5⟩
   ·rw [show double.nearest neg 0 p = double.word neg 0 by unfold Format.nearest; rw [if_pos rfl]]
    have := hW neg _ 0 (by omega) (by omega) e2
    exact ⟨this.1, .inl ⟨h0, this.2.1⟩⟩
   ·rw [enc64 neg m p hm hL h1 h2]
    have hb := bnd52 hm (by omega)
    have hl1 := Nat.log2_self_le hm
    have hl2 := Nat.lt_log2_self (n := m)
    have hy : (p + (m.log2 : Int) + 1022).toNat * 4503599627370496 + m * 2 ^ (52 - m.log2) < 9223372036854775808 := by
     generalize m * 2 ^ (52 - m.log2) = M at hb
     omega
    have := hW neg _ _ (by omega) hy e2
    refine ⟨this.1, .inr (.inr ?_)⟩
    rw [this.2.1]
    by_cases h23 : m.log2 = 23
    ·refine .inl ?_
     rw [h23] at hl1 hl2 h2 ⊢
     rw [show (2 : Nat) ^ (52 - 23) = 536870912 from rfl]
     rw [show (2 : Nat) ^ 23 = 8388608 from rfl] at hl1
     rw [show (2 : Nat) ^ (23 + 1) = 16777216 from rfl] at hl2
     omega
    ·refine .inr ?_
     have hp : p = -149 := by omega
     have h8 : m < 8388608 := Nat.lt_of_lt_of_le hl2 (show 2 ^ (m.log2 + 1) ≤ 2 ^ 23 from Nat.pow_le_pow_right (by omega) (by omega))
     have hm' : s % 2147483648 = m := by omega
     refine ⟨by omega, by omega, m.log2, by omega, by omega, by omega, ?_⟩
     rw [hm', hp, show ((-149 : Int) + (m.log2 : Int) + 1022).toNat = m.log2 + 873 by omega]
 ·obtain ⟨neg, e1, e2⟩ := read_inf32 s hs hr
  unfold floatToFloatBits at h
  rw [if_neg (by decide), hd, e1] at h
  cases h
  rw [s_inf] at e2
  have := hW neg _ 9218868437227405312 (by omega) (by omega) e2
  have hE : FloatKind.f64.encode (.infinity neg) = double.word neg 9218868437227405312 := by cases neg <;> decide
  rw [hE]
  exact ⟨this.1, .inr (.inl ⟨hr, this.2.1⟩)⟩
 ·obtain ⟨_, _, e⟩ := f32_nan s hr
  unfold floatToFloatBits at h
  rw [if_neg (by decide), hd, e] at h
  cases h
theorem f32of_nar (n : Nat) (hn : n < 18446744073709551616) (hq : n % 9223372036854775808 ≤ 9218868437227405312) : f32of n = if narB8 n then some (narV8 n) else none := by
 have h64 := eOf_lt n
 have hmm := mOf_lt n
 have hnm : n = n / 9223372036854775808 * 9223372036854775808 + eOf n * 4503599627370496 + mOf n := by unfold eOf mOf; omega
 have hr : n % 9223372036854775808 = eOf n * 4503599627370496 + mOf n := by omega
 -- what any answer is
 have A : ∀ s, f32of n = some s → narB8 n = true ∧ narV8 n = s := by
  intro s h
  obtain ⟨hs, hw⟩ := (f32of_some hn).1 h
  obtain ⟨e1, h3⟩ := wid_form s n hs hw
  unfold narB8 narV8
  rcases h3 with ⟨a, b⟩ | ⟨a, b⟩ | ⟨a, a2, b⟩ | ⟨a, a2, L, hL, l1, l2, b⟩
  ·have hE : eOf n = 0 := by omega
   have hM : mOf n = 0 := by omega
   rw [hE, hM]
   refine ⟨by simp, ?_⟩
   simp
   omega
  ·have hE : eOf n = 2047 := by omega
   have hM : mOf n = 0 := by omega
   rw [hE, hM]
   refine ⟨by simp, ?_⟩
   simp
   omega
  ·have hE : eOf n = s % 2147483648 / 8388608 + 896 := by omega
   have hM : mOf n = s % 2147483648 % 8388608 * 536870912 := by omega
   rw [if_neg (by omega), if_neg (by omega), if_neg (by omega), if_pos (by omega), if_neg (by omega), if_neg (by omega), if_neg (by omega), if_pos (by omega)]
   refine ⟨decide_eq_true (by omega), by omega⟩
  ·have hp : 4503599627370496 ≤ s % 2147483648 * 2 ^ (52 - L) ∧ s % 2147483648 * 2 ^ (52 - L) < 9007199254740992 := by
    have e1 : 2 ^ L * 2 ^ (52 - L) = 4503599627370496 := by rw [← Nat.pow_add, show L + (52 - L) = 52 by omega]
    have e2 : 2 ^ (L + 1) * 2 ^ (52 - L) = 9007199254740992 := by rw [← Nat.pow_add, show L + 1 + (52 - L) = 53 by omega]
    constructor
    ·rw [← e1]; exact Nat.mul_le_mul_right _ l1
    ·rw [← e2]; exact Nat.mul_lt_mul_of_pos_right l2 (Nat.two_pow_pos _)
   have hE : eOf n = L + 874 := by
    generalize s % 2147483648 * 2 ^ (52 - L) = M at hp b
    omega
   have hM : mOf n + 4503599627370496 = s % 2147483648 * 2 ^ (52 - L) := by
    generalize s % 2147483648 * 2 ^ (52 - L) = M at hp b
    omega
   rw [if_neg (by omega), if_neg (by omega), if_neg (by omega), if_neg (by omega), if_neg (by omega), if_neg (by omega), if_neg (by omega), if_neg (by omega), if_neg (by omega), if_neg (by omega)]
   rw [hM, show 926 - eOf n = 52 - L by omega, Nat.mul_mod_left, Nat.mul_div_cancel _ (Nat.two_pow_pos _)]
   exact ⟨rfl, by omega⟩
 -- what is found stands for the float
 have B : narB8 n = true → ∃ s, s < 4294967296 ∧ s % 2147483648 ≤ 2139095040 ∧ (∀ n', n' < 18446744073709551616 → floatToFloatBits .f32 s .f64 = some n' → n' = n) := by
  intro hb
  have hv : ∀ a : Nat, a < 2147483648 → (n / 9223372036854775808 * 2147483648 + a) % 2147483648 = a ∧ (n / 9223372036854775808 * 2147483648 + a) / 2147483648 = n / 9223372036854775808 := fun a ha => by omega
  have fin : ∀ a : Nat, a ≤ 2139095040 → (∀ x, ((a = 0 ∧ x = 0) ∨ (a = 2139095040 ∧ x = 9218868437227405312) ∨ (8388608 ≤ a ∧ a < 2139095040 ∧ x = a * 536870912 + 4035225266123964416) ∨ (0 < a ∧ a < 8388608 ∧ ∃ L, L ≤ 22 ∧ 2 ^ L ≤ a ∧ a < 2 ^ (L + 1) ∧ x = (L + 873) * 4503599627370496 + a * 2 ^ (52 - L))) → x = n % 9223372036854775808) → ∃ s, s < 4294967296 ∧ s % 2147483648 ≤ 2139095040 ∧ (∀ n', n' < 18446744073709551616 → floatToFloatBits .f32 s .f64 = some n' → n' = n) := by
   intro a ha hx
   have h1 := hv a (by omega)
   refine ⟨n / 9223372036854775808 * 2147483648 + a, by omega, by omega, fun n' hn' hw => ?_⟩
   obtain ⟨e1, h3⟩ := wid_form _ n' (by omega) hw
   rw [h1.1] at h3
   rw [h1.2] at e1
   have := hx _ h3
   omega
  unfold narB8 at hb
  by_cases c1 : eOf n = 2047
  ·rw [if_pos c1] at hb
   have hb := of_decide_eq_true hb
   exact fin 2139095040 (by omega) fun x hx => by rcases hx with hx | hx | hx | ⟨h1, h2, _⟩ <;> omega
  rw [if_neg c1] at hb
  by_cases c2 : eOf n = 0
  ·rw [if_pos c2] at hb
   have hb := of_decide_eq_true hb
   exact fin 0 (by omega) fun x hx => by rcases hx with hx | hx | hx | ⟨h1, h2, _⟩ <;> omega
  rw [if_neg c2] at hb
  by_cases c3 : 1151 ≤ eOf n
  ·rw [if_pos c3] at hb; cases hb
  rw [if_neg c3] at hb
  by_cases c4 : 896 < eOf n
  ·rw [if_pos c4] at hb
   have hb := of_decide_eq_true hb
   exact fin ((eOf n - 896) * 8388608 + mOf n / 536870912) (by omega) fun x hx => by rcases hx with hx | hx | hx | ⟨h1, h2, _⟩ <;> omega
  rw [if_neg c4] at hb
  by_cases c5 : eOf n < 874
  ·rw [if_pos c5] at hb; cases hb
  rw [if_neg c5] at hb
  have hb := of_decide_eq_true hb
  obtain ⟨L, hL⟩ : ∃ L, eOf n = L + 874 := ⟨eOf n - 874, by omega⟩
  have hs : 926 - eOf n = 52 - L := by omega
  rw [hs] at hb
  have hdm := Nat.div_add_mod (mOf n + 4503599627370496) (2 ^ (52 - L))
  rw [hb, Nat.add_zero, Nat.mul_comm] at hdm
  have hP := Nat.two_pow_pos (52 - L)
  have e1 : 2 ^ L * 2 ^ (52 - L) = 4503599627370496 := by rw [← Nat.pow_add, show L + (52 - L) = 52 by omega]
  have e2 : 2 ^ (L + 1) * 2 ^ (52 - L) = 9007199254740992 := by rw [← Nat.pow_add, show L + 1 + (52 - L) = 53 by omega]
  have g1 : 2 ^ L ≤ (mOf n + 4503599627370496) / 2 ^ (52 - L) := (Nat.le_div_iff_mul_le hP).2 (by omega)
  have g2 : (mOf n + 4503599627370496) / 2 ^ (52 - L) < 2 ^ (L + 1) := (Nat.div_lt_iff_lt_mul hP).2 (by omega)
  have g3 : 2 ^ (L + 1) ≤ 8388608 := show 2 ^ (L + 1) ≤ 2 ^ 23 from Nat.pow_le_pow_right (by omega) (by omega)
  have g0 : 0 < 2 ^ L := Nat.two_pow_pos L
  generalize (mOf n + 4503599627370496) / 2 ^ (52 - L) = a at hdm g1 g2
  refine fin a (by omega) fun x hx => ?_
  rcases hx with hx | hx | hx | ⟨_, _, L', hL', k1, k2, hx⟩
  ·omega
  ·omega
  ·omega
  ·have : L' = L := by
    rcases Nat.lt_trichotomy L' L with q | q | q
    ·have := Nat.pow_le_pow_right (n := 2) (by omega) (show L' + 1 ≤ L from q)
     omega
    ·exact q
    ·have := Nat.pow_le_pow_right (n := 2) (by omega) (show L + 1 ≤ L' from q)
     omega
   subst this
   rw [hdm] at hx
   omega
 cases hb : narB8 n with
 | false =>
  rw [if_neg (by simp)]
  cases hf : f32of n with
  | none => rfl
  | some s => rw [(A s hf).1] at hb; cases hb
 | true =>
  rw [if_pos rfl]
  obtain ⟨s, hs, hsr, hu⟩ := B hb
  obtain ⟨d, hd, hd2⟩ := wid_some s hs hsr
  have := hu d hd2 hd
  subst this
  have hf := (f32of_some hn).2 ⟨hs, hd⟩
  rw [hf, (A s hf).2]
theorem letm_of {α β : Type} {e y : α} {k : α → Option β} {r : Option β} (h : e = y) (h2 : k y = r) : letm e k = r := by
 subst h; exact h2
def halfV (s : Nat) : Nat :=
 if s / 8388608 % 256 = 255 then s / 2147483648 * 32768 + 31744 else if s / 8388608 % 256 = 0 then s / 2147483648 * 32768
 else if 113 ≤ s / 8388608 % 256 ∧ s / 8388608 % 256 ≤ 142 then s / 2147483648 * 32768 + (s / 8388608 % 256 - 112) * 1024 + s % 8388608 / 8192
 else if 103 ≤ s / 8388608 % 256 ∧ s / 8388608 % 256 < 113 then s / 2147483648 * 32768 + (s % 8388608 + 8388608) / 2 ^ (126 - s / 8388608 % 256) else 0
def halfB (s : Nat) : Bool :=
 if s / 8388608 % 256 = 255 then true else if s / 8388608 % 256 = 0 then decide (s % 8388608 = 0)
 else if 113 ≤ s / 8388608 % 256 ∧ s / 8388608 % 256 ≤ 142 then decide (s % 8388608 % 8192 = 0)
 else if 103 ≤ s / 8388608 % 256 ∧ s / 8388608 % 256 < 113 then decide ((s % 8388608 + 8388608) % 2 ^ (126 - s / 8388608 % 256) = 0) else false
theorem wrap16 (n : Int) : IntKind.u16.wrap n = n % 65536 := by
 unfold IntKind.wrap
 simp only [show IntKind.u16.signed = false from rfl, IntKind.bits]
 simp
theorem from16 {n : Int} (h0 : 0 ≤ n) (h1 : n < 65536) : (Gk.fromI .u16 n : Int) = n := by
 show IntKind.u16.wrap n = n
 rw [wrap16]; omega
theorem or16_add {a b : Int} (k c : Nat) (ha : a = ((2 ^ k * c : Nat) : Int)) (h0 : 0 ≤ b) (hb : b < ((2 ^ k : Nat) : Int)) (h1 : a < 65536) (h2 : b < 65536) : (bitK .or .u16 a b : Int) = a + b := by
 obtain ⟨y, rfl⟩ : ∃ y : Nat, b = (y : Int) := ⟨b.toNat, by omega⟩
 subst ha
 rw [or16 (by omega) (by omega), ← Nat.two_pow_add_eq_or_of_lt (by omega)]
 push_cast
 rfl
theorem bz32 (x : Nat) (h : x < 4294967296) : (((UInt32.toNat (UInt32.ofNat x) : Nat) : Int) == ((UInt32.toNat 0 : Nat) : Int)) = decide (x = 0) := by
 rw [nat32 h, Bool.eq_iff_iff, beq_iff_eq, decide_eq_true_eq]
 exact Int.natCast_inj
theorem low_and32 (x : UInt32) (k : Nat) (hk : k < 32) : ∃ y : UInt32, @Eq (Option UInt32) (shlK .u32 (1 : UInt32) (k : Int)) (some y) ∧ ∀ z : UInt32, z = y - 1 → (bitK .and .u32 x z : UInt32) = UInt32.ofNat (x.toNat % 2 ^ k) := by
 have hp : 2 ^ k < 4294967296 := by
  have := Nat.pow_lt_pow_right (a := 2) (by omega) hk
  simpa using this
 refine ⟨_, sl32 1 k (by omega), fun z hz => ?_⟩
 subst hz
 apply and32_low
 have h1 : (1 : UInt32).toNat = 1 := rfl
 rw [h1, Nat.one_mul, Nat.mod_eq_of_lt hp]
 have h0 : 0 < 2 ^ k := Nat.two_pow_pos k
 have h2 := UInt32.toNat_sub_of_le (UInt32.ofNat (2 ^ k)) 1 (by rw [UInt32.le_iff_toNat_le, nat32 hp]; exact h0)
 rw [nat32 hp] at h2
 exact h2
theorem half_eq (s : Nat) (hs : s < 4294967296) : m_cbor_half (UInt32.ofNat s) = some ((halfV s : Int), halfB s) := by
 have hS : (UInt32.ofNat s).toNat = s := nat32 hs
 unfold m_cbor_half
 refine bnd_of (sr32 _ 31 (by omega)) ?_
 refine bnd_of (sl32 _ 15 (by omega)) ?_
 rw [hS, nat32 (n := s / 2 ^ 31) (by omega), nat32 (n := s / 2 ^ 31 * 2 ^ 15 % 4294967296) (by omega), letm_e, from16 (by omega) (by omega)]
 refine bnd_of (sr32 _ 23 (by omega)) ?_
 rw [hS, letm_e, and32_low _ 8 255 rfl, letm_e, nat32 (n := s / 2 ^ 23) (by omega), nat32 (n := s / 2 ^ 23 % 2 ^ 8) (by omega), letm_e, w64_of (by omega) (by omega), and32_low _ 23 8388607 rfl, hS]
 rw [show s / 2 ^ 23 % 2 ^ 8 = s / 8388608 % 256 by rfl, show s % 2 ^ 23 = s % 8388608 by rfl, show s / 2 ^ 31 * 2 ^ 15 % 4294967296 = s / 2147483648 * 32768 by omega]
 have he : s / 8388608 % 256 < 256 := Nat.mod_lt _ (by omega)
 have hm : s % 8388608 < 8388608 := Nat.mod_lt _ (by omega)
 have hg : s / 2147483648 < 2 := by omega
 unfold halfV halfB
 generalize s / 8388608 % 256 = e at he ⊢
 generalize s % 8388608 = m at hm ⊢
 generalize s / 2147483648 = g at hg ⊢
 have bq : ∀ k : Int, ((e : Int) == k) = decide ((e : Int) = k) := fun k => by rw [Bool.eq_iff_iff, beq_iff_eq, decide_eq_true_eq]
 rw [letm_e, bq]
 by_cases h1 : e = 255
 ·rw [if_pos h1, if_pos h1, decide_eq_true (by omega), cd_t]
  refine letm_of (or16_add (b := 31744) 15 g (by omega) (by omega) (by omega) (by omega) (by omega)) ?_
  refine congrArg some (Prod.ext ?_ rfl)
  show ((g * 32768 : Nat) : Int) + 31744 = ((g * 32768 + 31744 : Nat) : Int)
  omega
 rw [if_neg h1, if_neg h1, decide_eq_false (by omega), cd_f, letm_e, bq]
 by_cases h2 : e = 0
 ·rw [if_pos h2, if_pos h2, decide_eq_true (by omega), cd_t, letm_e, bz32 _ (by omega)]
 rw [if_neg h2, if_neg h2, decide_eq_false (by omega), cd_f, letm_e, letm_e, cd_and, bnd_s]
 by_cases h3 : 113 ≤ e ∧ e ≤ 142
 ·rw [if_pos h3, if_pos h3, show (decide ((113 : Int) ≤ (e : Int)) && decide ((e : Int) ≤ 142)) = true by rw [decide_eq_true (by omega), decide_eq_true (by omega)]; rfl, cd_t, letm_e, w64_of (by omega) (by omega)]
  refine letm_of (from16 (n := (e : Int) - 112) (by omega) (by omega)) ?_
  refine bnd_of (y := ((((e - 112) * 1024 : Nat) : Int) : kden .u16)) ?_ ?_
  ·refine congrArg some ((from16 (n := ((e : Int) - 112) * 2 ^ 10) (by omega) (by omega)).trans ?_)
   show ((e : Int) - 112) * 2 ^ 10 = (((e - 112) * 1024 : Nat) : Int)
   omega
  refine letm_of (or16_add 15 g (by omega) (by omega) (by omega) (by omega) (by omega)) ?_
  refine bnd_of (sr32 _ 13 (by omega)) ?_
  rw [nat32 (n := m) (by omega), nat32 (n := m / 2 ^ 13) (by omega)]
  refine letm_of (from16 (by omega) (by omega)) ?_
  refine letm_of (or16_add 10 (g * 32 + (e - 112)) (by omega) (by omega) (by omega) (by omega) (by omega)) ?_
  rw [letm_e, and32_low _ 13 8191 rfl, nat32 (n := m) (by omega), letm_e, bz32 _ (by omega)]
  refine congrArg some (Prod.ext ?_ rfl)
  show ((g * 32768 : Nat) : Int) + (((e - 112) * 1024 : Nat) : Int) + ((m / 2 ^ 13 : Nat) : Int) = ((g * 32768 + (e - 112) * 1024 + m / 8192 : Nat) : Int)
  omega
 rw [if_neg h3, if_neg h3, show (decide ((113 : Int) ≤ (e : Int)) && decide ((e : Int) ≤ 142)) = false by rw [← Bool.not_eq_true, Bool.and_eq_true, decide_eq_true_eq, decide_eq_true_eq]; omega, cd_f, letm_e, letm_e, cd_and, bnd_s]
 by_cases h4 : 103 ≤ e ∧ e < 113
 ·rw [if_pos h4, if_pos h4, show (decide ((103 : Int) ≤ (e : Int)) && decide ((e : Int) < 113)) = true by rw [decide_eq_true (by omega), decide_eq_true (by omega)]; rfl, cd_t, letm_e, w64_of (by omega) (by omega), letm_e]
  have ho : (bitK .or .u32 (UInt32.ofNat m) (8388608 : UInt32) : UInt32) = UInt32.ofNat (m + 8388608) := by
   have hm8 : (8388608 : UInt32).toNat = 8388608 := rfl
   rw [or32, nat32 (n := m) (by omega), Nat.or_comm, hm8]
   have := Nat.two_pow_add_eq_or_of_lt (i := 23) (b := m) (by omega) 1
   rw [show (2 : Nat) ^ 23 * 1 = 8388608 from rfl] at this
   rw [← this, Nat.add_comm]
  have hk : (toU64 (126 - (e : Int))).toNat = 126 - e := by
   rw [show (126 : Int) - (e : Int) = ((126 - e : Nat) : Int) by omega, toU64_toNat (by omega)]
  refine letm_of ho ?_
  rw [hk]
  refine bnd_of (sr32 _ _ (by omega)) ?_
  have hd : (m + 8388608) / 2 ^ (126 - e) < 1024 + 1024 := by
   have h14 : 2 ^ 14 ≤ 2 ^ (126 - e) := Nat.pow_le_pow_right (by omega) (by omega)
   exact Nat.div_lt_of_lt_mul (Nat.lt_of_lt_of_le (by omega) (Nat.mul_le_mul_right 2048 h14))
  rw [nat32 (n := m + 8388608) (by omega)]
  generalize (m + 8388608) / 2 ^ (126 - e) = D at hd ⊢
  rw [nat32 (n := D) (by omega)]
  refine letm_of (from16 (by omega) (by omega)) ?_
  refine letm_of (or16_add 15 g (by omega) (by omega) (by omega) (by omega) (by omega)) ?_
  obtain ⟨y, hy, hz⟩ := low_and32 (UInt32.ofNat (m + 8388608)) (126 - e) (by omega)
  refine bnd_of hy ?_
  rw [letm_e, letm_e, hz _ rfl, letm_e, nat32 (n := m + 8388608) (by omega), bz32 _ (Nat.lt_of_le_of_lt (Nat.mod_le _ _) (by omega))]
  refine congrArg some (Prod.ext ?_ rfl)
  show ((g * 32768 : Nat) : Int) + ((D : Nat) : Int) = ((g * 32768 + D : Nat) : Int)
  omega
 rw [if_neg h4, if_neg h4, show (decide ((103 : Int) ≤ (e : Int)) && decide ((e : Int) < 113)) = false by rw [← Bool.not_eq_true, Bool.and_eq_true, decide_eq_true_eq, decide_eq_true_eq]; omega, cd_f]
 rfl
theorem half_nar (n : Nat) (hn : n < 18446744073709551616) (hq : n % 9223372036854775808 ≤ 9218868437227405312) (h8 : narB8 n = true) : halfB (narV8 n) = narB5 n ∧ (narB5 n = true → halfV (narV8 n) = narV5 n) := by
 have h64 := eOf_lt n
 have hmm := mOf_lt n
 have hg : n / 9223372036854775808 < 2 := by omega
 unfold narB8 at h8
 unfold narV8 narB5 narV5
 by_cases c1 : eOf n = 2047
 ·rw [if_pos c1] at h8
  have hb := of_decide_eq_true h8
  simp only [if_pos c1, hb]
  unfold halfB halfV
  rw [if_pos (by omega), if_pos (by omega)]
  exact ⟨rfl, fun _ => by omega⟩
 simp only [if_neg c1] at h8 ⊢
 by_cases c2 : eOf n = 0
 ·simp only [if_pos c2] at h8 ⊢
  have hb := of_decide_eq_true h8
  unfold halfB halfV
  rw [if_neg (by omega), if_pos (by omega), if_neg (by omega), if_pos (by omega), hb]
  exact ⟨decide_eq_true (by omega), fun _ => by omega⟩
 simp only [if_neg c2] at h8 ⊢
 by_cases c3 : 1151 ≤ eOf n
 ·rw [if_pos c3] at h8; cases h8
 simp only [if_neg c3] at h8 ⊢
 by_cases c4 : 896 < eOf n
 ·simp only [if_pos c4] at h8 ⊢
  have hb := of_decide_eq_true h8
  have hE : (n / 9223372036854775808 * 2147483648 + (eOf n - 896) * 8388608 + mOf n / 536870912) / 8388608 % 256 = eOf n - 896 := by omega
  have hM : (n / 9223372036854775808 * 2147483648 + (eOf n - 896) * 8388608 + mOf n / 536870912) % 8388608 = mOf n / 536870912 := by omega
  have hG : (n / 9223372036854775808 * 2147483648 + (eOf n - 896) * 8388608 + mOf n / 536870912) / 2147483648 = n / 9223372036854775808 := by omega
  unfold halfB halfV
  rw [hE, hM, hG]
  rw [if_neg (show ¬ eOf n - 896 = 255 by omega), if_neg (show ¬ eOf n - 896 = 255 by omega), if_neg (show ¬ eOf n - 896 = 0 by omega), if_neg (show ¬ eOf n - 896 = 0 by omega)]
  by_cases d1 : 1039 ≤ eOf n
  ·rw [if_neg (show ¬ (113 ≤ eOf n - 896 ∧ eOf n - 896 ≤ 142) by omega), if_neg (show ¬ (113 ≤ eOf n - 896 ∧ eOf n - 896 ≤ 142) by omega), if_neg (show ¬ (103 ≤ eOf n - 896 ∧ eOf n - 896 < 113) by omega), if_neg (show ¬ (103 ≤ eOf n - 896 ∧ eOf n - 896 < 113) by omega), if_pos d1, if_pos d1]
   exact ⟨rfl, fun h => rfl⟩
  rw [if_neg d1, if_neg d1]
  by_cases d2 : 1008 < eOf n
  ·rw [if_pos (show (113 ≤ eOf n - 896 ∧ eOf n - 896 ≤ 142) by omega), if_pos (show (113 ≤ eOf n - 896 ∧ eOf n - 896 ≤ 142) by omega), if_pos d2, if_pos d2]
   refine ⟨?_, fun h => by omega⟩
   rw [Bool.eq_iff_iff, decide_eq_true_eq, decide_eq_true_eq]
   omega
  rw [if_neg d2, if_neg d2, if_neg (show ¬ (113 ≤ eOf n - 896 ∧ eOf n - 896 ≤ 142) by omega), if_neg (show ¬ (113 ≤ eOf n - 896 ∧ eOf n - 896 ≤ 142) by omega)]
  by_cases d3 : eOf n < 999
  ·rw [if_pos d3, if_pos d3, if_neg (show ¬ (103 ≤ eOf n - 896 ∧ eOf n - 896 < 113) by omega), if_neg (show ¬ (103 ≤ eOf n - 896 ∧ eOf n - 896 < 113) by omega)]
   exact ⟨rfl, fun _ => rfl⟩
  rw [if_neg d3, if_neg d3, if_pos (show (103 ≤ eOf n - 896 ∧ eOf n - 896 < 113) by omega), if_pos (show (103 ≤ eOf n - 896 ∧ eOf n - 896 < 113) by omega)]
  have e1 : mOf n + 4503599627370496 = (mOf n / 536870912 + 8388608) * 536870912 := by omega
  have e2 : 2 ^ (1051 - eOf n) = 2 ^ (126 - (eOf n - 896)) * 536870912 := by
   rw [show 1051 - eOf n = 126 - (eOf n - 896) + 29 by omega, Nat.pow_add]
  rw [e1, e2, Nat.mul_div_mul_right _ _ (by omega), Nat.mul_mod_mul_right]
  refine ⟨?_, fun h => rfl⟩
  rw [Bool.eq_iff_iff, decide_eq_true_eq, decide_eq_true_eq]
  omega
 simp only [if_neg c4] at h8 ⊢
 by_cases c5 : eOf n < 874
 ·rw [if_pos c5] at h8; cases h8
 simp only [if_neg c5] at h8 ⊢
 have hb := of_decide_eq_true h8
 rw [if_neg (show ¬ 1039 ≤ eOf n by omega), if_neg (show ¬ 1039 ≤ eOf n by omega), if_neg (show ¬ 1008 < eOf n by omega), if_neg (show ¬ 1008 < eOf n by omega), if_pos (show eOf n < 999 by omega), if_pos (show eOf n < 999 by omega)]
 have hd : (mOf n + 4503599627370496) / 2 ^ (926 - eOf n) < 8388608 ∧ 0 < (mOf n + 4503599627370496) / 2 ^ (926 - eOf n) := by
  have h30 : 2 ^ 30 ≤ 2 ^ (926 - eOf n) := Nat.pow_le_pow_right (by omega) (by omega)
  have h52 : 2 ^ (926 - eOf n) ≤ 2 ^ 52 := Nat.pow_le_pow_right (by omega) (by omega)
  refine ⟨Nat.div_lt_of_lt_mul (Nat.lt_of_lt_of_le (by omega) (Nat.mul_le_mul_right 8388608 h30)), Nat.div_pos (Nat.le_trans h52 (by omega)) (Nat.two_pow_pos _)⟩
 unfold halfB halfV
 generalize (mOf n + 4503599627370496) / 2 ^ (926 - eOf n) = D at hd ⊢
 rw [if_neg (by omega), if_pos (by omega), if_neg (by omega), if_pos (by omega)]
 refine ⟨decide_eq_false (by omega), fun h => by cases h⟩
theorem nar58 (n : Nat) (h5 : narB5 n = true) : narB8 n = true := by
 have h64 := eOf_lt n
 have hmm := mOf_lt n
 unfold narB5 at h5
 unfold narB8
 by_cases c1 : eOf n = 2047
 ·rw [if_pos c1] at h5 ⊢; exact h5
 rw [if_neg c1] at h5 ⊢
 by_cases c2 : eOf n = 0
 ·rw [if_pos c2] at h5 ⊢; exact h5
 rw [if_neg c2] at h5 ⊢
 by_cases c3 : 1039 ≤ eOf n
 ·rw [if_pos c3] at h5; cases h5
 rw [if_neg c3] at h5
 rw [if_neg (by omega)]
 by_cases c4 : 1008 < eOf n
 ·rw [if_pos c4] at h5
  have := of_decide_eq_true h5
  rw [if_pos (by omega)]
  exact decide_eq_true (by omega)
 rw [if_neg c4] at h5
 by_cases c5 : eOf n < 999
 ·rw [if_pos c5] at h5; cases h5
 rw [if_neg c5] at h5
 have h := of_decide_eq_true h5
 rw [if_pos (by omega)]
 have hd : 2 ^ 43 ∣ mOf n + 4503599627370496 := Nat.dvd_trans (Nat.pow_dvd_pow 2 (by omega)) (Nat.dvd_of_mod_eq_zero h)
 exact decide_eq_true (by omega)
def be8 (n : UInt64) : List UInt8 := [toU8 ((UInt64.ofNat (n.toNat / 2 ^ 56)).toNat : Int), toU8 ((UInt64.ofNat (n.toNat / 2 ^ 48)).toNat : Int), toU8 ((UInt64.ofNat (n.toNat / 2 ^ 40)).toNat : Int), toU8 ((UInt64.ofNat (n.toNat / 2 ^ 32)).toNat : Int), toU8 ((UInt64.ofNat (n.toNat / 2 ^ 24)).toNat : Int), toU8 ((UInt64.ofNat (n.toNat / 2 ^ 16)).toNat : Int), toU8 ((UInt64.ofNat (n.toNat / 2 ^ 8)).toNat : Int), toU8 ((UInt64.ofNat (n.toNat / 2 ^ 0)).toNat : Int)]
def fE (n : UInt64) : List UInt8 :=
 if 9218868437227405312 < n.toNat % 9223372036854775808 then [249, 126, 0]
 else if narB5 n.toNat then [249, UInt8.ofNat (narV5 n.toNat / 256), UInt8.ofNat (narV5 n.toNat)]
 else if narB8 n.toNat then [250, UInt8.ofNat (narV8 n.toNat / 16777216), UInt8.ofNat (narV8 n.toNat / 65536), UInt8.ofNat (narV8 n.toNat / 256), UInt8.ofNat (narV8 n.toNat)]
 else 251 :: be8 n
theorem wide_eq (n : UInt64) : m_cbor_wide n = some (be8 n) := by kernel_rfl
theorem ref_wide (n : UInt64) : loopF (R := (List UInt8)) (S := ((List UInt8) × Int)) (fun self15 s14 =>
  letm (decide (0 ≤ s14.2)) fun x16 =>
  cond x16 (letm ((toU64 s14.2)) fun x17 =>
  letm ((8 * x17)) fun x18 =>
  bnd ((shrK .u64 (n : UInt64) (UInt64.toNat x18 : Int) : Option UInt64)) fun (x19 : UInt64) =>
  letm ((toU8 (UInt64.toNat x19 : Int))) fun x20 =>
  bnd (app s14.1 [x20]) fun x21 =>
  letm ((w64 (s14.2 - 1))) fun x22 =>
  self15 (x21, x22))
   (some s14.1)) FUEL ([251], 7) = some (251 :: be8 n) := by kernel_rfl
theorem fE_len (n : UInt64) : 1 ≤ (fE n).length ∧ (fE n).length ≤ 9 := by
 unfold fE be8
 split
 ·simp
 ·split
  ·simp
  ·split <;> simp
theorem isnan_eq (n : UInt64) : m_coresecref01_IsNaN n = some (decide (9218868437227405312 < n.toNat % 9223372036854775808)) := by
 have hn := n.toNat_lt
 have hmm := mOf_lt n.toNat
 have hee := eOf_lt n.toNat
 have hE : (UInt64.toNat (bitK .and .u64 (UInt64.ofNat (n.toNat / 2 ^ 52)) (2047 : UInt64) : UInt64)) = eOf n.toNat := by
  rw [and_low _ 11 _ rfl, nat64 (n := n.toNat / 2 ^ 52) (by omega), nat64 (by omega)]
  rfl
 unfold m_coresecref01_IsNaN
 refine bnd_of (y := decide (9218868437227405312 < n.toNat % 9223372036854775808)) ?_ rfl
 refine bnd_of (sr64 n 52 (by omega)) ?_
 rw [letm_e, letm_e, hE]
 have e1 : (((eOf n.toNat : Nat) : Int) == ((UInt64.toNat 2047 : Nat) : Int)) = decide (eOf n.toNat = 2047) := by
  rw [Bool.eq_iff_iff, beq_iff_eq, decide_eq_true_eq]; exact Int.natCast_inj
 rw [e1]
 have hr : n.toNat % 9223372036854775808 = eOf n.toNat * 4503599627370496 + mOf n.toNat := by unfold eOf mOf; omega
 by_cases c : eOf n.toNat = 2047
 ·rw [decide_eq_true c, cd_t, letm_e, mOf_eq, letm_e]
  refine congrArg some ?_
  have := eqz n.toNat
  rw [show (((UInt64.toNat (UInt64.ofNat (mOf n.toNat)) : Nat) : Int) != ((UInt64.toNat 0 : Nat) : Int)) = !(((UInt64.toNat (UInt64.ofNat (mOf n.toNat)) : Nat) : Int) == ((UInt64.toNat 0 : Nat) : Int)) from rfl, this]
  rw [Bool.eq_iff_iff, Bool.not_eq_true', decide_eq_false_iff_not, decide_eq_true_eq]
  omega
 ·rw [decide_eq_false c, cd_f]
  exact congrArg some (decide_eq_false (by omega)).symm
theorem narV5_lt (n : Nat) (hn : n < 18446744073709551616) : narV5 n < 65536 := by
 have h64 := eOf_lt n
 have hmm := mOf_lt n
 unfold narV5
 split
 ·omega
 ·split
  ·omega
  ·split
   ·omega
   ·split
    ·omega
    ·split
     ·omega
     ·have h43 : 2 ^ 43 ≤ 2 ^ (1051 - eOf n) := Nat.pow_le_pow_right (by omega) (by omega)
      have : (mOf n + 4503599627370496) / 2 ^ (1051 - eOf n) < 2048 := Nat.div_lt_of_lt_mul (Nat.lt_of_lt_of_le (by omega) (Nat.mul_le_mul_right 2048 h43))
      omega
theorem narV8_lt (n : Nat) (hn : n < 18446744073709551616) : narV8 n < 4294967296 := by
 have h64 := eOf_lt n
 have hmm := mOf_lt n
 unfold narV8
 split
 ·omega
 ·split
  ·omega
  ·split
   ·omega
   ·split
    ·omega
    ·split
     ·omega
     ·have h43 : 2 ^ 30 ≤ 2 ^ (926 - eOf n) := Nat.pow_le_pow_right (by omega) (by omega)
      have : (mOf n + 4503599627370496) / 2 ^ (926 - eOf n) < 16777216 := Nat.div_lt_of_lt_mul (Nat.lt_of_lt_of_le (by omega) (Nat.mul_le_mul_right 16777216 h43))
      omega
theorem u8nat (n : Nat) : toU8 (n : Int) = UInt8.ofNat n := toU8_ofNat
theorem ref_float (n : UInt64) : m_coresecref01_float n = some (fE n) := by
 have hn := n.toNat_lt
 have h5 := narV5_lt n.toNat hn
 have h8 := narV8_lt n.toNat hn
 unfold m_coresecref01_float
 refine bnd_of (isnan_eq n) ?_
 unfold fE
 by_cases c : 9218868437227405312 < n.toNat % 9223372036854775808
 ·rw [if_pos c, decide_eq_true c, cd_t]
 rw [if_neg c, decide_eq_false c, cd_f]
 refine bnd_of (nar5 n) ?_
 cases hb5 : narB5 n.toNat with
 | true =>
  rw [if_pos rfl, cd_t]
  refine bnd_of (sr64 _ 8 (by omega)) ?_
  rw [letm_e, letm_e, nat64 (n := narV5 n.toNat) (by omega), nat64 (by omega), u8nat, u8nat]
 | false =>
  rw [if_neg (by simp), cd_f]
  refine bnd_of (nar8 n) ?_
  cases hb8 : narB8 n.toNat with
  | true =>
   rw [if_pos rfl, cd_t]
   refine bnd_of (sr64 _ 24 (by omega)) ?_
   rw [letm_e]
   refine bnd_of (sr64 _ 16 (by omega)) ?_
   rw [letm_e]
   refine bnd_of (sr64 _ 8 (by omega)) ?_
   rw [letm_e, letm_e, nat64 (n := narV8 n.toNat) (by omega), nat64 (n := narV8 n.toNat / 2 ^ 24) (by omega), nat64 (n := narV8 n.toNat / 2 ^ 16) (by omega), nat64 (n := narV8 n.toNat / 2 ^ 8) (by omega), u8nat, u8nat, u8nat, u8nat]
  | false =>
   rw [if_neg (by simp), cd_f]
   exact ref_wide n
theorem cbor_float (n : UInt64) : m_cbor_float n = some (fE n) := by
 have hn := n.toNat_lt
 have h8 := narV8_lt n.toNat hn
 have hf : feq n n = decide (n.toNat % 9223372036854775808 ≤ 9218868437227405312) := feq_self n
 unfold m_cbor_float fE
 rw [hf]
 by_cases c : 9218868437227405312 < n.toNat % 9223372036854775808
 ·rw [if_pos c, decide_eq_false (by omega)]; rfl
 rw [if_neg c, decide_eq_true (by omega), cond_true, f32of_nar n.toNat hn (by omega)]
 cases hb8 : narB8 n.toNat with
 | false =>
  have hb5 : narB5 n.toNat = false := by
   cases h : narB5 n.toNat with
   | false => rfl
   | true => rw [nar58 _ h] at hb8; cases hb8
  rw [if_neg (by simp), hb5]
  refine bnd_of (wide_eq n) ?_
  rfl
 | true =>
  rw [if_pos rfl, if_pos rfl]
  obtain ⟨e1, e2⟩ := half_nar n.toNat hn (by omega) hb8
  refine bnd_of (half_eq _ h8) ?_
  rw [e1]
  cases hb5 : narB5 n.toNat with
  | true =>
   rw [if_pos rfl, cond_true, e2 hb5]
   have : ((narV5 n.toNat : Int) / 256) = ((narV5 n.toNat / 256 : Nat) : Int) := by omega
   rw [this, u8nat, u8nat]
  | false =>
   rw [if_neg (by simp), cond_false]
   rw [show ((narV8 n.toNat : Int) / 16777216) = ((narV8 n.toNat / 16777216 : Nat) : Int) by omega, show ((narV8 n.toNat : Int) / 65536) = ((narV8 n.toNat / 65536 : Nat) : Int) by omega, show ((narV8 n.toNat : Int) / 256) = ((narV8 n.toNat / 256 : Nat) : Int) by omega, u8nat, u8nat, u8nat, u8nat]
theorem bex {α β : Type} {m : Option α} {k : α → Option β} (h : ∃ x, m = some x) (hk : ∀ x, ∃ y, k x = some y) : ∃ y, bnd m k = some y := by
 obtain ⟨x, rfl⟩ := h; exact hk x
theorem bexp {α β : Type} {m : Option α} {k : α → Option β} (p : α → Prop) (h : ∃ x, m = some x ∧ p x) (hk : ∀ x, p x → ∃ y, k x = some y) : ∃ y, bnd m k = some y := by
 obtain ⟨x, rfl, hp⟩ := h; exact hk x hp
theorem lex {α β : Type} {e : α} {k : α → Option β} (h : ∃ y, k e = some y) : ∃ y, letm e k = some y := h
theorem cex {α : Type} {b : Bool} {x z : Option α} (h : b = true → ∃ y, x = some y) (h2 : b = false → ∃ y, z = some y) : ∃ y, cond b x z = some y := by
 cases b with
 | true => exact h rfl
 | false => exact h2 rfl
theorem sex {α : Type} (x : α) : ∃ y, some x = some y := ⟨x, rfl⟩
theorem idx_ex {α : Type} {l : List α} {k : Nat} (h : k < l.length) : ∃ x, idx l (k : Int) = some x := ⟨l[k], idx_some' (List.getElem?_eq_getElem h)⟩
theorem cut_from {α : Type} {l : List α} {k : Nat} (h : k ≤ l.length) : Gk.cut l (k : Int) (l.length : Int) = some (l.drop k) := by
 unfold Gk.cut
 rw [if_pos (by omega)]; simp
theorem cut_ex {α : Type} {l : List α} {k : Nat} (h : k ≤ l.length) : ∃ x, Gk.cut l (k : Int) (l.length : Int) = some x ∧ x.length = l.length - k := ⟨_, cut_from h, List.length_drop⟩
theorem shl_ex (x : UInt64) (n : UInt64) : ∃ y : UInt64, (shlK .u64 x (UInt64.toNat n : Int) : Option UInt64) = some y := by
 refine ⟨_, (show (if ((UInt64.toNat n : Nat) : Int) < 0 then none else some (fromI .u64 (toI .u64 x * 2 ^ min ((UInt64.toNat n : Nat) : Int).toNat (IntKind.bits .u64)))) = some _ from if_neg (by omega))⟩
theorem word_ex {s : List UInt8} (h : 8 ≤ s.length) : ∃ x, m_unicode_utf8_word_byte s = some x := by
 unfold m_unicode_utf8_word_byte
 refine bex (idx_ex (k := 0) (by omega)) fun _ => lex ?_
 refine bex (idx_ex (k := 1) (by omega)) fun _ => lex ?_
 refine bex (shl_ex _ _) fun _ => lex ?_
 refine bex (idx_ex (k := 2) (by omega)) fun _ => lex ?_
 refine bex (shl_ex _ _) fun _ => lex ?_
 refine bex (idx_ex (k := 3) (by omega)) fun _ => lex ?_
 refine bex (shl_ex _ _) fun _ => lex ?_
 refine bex (idx_ex (k := 4) (by omega)) fun _ => lex ?_
 refine bex (shl_ex _ _) fun _ => lex ?_
 refine bex (idx_ex (k := 5) (by omega)) fun _ => lex ?_
 refine bex (shl_ex _ _) fun _ => lex ?_
 refine bex (idx_ex (k := 6) (by omega)) fun _ => lex ?_
 refine bex (shl_ex _ _) fun _ => lex ?_
 refine bex (idx_ex (k := 7) (by omega)) fun _ => lex ?_
 refine bex (shl_ex _ _) fun _ => lex ?_
 exact sex _
theorem shr_u8 : ∀ c : Fin 256, (Option.map (fun y : UInt8 => decide (y.toNat < 16)) (shrK .u8 (UInt8.ofNat c.1) (UInt64.toNat 4 : Int)) : Option Bool) = some true := by decide +kernel
theorem shr_u8' (x : UInt8) : ∃ y : UInt8, @Eq (Option UInt8) (shrK .u8 x (UInt64.toNat 4 : Int)) (some y) ∧ y.toNat < 16 := by
 have h := shr_u8 ⟨x.toNat, UInt8.toNat_lt x⟩
 have e : UInt8.ofNat x.toNat = x := by simp
 rw [show (UInt8.ofNat ((⟨x.toNat, UInt8.toNat_lt x⟩ : Fin 256).1)) = x from e] at h
 obtain ⟨y, h1, h2⟩ := Option.map_eq_some_iff.1 h
 exact ⟨y, h1, of_decide_eq_true h2⟩
theorem inner_ex (self4 : List UInt8 → Option (Bool ⊕ Unit)) (L : Nat) (h4 : ∀ t : List UInt8, t.length ≤ L → ∃ v, self4 t = some v) : ∀ (f : Nat) (s : List UInt8), s.length < f → s.length ≤ L → ∃ v, loopF (R := (Bool ⊕ Unit)) (S := (List UInt8)) (fun self25 s24 => bnd (β := Bool) (letm (decide (32 < (s24.length : Int))) fun x26 => cond x26 (bnd (m_unicode_utf8_word_byte s24) fun x27 => bnd (Gk.cut s24 8 (s24.length : Int)) fun x28 => bnd (m_unicode_utf8_word_byte x28) fun x29 => letm ((bitK .or .u64 (x27 : UInt64) (x29 : UInt64) : UInt64)) fun x30 => bnd (Gk.cut s24 16 (s24.length : Int)) fun x31 => bnd (m_unicode_utf8_word_byte x31) fun x32 => bnd (Gk.cut s24 24 (s24.length : Int)) fun x33 => bnd (m_unicode_utf8_word_byte x33) fun x34 => letm ((bitK .or .u64 (x32 : UInt64) (x34 : UInt64) : UInt64)) fun x35 => letm ((bitK .or .u64 (x30 : UInt64) (x35 : UInt64) : UInt64)) fun x36 => letm ((bitK .and .u64 (x36 : UInt64) (9259542123273814144 : UInt64) : UInt64)) fun x37 => letm (((UInt64.toNat x37 : Int) == (UInt64.toNat 0 : Int))) fun x38 => some x38) (some false)) fun v39 => cond v39 (bnd (Gk.cut s24 32 (s24.length : Int)) fun x40 => self25 x40) (self4 s24)) f s = some v
 | 0, s, hf, _ => absurd hf (Nat.not_lt_zero _)
 | f + 1, s, hf, hl => by
  rw [loopF_succ]
  refine bexp (fun b => b = true → 32 < s.length) ?_ fun b hb => ?_
  ·by_cases h : 32 < s.length
   ·refine (?_ : ∃ y, _ = some y).elim fun y hy => ⟨y, hy, fun _ => h⟩
    refine lex (cex (fun _ => ?_) (fun h => ?_))
    ·refine bex (word_ex (by omega)) fun _ => ?_
     refine bexp _ (cut_ex (k := 8) (by omega)) fun _ h1 => ?_
     refine bex (word_ex (by omega)) fun _ => lex ?_
     refine bexp _ (cut_ex (k := 16) (by omega)) fun _ h2 => ?_
     refine bex (word_ex (by omega)) fun _ => ?_
     refine bexp _ (cut_ex (k := 24) (by omega)) fun _ h3 => ?_
     refine bex (word_ex (by omega)) fun _ => lex (lex (lex (lex (sex _))))
    ·exact sex _
   ·refine ⟨false, ?_, fun h => by cases h⟩
    rw [letm_e, decide_eq_false (by omega)]; rfl
  ·refine cex (fun h => ?_) (fun _ => h4 s hl)
   have := hb h
   refine bexp _ (cut_ex (k := 32) (by omega)) fun t ht => ?_
   exact inner_ex self4 L h4 f t (by omega) (by omega)
theorem outer_ex : ∀ (f : Nat) (s : List UInt8), s.length < f → s.length ≤ 1000000 → ∃ v, loopF (R := (Bool ⊕ Unit)) (S := (List UInt8)) (fun self4 s3 => letm (decide (0 < (s3.length : Int))) fun x5 => cond x5 (bnd (idx s3 0) fun x6 => letm (decide ((UInt8.toNat x6 : Int) < (UInt8.toNat 128 : Int))) fun x7 => cond x7 (bnd (Gk.cut s3 1 (s3.length : Int)) fun x8 => bnd (β := Bool) (letm (decide (8 < (x8.length : Int))) fun x9 => cond x9 (bnd (m_unicode_utf8_word_byte x8) fun x10 => letm ((bitK .and .u64 (x10 : UInt64) (9259542123273814144 : UInt64) : UInt64)) fun x11 => letm (((UInt64.toNat x11 : Int) == (UInt64.toNat 0 : Int))) fun x12 => some x12) (some false)) fun v13 => cond v13 (bnd (Gk.cut x8 8 (x8.length : Int)) fun x14 => bnd (β := Bool) (letm (decide (16 < (x14.length : Int))) fun x15 => cond x15 (bnd (m_unicode_utf8_word_byte x14) fun x16 => bnd (Gk.cut x14 8 (x14.length : Int)) fun x17 => bnd (m_unicode_utf8_word_byte x17) fun x18 => letm ((bitK .or .u64 (x16 : UInt64) (x18 : UInt64) : UInt64)) fun x19 => letm ((bitK .and .u64 (x19 : UInt64) (9259542123273814144 : UInt64) : UInt64)) fun x20 => letm (((UInt64.toNat x20 : Int) == (UInt64.toNat 0 : Int))) fun x21 => some x21) (some false)) fun v22 => cond v22 (bnd (Gk.cut x14 16 (x14.length : Int)) fun x23 => loopF (R := (Bool ⊕ Unit)) (S := (List UInt8)) (fun self25 s24 => bnd (β := Bool) (letm (decide (32 < (s24.length : Int))) fun x26 => cond x26 (bnd (m_unicode_utf8_word_byte s24) fun x27 => bnd (Gk.cut s24 8 (s24.length : Int)) fun x28 => bnd (m_unicode_utf8_word_byte x28) fun x29 => letm ((bitK .or .u64 (x27 : UInt64) (x29 : UInt64) : UInt64)) fun x30 => bnd (Gk.cut s24 16 (s24.length : Int)) fun x31 => bnd (m_unicode_utf8_word_byte x31) fun x32 => bnd (Gk.cut s24 24 (s24.length : Int)) fun x33 => bnd (m_unicode_utf8_word_byte x33) fun x34 => letm ((bitK .or .u64 (x32 : UInt64) (x34 : UInt64) : UInt64)) fun x35 => letm ((bitK .or .u64 (x30 : UInt64) (x35 : UInt64) : UInt64)) fun x36 => letm ((bitK .and .u64 (x36 : UInt64) (9259542123273814144 : UInt64) : UInt64)) fun x37 => letm (((UInt64.toNat x37 : Int) == (UInt64.toNat 0 : Int))) fun x38 => some x38) (some false)) fun v39 => cond v39 (bnd (Gk.cut s24 32 (s24.length : Int)) fun x40 => self25 x40) (self4 s24)) FUEL x23) (self4 x14)) (self4 x8)) (bnd (idx glob_0 (UInt8.toNat x6 : Int)) fun x41 => letm ((toU8 (bits .and .u8 (UInt8.toNat x41) (UInt8.toNat 7)))) fun x42 => letm ((w64 (UInt8.toNat x42 : Int))) fun x43 => bnd (shrK .u8 x41 (UInt64.toNat 4 : Int)) fun x44 => bnd (idx glob_1 (UInt8.toNat x44 : Int)) fun x45 => letm ((x43 == 2)) fun x46 => cond x46 (bnd (β := Bool) (letm (decide ((s3.length : Int) < 2)) fun x47 => cond x47 (some true) (bnd (idx s3 1) fun x48 => letm (decide ((UInt8.toNat x48 : Int) < (UInt8.toNat x45.1 : Int))) fun x49 => cond x49 (some true) (bnd (idx s3 1) fun x50 => letm (decide ((UInt8.toNat x45.2 : Int) < (UInt8.toNat x50 : Int))) fun x51 => some x51))) fun v52 => cond v52 (some (.inl false)) (bnd (Gk.cut s3 2 (s3.length : Int)) fun x53 => self4 x53)) (letm ((x43 == 3)) fun x54 => cond x54 (bnd (β := Bool) (letm (decide ((s3.length : Int) < 3)) fun x55 => cond x55 (some true) (bnd (idx s3 1) fun x56 => letm (decide ((UInt8.toNat x56 : Int) < (UInt8.toNat x45.1 : Int))) fun x57 => cond x57 (some true) (bnd (idx s3 1) fun x58 => letm (decide ((UInt8.toNat x45.2 : Int) < (UInt8.toNat x58 : Int))) fun x59 => cond x59 (some true) (bnd (idx s3 2) fun x60 => letm (decide ((UInt8.toNat x60 : Int) < (UInt8.toNat 128 : Int))) fun x61 => cond x61 (some true) (bnd (idx s3 2) fun x62 => letm (decide ((UInt8.toNat 191 : Int) < (UInt8.toNat x62 : Int))) fun x63 => some x63))))) fun v64 => cond v64 (some (.inl false)) (bnd (Gk.cut s3 3 (s3.length : Int)) fun x65 => self4 x65)) (letm ((x43 == 4)) fun x66 => cond x66 (bnd (β := Bool) (letm (decide ((s3.length : Int) < 4)) fun x67 => cond x67 (some true) (bnd (idx s3 1) fun x68 => letm (decide ((UInt8.toNat x68 : Int) < (UInt8.toNat x45.1 : Int))) fun x69 => cond x69 (some true) (bnd (idx s3 1) fun x70 => letm (decide ((UInt8.toNat x45.2 : Int) < (UInt8.toNat x70 : Int))) fun x71 => cond x71 (some true) (bnd (idx s3 2) fun x72 => letm (decide ((UInt8.toNat x72 : Int) < (UInt8.toNat 128 : Int))) fun x73 => cond x73 (some true) (bnd (idx s3 2) fun x74 => letm (decide ((UInt8.toNat 191 : Int) < (UInt8.toNat x74 : Int))) fun x75 => cond x75 (some true) (bnd (idx s3 3) fun x76 => letm (decide ((UInt8.toNat x76 : Int) < (UInt8.toNat 128 : Int))) fun x77 => cond x77 (some true) (bnd (idx s3 3) fun x78 => letm (decide ((UInt8.toNat 191 : Int) < (UInt8.toNat x78 : Int))) fun x79 => some x79))))))) fun v80 => cond v80 (some (.inl false)) (bnd (Gk.cut s3 4 (s3.length : Int)) fun x81 => self4 x81)) (some (.inl false)))))) (some (.inr ()))) f s = some v
 | 0, s, hf, _ => absurd hf (Nat.not_lt_zero _)
 | f + 1, s, hf, hl => by
  have ih := fun (t : List UInt8) (ht : t.length < s.length) => outer_ex f t (by omega) (by omega)
  rw [loopF_succ]
  refine lex (cex (fun h0 => ?_) (fun _ => sex _))
  have h0 : 0 < s.length := by have := of_decide_eq_true h0; omega
  refine bex (idx_ex (k := 0) (by omega)) fun x6 => lex (cex (fun _ => ?_) (fun _ => ?_))
  ·refine bexp _ (cut_ex (k := 1) (by omega)) fun x8 h8 => ?_
   refine bexp (fun b => b = true → 8 < x8.length) ?_ fun b hb => cex (fun h => ?_) (fun _ => ih _ (by omega))
   ·by_cases h : 8 < x8.length
    ·refine (?_ : ∃ y, _ = some y).elim fun y hy => ⟨y, hy, fun _ => h⟩
     exact lex (cex (fun _ => bex (word_ex (by omega)) fun _ => lex (lex (sex _))) (fun _ => sex _))
    ·exact ⟨false, by rw [letm_e, decide_eq_false (by omega)]; rfl, fun h => by cases h⟩
   ·have := hb h
    refine bexp _ (cut_ex (k := 8) (by omega)) fun x14 h14 => ?_
    refine bexp (fun b => b = true → 16 < x14.length) ?_ fun b hb => cex (fun h => ?_) (fun _ => ih _ (by omega))
    ·by_cases h : 16 < x14.length
     ·refine (?_ : ∃ y, _ = some y).elim fun y hy => ⟨y, hy, fun _ => h⟩
      refine lex (cex (fun _ => ?_) (fun _ => sex _))
      refine bex (word_ex (by omega)) fun _ => ?_
      refine bexp _ (cut_ex (k := 8) (by omega)) fun _ h1 => ?_
      exact bex (word_ex (by omega)) fun _ => lex (lex (lex (sex _)))
     ·exact ⟨false, by rw [letm_e, decide_eq_false (by omega)]; rfl, fun h => by cases h⟩
    ·have := hb h
     refine bexp _ (cut_ex (k := 16) (by omega)) fun x23 h23 => ?_
     exact inner_ex _ x23.length (fun t ht => ih t (by omega)) FUEL x23 (by rw [fuel_eq]; omega) (Nat.le_refl _)
  ·refine bex (idx_ex (k := x6.toNat) (by have := UInt8.toNat_lt x6; rw [glob_0_len]; exact this)) fun x41 => lex (lex ?_)
   refine bexp _ (shr_u8' x41) fun x44 h44 => ?_
   refine bex (idx_ex (k := x44.toNat) (by rw [glob_1_len]; exact h44)) fun x45 => lex (cex (fun _ => ?_) (fun _ => lex (cex (fun _ => ?_) (fun _ => lex (cex (fun _ => ?_) (fun _ => sex _))))))
   ·refine bexp (fun b => b = false → 2 ≤ s.length) ?_ fun b hb => cex (fun _ => sex _) (fun h => ?_)
    ·by_cases h : 2 ≤ s.length
     ·refine (?_ : ∃ y, _ = some y).elim fun y hy => ⟨y, hy, fun _ => h⟩
      refine lex (cex (fun _ => sex _) (fun _ => ?_))
      refine bex (idx_ex (k := 1) (by omega)) fun _ => lex (cex (fun _ => sex _) (fun _ => ?_))
      exact bex (idx_ex (k := 1) (by omega)) fun _ => lex (sex _)
     ·exact ⟨true, by rw [letm_e, decide_eq_true (by omega)]; rfl, fun h => by cases h⟩
    ·have := hb h
     refine bexp _ (cut_ex (k := 2) (by omega)) fun _ ht => ih _ (by omega)
   ·refine bexp (fun b => b = false → 3 ≤ s.length) ?_ fun b hb => cex (fun _ => sex _) (fun h => ?_)
    ·by_cases h : 3 ≤ s.length
     ·refine (?_ : ∃ y, _ = some y).elim fun y hy => ⟨y, hy, fun _ => h⟩
      refine lex (cex (fun _ => sex _) (fun _ => ?_))
      refine bex (idx_ex (k := 1) (by omega)) fun _ => lex (cex (fun _ => sex _) (fun _ => ?_))
      refine bex (idx_ex (k := 1) (by omega)) fun _ => lex (cex (fun _ => sex _) (fun _ => ?_))
      refine bex (idx_ex (k := 2) (by omega)) fun _ => lex (cex (fun _ => sex _) (fun _ => ?_))
      exact bex (idx_ex (k := 2) (by omega)) fun _ => lex (sex _)
     ·exact ⟨true, by rw [letm_e, decide_eq_true (by omega)]; rfl, fun h => by cases h⟩
    ·have := hb h
     refine bexp _ (cut_ex (k := 3) (by omega)) fun _ ht => ih _ (by omega)
   ·refine bexp (fun b => b = false → 4 ≤ s.length) ?_ fun b hb => cex (fun _ => sex _) (fun h => ?_)
    ·by_cases h : 4 ≤ s.length
     ·refine (?_ : ∃ y, _ = some y).elim fun y hy => ⟨y, hy, fun _ => h⟩
      refine lex (cex (fun _ => sex _) (fun _ => ?_))
      refine bex (idx_ex (k := 1) (by omega)) fun _ => lex (cex (fun _ => sex _) (fun _ => ?_))
      refine bex (idx_ex (k := 1) (by omega)) fun _ => lex (cex (fun _ => sex _) (fun _ => ?_))
      refine bex (idx_ex (k := 2) (by omega)) fun _ => lex (cex (fun _ => sex _) (fun _ => ?_))
      refine bex (idx_ex (k := 2) (by omega)) fun _ => lex (cex (fun _ => sex _) (fun _ => ?_))
      refine bex (idx_ex (k := 3) (by omega)) fun _ => lex (cex (fun _ => sex _) (fun _ => ?_))
      exact bex (idx_ex (k := 3) (by omega)) fun _ => lex (sex _)
     ·exact ⟨true, by rw [letm_e, decide_eq_true (by omega)]; rfl, fun h => by cases h⟩
    ·have := hb h
     refine bexp _ (cut_ex (k := 4) (by omega)) fun _ ht => ih _ (by omega)
theorem utf8_ex {s : List UInt8} (h : s.length ≤ 1000000) : ∃ v, m_unicode_utf8_Valid s = some v := by
 unfold m_unicode_utf8_Valid
 have e : Gk.cut s 0 (s.length : Int) = some s := by
  have := cut_from (l := s) (k := 0) (by omega)
  rwa [List.drop_zero] at this
 rw [e, bnd_s, e, bnd_s]
 obtain ⟨v, hv⟩ := outer_ex FUEL s (by rw [fuel_eq]; omega) h
 rw [hv]
 cases v with
 | inl q => exact ⟨q, rfl⟩
 | inr _ => exact ⟨true, rfl⟩
end Go.Proofs.YtbfkbakadpkgoaaGreatDoor
