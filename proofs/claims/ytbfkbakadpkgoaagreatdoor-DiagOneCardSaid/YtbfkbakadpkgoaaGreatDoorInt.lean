/-
  Plain facts of whole numbers: what the models' operations give in range. No program; no condition but the ranges.
-/
import Derived.Test.YtbfkbakadpkgoaaGreatDoorRow
import Derived.Laws.Bits64b
namespace Go.Gk
open Go.RowKit
theorem w64_eq (x : Int) : w64 x = (x + 9223372036854775808) % 18446744073709551616 - 9223372036854775808 := IntKind.wrap_i64 x
theorem w64_of {x : Int} (h : -9223372036854775808 ≤ x) (h' : x < 9223372036854775808) : w64 x = x := by rw [w64_eq]; omega
theorem w64_rng (x : Int) : -9223372036854775808 ≤ w64 x ∧ w64 x < 9223372036854775808 := by rw [w64_eq]; omega
theorem bnd_some' {α β : Type} {k : β → Option α} (y : β) : bnd (some y) k = k y := rfl
theorem letm_def {α β : Type} (e : β) (k : β → Option α) : letm e k = k e := rfl
theorem bndS_inr {ρ ρ' Y : Type} {w : ρ → ρ'} {k : Y → Option ρ'} (y : Y) : bndS (some (.inr y)) w k = k y := rfl
theorem bndS_inl {ρ ρ' Y : Type} {w : ρ → ρ'} {k : Y → Option ρ'} (q : ρ) : bndS (some (.inl q)) w k = some (w q) := rfl
theorem shl_nat {a b : Nat} (hb : b < 63) (h : a * 2 ^ b < 9223372036854775808) : shl (a : Int) (b : Int) = some ((a * 2 ^ b : Nat) : Int) := by
  unfold shl
  have h2 : ((b : Int)).toNat = b := by simp
  have e : (a : Int) * 2 ^ b = ((a * 2 ^ b : Nat) : Int) := by simp
  rw [if_neg (by omega), h2, Nat.min_eq_left (by omega), e, w64_of (by omega) (by omega)]
theorem shr_nat {a b : Nat} (hb : b ≤ 64) : shr (a : Int) (b : Int) = some ((a / 2 ^ b : Nat) : Int) := by
  unfold shr
  have h2 : ((b : Int)).toNat = b := by simp
  have e : (a : Int) / 2 ^ b = ((a / 2 ^ b : Nat) : Int) := by simp
  rw [if_neg (by omega), h2, Nat.min_eq_left (by omega), e]
theorem or_nat {a b : Nat} (ha : a < 9223372036854775808) (hb : b < 9223372036854775808) : ibit .or (a : Int) (b : Int) = ((a ||| b : Nat) : Int) := by
  have hx : a ||| b < 2 ^ 63 := Nat.or_lt_two_pow (by omega) (by omega)
  have h1 : (BitVec.ofInt 64 (a : Int)).toNat = a := by
    rw [BitVec.ofInt_natCast, BitVec.toNat_ofNat]; exact Nat.mod_eq_of_lt (by omega)
  have h2 : (BitVec.ofInt 64 (b : Int)).toNat = b := by
    rw [BitVec.ofInt_natCast, BitVec.toNat_ofNat]; exact Nat.mod_eq_of_lt (by omega)
  unfold ibit
  show IntKind.i64.wrap (((BitVec.ofInt 64 (a : Int) ||| BitVec.ofInt 64 (b : Int)).toNat : Nat) : Int) = _
  rw [BitVec.toNat_or, h1, h2, IntKind.wrap_i64]
  omega
theorem and_nat {a b : Nat} (ha : a < 9223372036854775808) (hb : b < 9223372036854775808) : ibit .and (a : Int) (b : Int) = ((a &&& b : Nat) : Int) := by
  have hx : a &&& b < 2 ^ 63 := Nat.and_lt_two_pow _ (by omega)
  have h1 : (BitVec.ofInt 64 (a : Int)).toNat = a := by
    rw [BitVec.ofInt_natCast, BitVec.toNat_ofNat]; exact Nat.mod_eq_of_lt (by omega)
  have h2 : (BitVec.ofInt 64 (b : Int)).toNat = b := by
    rw [BitVec.ofInt_natCast, BitVec.toNat_ofNat]; exact Nat.mod_eq_of_lt (by omega)
  unfold ibit
  show IntKind.i64.wrap (((BitVec.ofInt 64 (a : Int) &&& BitVec.ofInt 64 (b : Int)).toNat : Nat) : Int) = _
  rw [BitVec.toNat_and, h1, h2, IntKind.wrap_i64]
  omega
theorem quo_nat {a b : Nat} (hb : 0 < b) (ha : a < 9223372036854775808) : quo (a : Int) (b : Int) = some ((a / b : Nat) : Int) := by
  unfold quo
  have h1 := Nat.div_le_self a b
  rw [if_neg (by omega), ← Int.ofNat_tdiv]
  generalize a / b = q at h1 ⊢
  rw [w64_of (by omega) (by omega)]
theorem rem_nat {a b : Nat} (hb : 0 < b) : rem (a : Int) (b : Int) = some ((a % b : Nat) : Int) := by
  unfold rem
  rw [if_neg (by omega), ← Int.ofNat_tmod]
theorem rem_some {a b : Int} (hb : 0 < b) : ∃ q, rem a b = some q ∧ -b < q ∧ q < b := by
  unfold rem
  rw [if_neg (by omega)]
  refine ⟨_, rfl, ?_, ?_⟩
  · have := Int.lt_tmod_of_pos a hb
    omega
  · exact Int.tmod_lt_of_pos a hb
theorem toU8_ofNat {n : Nat} : toU8 (n : Int) = UInt8.ofNat n := by
  unfold toU8
  apply UInt8.toNat_inj.1
  simp
  omega
theorem app_some' {α : Type} {xs ys : List α} (h : xs.length + ys.length ≤ 4294967296) : app xs ys = some (xs ++ ys) := by
  unfold app LIM; rw [if_pos h]
theorem rng_some' {n : Int} (h : n ≤ 9223372036854775807) : rng n = some n.toNat := by unfold rng; rw [if_pos h]
theorem idx_some' {α : Type} {xs : List α} {i : Nat} {x : α} (h : xs[i]? = some x) : idx xs (i : Int) = some x := by unfold idx; rw [if_pos (by omega)]; simpa using h
end Go.Gk
