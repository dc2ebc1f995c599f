/-
  Plain facts of whole numbers: what the models' operations give in range. No program; no condition but the ranges.
-/
import Derived.Test.YtbfkbakadpkgoaaGreatDoorRow
import Derived.Laws.Bits64b
namespace Go.Gk
open Go.RowKit
theorem w64_eq (x : Int) : w64 x = (x + 9223372036854775808) % 18446744073709551616 - 9223372036854775808 := IntKind.wrap_i64 x
theorem w64_of {x : Int} (h : -9223372036854775808 ≤ x) (h' : x < 9223372036854775808) : w64 x = x := by rw [w64_eq]; omega
theorem rem_some {a b : Int} (hb : 0 < b) : ∃ q, rem a b = some q ∧ -b < q ∧ q < b := by
 unfold rem
 rw [if_neg (by omega)]
 refine ⟨_, rfl, ?_, ?_⟩
 ·have := Int.lt_tmod_of_pos a hb
  omega
 ·exact Int.tmod_lt_of_pos a hb
theorem toU8_ofNat {n : Nat} : toU8 (n : Int) = UInt8.ofNat n := by
 unfold toU8
 apply UInt8.toNat_inj.1
 simp
 omega
theorem app_some' {α : Type} {xs ys : List α} (h : xs.length + ys.length ≤ 4294967296) : app xs ys = some (xs ++ ys) := by
 unfold app LIM; rw [if_pos h]
theorem idx_some' {α : Type} {xs : List α} {i : Nat} {x : α} (h : xs[i]? = some x) : idx xs (i : Int) = some x := by unfold idx; rw [if_pos (by omega)]; simpa using h
end Go.Gk
