/-
  Numbers of values, and the values of block options, plain facts. Of the models alone; no program; no condition.
-/
import Derived.Test.YtcbkmlfkfhfliaaDoorQ16
namespace Go.Proofs.YtcbkmlfkfhfliaaDoor
open Go.Gk Go.RowKit
def uintN : Nat → List UInt8 → Int × Int
  | s, [] => ((s : Int), 0)
  | s, c :: r => bif decide (4294967295 < s * 256 + c.toNat) then (0, 8) else uintN (s * 256 + c.toNat) r
theorem or_byte {a b : Nat} (hb : b < 256) : (a * 256) ||| b = a * 256 + b := by
  have := Nat.shiftLeft_add_eq_or_of_lt (b := b) (i := 8) (by omega) a
  rw [Nat.shiftLeft_eq] at this
  exact this.symm
theorem uint_go : ∀ (xs : List UInt8) (k s : Nat), s ≤ 4294967295 → loopL (R := (Int × Int)) (S := Int) (α := UInt8) (fun _ s2 => some (s2, 0))
    (fun x3 _ s5 self6 => bnd (Gk.shl s5 ((UInt64.toNat 8 : Nat) : Int)) fun x7 => letm ((w64 (UInt8.toNat x3 : Int))) fun x8 => letm ((ibit .or x7 x8)) fun x9 => letm (decide (4294967295 < x9)) fun x10 => cond x10 (some (0, 8)) (self6 x9)) xs k (s : Int) = some (uintN s xs)
  | [], _, _, _ => rfl
  | c :: xs, k, s, h => by
    have hc : c.toNat < 256 := UInt8.toNat_lt c
    have e1 : Gk.shl (s : Int) ((UInt64.toNat 8 : Nat) : Int) = some ((s * 256 : Nat) : Int) := shl_nat (b := 8) (by omega) (by omega)
    have e2 : w64 (c.toNat : Int) = (c.toNat : Int) := w64_of (by omega) (by omega)
    rw [loopL_cons, e1, bnd_s, letm_e, letm_e, letm_e, e2, or_nat (by omega) (by omega), or_byte hc]
    unfold uintN
    by_cases hq : 4294967295 < s * 256 + c.toNat
    · rw [decide_eq_true (show (4294967295 : Int) < ((s * 256 + c.toNat : Nat) : Int) by omega), decide_eq_true hq]; rfl
    · rw [decide_eq_false (show ¬ (4294967295 : Int) < ((s * 256 + c.toNat : Nat) : Int) by omega), decide_eq_false hq]
      exact uint_go xs (k + 1) _ (by omega)
theorem uintN_rng : ∀ (l : List UInt8) (s : Nat), s ≤ 4294967295 → 0 ≤ (uintN s l).1 ∧ (uintN s l).1 ≤ 4294967295
  | [], s, h => by unfold uintN; exact ⟨by show 0 ≤ (s : Int); omega, by show (s : Int) ≤ _; omega⟩
  | c :: l, s, h => by
    unfold uintN
    by_cases hq : 4294967295 < s * 256 + c.toNat
    · rw [decide_eq_true hq, cond_true]; exact ⟨by decide, by decide⟩
    · rw [decide_eq_false hq]; exact uintN_rng l _ (by omega)
theorem uintN_short : ∀ (l : List UInt8), l.length ≤ 3 → ∃ v : Nat, v < 16777216 ∧ uintN 0 l = ((v : Int), 0)
  | [], _ => ⟨0, by omega, rfl⟩
  | [a], _ => by
    have := UInt8.toNat_lt a
    refine ⟨0 * 256 + a.toNat, by omega, ?_⟩
    simp only [uintN]
    rw [decide_eq_false (by omega)]; rfl
  | [a, b], _ => by
    have h1 := UInt8.toNat_lt a
    have h2 := UInt8.toNat_lt b
    refine ⟨(0 * 256 + a.toNat) * 256 + b.toNat, by omega, ?_⟩
    simp only [uintN]
    rw [decide_eq_false (by omega), cond_false, decide_eq_false (by omega), cond_false]
  | [a, b, c], _ => by
    have h1 := UInt8.toNat_lt a
    have h2 := UInt8.toNat_lt b
    have h3 := UInt8.toNat_lt c
    refine ⟨((0 * 256 + a.toNat) * 256 + b.toNat) * 256 + c.toNat, by omega, ?_⟩
    simp only [uintN]
    rw [decide_eq_false (by omega), cond_false, decide_eq_false (by omega), cond_false, decide_eq_false (by omega), cond_false]
  | _ :: _ :: _ :: _ :: _, h => by simp at h
end Go.Proofs.YtcbkmlfkfhfliaaDoor
