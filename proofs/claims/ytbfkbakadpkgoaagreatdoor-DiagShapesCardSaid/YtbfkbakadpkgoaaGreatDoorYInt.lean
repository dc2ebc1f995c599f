/-
  Whole numbers of all kinds: the evaluator's operations, and that the model's are these. Over whatever program; no condition.
-/
import Derived.Test.YtbfkbakadpkgoaaGreatDoorSt
namespace Go.Gk
open Go.RowKit
def addK : (k : IntKind) → kden k → kden k → kden k
 | .i64, a, b => w64 (Int.add a b)
 | .u8, a, b => UInt8.add a b
 | .u64, a, b => UInt64.add a b
 | .u32, a, b => UInt32.add a b
 | .i32, a, b => IntKind.i32.wrap (Int.add a b)
 | .i16, a, b => IntKind.i16.wrap (Int.add a b)
 | .i8, a, b => IntKind.i8.wrap (Int.add a b)
 | .u16, a, b => IntKind.u16.wrap (Int.add a b)
def subK : (k : IntKind) → kden k → kden k → kden k
 | .i64, a, b => w64 (Int.sub a b)
 | .u8, a, b => UInt8.sub a b
 | .u64, a, b => UInt64.sub a b
 | .u32, a, b => UInt32.sub a b
 | .i32, a, b => IntKind.i32.wrap (Int.sub a b)
 | .i16, a, b => IntKind.i16.wrap (Int.sub a b)
 | .i8, a, b => IntKind.i8.wrap (Int.sub a b)
 | .u16, a, b => IntKind.u16.wrap (Int.sub a b)
def mulK : (k : IntKind) → kden k → kden k → kden k
 | .i64, a, b => w64 (Int.mul a b)
 | .u8, a, b => UInt8.mul a b
 | .u64, a, b => UInt64.mul a b
 | .u32, a, b => UInt32.mul a b
 | .i32, a, b => IntKind.i32.wrap (Int.mul a b)
 | .i16, a, b => IntKind.i16.wrap (Int.mul a b)
 | .i8, a, b => IntKind.i8.wrap (Int.mul a b)
 | .u16, a, b => IntKind.u16.wrap (Int.mul a b)
def bitK (o : BinOp) : (k : IntKind) → kden k → kden k → kden k
 | .i64, a, b => ibit o a b
 | .u8, a, b => toU8 (bits o .u8 (UInt8.toNat a) (UInt8.toNat b))
 | .u64, a, b => toU64 (bits o .u64 (UInt64.toNat a) (UInt64.toNat b))
 | .u32, a, b => toU32 (bits o .u32 (UInt32.toNat a) (UInt32.toNat b))
 | .i32, a, b => bits o .i32 a b
 | .i16, a, b => bits o .i16 a b
 | .i8, a, b => bits o .i8 a b
 | .u16, a, b => bits o .u16 a b
def quoK : (k : IntKind) → kden k → kden k → Option (kden k)
 | .i64, a, b => quo a b
 | k, a, b => if toI k b = 0 then none else some (fromI k ((toI k a).tdiv (toI k b)))
def remK : (k : IntKind) → kden k → kden k → Option (kden k)
 | .i64, a, b => Gk.rem a b
 | .u8, a, b => if UInt8.toNat b = 0 then none else some (UInt8.mod a b)
 | .u64, a, b => if UInt64.toNat b = 0 then none else some (UInt64.mod a b)
 | .u32, a, b => if UInt32.toNat b = 0 then none else some (UInt32.mod a b)
 | .i32, a, b => Gk.rem a b
 | .i16, a, b => Gk.rem a b
 | .i8, a, b => Gk.rem a b
 | .u16, a, b => Gk.rem a b
def shlK : (k : IntKind) → kden k → Int → Option (kden k)
 | .i64, a, n => Gk.shl a n
 | k, a, n => if n < 0 then none else some (fromI k (toI k a * 2 ^ min n.toNat k.bits))
def shrK : (k : IntKind) → kden k → Int → Option (kden k)
 | .i64, a, n => Gk.shr a n
 | .u64, a, n => shr64 a n
 | .u8, a, n => if n < 0 then none else some (toU8 ((UInt8.toNat a : Int) / 2 ^ min n.toNat 8))
 | .u32, a, n => if n < 0 then none else some (toU32 ((UInt32.toNat a : Int) / 2 ^ min n.toNat 32))
 | .i32, a, n => if n < 0 then none else some (Int.ediv a (2 ^ min n.toNat 32))
 | .i16, a, n => if n < 0 then none else some (Int.ediv a (2 ^ min n.toNat 16))
 | .i8, a, n => if n < 0 then none else some (Int.ediv a (2 ^ min n.toNat 8))
 | .u16, a, n => if n < 0 then none else some (Int.ediv a (2 ^ min n.toNat 16))
theorem u8_add (a b : UInt8) : (((a + b).toNat : Nat) : Int) = IntKind.u8.wrap ((a.toNat : Int) + (b.toNat : Int)) := by
 rw [wrap_u8, show a + b = toU8 ((a.toNat : Int) + (b.toNat : Int)) from ?_]
 apply UInt8.toNat_inj.1
 rw [UInt8.toNat_add]
 unfold toU8
 simp; omega
theorem u32_add (a b : UInt32) : (((a + b).toNat : Nat) : Int) = IntKind.u32.wrap ((a.toNat : Int) + (b.toNat : Int)) := by
 rw [wrap_u32, show a + b = toU32 ((a.toNat : Int) + (b.toNat : Int)) from ?_]
 apply UInt32.toNat_inj.1
 rw [UInt32.toNat_add]
 unfold toU32
 simp; omega
theorem u64_add (a b : UInt64) : (((a + b).toNat : Nat) : Int) = IntKind.u64.wrap ((a.toNat : Int) + (b.toNat : Int)) := by
 rw [wrap_u64, show a + b = toU64 ((a.toNat : Int) + (b.toNat : Int)) from ?_]
 apply UInt64.toNat_inj.1
 rw [UInt64.toNat_add]
 unfold toU64
 simp; omega
theorem toI_addK (k : IntKind) (a b : kden k) : toI k (addK k a b) = k.wrap (toI k a + toI k b) := by
 cases k with
 | u8 => exact u8_add a b
 | u32 => exact u32_add a b
 | u64 => exact u64_add a b
 | _ => rfl
theorem u8_sub (a b : UInt8) : (((a - b).toNat : Nat) : Int) = IntKind.u8.wrap ((a.toNat : Int) - (b.toNat : Int)) := by
 rw [wrap_u8, show a - b = toU8 ((a.toNat : Int) - (b.toNat : Int)) from ?_]
 apply UInt8.toNat_inj.1
 rw [UInt8.toNat_sub]
 unfold toU8
 have := UInt8.toNat_lt a; have := UInt8.toNat_lt b; simp; omega
theorem u32_sub (a b : UInt32) : (((a - b).toNat : Nat) : Int) = IntKind.u32.wrap ((a.toNat : Int) - (b.toNat : Int)) := by
 rw [wrap_u32, show a - b = toU32 ((a.toNat : Int) - (b.toNat : Int)) from ?_]
 apply UInt32.toNat_inj.1
 rw [UInt32.toNat_sub]
 unfold toU32
 have := UInt32.toNat_lt a; have := UInt32.toNat_lt b; simp; omega
theorem u64_sub (a b : UInt64) : (((a - b).toNat : Nat) : Int) = IntKind.u64.wrap ((a.toNat : Int) - (b.toNat : Int)) := by
 rw [wrap_u64, show a - b = toU64 ((a.toNat : Int) - (b.toNat : Int)) from ?_]
 apply UInt64.toNat_inj.1
 rw [UInt64.toNat_sub]
 unfold toU64
 have := UInt64.toNat_lt a; have := UInt64.toNat_lt b; simp; omega
theorem toI_subK (k : IntKind) (a b : kden k) : toI k (subK k a b) = k.wrap (toI k a - toI k b) := by
 cases k with
 | u8 => exact u8_sub a b
 | u32 => exact u32_sub a b
 | u64 => exact u64_sub a b
 | _ => rfl
theorem u8_mul (a b : UInt8) : (((a * b).toNat : Nat) : Int) = IntKind.u8.wrap ((a.toNat : Int) * (b.toNat : Int)) := by
 rw [wrap_u8, show a * b = toU8 ((a.toNat : Int) * (b.toNat : Int)) from ?_]
 apply UInt8.toNat_inj.1
 rw [UInt8.toNat_mul]
 unfold toU8
 simp only [← Int.natCast_mul]; simp; omega
theorem u32_mul (a b : UInt32) : (((a * b).toNat : Nat) : Int) = IntKind.u32.wrap ((a.toNat : Int) * (b.toNat : Int)) := by
 rw [wrap_u32, show a * b = toU32 ((a.toNat : Int) * (b.toNat : Int)) from ?_]
 apply UInt32.toNat_inj.1
 rw [UInt32.toNat_mul]
 unfold toU32
 simp only [← Int.natCast_mul]; simp; omega
theorem u64_mul (a b : UInt64) : (((a * b).toNat : Nat) : Int) = IntKind.u64.wrap ((a.toNat : Int) * (b.toNat : Int)) := by
 rw [wrap_u64, show a * b = toU64 ((a.toNat : Int) * (b.toNat : Int)) from ?_]
 apply UInt64.toNat_inj.1
 rw [UInt64.toNat_mul]
 unfold toU64
 simp only [← Int.natCast_mul]; simp; omega
theorem toI_mulK (k : IntKind) (a b : kden k) : toI k (mulK k a b) = k.wrap (toI k a * toI k b) := by
 cases k with
 | u8 => exact u8_mul a b
 | u32 => exact u32_mul a b
 | u64 => exact u64_mul a b
 | _ => rfl
theorem wrap_wrap (k : IntKind) (n : Int) : k.wrap (k.wrap n) = k.wrap n := by
 rw [← toI_fromI k n]
 cases k
 ·show IntKind.i8.wrap (IntKind.i8.wrap n) = IntKind.i8.wrap n; simp [IntKind.wrap, IntKind.bits, IntKind.signed]; omega
 ·show IntKind.i16.wrap (IntKind.i16.wrap n) = IntKind.i16.wrap n; simp [IntKind.wrap, IntKind.bits, IntKind.signed]; omega
 ·show IntKind.i32.wrap (IntKind.i32.wrap n) = IntKind.i32.wrap n; simp [IntKind.wrap, IntKind.bits, IntKind.signed]; omega
 ·show IntKind.i64.wrap (IntKind.i64.wrap n) = IntKind.i64.wrap n; simp [IntKind.wrap, IntKind.bits, IntKind.signed]; omega
 ·rw [toI_fromI]; simp [IntKind.wrap, IntKind.bits, IntKind.signed]
 ·show IntKind.u16.wrap (IntKind.u16.wrap n) = IntKind.u16.wrap n; simp [IntKind.wrap, IntKind.bits, IntKind.signed]
 ·rw [toI_fromI]; simp [IntKind.wrap, IntKind.bits, IntKind.signed]
 ·rw [toI_fromI]; simp [IntKind.wrap, IntKind.bits, IntKind.signed]
theorem toI_bitK (o : BinOp) (k : IntKind) (a b : kden k) : toI k (bitK o k a b) = bits o k (toI k a) (toI k b) := by
 have key : ∀ q x y, IntKind.wrap q (bits o q x y) = bits o q x y := fun q x y => by unfold bits; rw [wrap_wrap]
 cases k with
 | u8 =>
  show ((UInt8.toNat (toU8 (bits o .u8 (UInt8.toNat a) (UInt8.toNat b))) : Nat) : Int) = _
  rw [← wrap_u8]; exact key .u8 _ _
 | u32 =>
  show ((UInt32.toNat (toU32 (bits o .u32 (UInt32.toNat a) (UInt32.toNat b))) : Nat) : Int) = _
  rw [← wrap_u32]; exact key .u32 _ _
 | u64 =>
  show ((UInt64.toNat (toU64 (bits o .u64 (UInt64.toNat a) (UInt64.toNat b))) : Nat) : Int) = _
  rw [← wrap_u64]; exact key .u64 _ _
 | _ => rfl
end Go.Gk
