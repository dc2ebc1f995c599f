/-
  What the program's tables say of the types and functions that are walked: closed facts, no condition; and the structs of the models.
-/
import Derived.Test.YtaefnnamjphieaaRow
import Derived.Test.YtaefnnamjphieaaProg
namespace Go.Proofs.Ytaefnnamjphieaa
open Go.Gk Go.RowKit
structure S_api_Block where
  Num : Int
  More : Bool
  Size : Int
  deriving DecidableEq
def R_api_Block : Rep S_api_Block where
  sz := 3
  rd := fun lab w cs x => cs = [.int .i64 x.Num, .bool x.More, .int .i64 x.Size] ∧ True
  len := by rintro lab w cs x ⟨rfl, _⟩; rfl
  one := by rintro lab w cs x ⟨rfl, _⟩ u hu; simp at hu; rcases hu with rfl | rfl | rfl <;> rfl
  keep := by rintro lab w lab' w' cs x hk ⟨rfl, _⟩; exact ⟨rfl, trivial⟩
structure S_api_Partial where
  Peer : Int
  Key : List UInt8
  Data : List UInt8
  Until : Int
  deriving DecidableEq
def R_api_Partial : Rep S_api_Partial where
  sz := 4
  rd := fun lab w cs x => ∃ (oa1 : Option Addr) (c1 : Nat) (oa2 : Option Addr) (c2 : Nat), cs = [.int .i64 x.Peer, .slice oa1 x.Key.length c1, .slice oa2 x.Data.length c2, .int .i64 x.Until] ∧ SL Rep.u8 lab w oa1 c1 x.Key ∧ SL Rep.u8 lab w oa2 c2 x.Data ∧ True
  len := by rintro lab w cs x ⟨oa1, c1, oa2, c2, rfl, _⟩; rfl
  one := by rintro lab w cs x ⟨oa1, c1, oa2, c2, rfl, _⟩ u hu; simp at hu; rcases hu with rfl | rfl | rfl | rfl <;> rfl
  keep := by rintro lab w lab' w' cs x hk ⟨oa1, c1, oa2, c2, rfl, s1, s2, _⟩; exact ⟨oa1, c1, oa2, c2, rfl, s1.keep hk, s2.keep hk, trivial⟩
structure S_coresecmake_Deck where
  L : List Int
  At : Int
  deriving DecidableEq
def R_coresecmake_Deck : Rep S_coresecmake_Deck where
  sz := 2
  rd := fun lab w cs x => ∃ (oa0 : Option Addr) (c0 : Nat), cs = [.slice oa0 x.L.length c0, .int .i64 x.At] ∧ SL Rep.i64 lab w oa0 c0 x.L ∧ True
  len := by rintro lab w cs x ⟨oa0, c0, rfl, _⟩; rfl
  one := by rintro lab w cs x ⟨oa0, c0, rfl, _⟩ u hu; simp at hu; rcases hu with rfl | rfl <;> rfl
  keep := by rintro lab w lab' w' cs x hk ⟨oa0, c0, rfl, s0, _⟩; exact ⟨oa0, c0, rfl, s0.keep hk, trivial⟩
structure S_t35 where
  p : Int
  k : List UInt8
  b : S_api_Block
  c : List UInt8
  t : Int
  deriving DecidableEq
def R_t35 : Rep S_t35 where
  sz := 7
  rd := fun lab w cs x => ∃ (oa1 : Option Addr) (c1 : Nat) (oa5 : Option Addr) (c5 : Nat), cs = [.int .i64 x.p, .slice oa1 x.k.length c1, .int .i64 x.b.Num, .bool x.b.More, .int .i64 x.b.Size, .slice oa5 x.c.length c5, .int .i64 x.t] ∧ SL Rep.u8 lab w oa1 c1 x.k ∧ SL Rep.u8 lab w oa5 c5 x.c ∧ True
  len := by rintro lab w cs x ⟨oa1, c1, oa5, c5, rfl, _⟩; rfl
  one := by rintro lab w cs x ⟨oa1, c1, oa5, c5, rfl, _⟩ u hu; simp at hu; rcases hu with rfl | rfl | rfl | rfl | rfl | rfl | rfl <;> rfl
  keep := by rintro lab w lab' w' cs x hk ⟨oa1, c1, oa5, c5, rfl, s1, s5, _⟩; exact ⟨oa1, c1, oa5, c5, rfl, s1.keep hk, s5.keep hk, trivial⟩
structure S_t50 where
  b : List UInt8
  n : Int
  s : Int
  deriving DecidableEq
def R_t50 : Rep S_t50 where
  sz := 3
  rd := fun lab w cs x => ∃ (oa0 : Option Addr) (c0 : Nat), cs = [.slice oa0 x.b.length c0, .int .i64 x.n, .int .i64 x.s] ∧ SL Rep.u8 lab w oa0 c0 x.b ∧ True
  len := by rintro lab w cs x ⟨oa0, c0, rfl, _⟩; rfl
  one := by rintro lab w cs x ⟨oa0, c0, rfl, _⟩ u hu; simp at hu; rcases hu with rfl | rfl | rfl <;> rfl
  keep := by rintro lab w lab' w' cs x hk ⟨oa0, c0, rfl, s0, _⟩; exact ⟨oa0, c0, rfl, s0.keep hk, trivial⟩
theorem kUnd_24 : Try.prog.underlying 24 = some (.slice 5) := by kernel_rfl
theorem kFld_26_0 : TyFld Try.prog 26 0 0 := fun w a => by kernel_rfl
theorem kOne_3 : TyOne Try.prog 3 := ⟨fun w => by kernel_rfl, fun w => by kernel_rfl⟩
theorem kFld_26_2 : TyFld Try.prog 26 2 2 := fun w a => by kernel_rfl
theorem kIs_3 : (Try.prog.underlying 3).isSome = true := by kernel_rfl
theorem kInt_5 : TyInt Try.prog 5 .u8 := by unfold TyInt; kernel_rfl
theorem kSl_24 : TySl Try.prog 24 5 1 1 (.int .u8 0) := ⟨by kernel_rfl, info_of (by kernel_rfl), by kernel_rfl, by decide⟩
theorem kZero_5 : TyZero Try.prog 5 (.int .u8 0) := fun w => by kernel_rfl
theorem kAgg_26 : TyAgg Try.prog 26 3 := ⟨fun w => by kernel_rfl, fun w => by kernel_rfl⟩
theorem kFn_30 : Fn? Try.prog 30 := ⟨Try.f30, Try.func30, by kernel_rfl, by kernel_rfl⟩
theorem kFld_26_1 : TyFld Try.prog 26 1 1 := fun w a => by kernel_rfl
theorem kOne_4 : TyOne Try.prog 4 := ⟨fun w => by kernel_rfl, fun w => by kernel_rfl⟩
theorem kFn_36 : Fn? Try.prog 36 := ⟨Try.f36, Try.func36, by kernel_rfl, by kernel_rfl⟩
theorem kBuilt_26 : ∀ vs, Try.prog.built 26 vs = Instr.fill (#[(0, 1), (1, 1), (2, 1)][·]?) (Value.agg #[.int .i64 0, .bool false, .int .i64 0]).cells vs := fun vs => by kernel_rfl
theorem kFn_31 : Fn? Try.prog 31 := ⟨Try.f31, Try.func31, by kernel_rfl, by kernel_rfl⟩
theorem kFn_33 : Fn? Try.prog 33 := ⟨Try.f33, Try.func33, by kernel_rfl, by kernel_rfl⟩
theorem kUnd_5 : Try.prog.underlying 5 = some (.int .u8) := by kernel_rfl
theorem kUnd_9 : Try.prog.underlying 9 = some .string := by kernel_rfl
theorem kUnd_22 : Try.prog.underlying 22 = some (.slice 63) := by kernel_rfl
theorem kSl_22 : TySl Try.prog 22 63 4 64 (Value.agg #[.int .i64 0, .slice none 0 0, .slice none 0 0, .int .i64 0]) := ⟨by kernel_rfl, info_of (by kernel_rfl), by kernel_rfl, by decide⟩
theorem kAgg_63 : TyAgg Try.prog 63 4 := ⟨fun w => by kernel_rfl, fun w => by kernel_rfl⟩
theorem kZero_63 : TyZero Try.prog 63 (Value.agg #[.int .i64 0, .slice none 0 0, .slice none 0 0, .int .i64 0]) := fun w => by kernel_rfl
theorem kFld_63_0 : TyFld Try.prog 63 0 0 := fun w a => by kernel_rfl
theorem kFld_63_1 : TyFld Try.prog 63 1 1 := fun w a => by kernel_rfl
theorem kOne_24 : TyOne Try.prog 24 := ⟨fun w => by kernel_rfl, fun w => by kernel_rfl⟩
theorem kFn_40 : Fn? Try.prog 40 := ⟨Try.f40, Try.func40, by kernel_rfl, by kernel_rfl⟩
theorem kMix_ : Try.prog.follows .mixedOrders = true := by kernel_rfl
theorem kFld_63_2 : TyFld Try.prog 63 2 2 := fun w a => by kernel_rfl
theorem kFld_63_3 : TyFld Try.prog 63 3 3 := fun w a => by kernel_rfl
theorem kFn_29 : Fn? Try.prog 29 := ⟨Try.f29, Try.func29, by kernel_rfl, by kernel_rfl⟩
theorem kFn_14 : Fn? Try.prog 14 := ⟨Try.f14, Try.func14, by kernel_rfl, by kernel_rfl⟩
theorem kFn_32 : Fn? Try.prog 32 := ⟨Try.f32, Try.func32, by kernel_rfl, by kernel_rfl⟩
theorem kBuilt_63 : ∀ vs, Try.prog.built 63 vs = Instr.fill (#[(0, 1), (1, 1), (2, 1), (3, 1)][·]?) (Value.agg #[.int .i64 0, .slice none 0 0, .slice none 0 0, .int .i64 0]).cells vs := fun vs => by kernel_rfl
theorem kFn_25 : Fn? Try.prog 25 := ⟨Try.f25, Try.func25, by kernel_rfl, by kernel_rfl⟩
theorem kFn_20 : Fn? Try.prog 20 := ⟨Try.f20, Try.func20, by kernel_rfl, by kernel_rfl⟩
theorem kFn_17 : Fn? Try.prog 17 := ⟨Try.f17, Try.func17, by kernel_rfl, by kernel_rfl⟩
theorem kBuilt_61 : ∀ vs, Try.prog.built 61 vs = Instr.fill (#[(0, 1), (1, 1)][·]?) (Value.agg #[.slice none 0 0, .int .i64 0]).cells vs := fun vs => by kernel_rfl
theorem kFld_61_1 : TyFld Try.prog 61 1 1 := fun w a => by kernel_rfl
theorem kFld_61_0 : TyFld Try.prog 61 0 0 := fun w a => by kernel_rfl
theorem kOne_23 : TyOne Try.prog 23 := ⟨fun w => by kernel_rfl, fun w => by kernel_rfl⟩
theorem kUnd_23 : Try.prog.underlying 23 = some (.slice 3) := by kernel_rfl
theorem kSl_23 : TySl Try.prog 23 3 1 8 (.int .i64 0) := ⟨by kernel_rfl, info_of (by kernel_rfl), by kernel_rfl, by decide⟩
theorem kFn_13 : Fn? Try.prog 13 := ⟨Try.f13, Try.func13, by kernel_rfl, by kernel_rfl⟩
theorem kInt_65 : TyInt Try.prog 65 .u64 := by unfold TyInt; kernel_rfl
theorem kInt_37 : TyInt Try.prog 37 .u64 := by unfold TyInt; kernel_rfl
theorem kIs_65 : (Try.prog.underlying 65).isSome = true := by kernel_rfl
theorem kFn_15 : Fn? Try.prog 15 := ⟨Try.f15, Try.func15, by kernel_rfl, by kernel_rfl⟩
theorem kFn_34 : Fn? Try.prog 34 := ⟨Try.f34, Try.func34, by kernel_rfl, by kernel_rfl⟩
theorem kFn_35 : Fn? Try.prog 35 := ⟨Try.f35, Try.func35, by kernel_rfl, by kernel_rfl⟩
theorem kFn_21 : Fn? Try.prog 21 := ⟨Try.f21, Try.func21, by kernel_rfl, by kernel_rfl⟩
theorem kZero_3 : TyZero Try.prog 3 (.int .i64 0) := fun w => by kernel_rfl
theorem kZero_26 : TyZero Try.prog 26 (Value.agg #[.int .i64 0, .bool false, .int .i64 0]) := fun w => by kernel_rfl
theorem kFn_16 : Fn? Try.prog 16 := ⟨Try.f16, Try.func16, by kernel_rfl, by kernel_rfl⟩
theorem kFn_18 : Fn? Try.prog 18 := ⟨Try.f18, Try.func18, by kernel_rfl, by kernel_rfl⟩
theorem kFn_9 : Fn? Try.prog 9 := ⟨Try.f9, Try.func9, by kernel_rfl, by kernel_rfl⟩
theorem kFn_10 : Fn? Try.prog 10 := ⟨Try.f10, Try.func10, by kernel_rfl, by kernel_rfl⟩
theorem kFn_11 : Fn? Try.prog 11 := ⟨Try.f11, Try.func11, by kernel_rfl, by kernel_rfl⟩
theorem kFn_12 : Fn? Try.prog 12 := ⟨Try.f12, Try.func12, by kernel_rfl, by kernel_rfl⟩
theorem kSl_33 : TySl Try.prog 33 22 1 24 (.slice none 0 0) := ⟨by kernel_rfl, info_of (by kernel_rfl), by kernel_rfl, by decide⟩
theorem kZero_22 : TyZero Try.prog 22 (.slice none 0 0) := fun w => by kernel_rfl
theorem kUnd_33 : Try.prog.underlying 33 = some (.slice 22) := by kernel_rfl
theorem kOne_22 : TyOne Try.prog 22 := ⟨fun w => by kernel_rfl, fun w => by kernel_rfl⟩
theorem kUnd_4 : Try.prog.underlying 4 = some .bool := by kernel_rfl
theorem kBuilt_35 : ∀ vs, Try.prog.built 35 vs = Instr.fill (#[(0, 1), (1, 1), (2, 3), (5, 1), (6, 1)][·]?) (Value.agg #[.int .i64 0, .slice none 0 0, .int .i64 0, .bool false, .int .i64 0, .slice none 0 0, .int .i64 0]).cells vs := fun vs => by kernel_rfl
theorem kSl_38 : TySl Try.prog 38 35 7 88 (Value.agg #[.int .i64 0, .slice none 0 0, .int .i64 0, .bool false, .int .i64 0, .slice none 0 0, .int .i64 0]) := ⟨by kernel_rfl, info_of (by kernel_rfl), by kernel_rfl, by decide⟩
theorem kZero_35 : TyZero Try.prog 35 (Value.agg #[.int .i64 0, .slice none 0 0, .int .i64 0, .bool false, .int .i64 0, .slice none 0 0, .int .i64 0]) := fun w => by kernel_rfl
theorem kUnd_38 : Try.prog.underlying 38 = some (.slice 35) := by kernel_rfl
theorem kAgg_35 : TyAgg Try.prog 35 7 := ⟨fun w => by kernel_rfl, fun w => by kernel_rfl⟩
theorem kFld_35_0 : TyFld Try.prog 35 0 0 := fun w a => by kernel_rfl
theorem kFld_35_1 : TyFld Try.prog 35 1 1 := fun w a => by kernel_rfl
theorem kFld_35_2 : TyFld Try.prog 35 2 2 := fun w a => by kernel_rfl
theorem kFld_35_3 : TyFld Try.prog 35 3 5 := fun w a => by kernel_rfl
theorem kFld_35_4 : TyFld Try.prog 35 4 6 := fun w a => by kernel_rfl
theorem kFn_19 : Fn? Try.prog 19 := ⟨Try.f19, Try.func19, by kernel_rfl, by kernel_rfl⟩
theorem kBuilt_50 : ∀ vs, Try.prog.built 50 vs = Instr.fill (#[(0, 1), (1, 1), (2, 1)][·]?) (Value.agg #[.slice none 0 0, .int .i64 0, .int .i64 0]).cells vs := fun vs => by kernel_rfl
theorem kSl_51 : TySl Try.prog 51 50 3 40 (Value.agg #[.slice none 0 0, .int .i64 0, .int .i64 0]) := ⟨by kernel_rfl, info_of (by kernel_rfl), by kernel_rfl, by decide⟩
theorem kZero_50 : TyZero Try.prog 50 (Value.agg #[.slice none 0 0, .int .i64 0, .int .i64 0]) := fun w => by kernel_rfl
theorem kUnd_51 : Try.prog.underlying 51 = some (.slice 50) := by kernel_rfl
theorem kAgg_50 : TyAgg Try.prog 50 3 := ⟨fun w => by kernel_rfl, fun w => by kernel_rfl⟩
theorem kFld_50_0 : TyFld Try.prog 50 0 0 := fun w a => by kernel_rfl
theorem kFld_50_1 : TyFld Try.prog 50 1 1 := fun w a => by kernel_rfl
theorem kFld_50_2 : TyFld Try.prog 50 2 2 := fun w a => by kernel_rfl
theorem kFn_22 : Fn? Try.prog 22 := ⟨Try.f22, Try.func22, by kernel_rfl, by kernel_rfl⟩
theorem kFn_23 : Fn? Try.prog 23 := ⟨Try.f23, Try.func23, by kernel_rfl, by kernel_rfl⟩
theorem kFn_24 : Fn? Try.prog 24 := ⟨Try.f24, Try.func24, by kernel_rfl, by kernel_rfl⟩
theorem kFn_37 : Fn? Try.prog 37 := ⟨Try.f37, Try.func37, by kernel_rfl, by kernel_rfl⟩
theorem kOne_5 : TyOne Try.prog 5 := ⟨fun w => by kernel_rfl, fun w => by kernel_rfl⟩
theorem kIs_5 : (Try.prog.underlying 5).isSome = true := by kernel_rfl
theorem kInt_3 : TyInt Try.prog 3 .i64 := by unfold TyInt; kernel_rfl
theorem kFn_38 : Fn? Try.prog 38 := ⟨Try.f38, Try.func38, by kernel_rfl, by kernel_rfl⟩
theorem kFn_39 : Fn? Try.prog 39 := ⟨Try.f39, Try.func39, by kernel_rfl, by kernel_rfl⟩
theorem kSl_53 : TySl Try.prog 53 26 3 24 (Value.agg #[.int .i64 0, .bool false, .int .i64 0]) := ⟨by kernel_rfl, info_of (by kernel_rfl), by kernel_rfl, by decide⟩
theorem kUnd_53 : Try.prog.underlying 53 = some (.slice 26) := by kernel_rfl
theorem kFn_26 : Fn? Try.prog 26 := ⟨Try.f26, Try.func26, by kernel_rfl, by kernel_rfl⟩
theorem kSl_56 : TySl Try.prog 56 24 1 24 (.slice none 0 0) := ⟨by kernel_rfl, info_of (by kernel_rfl), by kernel_rfl, by decide⟩
theorem kZero_24 : TyZero Try.prog 24 (.slice none 0 0) := fun w => by kernel_rfl
theorem kUnd_56 : Try.prog.underlying 56 = some (.slice 24) := by kernel_rfl
theorem kFn_27 : Fn? Try.prog 27 := ⟨Try.f27, Try.func27, by kernel_rfl, by kernel_rfl⟩
theorem kFn_28 : Fn? Try.prog 28 := ⟨Try.f28, Try.func28, by kernel_rfl, by kernel_rfl⟩
theorem kEqS_26 : ∀ {x0 y0 : Int} {x1 y1 : Bool} {x2 y2 : Int}, EqT Try.prog 26 [.int .i64 x0, .bool x1, .int .i64 x2] [.int .i64 y0, .bool y1, .int .i64 y2] ((x0 == y0) && ((x1 == y1) && ((x2 == y2) && true))) := by intros; exact ⟨by kernel_rfl, by kernel_rfl, by kernel_rfl, by kernel_rfl⟩
end Go.Proofs.Ytaefnnamjphieaa
