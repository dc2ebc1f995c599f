/-
  Models of the functions, as the evaluator computes them. No condition.
-/
import Derived.Test.YtllomdfckciedaaDoorEv
import Derived.Test.YtllomdfckciedaaDoorShelf
namespace Go.Proofs.YtllomdfckciedaaDoor
open Go.Gk Go.RowKit
noncomputable section
set_option maxRecDepth 100000
def m_coresecmake_Mod (a0 : Int) (a1 : Int) : Option Int :=
 bnd (Gk.rem a0 a1) fun x2 =>
 bnd (β := Int) (letm (decide (x2 < 0)) fun x3 =>
 cond x3 (letm ((w64 (x2 + a1))) fun x4 =>
 some x4)
  (some x2)) fun v5 =>
 some v5
def m_option_rule (a0 : Int) (a1 : Int) (a2 : Int) (a3 : Bool) : Option (S_api_Rule × Bool) :=
 some ((a0, (a1, (a2, a3))), true)
def m_option_Known (a0 : Int) : Option (S_api_Rule × Bool) :=
 bnd (β := Bool) (letm ((a0 == 1)) fun x1 =>
 cond x1 (some true)
  (letm ((a0 == 292)) fun x2 =>
 some x2)) fun v3 =>
 cond v3 (bnd (m_option_rule 2 0 8 true) fun x4 =>
 some (x4.1, x4.2))
  (bnd (β := Bool) (letm ((a0 == 3)) fun x5 =>
 cond x5 (some true)
  (letm ((a0 == 39)) fun x6 =>
 some x6)) fun v7 =>
 cond v7 (bnd (m_option_rule 4 1 255 false) fun x8 =>
 some (x8.1, x8.2))
  (letm ((a0 == 4)) fun x9 =>
 cond x9 (bnd (m_option_rule 2 1 8 true) fun x10 =>
 some (x10.1, x10.2))
  (letm ((a0 == 5)) fun x11 =>
 cond x11 (bnd (m_option_rule 1 0 0 false) fun x12 =>
 some (x12.1, x12.2))
  (bnd (β := Bool) (letm ((a0 == 6)) fun x13 =>
 cond x13 (some true)
  (letm ((a0 == 27)) fun x14 =>
 cond x14 (some true)
  (letm ((a0 == 23)) fun x15 =>
 some x15))) fun v16 =>
 cond v16 (bnd (m_option_rule 3 0 3 false) fun x17 =>
 some (x17.1, x17.2))
  (bnd (β := Bool) (letm ((a0 == 7)) fun x18 =>
 cond x18 (some true)
  (letm ((a0 == 12)) fun x19 =>
 cond x19 (some true)
  (letm ((a0 == 17)) fun x20 =>
 some x20))) fun v21 =>
 cond v21 (bnd (m_option_rule 3 0 2 false) fun x22 =>
 some (x22.1, x22.2))
  (bnd (β := Bool) (letm ((a0 == 11)) fun x23 =>
 cond x23 (some true)
  (letm ((a0 == 15)) fun x24 =>
 cond x24 (some true)
  (letm ((a0 == 8)) fun x25 =>
 cond x25 (some true)
  (letm ((a0 == 20)) fun x26 =>
 some x26)))) fun v27 =>
 cond v27 (bnd (m_option_rule 4 0 255 true) fun x28 =>
 some (x28.1, x28.2))
  (letm ((a0 == 9)) fun x29 =>
 cond x29 (bnd (m_option_rule 2 0 255 false) fun x30 =>
 some (x30.1, x30.2))
  (bnd (β := Bool) (letm ((a0 == 14)) fun x31 =>
 cond x31 (some true)
  (letm ((a0 == 60)) fun x32 =>
 cond x32 (some true)
  (letm ((a0 == 28)) fun x33 =>
 some x33))) fun v34 =>
 cond v34 (bnd (m_option_rule 3 0 4 false) fun x35 =>
 some (x35.1, x35.2))
  (letm ((a0 == 16)) fun x36 =>
 cond x36 (bnd (m_option_rule 3 1 1 false) fun x37 =>
 some (x37.1, x37.2))
  (letm ((a0 == 35)) fun x38 =>
 cond x38 (bnd (m_option_rule 4 1 1034 false) fun x39 =>
 some (x39.1, x39.2))
  (letm ((a0 == 252)) fun x40 =>
 cond x40 (bnd (m_option_rule 2 1 40 false) fun x41 =>
 some (x41.1, x41.2))
  (letm ((a0 == 258)) fun x42 =>
 cond x42 (bnd (m_option_rule 3 0 1 false) fun x43 =>
 some (x43.1, x43.2))
  (some ((0, (0, (0, false))), false))))))))))))))
def m_coresecref16_Known (a0 : Int) : Option (S_api_Rule × Bool) :=
 bndS (ρ := (S_api_Rule × Bool)) (ρ' := (S_api_Rule × Bool)) (Y := (Int × (Int × (Int × (Bool × S_api_Rule))))) (letm ((a0 == 1)) fun x1 =>
 cond x1 (some (.inr (2, (0, (8, (true, (0, (0, (0, false)))))))))
  (bnd (β := Bool) (letm ((a0 == 3)) fun x2 =>
 cond x2 (some true)
  (letm ((a0 == 39)) fun x3 =>
 some x3)) fun v4 =>
 cond v4 (some (.inr (4, (1, (255, (false, (0, (0, (0, false)))))))))
  (letm ((a0 == 4)) fun x5 =>
 cond x5 (some (.inr (2, (1, (8, (true, (0, (0, (0, false)))))))))
  (letm ((a0 == 5)) fun x6 =>
 cond x6 (some (.inr (1, (0, (0, (false, (0, (0, (0, false)))))))))
  (bnd (β := Bool) (letm ((a0 == 6)) fun x7 =>
 cond x7 (some true)
  (letm ((a0 == 27)) fun x8 =>
 cond x8 (some true)
  (letm ((a0 == 23)) fun x9 =>
 some x9))) fun v10 =>
 cond v10 (some (.inr (3, (0, (3, (false, (0, (0, (0, false)))))))))
  (bnd (β := Bool) (letm ((a0 == 7)) fun x11 =>
 cond x11 (some true)
  (letm ((a0 == 12)) fun x12 =>
 cond x12 (some true)
  (letm ((a0 == 17)) fun x13 =>
 some x13))) fun v14 =>
 cond v14 (some (.inr (3, (0, (2, (false, (0, (0, (0, false)))))))))
  (bnd (β := Bool) (letm ((a0 == 8)) fun x15 =>
 cond x15 (some true)
  (letm ((a0 == 11)) fun x16 =>
 cond x16 (some true)
  (letm ((a0 == 15)) fun x17 =>
 cond x17 (some true)
  (letm ((a0 == 20)) fun x18 =>
 some x18)))) fun v19 =>
 cond v19 (some (.inr (4, (0, (255, (true, (0, (0, (0, false)))))))))
  (letm ((a0 == 9)) fun x20 =>
 cond x20 (some (.inr (2, (0, (255, (false, (0, (0, (0, false)))))))))
  (bnd (β := Bool) (letm ((a0 == 14)) fun x21 =>
 cond x21 (some true)
  (letm ((a0 == 60)) fun x22 =>
 cond x22 (some true)
  (letm ((a0 == 28)) fun x23 =>
 some x23))) fun v24 =>
 cond v24 (some (.inr (3, (0, (4, (false, (0, (0, (0, false)))))))))
  (letm ((a0 == 16)) fun x25 =>
 cond x25 (some (.inr (3, (1, (1, (false, (0, (0, (0, false)))))))))
  (letm ((a0 == 35)) fun x26 =>
 cond x26 (some (.inr (4, (1, (1034, (false, (0, (0, (0, false)))))))))
  (letm ((a0 == 252)) fun x27 =>
 cond x27 (some (.inr (2, (1, (40, (false, (0, (0, (0, false)))))))))
  (letm ((a0 == 258)) fun x28 =>
 cond x28 (some (.inr (3, (0, (1, (false, (0, (0, (0, false)))))))))
  (letm ((a0 == 292)) fun x29 =>
 cond x29 (some (.inr (2, (0, (8, (true, (0, (0, (0, false)))))))))
  (some (.inl ((0, (0, (0, false))), false))))))))))))))))) (fun q => q) fun v30 =>
 some ((v30.1, (v30.2.1, (v30.2.2.1, v30.2.2.2.1))), true)
def m_option_in (a0 : Int) : Option Bool :=
 bnd (β := Bool) (letm (decide (0 ≤ a0)) fun x1 =>
 cond x1 (letm (decide (a0 ≤ 65535)) fun x2 =>
 some x2)
  (some false)) fun v3 =>
 some v3
def m_option_Critical (a0 : Int) : Option Bool :=
 bnd (β := Bool) (bnd (m_option_in a0) fun x1 =>
 cond x1 (letm ((ibit .and a0 1)) fun x2 =>
 letm ((x2 == 1)) fun x3 =>
 some x3)
  (some false)) fun v4 =>
 some v4
def m_coresecref16_in (a0 : Int) : Option Bool :=
 bnd (β := Bool) (letm (decide (0 ≤ a0)) fun x1 =>
 cond x1 (letm (decide (a0 ≤ 65535)) fun x2 =>
 some x2)
  (some false)) fun v3 =>
 some v3
def m_coresecref16_Critical (a0 : Int) : Option Bool :=
 bnd (β := Bool) (bnd (m_coresecref16_in a0) fun x1 =>
 cond x1 (letm ((ibit .and a0 1)) fun x2 =>
 letm ((x2 == 1)) fun x3 =>
 some x3)
  (some false)) fun v4 =>
 some v4
def m_option_Unsafe (a0 : Int) : Option Bool :=
 bnd (β := Bool) (bnd (m_option_in a0) fun x1 =>
 cond x1 (letm ((ibit .and a0 2)) fun x2 =>
 letm ((x2 == 2)) fun x3 =>
 some x3)
  (some false)) fun v4 =>
 some v4
def m_coresecref16_Unsafe (a0 : Int) : Option Bool :=
 bnd (β := Bool) (bnd (m_coresecref16_in a0) fun x1 =>
 cond x1 (letm ((ibit .and a0 2)) fun x2 =>
 letm ((x2 == 2)) fun x3 =>
 some x3)
  (some false)) fun v4 =>
 some v4
def m_option_NoCacheKey (a0 : Int) : Option Bool :=
 bnd (β := Bool) (bnd (m_option_in a0) fun x1 =>
 cond x1 (letm ((ibit .and a0 30)) fun x2 =>
 letm ((x2 == 28)) fun x3 =>
 some x3)
  (some false)) fun v4 =>
 some v4
def m_coresecref16_NoCacheKey (a0 : Int) : Option Bool :=
 bnd (β := Bool) (bnd (m_coresecref16_in a0) fun x1 =>
 cond x1 (letm ((ibit .and a0 30)) fun x2 =>
 letm ((x2 == 28)) fun x3 =>
 some x3)
  (some false)) fun v4 =>
 some v4
def m_bytes_Clone (a0 : List UInt8) : Option (List UInt8) := app ([] : List UInt8) a0
def m_bytes_Clone_o (a0 : List UInt8) : Option (List UInt8) := m_bytes_Clone a0

def m_option_owned (a0 : S_api_Message) (a1 : (List S_api_Option)) : Option S_api_Message :=
 bnd (m_bytes_Clone a0.2.2.2.1) fun x2 =>
 bnd (m_bytes_Clone a0.2.2.2.2.2) fun x3 =>
 loopL (R := S_api_Message) (S := (S_api_Message × (List S_api_Option))) (α := S_api_Option) (fun _ s5 =>
 some (s5.1.1, (s5.1.2.1, (s5.1.2.2.1, (s5.1.2.2.2.1, (s5.2, s5.1.2.2.2.2.2))))))
  (fun x6 _ s8 self9 =>
 bnd (m_bytes_Clone x6.2) fun x10 =>
 bnd (app s8.2 [(x6.1, x10)]) fun x11 =>
 self9 (s8.1, x11)) a1 0 ((a0.1, (a0.2.1, (a0.2.2.1, (x2, ([], x3))))), [])
def m_option_Set (a0 : S_api_Message) (a1 : Int) (a2 : (List (List UInt8))) : Option S_api_Message :=
 loopL (R := S_api_Message) (S := ((List S_api_Option) × (List S_api_Option))) (α := S_api_Option) (fun _ s4 =>
 loopL (R := S_api_Message) (S := (List S_api_Option)) (α := (List UInt8)) (fun _ s6 =>
 bnd (app s6 s4.2) fun x7 =>
 bnd (m_option_owned a0 x7) fun x8 =>
 some x8)
  (fun x9 _ s11 self12 =>
 bnd (app s11 [(a1, x9)]) fun x13 =>
 self12 x13) a2 0 s4.1)
  (fun x14 _ s16 self17 =>
 bnd (β := ((List S_api_Option) × (List S_api_Option))) (letm (decide (x14.1 < a1)) fun x18 =>
 cond x18 (bnd (app s16.1 [x14]) fun x19 =>
 some (x19, s16.2))
  (letm (decide (a1 < x14.1)) fun x20 =>
 cond x20 (bnd (app s16.2 [x14]) fun x21 =>
 some (s16.1, x21))
  (some (s16.1, s16.2)))) fun v22 =>
 self17 (v22.1, v22.2)) a0.2.2.2.2.1 0 ([], [])
def m_option_Uint (a0 : (List UInt8)) : Option S_cbor_checker :=
 loopL (R := S_cbor_checker) (S := Int) (α := UInt8) (fun _ s2 =>
 some (s2, 0))
  (fun x3 _ s5 self6 =>
 bnd (Gk.shl s5 (UInt64.toNat 8 : Int)) fun x7 =>
 letm ((w64 (UInt8.toNat x3 : Int))) fun x8 =>
 letm ((ibit .or x7 x8)) fun x9 =>
 letm (decide (4294967295 < x9)) fun x10 =>
 cond x10 (some (0, 8))
  (self6 x9)) a0 0 0
def m_strings_Split (a0 a1 : List UInt8) : Option (List (List UInt8)) := bif Nat.blt 0 a1.length && Nat.blt a0.length 4294967281 then some (Lib.split a0 a1) else none

def m_strings_IndexByte (a0 : List UInt8) (a1 : UInt8) : Option Int := some (Lib.indexByte a0 a1)

def m_option_plain (a0 : UInt8) : Option Bool :=
 bnd (β := Bool) (letm (decide ((UInt8.toNat 97 : Int) ≤ (UInt8.toNat a0 : Int))) fun x1 =>
 cond x1 (letm (decide ((UInt8.toNat a0 : Int) ≤ (UInt8.toNat 122 : Int))) fun x2 =>
 cond x2 (some true)
  (letm (decide ((UInt8.toNat 65 : Int) ≤ (UInt8.toNat a0 : Int))) fun x3 =>
 cond x3 (letm (decide ((UInt8.toNat a0 : Int) ≤ (UInt8.toNat 90 : Int))) fun x4 =>
 cond x4 (some true)
  (letm (decide ((UInt8.toNat 48 : Int) ≤ (UInt8.toNat a0 : Int))) fun x5 =>
 cond x5 (letm (decide ((UInt8.toNat a0 : Int) ≤ (UInt8.toNat 57 : Int))) fun x6 =>
 cond x6 (some true)
  (bnd (m_strings_IndexByte [45, 46, 95, 126] a0) fun x7 =>
 letm (decide (0 ≤ x7)) fun x8 =>
 some x8))
  (bnd (m_strings_IndexByte [45, 46, 95, 126] a0) fun x9 =>
 letm (decide (0 ≤ x9)) fun x10 =>
 some x10)))
  (letm (decide ((UInt8.toNat 48 : Int) ≤ (UInt8.toNat a0 : Int))) fun x11 =>
 cond x11 (letm (decide ((UInt8.toNat a0 : Int) ≤ (UInt8.toNat 57 : Int))) fun x12 =>
 cond x12 (some true)
  (bnd (m_strings_IndexByte [45, 46, 95, 126] a0) fun x13 =>
 letm (decide (0 ≤ x13)) fun x14 =>
 some x14))
  (bnd (m_strings_IndexByte [45, 46, 95, 126] a0) fun x15 =>
 letm (decide (0 ≤ x15)) fun x16 =>
 some x16))))
  (letm (decide ((UInt8.toNat 65 : Int) ≤ (UInt8.toNat a0 : Int))) fun x17 =>
 cond x17 (letm (decide ((UInt8.toNat a0 : Int) ≤ (UInt8.toNat 90 : Int))) fun x18 =>
 cond x18 (some true)
  (letm (decide ((UInt8.toNat 48 : Int) ≤ (UInt8.toNat a0 : Int))) fun x19 =>
 cond x19 (letm (decide ((UInt8.toNat a0 : Int) ≤ (UInt8.toNat 57 : Int))) fun x20 =>
 cond x20 (some true)
  (bnd (m_strings_IndexByte [45, 46, 95, 126] a0) fun x21 =>
 letm (decide (0 ≤ x21)) fun x22 =>
 some x22))
  (bnd (m_strings_IndexByte [45, 46, 95, 126] a0) fun x23 =>
 letm (decide (0 ≤ x23)) fun x24 =>
 some x24)))
  (letm (decide ((UInt8.toNat 48 : Int) ≤ (UInt8.toNat a0 : Int))) fun x25 =>
 cond x25 (letm (decide ((UInt8.toNat a0 : Int) ≤ (UInt8.toNat 57 : Int))) fun x26 =>
 cond x26 (some true)
  (bnd (m_strings_IndexByte [45, 46, 95, 126] a0) fun x27 =>
 letm (decide (0 ≤ x27)) fun x28 =>
 some x28))
  (bnd (m_strings_IndexByte [45, 46, 95, 126] a0) fun x29 =>
 letm (decide (0 ≤ x29)) fun x30 =>
 some x30)))) fun v31 =>
 some v31
def m_option_segment (a0 : (List UInt8)) : Option ((List UInt8) × Bool) :=
 loopF (R := ((List UInt8) × Bool)) (S := ((List UInt8) × Int)) (fun self2 s1 =>
 letm (decide (s1.2 < (a0.length : Int))) fun x3 =>
 cond x3 (bndS (ρ := ((List UInt8) × Bool)) (ρ' := ((List UInt8) × Bool)) (Y := ((List UInt8) × Int)) (bnd (idx a0 s1.2) fun x4 =>
 letm (((UInt8.toNat x4 : Int) != (UInt8.toNat 37 : Int))) fun x5 =>
 cond x5 (bnd (m_option_plain x4) fun x6 =>
 letm ((!x6)) fun x7 =>
 cond x7 (some (.inl ([], false)))
  (bnd (app s1.1 [x4]) fun x8 =>
 some (.inr (x8, s1.2))))
  (letm ((w64 (s1.2 + 2))) fun x9 =>
 letm (decide ((a0.length : Int) ≤ x9)) fun x10 =>
 cond x10 (some (.inl ([], false)))
  (letm ((w64 (s1.2 + 1))) fun x11 =>
 bnd (idx a0 x11) fun x12 =>
 bnd (m_strings_IndexByte [48, 49, 50, 51, 52, 53, 54, 55, 56, 57, 65, 66, 67, 68, 69, 70] x12) fun x13 =>
 letm ((w64 (s1.2 + 2))) fun x14 =>
 bnd (idx a0 x14) fun x15 =>
 bnd (m_strings_IndexByte [48, 49, 50, 51, 52, 53, 54, 55, 56, 57, 65, 66, 67, 68, 69, 70] x15) fun x16 =>
 bnd (β := Bool) (letm (decide (x13 < 0)) fun x17 =>
 cond x17 (some true)
  (letm (decide (x16 < 0)) fun x18 =>
 cond x18 (some true)
  (letm ((w64 (16 * x13))) fun x19 =>
 letm ((w64 (x19 + x16))) fun x20 =>
 letm ((toU8 x20)) fun x21 =>
 bnd (m_option_plain x21) fun x22 =>
 some x22))) fun v23 =>
 cond v23 (some (.inl ([], false)))
  (letm ((w64 (16 * x13))) fun x24 =>
 letm ((w64 (x24 + x16))) fun x25 =>
 letm ((toU8 x25)) fun x26 =>
 bnd (app s1.1 [x26]) fun x27 =>
 letm ((w64 (s1.2 + 2))) fun x28 =>
 some (.inr (x27, x28)))))) (fun q => q) fun v29 =>
 letm ((w64 (v29.2 + 1))) fun x30 =>
 self2 (v29.1, x30))
  (some (s1.1, true))) FUEL ([], 0)
def m_option_segments (a0 : (List UInt8)) : Option ((List (List UInt8)) × Bool) :=
 letm ((a0 == [])) fun x1 =>
 cond x1 (some ([], true))
  (bnd (idx a0 0) fun x2 =>
 letm (((UInt8.toNat x2 : Int) != (UInt8.toNat 47 : Int))) fun x3 =>
 cond x3 (some ([], false))
  (bnd (Gk.cut a0 1 (a0.length : Int)) fun x4 =>
 bnd (m_strings_Split x4 [47]) fun x5 =>
 loopL (R := ((List (List UInt8)) × Bool)) (S := (List (List UInt8))) (α := (List UInt8)) (fun _ s7 =>
 some (s7, true))
  (fun x8 _ s10 self11 =>
 bnd (m_option_segment x8) fun x12 =>
 letm ((!x12.2)) fun x13 =>
 cond x13 (some ([], false))
  (bnd (app s10 [x12.1]) fun x14 =>
 self11 x14)) x5 0 []))
def m_coap_sound (a0 : S_api_Message) : Option Bool :=
 bnd (Gk.shr a0.2.1 (UInt64.toNat 5 : Int)) fun x1 =>
 bnd (β := Bool) (letm (decide (a0.1 < 0)) fun x2 =>
 cond x2 (some true)
  (letm (decide (3 < a0.1)) fun x3 =>
 cond x3 (some true)
  (letm (decide (a0.2.1 < 0)) fun x4 =>
 cond x4 (some true)
  (letm (decide (255 < a0.2.1)) fun x5 =>
 cond x5 (some true)
  (letm ((x1 != 0)) fun x6 =>
 cond x6 (letm ((x1 != 2)) fun x7 =>
 cond x7 (letm ((x1 != 4)) fun x8 =>
 cond x8 (letm ((x1 != 5)) fun x9 =>
 some x9)
  (some false))
  (some false))
  (some false)))))) fun v10 =>
 cond v10 (some false)
  (bnd (β := Bool) (letm (decide (a0.2.2.1 < 0)) fun x11 =>
 cond x11 (some true)
  (letm (decide (65535 < a0.2.2.1)) fun x12 =>
 cond x12 (some true)
  (letm (decide (8 < (a0.2.2.2.1.length : Int))) fun x13 =>
 cond x13 (some true)
  (letm (decide (32 < (a0.2.2.2.2.1.length : Int))) fun x14 =>
 some x14)))) fun v15 =>
 cond v15 (some false)
  (loopL (R := Bool) (S := Int) (α := S_api_Option) (fun _ _ =>
 bnd (β := Bool) (letm ((a0.2.1 == 0)) fun x18 =>
 cond x18 (letm ((w64 ((a0.2.2.2.1.length : Int) + (a0.2.2.2.2.1.length : Int)))) fun x19 =>
 letm ((w64 (x19 + (a0.2.2.2.2.2.length : Int)))) fun x20 =>
 letm (decide (0 < x20)) fun x21 =>
 some x21)
  (some false)) fun v22 =>
 cond v22 (some false)
  (bnd (β := Bool) (letm ((a0.1 != 3)) fun x23 =>
 cond x23 (letm (decide ((a0.2.2.2.2.2.length : Int) ≤ 4096)) fun x24 =>
 some x24)
  (letm ((a0.2.1 == 0)) fun x25 =>
 cond x25 (letm (decide ((a0.2.2.2.2.2.length : Int) ≤ 4096)) fun x26 =>
 some x26)
  (some false))) fun v27 =>
 some v27))
  (fun x28 _ s30 self31 =>
 bnd (β := Bool) (letm (decide (x28.1 < s30)) fun x32 =>
 cond x32 (some true)
  (letm (decide (65535 < x28.1)) fun x33 =>
 cond x33 (some true)
  (letm (decide (1034 < (x28.2.length : Int))) fun x34 =>
 some x34))) fun v35 =>
 cond v35 (some false)
  (self31 x28.1)) a0.2.2.2.2.1 0 0))
def m_coap_parts (a0 : Int) : Option (UInt8 × (List UInt8)) :=
 letm (decide (a0 < 13)) fun x1 =>
 cond x1 (letm ((toU8 a0)) fun x2 =>
 some (x2, []))
  (letm (decide (a0 < 269)) fun x3 =>
 cond x3 (letm ((w64 (a0 - 13))) fun x4 =>
 letm ((toU8 x4)) fun x5 =>
 some (13, [x5]))
  (letm ((w64 (a0 - 269))) fun x6 =>
 bnd (Gk.shr x6 (UInt64.toNat 8 : Int)) fun x7 =>
 letm ((toU8 x7)) fun x8 =>
 letm ((w64 (a0 - 269))) fun x9 =>
 letm ((toU8 x9)) fun x10 =>
 some (14, [x8, x10])))
def m_coap_encode (a0 : S_api_Message) : Option (List UInt8) :=
 bnd (Gk.shl a0.1 (UInt64.toNat 4 : Int)) fun x1 =>
 letm ((ibit .or 64 x1)) fun x2 =>
 letm ((ibit .or x2 (a0.2.2.2.1.length : Int))) fun x3 =>
 letm ((toU8 x3)) fun x4 =>
 letm ((toU8 a0.2.1)) fun x5 =>
 bnd (Gk.shr a0.2.2.1 (UInt64.toNat 8 : Int)) fun x6 =>
 letm ((toU8 x6)) fun x7 =>
 letm ((toU8 a0.2.2.1)) fun x8 =>
 bnd (app [x4, x5, x7, x8] a0.2.2.2.1) fun x9 =>
 loopL (R := (List UInt8)) (S := ((List UInt8) × Int)) (α := S_api_Option) (fun _ s11 =>
 bnd (β := (List UInt8)) (letm (decide (0 < (a0.2.2.2.2.2.length : Int))) fun x12 =>
 cond x12 (bnd (app s11.1 [255]) fun x13 =>
 bnd (app x13 a0.2.2.2.2.2) fun x14 =>
 some x14)
  (some s11.1)) fun v15 =>
 some v15)
  (fun x16 _ s18 self19 =>
 letm ((w64 (x16.1 - s18.2))) fun x20 =>
 bnd (m_coap_parts x20) fun x21 =>
 bnd (m_coap_parts (x16.2.length : Int)) fun x22 =>
 bnd (shlK .u8 x21.1 (UInt64.toNat 4 : Int)) fun x23 =>
 letm ((toU8 (bits .or .u8 (UInt8.toNat x23) (UInt8.toNat x22.1)))) fun x24 =>
 bnd (app s18.1 [x24]) fun x25 =>
 bnd (app x25 x21.2) fun x26 =>
 bnd (app x26 x22.2) fun x27 =>
 bnd (app x27 x16.2) fun x28 =>
 self19 (x28, x16.1)) a0.2.2.2.2.1 0 (x9, 0)
def m_coap_Valid (a0 : S_api_Message) : Option Bool :=
 bnd (β := Bool) (bnd (m_coap_sound a0) fun x1 =>
 cond x1 (bnd (m_coap_encode a0) fun x2 =>
 letm (decide ((x2.length : Int) ≤ 4096)) fun x3 =>
 some x3)
  (some false)) fun v4 =>
 some v4
def m_option_SetPath (a0 : S_api_Message) (a1 : (List UInt8)) : Option (S_api_Message × Int) :=
 bnd (m_option_segments a1) fun x2 =>
 letm ((!x2.2)) fun x3 =>
 cond x3 (some ((0, (0, (0, ([], ([], []))))), 17))
  (bnd (m_option_Set a0 11 x2.1) fun x4 =>
 bnd (m_coap_Valid x4) fun x5 =>
 letm ((!x5)) fun x6 =>
 cond x6 (some ((0, (0, (0, ([], ([], []))))), 8))
  (some (x4, 0)))
def hexd (n : Nat) : UInt8 := [48, 49, 50, 51, 52, 53, 54, 55, 56, 57, 65, 66, 67, 68, 69, 70].getD n 0
def encC (c : UInt8) : Option (List UInt8) := bnd (m_option_plain c) fun b => some (bif b then [c] else [37, hexd (c.toNat / 16), hexd (c.toNat % 16)])
def pathV : List UInt8 → Option (List UInt8)
  | [] => some []
  | c :: r => bnd (encC c) fun x => bnd (pathV r) fun y => some (x ++ y)
def pathO : List S_api_Option → Option (List UInt8)
  | [] => some []
  | o :: r => bif o.1 != 11 then pathO r else bnd (pathV o.2) fun x => bnd (pathO r) fun y => some (47 :: (x ++ y))
def m_option_Path (a0 : S_api_Message) : Option (List UInt8) := bnd (pathO a0.2.2.2.2.1) fun z => bif Nat.ble z.length LIM then some z else none

def m_coreseclaw16_awake : Option Bool :=
 bnd (m_option_Set (0, (1, (0, ([], ([], []))))) 11 [[97], [98, 47, 99], []]) fun x0 =>
 bnd (m_option_Uint [0, 1]) fun x1 =>
 bnd (m_option_SetPath x0 [47, 37, 50, 102]) fun x2 =>
 bnd (β := Bool) (bnd (m_option_Path x0) fun x3 =>
 letm ((x3 == [47, 97, 47, 98, 37, 50, 70, 99, 47])) fun x4 =>
 cond x4 (letm ((x1.1 == 1)) fun x5 =>
 cond x5 (letm ((x1.2 == 0)) fun x6 =>
 cond x6 (letm ((x2.2 == 17)) fun x7 =>
 cond x7 (bnd (m_option_NoCacheKey 60) fun x8 =>
 cond x8 (bnd (m_option_Critical 9) fun x9 =>
 some x9)
  (some false))
  (some false))
  (some false))
  (some false))
  (some false)) fun v10 =>
 some v10
def m_coreseclaw16_OptionNumbers (a0 : Int) : Option Bool :=
 bnd (m_coresecmake_Mod a0 70000) fun x1 =>
 letm ((w64 (x1 - 1000))) fun x2 =>
 bnd (m_coresecmake_Mod a0 320) fun x3 =>
 loopL (R := Bool) (S := Unit) (α := Int) (fun _ _ =>
 bnd (m_coreseclaw16_awake ) fun x6 =>
 some x6)
  (fun x7 _ _ self10 =>
 bnd (m_option_Known x7) fun x11 =>
 bnd (m_coresecref16_Known x7) fun x12 =>
 bnd (β := Bool) (letm ((!(eqS (.pr (.int .i64) (.pr (.int .i64) (.pr (.int .i64) .bool))) x11.1 x12.1))) fun x13 =>
 cond x13 (some true)
  (letm ((x11.2 != x12.2)) fun x14 =>
 cond x14 (some true)
  (bnd (m_option_Critical x7) fun x15 =>
 bnd (m_coresecref16_Critical x7) fun x16 =>
 letm ((x15 != x16)) fun x17 =>
 cond x17 (some true)
  (bnd (m_option_Unsafe x7) fun x18 =>
 bnd (m_coresecref16_Unsafe x7) fun x19 =>
 letm ((x18 != x19)) fun x20 =>
 cond x20 (some true)
  (bnd (m_option_NoCacheKey x7) fun x21 =>
 bnd (m_coresecref16_NoCacheKey x7) fun x22 =>
 letm ((x21 != x22)) fun x23 =>
 some x23))))) fun v24 =>
 cond v24 (some false)
  (self10 ())) [a0, x2, x3] 0 ()
def m_coresecmake_Short (a0 : (List UInt8)) : Option Bool :=
 letm (decide ((a0.length : Int) ≤ 600)) fun x1 =>
 some x1
def m_coresecmake_Some (a0 : Int) (a1 : Int) : Option (List UInt8) :=
 bnd (rng a1) fun j17 =>
 loopN (R := (List UInt8)) (S := (List UInt8)) (fun _ s3 =>
 some s3)
  (fun k4 s5 self6 =>
 letm ((toU64 a0)) fun x7 =>
 bnd (Gk.rem (k4 : Int) 8) fun x8 =>
 letm ((toU64 x8)) fun x9 =>
 letm ((8 * x9)) fun x10 =>
 bnd ((shrK .u64 (x7 : UInt64) (UInt64.toNat x10 : Int) : Option UInt64)) fun (x11 : UInt64) =>
 letm ((toU8 (UInt64.toNat x11 : Int))) fun x12 =>
 bnd (quo (k4 : Int) 8) fun x13 =>
 letm ((toU8 x13)) fun x14 =>
 letm ((x12 + x14)) fun x15 =>
 bnd (app s5 [x15]) fun x16 =>
 self6 x16) j17 0 []
def m_coresecref16_Uint (a0 : (List UInt8)) : Option S_cbor_checker :=
 loopL (R := S_cbor_checker) (S := Int) (α := UInt8) (fun _ s2 =>
 some (s2, 0))
  (fun x3 _ s5 self6 =>
 bnd (Gk.shl s5 (UInt64.toNat 8 : Int)) fun x7 =>
 letm ((w64 (UInt8.toNat x3 : Int))) fun x8 =>
 letm ((ibit .or x7 x8)) fun x9 =>
 letm (decide (4294967295 < x9)) fun x10 =>
 cond x10 (some (0, 8))
  (self6 x9)) a0 0 0
def m_option_FromUint (a0 : Int) : Option (List UInt8) :=
 bnd (β := Bool) (letm (decide (a0 < 0)) fun x1 =>
 cond x1 (some true)
  (letm (decide (4294967295 < a0)) fun x2 =>
 some x2)) fun v3 =>
 cond v3 (some [])
  (loopF (R := (List UInt8)) (S := ((List UInt8) × Int)) (fun self5 s4 =>
 letm (decide (0 ≤ s4.2)) fun x6 =>
 cond x6 (bnd (β := (List UInt8)) (bnd (Gk.shr a0 s4.2) fun x7 =>
 letm (decide (0 < x7)) fun x8 =>
 cond x8 (bnd (Gk.shr a0 s4.2) fun x9 =>
 letm ((toU8 x9)) fun x10 =>
 bnd (app s4.1 [x10]) fun x11 =>
 some x11)
  (some s4.1)) fun v12 =>
 letm ((w64 (s4.2 - 8))) fun x13 =>
 self5 (v12, x13))
  (some s4.1)) FUEL ([], 24))
def m_coresecref16_FromUint (a0 : Int) : Option (List UInt8) :=
 bnd (β := Bool) (letm (decide (a0 < 0)) fun x1 =>
 cond x1 (some true)
  (letm (decide (4294967295 < a0)) fun x2 =>
 some x2)) fun v3 =>
 cond v3 (some [])
  (bnd (β := (List UInt8)) (loopF (R := (List UInt8)) (S := S_api_Option) (fun self5 s4 =>
 letm (decide (0 < s4.1)) fun x6 =>
 cond x6 (letm ((toU8 s4.1)) fun x7 =>
 bnd (app [x7] s4.2) fun x8 =>
 bnd (Gk.shr s4.1 (UInt64.toNat 8 : Int)) fun x9 =>
 self5 (x9, x8))
  (some s4.2)) FUEL (a0, [])) fun v10 =>
 some v10)
def m_coreseclaw16_OptionUints (a0 : (List UInt8)) (a1 : Int) : Option Bool :=
 bnd (m_coresecmake_Short a0) fun x2 =>
 letm ((!x2)) fun x3 =>
 cond x3 (bnd (m_coreseclaw16_awake ) fun x4 =>
 some x4)
  (bnd (m_coresecmake_Mod a1 6) fun x5 =>
 bnd (m_coresecmake_Some a1 x5) fun x6 =>
 bnd (m_coresecmake_Mod a1 9) fun x7 =>
 bnd (mkl x7 0) fun x8 =>
 bnd (m_coresecmake_Some a1 4) fun x9 =>
 bnd (app x8 x9) fun x10 =>
 bnd (rng ([a0, x6, x10].length : Int)) fun j36 =>
 loopN (R := Bool) (S := Unit) (fun _ _ =>
 bnd (m_coresecmake_Mod a1 70000) fun x13 =>
 letm ((w64 (x13 - 2))) fun x14 =>
 bnd (m_coresecmake_Mod a1 4) fun x15 =>
 letm ((w64 (4294967294 + x15))) fun x16 =>
 loopL (R := Bool) (S := Unit) (α := Int) (fun _ _ =>
 bnd (m_coreseclaw16_awake ) fun x19 =>
 some x19)
  (fun x20 _ _ self23 =>
 bnd (m_option_FromUint x20) fun x24 =>
 bnd (m_coresecref16_FromUint x20) fun x25 =>
 letm ((x24 != x25)) fun x26 =>
 cond x26 (some false)
  (self23 ())) [a1, x14, x16] 0 ())
  (fun k27 _ self29 =>
 bnd (idx [a0, x6, x10] (k27 : Int)) fun x30 =>
 bnd (m_option_Uint x30) fun x31 =>
 bnd (m_coresecref16_Uint x30) fun x32 =>
 bnd (β := Bool) (letm ((x31.1 != x32.1)) fun x33 =>
 cond x33 (some true)
  (letm ((x31.2 != x32.2)) fun x34 =>
 some x34)) fun v35 =>
 cond v35 (some false)
  (self29 ())) j36 0 ())
def m_coresecmake_New (a0 : (List Int)) : Option S_coresecmake_Deck :=
 some (a0, 0)
def m_coresecmake_Deck_Next (a0 : S_coresecmake_Deck) (a1 : Int) : Option (Int × S_coresecmake_Deck) :=
 letm (decide ((a0.1.length : Int) ≤ a0.2)) fun x2 =>
 cond x2 (some (0, a0))
  (letm ((w64 (a0.2 + 1))) fun x3 =>
 letm ((w64 (x3 - 1))) fun x4 =>
 bnd (idx a0.1 x4) fun x5 =>
 bnd (m_coresecmake_Mod x5 a1) fun x6 =>
 some (x6, (a0.1, x3)))
def m_coresecmake_Deck_Bytes (a0 : S_coresecmake_Deck) (a1 : Int) : Option ((List UInt8) × S_coresecmake_Deck) :=
 letm ((w64 (a1 + 1))) fun x2 =>
 bnd (m_coresecmake_Deck_Next a0 x2) fun x3 =>
 loopF (R := ((List UInt8) × S_coresecmake_Deck)) (S := ((List UInt8) × (Int × S_coresecmake_Deck))) (fun self5 s4 =>
 letm (decide (0 < s4.2.1)) fun x6 =>
 cond x6 (bnd (m_coresecmake_Deck_Next s4.2.2 256) fun x7 =>
 letm ((toU8 x7.1)) fun x8 =>
 bnd (app s4.1 [x8]) fun x9 =>
 letm ((w64 (s4.2.1 - 1))) fun x10 =>
 self5 (x9, (x10, x7.2)))
  (some (s4.1, s4.2.2))) FUEL ([], (x3.1, x3.2))
def m_coresecmake_numbers : Option (List Int) :=
 some [1, 3, 4, 6, 8, 11, 11, 12, 14, 15, 17, 23, 27, 28, 35, 60, 252, 258, 292, 9, 2, 13, 300, 65535]
def m_coresecref16_All (a0 : S_api_Message) (a1 : Int) : Option (List (List UInt8)) :=
 loopL (R := (List (List UInt8))) (S := (List (List UInt8))) (α := S_api_Option) (fun _ s3 =>
 some s3)
  (fun x4 _ s6 self7 =>
 bnd (β := (List (List UInt8))) (letm ((x4.1 == a1)) fun x8 =>
 cond x8 (bnd (app [] x4.2) fun x9 =>
 bnd (app s6 [x9]) fun x10 =>
 some x10)
  (some s6)) fun v11 =>
 self7 v11) a0.2.2.2.2.1 0 []
def m_coresecref16_All_o (a0 : S_api_Message) (a1 : Int) : Option (List (List UInt8)) :=
 loopL (R := (List (List UInt8))) (S := (List (List UInt8))) (α := S_api_Option) (fun _ s3 =>
 some s3)
  (fun x4 _ s6 self7 =>
 bnd (β := (List (List UInt8))) (letm ((x4.1 == a1)) fun x8 =>
 cond x8 (bnd (app [] x4.2) fun x9 =>
 bnd (app s6 [x9]) fun x10 =>
 some x10)
  (some s6)) fun v11 =>
 self7 v11) a0.2.2.2.2.1 0 []
def m_coresecref16_with (a0 : S_api_Message) (a1 : (List S_api_Option)) : Option S_api_Message :=
 bnd (app [] a0.2.2.2.1) fun x2 =>
 bnd (app [] a0.2.2.2.2.2) fun x3 =>
 loopL (R := S_api_Message) (S := (List S_api_Option)) (α := S_api_Option) (fun _ s5 =>
 some (a0.1, (a0.2.1, (a0.2.2.1, (x2, (s5, x3))))))
  (fun x6 _ s8 self9 =>
 bnd (app [] x6.2) fun x10 =>
 bnd (app s8 [(x6.1, x10)]) fun x11 =>
 self9 x11) a1 0 []
def m_coresecref16_Set (a0 : S_api_Message) (a1 : Int) (a2 : (List (List UInt8))) : Option S_api_Message :=
 loopL (R := S_api_Message) (S := (List S_api_Option)) (α := S_api_Option) (fun _ s4 =>
 loopL (R := S_api_Message) (S := (List S_api_Option)) (α := (List UInt8)) (fun _ s6 =>
 loopL (R := S_api_Message) (S := (List S_api_Option)) (α := S_api_Option) (fun _ s8 =>
 bnd (m_coresecref16_with a0 s8) fun x9 =>
 some x9)
  (fun x10 _ s12 self13 =>
 bnd (β := (List S_api_Option)) (letm (decide (a1 < x10.1)) fun x14 =>
 cond x14 (bnd (app s12 [x10]) fun x15 =>
 some x15)
  (some s12)) fun v16 =>
 self13 v16) a0.2.2.2.2.1 0 s6)
  (fun x17 _ s19 self20 =>
 bnd (app s19 [(a1, x17)]) fun x21 =>
 self20 x21) a2 0 s4)
  (fun x22 _ s24 self25 =>
 bnd (β := (List S_api_Option)) (letm (decide (x22.1 < a1)) fun x26 =>
 cond x26 (bnd (app s24 [x22]) fun x27 =>
 some x27)
  (some s24)) fun v28 =>
 self25 v28) a0.2.2.2.2.1 0 []
def m_coresecmake_Deck_Options (a0 : S_coresecmake_Deck) (a1 : Int) : Option ((List S_api_Option) × S_coresecmake_Deck) :=
 letm ((w64 (a1 + 1))) fun x2 =>
 bnd (m_coresecmake_Deck_Next a0 x2) fun x3 =>
 loopF (R := ((List S_api_Option) × S_coresecmake_Deck)) (S := (Int × (S_coresecmake_Deck × S_api_Message))) (fun self5 s4 =>
 letm (decide (0 < s4.1)) fun x6 =>
 cond x6 (bnd (m_coresecmake_numbers ) fun x7 =>
 bnd (m_coresecmake_Deck_Next s4.2.1 24) fun x8 =>
 bnd (idx x7 x8.1) fun x9 =>
 bnd (m_coresecref16_All_o s4.2.2 x9) fun x10 =>
 bnd (m_coresecmake_Deck_Bytes x8.2 5) fun x11 =>
 bnd (app x10 [x11.1]) fun x12 =>
 bnd (m_coresecref16_Set s4.2.2 x9 x12) fun x13 =>
 letm ((w64 (s4.1 - 1))) fun x14 =>
 self5 (x14, (x11.2, x13)))
  (some (s4.2.2.2.2.2.2.1, s4.2.1))) FUEL (x3.1, (x3.2, (0, (0, (0, ([], ([], [])))))))
def m_coresecref15_Copy (a0 : S_api_Message) : Option S_api_Message :=
 bnd (app [] a0.2.2.2.1) fun x1 =>
 bnd (app [] a0.2.2.2.2.2) fun x2 =>
 loopL (R := S_api_Message) (S := (List S_api_Option)) (α := S_api_Option) (fun _ s4 =>
 some (a0.1, (a0.2.1, (a0.2.2.1, (x1, (s4, x2))))))
  (fun x5 _ s7 self8 =>
 bnd (app [] x5.2) fun x9 =>
 bnd (app s7 [(x5.1, x9)]) fun x10 =>
 self8 x10) a0.2.2.2.2.1 0 []
def m_coresecmake_Deck_Message (a0 : S_coresecmake_Deck) (a1 : Int) : Option (S_api_Message × S_coresecmake_Deck) :=
 bnd (m_coresecmake_Deck_Next a0 2) fun x2 =>
 bnd (m_coresecmake_Deck_Next x2.2 65536) fun x3 =>
 bnd (m_coresecmake_Deck_Bytes x3.2 4) fun x4 =>
 bnd (m_coresecmake_Deck_Options x4.2 5) fun x5 =>
 bnd (m_coresecmake_Deck_Bytes x5.2 20) fun x6 =>
 bnd (β := (S_coresecmake_Deck × S_api_Message)) (letm ((a1 == 0)) fun x7 =>
 cond x7 (bnd (m_coresecmake_Deck_Next x6.2 4) fun x8 =>
 some (x8.2, (x8.1, (a1, (x3.1, ([], ([], [])))))))
  (some (x6.2, (x2.1, (a1, (x3.1, (x4.1, (x5.1, x6.1)))))))) fun v9 =>
 bnd (m_coresecref15_Copy v9.2) fun x10 =>
 some (x10, v9.1)
def m_coresecmake_Deck_Text (a0 : S_coresecmake_Deck) (a1 : Int) : Option ((List UInt8) × S_coresecmake_Deck) :=
 letm ((w64 (a1 + 1))) fun x2 =>
 bnd (m_coresecmake_Deck_Next a0 x2) fun x3 =>
 loopF (R := ((List UInt8) × S_coresecmake_Deck)) (S := ((List UInt8) × (Int × S_coresecmake_Deck))) (fun self5 s4 =>
 letm (decide (0 < s4.2.1)) fun x6 =>
 cond x6 (bnd (m_coresecmake_Deck_Next s4.2.2 10) fun x7 =>
 bnd (idx [[97], [98], [47], [34], [92], [10], [127], [37], [195, 169], [226, 130, 172]] x7.1) fun x8 =>
 bnd (app s4.1 x8) fun x9 =>
 letm ((w64 (s4.2.1 - 1))) fun x10 =>
 self5 (x9, (x10, x7.2)))
  (some (s4.1, s4.2.2))) FUEL ([], (x3.1, x3.2))
def m_coreseclaw16_message (a0 : (List Int)) : Option S_api_Message :=
 bnd (m_coresecmake_New a0) fun x1 =>
 bnd (m_coresecmake_Deck_Next x1 5) fun x2 =>
 bnd (idx [1, 2, 5, 69, 132] x2.1) fun x3 =>
 bnd (m_coresecmake_Deck_Message x2.2 x3) fun x4 =>
 bnd (β := S_api_Message) (bnd (m_coresecmake_Deck_Next x4.2 6) fun x5 =>
 letm ((x5.1 == 0)) fun x6 =>
 cond x6 (bnd (m_coresecmake_Deck_Bytes x5.2 3) fun x7 =>
 bnd (m_coresecmake_Deck_Next x7.2 2) fun x8 =>
 letm ((w64 (255 + x8.1))) fun x9 =>
 bnd (mkl x9 0) fun x10 =>
 bnd (m_coresecref16_Set x4.1 11 [x7.1, x10]) fun x11 =>
 some x11)
  (letm ((x5.1 == 1)) fun x12 =>
 cond x12 (bnd (m_coresecmake_Deck_Text x5.2 2) fun x13 =>
 bnd (app [] x13.1) fun x14 =>
 bnd (m_coresecref16_Set x4.1 3 [x14, [255]]) fun x15 =>
 some x15)
  (letm ((x5.1 == 2)) fun x16 =>
 cond x16 (bnd (m_coresecmake_Deck_Bytes x5.2 3) fun x17 =>
 bnd (m_coresecmake_Deck_Bytes x17.2 3) fun x18 =>
 bnd (m_coresecref16_Set x4.1 12 [x17.1, x18.1]) fun x19 =>
 some x19)
  (some x4.1)))) fun v20 =>
 some v20
def m_option_Get (a0 : S_api_Message) (a1 : Int) : Option ((List UInt8) × Bool) :=
 loopL (R := ((List UInt8) × Bool)) (S := Unit) (α := S_api_Option) (fun _ _ =>
 some ([], false))
  (fun x4 _ _ self7 =>
 letm ((x4.1 == a1)) fun x8 =>
 cond x8 (bnd (m_bytes_Clone x4.2) fun x9 =>
 some (x9, true))
  (self7 ())) a0.2.2.2.2.1 0 ()
def m_coresecref16_Get (a0 : S_api_Message) (a1 : Int) : Option ((List UInt8) × Bool) :=
 bnd (m_coresecref16_All a0 a1) fun x2 =>
 letm (((x2.length : Int) == 0)) fun x3 =>
 cond x3 (some ([], false))
  (bnd (idx x2 0) fun x4 =>
 some (x4, true))
def m_option_All (a0 : S_api_Message) (a1 : Int) : Option (List (List UInt8)) :=
 loopL (R := (List (List UInt8))) (S := (List (List UInt8))) (α := S_api_Option) (fun _ s3 =>
 some s3)
  (fun x4 _ s6 self7 =>
 bnd (β := (List (List UInt8))) (letm ((x4.1 == a1)) fun x8 =>
 cond x8 (bnd (m_bytes_Clone x4.2) fun x9 =>
 bnd (app s6 [x9]) fun x10 =>
 some x10)
  (some s6)) fun v11 =>
 self7 v11) a0.2.2.2.2.1 0 []
def m_coresecref15_Same (a0 : S_api_Message) (a1 : S_api_Message) : Option Bool :=
 bnd (β := Bool) (letm ((a0.1 != a1.1)) fun x2 =>
 cond x2 (some true)
  (letm ((a0.2.1 != a1.2.1)) fun x3 =>
 cond x3 (some true)
  (letm ((a0.2.2.1 != a1.2.2.1)) fun x4 =>
 cond x4 (some true)
  (letm ((a0.2.2.2.1 != a1.2.2.2.1)) fun x5 =>
 cond x5 (some true)
  (letm ((a0.2.2.2.2.2 != a1.2.2.2.2.2)) fun x6 =>
 cond x6 (some true)
  (letm (((a0.2.2.2.2.1.length : Int) != (a1.2.2.2.2.1.length : Int))) fun x7 =>
 some x7)))))) fun v8 =>
 cond v8 (some false)
  (loopL (R := Bool) (S := Unit) (α := S_api_Option) (fun _ _ =>
 some true)
  (fun x11 k12 _ self14 =>
 bnd (β := Bool) (bnd (idx a1.2.2.2.2.1 (k12 : Int)) fun x15 =>
 letm ((x11.1 != x15.1)) fun x16 =>
 cond x16 (some true)
  (bnd (idx a1.2.2.2.2.1 (k12 : Int)) fun x17 =>
 letm ((x11.2 != x17.2)) fun x18 =>
 some x18)) fun v19 =>
 cond v19 (some false)
  (self14 ())) a0.2.2.2.2.1 0 ())
def m_coreseclaw16_OptionSets (a0 : (List Int)) (a1 : Int) (a2 : (List (List UInt8))) : Option Bool :=
 letm (decide (10 < (a2.length : Int))) fun x3 =>
 cond x3 (bnd (m_coreseclaw16_awake ) fun x4 =>
 some x4)
  (loopL (R := Bool) (S := Unit) (α := (List UInt8)) (fun _ _ =>
 bnd (m_coreseclaw16_message a0) fun x7 =>
 bnd (m_coresecmake_Mod a1 65536) fun x8 =>
 bnd (m_coresecmake_Mod a1 40) fun x9 =>
 loopL (R := Bool) (S := Unit) (α := Int) (fun _ _ =>
 bnd (m_coreseclaw16_awake ) fun x12 =>
 some x12)
  (fun x13 _ _ self16 =>
 bnd (m_option_Get x7 x13) fun x17 =>
 bnd (m_coresecref16_Get x7 x13) fun x18 =>
 bnd (m_option_All x7 x13) fun x19 =>
 bnd (m_coresecref16_All x7 x13) fun x20 =>
 bnd (β := Bool) (letm ((x17.1 != x18.1)) fun x21 =>
 cond x21 (some true)
  (letm ((x17.2 != x18.2)) fun x22 =>
 cond x22 (some true)
  (letm (((x19.length : Int) != (x20.length : Int))) fun x23 =>
 cond x23 (some true)
  (bnd (m_option_Set x7 x13 a2) fun x24 =>
 bnd (m_coresecref16_Set x7 x13 a2) fun x25 =>
 bnd (m_coresecref15_Same x24 x25) fun x26 =>
 letm ((!x26)) fun x27 =>
 some x27)))) fun v28 =>
 cond v28 (some false)
  (loopL (R := Bool) (S := Unit) (α := (List UInt8)) (fun _ _ =>
 self16 ())
  (fun x31 k32 _ self34 =>
 bnd (idx x20 (k32 : Int)) fun x35 =>
 letm ((x31 != x35)) fun x36 =>
 cond x36 (some false)
  (self34 ())) x19 0 ())) [x8, x9, 11, 65535] 0 ())
  (fun x37 _ _ self40 =>
 letm (decide (50 < (x37.length : Int))) fun x41 =>
 cond x41 (bnd (m_coreseclaw16_awake ) fun x42 =>
 some x42)
  (self40 ())) a2 0 ())
def m_coreseclaw16_OptionBack (a0 : (List Int)) (a1 : (List (List UInt8))) (a2 : Int) : Option Bool :=
 letm (decide (8 < (a1.length : Int))) fun x3 =>
 cond x3 (bnd (m_coreseclaw16_awake ) fun x4 =>
 some x4)
  (loopL (R := Bool) (S := Unit) (α := (List UInt8)) (fun _ _ =>
 bnd (m_coreseclaw16_message a0) fun x7 =>
 bnd (m_option_Set x7 11 a1) fun x8 =>
 bnd (m_option_Path x8) fun x9 =>
 bnd (m_option_SetPath x7 x9) fun x10 =>
 bnd (m_coresecmake_Mod a2 4294967296) fun x11 =>
 bnd (m_option_FromUint x11) fun x12 =>
 bnd (m_option_Uint x12) fun x13 =>
 bnd (β := Bool) (letm ((x10.2 != 0)) fun x14 =>
 cond x14 (some true)
  (bnd (m_option_Path x10.1) fun x15 =>
 letm ((x15 != x9)) fun x16 =>
 cond x16 (some true)
  (letm ((x9 == [])) fun x17 =>
 letm (((a1.length : Int) == 0)) fun x18 =>
 letm ((x17 != x18)) fun x19 =>
 cond x19 (some true)
  (letm ((x13.2 != 0)) fun x20 =>
 cond x20 (some true)
  (letm ((x13.1 != x11)) fun x21 =>
 some x21))))) fun v22 =>
 cond v22 (some false)
  (bnd (m_option_All x10.1 11) fun x23 =>
 letm (((x23.length : Int) != (a1.length : Int))) fun x24 =>
 cond x24 (some false)
  (loopL (R := Bool) (S := Unit) (α := (List UInt8)) (fun _ _ =>
 bnd (β := Bool) (bnd (m_coresecref16_Set x10.1 11 []) fun x27 =>
 bnd (m_coresecref16_Set x7 11 []) fun x28 =>
 bnd (m_coresecref15_Same x27 x28) fun x29 =>
 cond x29 (bnd (m_coreseclaw16_awake ) fun x30 =>
 some x30)
  (some false)) fun v31 =>
 some v31)
  (fun x32 k33 _ self35 =>
 bnd (idx x23 (k33 : Int)) fun x36 =>
 letm ((x36 != x32)) fun x37 =>
 cond x37 (some false)
  (self35 ())) a1 0 ())))
  (fun x38 _ _ self41 =>
 letm (decide (60 < (x38.length : Int))) fun x42 =>
 cond x42 (bnd (m_coreseclaw16_awake ) fun x43 =>
 some x43)
  (self41 ())) a1 0 ())
def m_cbor_Uint (a0 : UInt64) : Option Go.Gk.Tr :=
 some (Tr.mk 0 a0 [] [])
def m_cbor_Int (a0 : Int) : Option Go.Gk.Tr :=
 letm (decide (a0 < 0)) fun x1 =>
 cond x1 (letm ((w64 ((-1) - a0))) fun x2 =>
 letm ((toU64 x2)) fun x3 =>
 some (Tr.mk 1 x3 [] []))
  (letm ((toU64 a0)) fun x4 =>
 bnd (m_cbor_Uint x4) fun x5 =>
 some x5)
def m_slices_Clone_byte_byte (a0 : List UInt8) : Option (List UInt8) := app ([] : List UInt8) a0
def m_slices_Clone_byte_byte_o (a0 : List UInt8) : Option (List UInt8) := m_slices_Clone_byte_byte a0

def m_cbor_Bytes (a0 : (List UInt8)) : Option Go.Gk.Tr :=
 bnd (m_slices_Clone_byte_byte a0) fun x1 =>
 some (Tr.mk 2 0 x1 [])
def b_cbor_copied (m_cbor_copied : (Go.Gk.Tr) → Option Go.Gk.Tr) (a0 : Go.Gk.Tr) : Option Go.Gk.Tr :=
 bnd (m_bytes_Clone a0.b) fun x1 =>
 bnd (mkl (a0.l.length : Int) (Tr.mk 0 0 [] [])) fun x2 =>
 loopL (R := Go.Gk.Tr) (S := (List Go.Gk.Tr)) (α := Go.Gk.Tr) (fun _ s4 =>
 bnd (β := Go.Gk.Tr) (letm (((s4.length : Int) == 0)) fun x5 =>
 cond x5 (some (Tr.mk a0.k a0.n x1 []))
  (some (Tr.mk a0.k a0.n x1 s4))) fun v6 =>
 some v6)
  (fun x7 k8 s9 self10 =>
 bnd (m_cbor_copied x7) fun x11 =>
 bnd (idx s9 (k8 : Int)) fun _ =>
 bnd (idx s9 ((((k8 : Int) : Int)).toNat : Int)) fun _ =>
 letm ((s9.set (((k8 : Int) : Int)).toNat x11)) fun x14 =>
 self10 x14) a0.l 0 x2
def n_cbor_copied (n : Nat) : (Go.Gk.Tr) → Option Go.Gk.Tr := Nat.rec (motive := fun _ => (Go.Gk.Tr) → Option Go.Gk.Tr) (fun _ => none) (fun _ ih => b_cbor_copied ih) n
def m_cbor_copied (a0 : Go.Gk.Tr) : Option Go.Gk.Tr := n_cbor_copied 40 a0

def m_cbor_Array (a0 : (List Go.Gk.Tr)) : Option Go.Gk.Tr :=
 loopL (R := Go.Gk.Tr) (S := (Go.Gk.Tr × (List Go.Gk.Tr))) (α := Go.Gk.Tr) (fun _ s2 =>
 some (Tr.mk s2.1.k s2.1.n s2.1.b s2.2))
  (fun x3 _ s5 self6 =>
 bnd (m_cbor_copied x3) fun x7 =>
 bnd (app s5.2 [x7]) fun x8 =>
 self6 (s5.1, x8)) a0 0 ((Tr.mk 4 0 [] []), [])
def m_unicode_utf8_word_byte (a0 : (List UInt8)) : Option UInt64 :=
 bnd (idx a0 0) fun x1 =>
 letm ((toU64 (UInt8.toNat x1 : Int))) fun x2 =>
 bnd (idx a0 1) fun x3 =>
 letm ((toU64 (UInt8.toNat x3 : Int))) fun x4 =>
 bnd ((shlK .u64 (x4 : UInt64) (UInt64.toNat 8 : Int) : Option UInt64)) fun (x5 : UInt64) =>
 letm ((bitK .or .u64 (x2 : UInt64) (x5 : UInt64) : UInt64)) fun x6 =>
 bnd (idx a0 2) fun x7 =>
 letm ((toU64 (UInt8.toNat x7 : Int))) fun x8 =>
 bnd ((shlK .u64 (x8 : UInt64) (UInt64.toNat 16 : Int) : Option UInt64)) fun (x9 : UInt64) =>
 letm ((bitK .or .u64 (x6 : UInt64) (x9 : UInt64) : UInt64)) fun x10 =>
 bnd (idx a0 3) fun x11 =>
 letm ((toU64 (UInt8.toNat x11 : Int))) fun x12 =>
 bnd ((shlK .u64 (x12 : UInt64) (UInt64.toNat 24 : Int) : Option UInt64)) fun (x13 : UInt64) =>
 letm ((bitK .or .u64 (x10 : UInt64) (x13 : UInt64) : UInt64)) fun x14 =>
 bnd (idx a0 4) fun x15 =>
 letm ((toU64 (UInt8.toNat x15 : Int))) fun x16 =>
 bnd ((shlK .u64 (x16 : UInt64) (UInt64.toNat 32 : Int) : Option UInt64)) fun (x17 : UInt64) =>
 letm ((bitK .or .u64 (x14 : UInt64) (x17 : UInt64) : UInt64)) fun x18 =>
 bnd (idx a0 5) fun x19 =>
 letm ((toU64 (UInt8.toNat x19 : Int))) fun x20 =>
 bnd ((shlK .u64 (x20 : UInt64) (UInt64.toNat 40 : Int) : Option UInt64)) fun (x21 : UInt64) =>
 letm ((bitK .or .u64 (x18 : UInt64) (x21 : UInt64) : UInt64)) fun x22 =>
 bnd (idx a0 6) fun x23 =>
 letm ((toU64 (UInt8.toNat x23 : Int))) fun x24 =>
 bnd ((shlK .u64 (x24 : UInt64) (UInt64.toNat 48 : Int) : Option UInt64)) fun (x25 : UInt64) =>
 letm ((bitK .or .u64 (x22 : UInt64) (x25 : UInt64) : UInt64)) fun x26 =>
 bnd (idx a0 7) fun x27 =>
 letm ((toU64 (UInt8.toNat x27 : Int))) fun x28 =>
 bnd ((shlK .u64 (x28 : UInt64) (UInt64.toNat 56 : Int) : Option UInt64)) fun (x29 : UInt64) =>
 letm ((bitK .or .u64 (x26 : UInt64) (x29 : UInt64) : UInt64)) fun x30 =>
 some x30
def m_unicode_utf8_Valid (a0 : (List UInt8)) : Option Bool :=
 bnd (Gk.cut a0 0 (a0.length : Int)) fun x1 =>
 bnd (Gk.cut x1 0 (a0.length : Int)) fun x2 =>
 bndS (ρ := Bool) (ρ' := Bool) (Y := Unit) (loopF (R := (Bool ⊕ Unit)) (S := (List UInt8)) (fun self4 s3 =>
 letm (decide (0 < (s3.length : Int))) fun x5 =>
 cond x5 (bnd (idx s3 0) fun x6 =>
 letm (decide ((UInt8.toNat x6 : Int) < (UInt8.toNat 128 : Int))) fun x7 =>
 cond x7 (bnd (Gk.cut s3 1 (s3.length : Int)) fun x8 =>
 bnd (β := Bool) (letm (decide (8 < (x8.length : Int))) fun x9 =>
 cond x9 (bnd (m_unicode_utf8_word_byte x8) fun x10 =>
 letm ((bitK .and .u64 (x10 : UInt64) (9259542123273814144 : UInt64) : UInt64)) fun x11 =>
 letm (((UInt64.toNat x11 : Int) == (UInt64.toNat 0 : Int))) fun x12 =>
 some x12)
  (some false)) fun v13 =>
 cond v13 (bnd (Gk.cut x8 8 (x8.length : Int)) fun x14 =>
 bnd (β := Bool) (letm (decide (16 < (x14.length : Int))) fun x15 =>
 cond x15 (bnd (m_unicode_utf8_word_byte x14) fun x16 =>
 bnd (Gk.cut x14 8 (x14.length : Int)) fun x17 =>
 bnd (m_unicode_utf8_word_byte x17) fun x18 =>
 letm ((bitK .or .u64 (x16 : UInt64) (x18 : UInt64) : UInt64)) fun x19 =>
 letm ((bitK .and .u64 (x19 : UInt64) (9259542123273814144 : UInt64) : UInt64)) fun x20 =>
 letm (((UInt64.toNat x20 : Int) == (UInt64.toNat 0 : Int))) fun x21 =>
 some x21)
  (some false)) fun v22 =>
 cond v22 (bnd (Gk.cut x14 16 (x14.length : Int)) fun x23 =>
 loopF (R := (Bool ⊕ Unit)) (S := (List UInt8)) (fun self25 s24 =>
 bnd (β := Bool) (letm (decide (32 < (s24.length : Int))) fun x26 =>
 cond x26 (bnd (m_unicode_utf8_word_byte s24) fun x27 =>
 bnd (Gk.cut s24 8 (s24.length : Int)) fun x28 =>
 bnd (m_unicode_utf8_word_byte x28) fun x29 =>
 letm ((bitK .or .u64 (x27 : UInt64) (x29 : UInt64) : UInt64)) fun x30 =>
 bnd (Gk.cut s24 16 (s24.length : Int)) fun x31 =>
 bnd (m_unicode_utf8_word_byte x31) fun x32 =>
 bnd (Gk.cut s24 24 (s24.length : Int)) fun x33 =>
 bnd (m_unicode_utf8_word_byte x33) fun x34 =>
 letm ((bitK .or .u64 (x32 : UInt64) (x34 : UInt64) : UInt64)) fun x35 =>
 letm ((bitK .or .u64 (x30 : UInt64) (x35 : UInt64) : UInt64)) fun x36 =>
 letm ((bitK .and .u64 (x36 : UInt64) (9259542123273814144 : UInt64) : UInt64)) fun x37 =>
 letm (((UInt64.toNat x37 : Int) == (UInt64.toNat 0 : Int))) fun x38 =>
 some x38)
  (some false)) fun v39 =>
 cond v39 (bnd (Gk.cut s24 32 (s24.length : Int)) fun x40 =>
 self25 x40)
  (self4 s24)) FUEL x23)
  (self4 x14))
  (self4 x8))
  (bnd (idx glob_0 (UInt8.toNat x6 : Int)) fun x41 =>
 letm ((toU8 (bits .and .u8 (UInt8.toNat x41) (UInt8.toNat 7)))) fun x42 =>
 letm ((w64 (UInt8.toNat x42 : Int))) fun x43 =>
 bnd (shrK .u8 x41 (UInt64.toNat 4 : Int)) fun x44 =>
 bnd (idx glob_1 (UInt8.toNat x44 : Int)) fun x45 =>
 letm ((x43 == 2)) fun x46 =>
 cond x46 (bnd (β := Bool) (letm (decide ((s3.length : Int) < 2)) fun x47 =>
 cond x47 (some true)
  (bnd (idx s3 1) fun x48 =>
 letm (decide ((UInt8.toNat x48 : Int) < (UInt8.toNat x45.1 : Int))) fun x49 =>
 cond x49 (some true)
  (bnd (idx s3 1) fun x50 =>
 letm (decide ((UInt8.toNat x45.2 : Int) < (UInt8.toNat x50 : Int))) fun x51 =>
 some x51))) fun v52 =>
 cond v52 (some (.inl false))
  (bnd (Gk.cut s3 2 (s3.length : Int)) fun x53 =>
 self4 x53))
  (letm ((x43 == 3)) fun x54 =>
 cond x54 (bnd (β := Bool) (letm (decide ((s3.length : Int) < 3)) fun x55 =>
 cond x55 (some true)
  (bnd (idx s3 1) fun x56 =>
 letm (decide ((UInt8.toNat x56 : Int) < (UInt8.toNat x45.1 : Int))) fun x57 =>
 cond x57 (some true)
  (bnd (idx s3 1) fun x58 =>
 letm (decide ((UInt8.toNat x45.2 : Int) < (UInt8.toNat x58 : Int))) fun x59 =>
 cond x59 (some true)
  (bnd (idx s3 2) fun x60 =>
 letm (decide ((UInt8.toNat x60 : Int) < (UInt8.toNat 128 : Int))) fun x61 =>
 cond x61 (some true)
  (bnd (idx s3 2) fun x62 =>
 letm (decide ((UInt8.toNat 191 : Int) < (UInt8.toNat x62 : Int))) fun x63 =>
 some x63))))) fun v64 =>
 cond v64 (some (.inl false))
  (bnd (Gk.cut s3 3 (s3.length : Int)) fun x65 =>
 self4 x65))
  (letm ((x43 == 4)) fun x66 =>
 cond x66 (bnd (β := Bool) (letm (decide ((s3.length : Int) < 4)) fun x67 =>
 cond x67 (some true)
  (bnd (idx s3 1) fun x68 =>
 letm (decide ((UInt8.toNat x68 : Int) < (UInt8.toNat x45.1 : Int))) fun x69 =>
 cond x69 (some true)
  (bnd (idx s3 1) fun x70 =>
 letm (decide ((UInt8.toNat x45.2 : Int) < (UInt8.toNat x70 : Int))) fun x71 =>
 cond x71 (some true)
  (bnd (idx s3 2) fun x72 =>
 letm (decide ((UInt8.toNat x72 : Int) < (UInt8.toNat 128 : Int))) fun x73 =>
 cond x73 (some true)
  (bnd (idx s3 2) fun x74 =>
 letm (decide ((UInt8.toNat 191 : Int) < (UInt8.toNat x74 : Int))) fun x75 =>
 cond x75 (some true)
  (bnd (idx s3 3) fun x76 =>
 letm (decide ((UInt8.toNat x76 : Int) < (UInt8.toNat 128 : Int))) fun x77 =>
 cond x77 (some true)
  (bnd (idx s3 3) fun x78 =>
 letm (decide ((UInt8.toNat 191 : Int) < (UInt8.toNat x78 : Int))) fun x79 =>
 some x79))))))) fun v80 =>
 cond v80 (some (.inl false))
  (bnd (Gk.cut s3 4 (s3.length : Int)) fun x81 =>
 self4 x81))
  (some (.inl false))))))
  (some (.inr ()))) FUEL x2) (fun q => q) fun _ =>
 some true
def m_cbor_plain (a0 : Go.Gk.Tr) : Option (Bool × Bool) :=
 bnd (β := Bool) (letm ((a0.k == 0)) fun x1 =>
 cond x1 (some true)
  (letm ((a0.k == 1)) fun x2 =>
 some x2)) fun v3 =>
 cond v3 (bnd (β := (Bool × Bool)) (letm (((a0.b.length : Int) == 0)) fun x4 =>
 cond x4 (letm (((a0.l.length : Int) == 0)) fun x5 =>
 some (x5, true))
  (some (false, true))) fun v6 =>
 some (v6.1, v6.2))
  (letm ((a0.k == 2)) fun x7 =>
 cond x7 (bnd (β := (Bool × Bool)) (letm (((UInt64.toNat a0.n : Int) == (UInt64.toNat 0 : Int))) fun x8 =>
 cond x8 (letm (((a0.l.length : Int) == 0)) fun x9 =>
 some (x9, true))
  (some (false, true))) fun v10 =>
 some (v10.1, v10.2))
  (letm ((a0.k == 3)) fun x11 =>
 cond x11 (bnd (β := (Bool × Bool)) (letm (((UInt64.toNat a0.n : Int) == (UInt64.toNat 0 : Int))) fun x12 =>
 cond x12 (letm (((a0.l.length : Int) == 0)) fun x13 =>
 cond x13 (bnd (m_unicode_utf8_Valid a0.b) fun x14 =>
 some (x14, true))
  (some (false, true)))
  (some (false, true))) fun v15 =>
 some (v15.1, v15.2))
  (letm ((a0.k == 7)) fun x16 =>
 cond x16 (bnd (β := (Bool × Bool)) (letm (((a0.b.length : Int) == 0)) fun x17 =>
 cond x17 (letm (((a0.l.length : Int) == 0)) fun x18 =>
 cond x18 (letm (decide ((UInt64.toNat a0.n : Int) < (UInt64.toNat 24 : Int))) fun x19 =>
 cond x19 (some (true, true))
  (letm (decide ((UInt64.toNat 32 : Int) ≤ (UInt64.toNat a0.n : Int))) fun x20 =>
 cond x20 (letm (decide ((UInt64.toNat a0.n : Int) < (UInt64.toNat 256 : Int))) fun x21 =>
 some (x21, true))
  (some (false, true))))
  (some (false, true)))
  (some (false, true))) fun v22 =>
 some (v22.1, v22.2))
  (letm ((a0.k == 8)) fun x23 =>
 cond x23 (none)
  (some (false, false))))))
def m_cbor_float (_a0 : UInt64) : Option (List UInt8) := none

def m_cbor_major (a0 : Go.Gk.Tr) : Option (UInt8 × UInt64) :=
 bnd (β := Bool) (letm ((a0.k == 2)) fun x1 =>
 cond x1 (some true)
  (letm ((a0.k == 3)) fun x2 =>
 some x2)) fun v3 =>
 cond v3 (letm ((toU8 a0.k)) fun x4 =>
 letm ((toU64 (a0.b.length : Int))) fun x5 =>
 some (x4, x5))
  (letm ((a0.k == 4)) fun x6 =>
 cond x6 (letm ((toU64 (a0.l.length : Int))) fun x7 =>
 some (4, x7))
  (letm ((a0.k == 5)) fun x8 =>
 cond x8 (bnd (quo (a0.l.length : Int) 2) fun x9 =>
 letm ((toU64 x9)) fun x10 =>
 some (5, x10))
  (letm ((toU8 a0.k)) fun x11 =>
 some (x11, a0.n))))
def m_cbor_head (a0 : UInt8) (a1 : UInt64) : Option (List UInt8) :=
 bnd (shlK .u8 a0 (UInt64.toNat 5 : Int)) fun x2 =>
 letm (decide ((UInt64.toNat a1 : Int) < (UInt64.toNat 24 : Int))) fun x3 =>
 cond x3 (letm ((toU8 (UInt64.toNat a1 : Int))) fun x4 =>
 letm ((toU8 (bits .or .u8 (UInt8.toNat x2) (UInt8.toNat x4)))) fun x5 =>
 some [x5])
  (letm (decide ((UInt64.toNat a1 : Int) < (UInt64.toNat 256 : Int))) fun x6 =>
 cond x6 (letm ((toU8 (bits .or .u8 (UInt8.toNat x2) (UInt8.toNat 24)))) fun x7 =>
 letm ((toU8 (UInt64.toNat a1 : Int))) fun x8 =>
 some [x7, x8])
  (letm (decide ((UInt64.toNat a1 : Int) < (UInt64.toNat 65536 : Int))) fun x9 =>
 cond x9 (letm ((toU8 (bits .or .u8 (UInt8.toNat x2) (UInt8.toNat 25)))) fun x10 =>
 bnd ((shrK .u64 (a1 : UInt64) (UInt64.toNat 8 : Int) : Option UInt64)) fun (x11 : UInt64) =>
 letm ((toU8 (UInt64.toNat x11 : Int))) fun x12 =>
 letm ((toU8 (UInt64.toNat a1 : Int))) fun x13 =>
 some [x10, x12, x13])
  (letm (decide ((UInt64.toNat a1 : Int) < (UInt64.toNat 4294967296 : Int))) fun x14 =>
 cond x14 (letm ((toU8 (bits .or .u8 (UInt8.toNat x2) (UInt8.toNat 26)))) fun x15 =>
 bnd ((shrK .u64 (a1 : UInt64) (UInt64.toNat 24 : Int) : Option UInt64)) fun (x16 : UInt64) =>
 letm ((toU8 (UInt64.toNat x16 : Int))) fun x17 =>
 bnd ((shrK .u64 (a1 : UInt64) (UInt64.toNat 16 : Int) : Option UInt64)) fun (x18 : UInt64) =>
 letm ((toU8 (UInt64.toNat x18 : Int))) fun x19 =>
 bnd ((shrK .u64 (a1 : UInt64) (UInt64.toNat 8 : Int) : Option UInt64)) fun (x20 : UInt64) =>
 letm ((toU8 (UInt64.toNat x20 : Int))) fun x21 =>
 letm ((toU8 (UInt64.toNat a1 : Int))) fun x22 =>
 some [x15, x17, x19, x21, x22])
  (letm ((toU8 (bits .or .u8 (UInt8.toNat x2) (UInt8.toNat 27)))) fun x23 =>
 loopF (R := (List UInt8)) (S := ((List UInt8) × Int)) (fun self25 s24 =>
 letm (decide (0 ≤ s24.2)) fun x26 =>
 cond x26 (bnd ((shrK .u64 (a1 : UInt64) s24.2 : Option UInt64)) fun (x27 : UInt64) =>
 letm ((toU8 (UInt64.toNat x27 : Int))) fun x28 =>
 bnd (app s24.1 [x28]) fun x29 =>
 letm ((w64 (s24.2 - 8))) fun x30 =>
 self25 (x29, x30))
  (some s24.1)) FUEL ([x23], 56)))))
def m_cbor_checker_spend (a0 : S_cbor_checker) (a1 : Go.Gk.Tr) : Option (Bool × S_cbor_checker) :=
 bnd (β := S_cbor_checker) (letm ((a1.k == 8)) fun x2 =>
 cond x2 (bnd (m_cbor_float a1.n) fun x3 =>
 letm ((w64 (a0.2 + (x3.length : Int)))) fun x4 =>
 some (a0.1, x4))
  (letm ((a1.k == 7)) fun x5 =>
 cond x5 (letm ((w64 (a0.2 + 1))) fun x6 =>
 letm (decide ((UInt64.toNat 24 : Int) ≤ (UInt64.toNat a1.n : Int))) fun x7 =>
 cond x7 (letm ((w64 (x6 + 1))) fun x8 =>
 some (a0.1, x8))
  (some (a0.1, x6)))
  (bnd (m_cbor_major a1) fun x9 =>
 bnd (m_cbor_head x9.1 x9.2) fun x10 =>
 letm ((w64 ((x10.length : Int) + (a1.b.length : Int)))) fun x11 =>
 letm ((w64 (a0.2 + x11))) fun x12 =>
 some (a0.1, x12)))) fun v13 =>
 letm (decide (v13.2 ≤ 4096)) fun x14 =>
 some (x14, v13)
def b_cbor_add_o (m_cbor_add_o : ((List UInt8)) → (Go.Gk.Tr) → Option (List UInt8)) (a0 : (List UInt8)) (a1 : Go.Gk.Tr) : Option (List UInt8) :=
 letm ((a1.k == 8)) fun x2 =>
 cond x2 (bnd (m_cbor_float a1.n) fun x3 =>
 bnd (app a0 x3) fun x4 =>
 some x4)
  (bnd (β := Bool) (letm ((a1.k == 7)) fun x5 =>
 cond x5 (letm (decide ((UInt64.toNat 24 : Int) ≤ (UInt64.toNat a1.n : Int))) fun x6 =>
 some x6)
  (some false)) fun v7 =>
 cond v7 (letm ((toU8 (UInt64.toNat a1.n : Int))) fun x8 =>
 bnd (app a0 [248, x8]) fun x9 =>
 some x9)
  (bnd (m_cbor_major a1) fun x10 =>
 bnd (m_cbor_head x10.1 x10.2) fun x11 =>
 bnd (app a0 x11) fun x12 =>
 bnd (app x12 a1.b) fun x13 =>
 loopL (R := (List UInt8)) (S := (List UInt8)) (α := Go.Gk.Tr) (fun _ s15 =>
 some s15)
  (fun x16 _ s18 self19 =>
 bnd (m_cbor_add_o s18 x16) fun x20 =>
 self19 x20) a1.l 0 x13))
def n_cbor_add_o (n : Nat) : ((List UInt8)) → (Go.Gk.Tr) → Option (List UInt8) := Nat.rec (motive := fun _ => ((List UInt8)) → (Go.Gk.Tr) → Option (List UInt8)) (fun _ _ => none) (fun _ ih => b_cbor_add_o ih) n
def m_cbor_add_o (a0 : (List UInt8)) (a1 : Go.Gk.Tr) : Option (List UInt8) := n_cbor_add_o 40 a0 a1

def m_cbor_add (a0 : (List UInt8)) (a1 : Go.Gk.Tr) : Option (List UInt8) :=
 letm ((a1.k == 8)) fun x2 =>
 cond x2 (bnd (m_cbor_float a1.n) fun x3 =>
 bnd (app a0 x3) fun x4 =>
 some x4)
  (bnd (β := Bool) (letm ((a1.k == 7)) fun x5 =>
 cond x5 (letm (decide ((UInt64.toNat 24 : Int) ≤ (UInt64.toNat a1.n : Int))) fun x6 =>
 some x6)
  (some false)) fun v7 =>
 cond v7 (letm ((toU8 (UInt64.toNat a1.n : Int))) fun x8 =>
 bnd (app a0 [248, x8]) fun x9 =>
 some x9)
  (bnd (m_cbor_major a1) fun x10 =>
 bnd (m_cbor_head x10.1 x10.2) fun x11 =>
 bnd (app a0 x11) fun x12 =>
 bnd (app x12 a1.b) fun x13 =>
 loopL (R := (List UInt8)) (S := (List UInt8)) (α := Go.Gk.Tr) (fun _ s15 =>
 some s15)
  (fun x16 _ s18 self19 =>
 bnd (m_cbor_add_o s18 x16) fun x20 =>
 self19 x20) a1.l 0 x13))
def m_bytes_Compare (_a0 : List UInt8) (_a1 : List UInt8) : Option (Int) := none

def m_cbor_ascending (a0 : (List Go.Gk.Tr)) : Option Bool :=
 loopF (R := Bool) (S := Int) (fun self2 s1 =>
 letm (decide (s1 < (a0.length : Int))) fun x3 =>
 cond x3 (letm ((w64 (s1 - 2))) fun x4 =>
 bnd (idx a0 x4) fun x5 =>
 bnd (m_cbor_add [] x5) fun x6 =>
 bnd (idx a0 s1) fun x7 =>
 bnd (m_cbor_add [] x7) fun x8 =>
 bnd (m_bytes_Compare x6 x8) fun x9 =>
 letm (decide (0 ≤ x9)) fun x10 =>
 cond x10 (some false)
  (letm ((w64 (s1 + 2))) fun x11 =>
 self2 x11))
  (some true)) FUEL 2
def b_cbor_checker_item (m_cbor_checker_item : (S_cbor_checker) → (Go.Gk.Tr) → (Int) → Option (Bool × S_cbor_checker)) (a0 : S_cbor_checker) (a1 : Go.Gk.Tr) (a2 : Int) : Option (Bool × S_cbor_checker) :=
 letm ((w64 (a0.1 + 1))) fun x3 =>
 bnd (β := Bool) (letm (decide (256 < x3)) fun x4 =>
 cond x4 (some true)
  (letm (decide (4096 < (a1.b.length : Int))) fun x5 =>
 cond x5 (some true)
  (letm (decide (256 < (a1.l.length : Int))) fun x6 =>
 some x6))) fun v7 =>
 cond v7 (some (false, (x3, a0.2)))
  (bnd (m_cbor_plain a1) fun x8 =>
 cond x8.2 (bnd (β := (Bool × S_cbor_checker)) (cond x8.1 (bnd (m_cbor_checker_spend (x3, a0.2) a1) fun x9 =>
 some (x9.1, x9.2))
  (some (false, (x3, a0.2)))) fun v10 =>
 some (v10.1, v10.2))
  (bnd (β := Bool) (letm (decide (a1.k < 4)) fun x11 =>
 cond x11 (some true)
  (letm (decide (6 < a1.k)) fun x12 =>
 cond x12 (some true)
  (letm (decide (8 ≤ a2)) fun x13 =>
 cond x13 (some true)
  (letm (decide (0 < (a1.b.length : Int))) fun x14 =>
 some x14)))) fun v15 =>
 cond v15 (some (false, (x3, a0.2)))
  (bnd (β := Bool) (letm ((a1.k == 6)) fun x16 =>
 cond x16 (letm (((a1.l.length : Int) != 1)) fun x17 =>
 cond x17 (some true)
  (letm ((a1.k != 6)) fun x18 =>
 cond x18 (letm (((UInt64.toNat a1.n : Int) != (UInt64.toNat 0 : Int))) fun x19 =>
 cond x19 (some true)
  (letm ((a1.k == 5)) fun x20 =>
 cond x20 (bnd (Gk.rem (a1.l.length : Int) 2) fun x21 =>
 letm ((x21 == 1)) fun x22 =>
 some x22)
  (some false)))
  (letm ((a1.k == 5)) fun x23 =>
 cond x23 (bnd (Gk.rem (a1.l.length : Int) 2) fun x24 =>
 letm ((x24 == 1)) fun x25 =>
 some x25)
  (some false))))
  (letm ((a1.k != 6)) fun x26 =>
 cond x26 (letm (((UInt64.toNat a1.n : Int) != (UInt64.toNat 0 : Int))) fun x27 =>
 cond x27 (some true)
  (letm ((a1.k == 5)) fun x28 =>
 cond x28 (bnd (Gk.rem (a1.l.length : Int) 2) fun x29 =>
 letm ((x29 == 1)) fun x30 =>
 some x30)
  (some false)))
  (letm ((a1.k == 5)) fun x31 =>
 cond x31 (bnd (Gk.rem (a1.l.length : Int) 2) fun x32 =>
 letm ((x32 == 1)) fun x33 =>
 some x33)
  (some false)))) fun v34 =>
 cond v34 (some (false, (x3, a0.2)))
  (bnd (m_cbor_checker_spend (x3, a0.2) a1) fun x35 =>
 letm ((!x35.1)) fun x36 =>
 cond x36 (some (false, x35.2))
  (loopL (R := (Bool × S_cbor_checker)) (S := S_cbor_checker) (α := Go.Gk.Tr) (fun _ s38 =>
 bnd (β := Bool) (letm ((a1.k != 5)) fun x39 =>
 cond x39 (some true)
  (bnd (m_cbor_ascending a1.l) fun x40 =>
 some x40)) fun v41 =>
 some (v41, s38))
  (fun x42 _ s44 self45 =>
 letm ((w64 (a2 + 1))) fun x46 =>
 bnd (m_cbor_checker_item s44 x42 x46) fun x47 =>
 letm ((!x47.1)) fun x48 =>
 cond x48 (some (false, x47.2))
  (self45 x47.2)) a1.l 0 x35.2)))))
def n_cbor_checker_item (n : Nat) : (S_cbor_checker) → (Go.Gk.Tr) → (Int) → Option (Bool × S_cbor_checker) := Nat.rec (motive := fun _ => (S_cbor_checker) → (Go.Gk.Tr) → (Int) → Option (Bool × S_cbor_checker)) (fun _ _ _ => none) (fun _ ih => b_cbor_checker_item ih) n
def m_cbor_checker_item (a0 : S_cbor_checker) (a1 : Go.Gk.Tr) (a2 : Int) : Option (Bool × S_cbor_checker) := n_cbor_checker_item 40 a0 a1 a2

def m_cbor_Valid (a0 : Go.Gk.Tr) : Option Bool :=
 bnd (m_cbor_checker_item (0, 0) a0 0) fun x1 =>
 some x1.1
def m_cbor_Encode (a0 : Go.Gk.Tr) : Option ((List UInt8) × Int) :=
 bnd (m_cbor_Valid a0) fun x1 =>
 letm ((!x1)) fun x2 =>
 cond x2 (some ([], 1))
  (bnd (m_cbor_add [] a0) fun x3 =>
 some (x3, 0))
def m_option_CacheKey (a0 : S_api_Message) : Option (List UInt8) :=
 loopL (R := (List UInt8)) (S := (Go.Gk.Tr × (List Go.Gk.Tr))) (α := S_api_Option) (fun _ s2 =>
 bnd (m_cbor_Int a0.2.1) fun x3 =>
 bnd (β := (List Go.Gk.Tr)) (letm ((a0.2.1 == 5)) fun x4 =>
 cond x4 (bnd (m_cbor_Bytes a0.2.2.2.2.2) fun x5 =>
 bnd (app [x3, (Tr.mk s2.1.k s2.1.n s2.1.b s2.2)] [x5]) fun x6 =>
 some x6)
  (some [x3, (Tr.mk s2.1.k s2.1.n s2.1.b s2.2)])) fun v7 =>
 bnd (m_cbor_Array v7) fun x8 =>
 bnd (m_cbor_Encode x8) fun x9 =>
 some x9.1)
  (fun x10 _ s12 self13 =>
 bnd (β := (Go.Gk.Tr × (List Go.Gk.Tr))) (bnd (β := Bool) (bnd (m_option_NoCacheKey x10.1) fun x14 =>
 letm ((!x14)) fun x15 =>
 cond x15 (letm ((x10.1 != 4)) fun x16 =>
 cond x16 (letm ((x10.1 != 6)) fun x17 =>
 some x17)
  (some false))
  (some false)) fun v18 =>
 cond v18 (bnd (m_cbor_Int x10.1) fun x19 =>
 bnd (m_cbor_Bytes x10.2) fun x20 =>
 bnd (m_cbor_Array [x19, x20]) fun x21 =>
 bnd (app s12.2 [x21]) fun x22 =>
 some (s12.1, x22))
  (some (s12.1, s12.2))) fun v23 =>
 self13 (v23.1, v23.2)) a0.2.2.2.2.1 0 ((Tr.mk 4 0 [] []), [])
def m_coresecref01_Int (a0 : Int) : Option Go.Gk.Tr :=
 letm (decide (a0 < 0)) fun x1 =>
 cond x1 (letm ((w64 ((-1) - a0))) fun x2 =>
 letm ((toU64 x2)) fun x3 =>
 some (Tr.mk 1 x3 [] []))
  (letm ((toU64 a0)) fun x4 =>
 some (Tr.mk 0 x4 [] []))
def m_coresecref01_Bytes (a0 : (List UInt8)) : Option Go.Gk.Tr :=
 bnd (app [] a0) fun x1 =>
 some (Tr.mk 2 0 x1 [])
def m_coresecref01_IsNaN (a0 : UInt64) : Option Bool :=
 bnd (β := Bool) (bnd ((shrK .u64 (a0 : UInt64) (UInt64.toNat 52 : Int) : Option UInt64)) fun (x1 : UInt64) =>
 letm ((bitK .and .u64 (x1 : UInt64) (2047 : UInt64) : UInt64)) fun x2 =>
 letm (((UInt64.toNat x2 : Int) == (UInt64.toNat 2047 : Int))) fun x3 =>
 cond x3 (letm ((bitK .and .u64 (a0 : UInt64) (4503599627370495 : UInt64) : UInt64)) fun x4 =>
 letm (((UInt64.toNat x4 : Int) != (UInt64.toNat 0 : Int))) fun x5 =>
 some x5)
  (some false)) fun v6 =>
 some v6
def m_coresecref01_Head (a0 : Int) (a1 : UInt64) : Option (List UInt8) :=
 letm ((w64 (32 * a0))) fun x2 =>
 letm ((w64 (x2 + 24))) fun x3 =>
 letm ((toU8 x3)) fun x4 =>
 bndS (ρ := (List UInt8)) (ρ' := (List UInt8)) (Y := ((List UInt8) × Int)) (letm (decide ((UInt64.toNat a1 : Int) < (UInt64.toNat 24 : Int))) fun x5 =>
 cond x5 (letm ((w64 (32 * a0))) fun x6 =>
 letm ((toU8 x6)) fun x7 =>
 letm ((toU8 (UInt64.toNat a1 : Int))) fun x8 =>
 letm ((x7 + x8)) fun x9 =>
 some (.inl [x9]))
  (letm (decide ((UInt64.toNat a1 : Int) < (UInt64.toNat 256 : Int))) fun x10 =>
 cond x10 (some (.inr ([x4], 1)))
  (letm (decide ((UInt64.toNat a1 : Int) < (UInt64.toNat 65536 : Int))) fun x11 =>
 cond x11 (bnd (idx [x4] 0) fun _ =>
 bnd (idx [x4] (((0 : Int)).toNat : Int)) fun x13 =>
 letm ((x13 + 1)) fun x14 =>
 bnd (idx [x4] 0) fun _ =>
 bnd (idx [x4] (((0 : Int)).toNat : Int)) fun _ =>
 letm ([x14]) fun x17 =>
 some (.inr (x17, 2)))
  (letm (decide ((UInt64.toNat a1 : Int) < (UInt64.toNat 4294967296 : Int))) fun x18 =>
 cond x18 (bnd (idx [x4] 0) fun _ =>
 bnd (idx [x4] (((0 : Int)).toNat : Int)) fun x20 =>
 letm ((x20 + 2)) fun x21 =>
 bnd (idx [x4] 0) fun _ =>
 bnd (idx [x4] (((0 : Int)).toNat : Int)) fun _ =>
 letm ([x21]) fun x24 =>
 some (.inr (x24, 4)))
  (bnd (idx [x4] 0) fun _ =>
 bnd (idx [x4] (((0 : Int)).toNat : Int)) fun x26 =>
 letm ((x26 + 3)) fun x27 =>
 bnd (idx [x4] 0) fun _ =>
 bnd (idx [x4] (((0 : Int)).toNat : Int)) fun _ =>
 letm ([x27]) fun x30 =>
 some (.inr (x30, 8))))))) (fun q => q) fun v31 =>
 letm ((w64 (v31.2 - 1))) fun x32 =>
 loopF (R := (List UInt8)) (S := ((List UInt8) × Int)) (fun self34 s33 =>
 letm (decide (0 ≤ s33.2)) fun x35 =>
 cond x35 (letm ((toU64 s33.2)) fun x36 =>
 letm ((8 * x36)) fun x37 =>
 bnd ((shrK .u64 (a1 : UInt64) (UInt64.toNat x37 : Int) : Option UInt64)) fun (x38 : UInt64) =>
 letm ((toU8 (UInt64.toNat x38 : Int))) fun x39 =>
 bnd (app s33.1 [x39]) fun x40 =>
 letm ((w64 (s33.2 - 1))) fun x41 =>
 self34 (x40, x41))
  (some s33.1)) FUEL (v31.1, x32)
def m_coresecref01_Head_o (a0 : Int) (a1 : UInt64) : Option (List UInt8) :=
 letm ((w64 (32 * a0))) fun x2 =>
 letm ((w64 (x2 + 24))) fun x3 =>
 letm ((toU8 x3)) fun x4 =>
 bndS (ρ := (List UInt8)) (ρ' := (List UInt8)) (Y := ((List UInt8) × Int)) (letm (decide ((UInt64.toNat a1 : Int) < (UInt64.toNat 24 : Int))) fun x5 =>
 cond x5 (letm ((w64 (32 * a0))) fun x6 =>
 letm ((toU8 x6)) fun x7 =>
 letm ((toU8 (UInt64.toNat a1 : Int))) fun x8 =>
 letm ((x7 + x8)) fun x9 =>
 some (.inl [x9]))
  (letm (decide ((UInt64.toNat a1 : Int) < (UInt64.toNat 256 : Int))) fun x10 =>
 cond x10 (some (.inr ([x4], 1)))
  (letm (decide ((UInt64.toNat a1 : Int) < (UInt64.toNat 65536 : Int))) fun x11 =>
 cond x11 (bnd (idx [x4] 0) fun _ =>
 bnd (idx [x4] (((0 : Int)).toNat : Int)) fun x13 =>
 letm ((x13 + 1)) fun x14 =>
 bnd (idx [x4] 0) fun _ =>
 bnd (idx [x4] (((0 : Int)).toNat : Int)) fun _ =>
 letm ([x14]) fun x17 =>
 some (.inr (x17, 2)))
  (letm (decide ((UInt64.toNat a1 : Int) < (UInt64.toNat 4294967296 : Int))) fun x18 =>
 cond x18 (bnd (idx [x4] 0) fun _ =>
 bnd (idx [x4] (((0 : Int)).toNat : Int)) fun x20 =>
 letm ((x20 + 2)) fun x21 =>
 bnd (idx [x4] 0) fun _ =>
 bnd (idx [x4] (((0 : Int)).toNat : Int)) fun _ =>
 letm ([x21]) fun x24 =>
 some (.inr (x24, 4)))
  (bnd (idx [x4] 0) fun _ =>
 bnd (idx [x4] (((0 : Int)).toNat : Int)) fun x26 =>
 letm ((x26 + 3)) fun x27 =>
 bnd (idx [x4] 0) fun _ =>
 bnd (idx [x4] (((0 : Int)).toNat : Int)) fun _ =>
 letm ([x27]) fun x30 =>
 some (.inr (x30, 8))))))) (fun q => q) fun v31 =>
 letm ((w64 (v31.2 - 1))) fun x32 =>
 loopF (R := (List UInt8)) (S := ((List UInt8) × Int)) (fun self34 s33 =>
 letm (decide (0 ≤ s33.2)) fun x35 =>
 cond x35 (letm ((toU64 s33.2)) fun x36 =>
 letm ((8 * x36)) fun x37 =>
 bnd ((shrK .u64 (a1 : UInt64) (UInt64.toNat x37 : Int) : Option UInt64)) fun (x38 : UInt64) =>
 letm ((toU8 (UInt64.toNat x38 : Int))) fun x39 =>
 bnd (app s33.1 [x39]) fun x40 =>
 letm ((w64 (s33.2 - 1))) fun x41 =>
 self34 (x40, x41))
  (some s33.1)) FUEL (v31.1, x32)
def m_coresecref01_Narrow (a0 : UInt64) (a1 : Int) (a2 : Int) : Option (UInt64 × Bool) :=
 bnd ((shrK .u64 (a0 : UInt64) (UInt64.toNat 63 : Int) : Option UInt64)) fun (x3 : UInt64) =>
 letm ((w64 (a1 + a2))) fun x4 =>
 letm ((toU64 x4)) fun x5 =>
 bnd ((shlK .u64 (x3 : UInt64) (UInt64.toNat x5 : Int) : Option UInt64)) fun (x6 : UInt64) =>
 bnd ((shrK .u64 (a0 : UInt64) (UInt64.toNat 52 : Int) : Option UInt64)) fun (x7 : UInt64) =>
 letm ((bitK .and .u64 (x7 : UInt64) (2047 : UInt64) : UInt64)) fun x8 =>
 letm ((w64 (UInt64.toNat x8 : Int))) fun x9 =>
 letm ((bitK .and .u64 (a0 : UInt64) (4503599627370495 : UInt64) : UInt64)) fun x10 =>
 letm ((toU64 a1)) fun x11 =>
 bnd (Gk.shl 1 (UInt64.toNat x11 : Int)) fun x12 =>
 letm ((w64 (x12 - 1))) fun x13 =>
 letm ((w64 (a1 - 1))) fun x14 =>
 letm ((toU64 x14)) fun x15 =>
 bnd (Gk.shl 1 (UInt64.toNat x15 : Int)) fun x16 =>
 letm ((w64 (x16 - 1))) fun x17 =>
 letm ((x9 == 2047)) fun x18 =>
 cond x18 (letm ((toU64 x13)) fun x19 =>
 letm ((toU64 a2)) fun x20 =>
 bnd ((shlK .u64 (x19 : UInt64) (UInt64.toNat x20 : Int) : Option UInt64)) fun (x21 : UInt64) =>
 letm ((bitK .or .u64 (x6 : UInt64) (x21 : UInt64) : UInt64)) fun x22 =>
 letm (((UInt64.toNat x10 : Int) == (UInt64.toNat 0 : Int))) fun x23 =>
 some (x22, x23))
  (letm ((x9 == 0)) fun x24 =>
 cond x24 (letm (((UInt64.toNat x10 : Int) == (UInt64.toNat 0 : Int))) fun x25 =>
 some (x6, x25))
  (letm ((w64 (x9 - 1023))) fun x26 =>
 letm ((w64 (x26 + x17))) fun x27 =>
 letm (decide (x13 ≤ x27)) fun x28 =>
 cond x28 (some (0, false))
  (letm (decide (0 < x27)) fun x29 =>
 cond x29 (letm ((toU64 x27)) fun x30 =>
 letm ((toU64 a2)) fun x31 =>
 bnd ((shlK .u64 (x30 : UInt64) (UInt64.toNat x31 : Int) : Option UInt64)) fun (x32 : UInt64) =>
 letm ((bitK .or .u64 (x6 : UInt64) (x32 : UInt64) : UInt64)) fun x33 =>
 letm ((w64 (52 - a2))) fun x34 =>
 letm ((toU64 x34)) fun x35 =>
 bnd ((shrK .u64 (x10 : UInt64) (UInt64.toNat x35 : Int) : Option UInt64)) fun (x36 : UInt64) =>
 letm ((bitK .or .u64 (x33 : UInt64) (x36 : UInt64) : UInt64)) fun x37 =>
 letm ((w64 (52 - a2))) fun x38 =>
 letm ((toU64 x38)) fun x39 =>
 bnd ((shlK .u64 (1 : UInt64) (UInt64.toNat x39 : Int) : Option UInt64)) fun (x40 : UInt64) =>
 letm ((x40 - 1)) fun x41 =>
 letm ((bitK .and .u64 (x10 : UInt64) (x41 : UInt64) : UInt64)) fun x42 =>
 letm (((UInt64.toNat x42 : Int) == (UInt64.toNat 0 : Int))) fun x43 =>
 some (x37, x43))
  (letm ((bitK .or .u64 (x10 : UInt64) (4503599627370496 : UInt64) : UInt64)) fun x44 =>
 letm ((w64 (53 - a2))) fun x45 =>
 letm ((w64 (x45 - x27))) fun x46 =>
 letm (decide (52 < x46)) fun x47 =>
 cond x47 (some (0, false))
  (letm ((toU64 x46)) fun x48 =>
 bnd ((shrK .u64 (x44 : UInt64) (UInt64.toNat x48 : Int) : Option UInt64)) fun (x49 : UInt64) =>
 letm ((bitK .or .u64 (x6 : UInt64) (x49 : UInt64) : UInt64)) fun x50 =>
 letm ((toU64 x46)) fun x51 =>
 bnd ((shlK .u64 (1 : UInt64) (UInt64.toNat x51 : Int) : Option UInt64)) fun (x52 : UInt64) =>
 letm ((x52 - 1)) fun x53 =>
 letm ((bitK .and .u64 (x44 : UInt64) (x53 : UInt64) : UInt64)) fun x54 =>
 letm (((UInt64.toNat x54 : Int) == (UInt64.toNat 0 : Int))) fun x55 =>
 some (x50, x55))))))
def m_coresecref01_float (a0 : UInt64) : Option (List UInt8) :=
 bnd (m_coresecref01_IsNaN a0) fun x1 =>
 cond x1 (some [249, 126, 0])
  (bnd (m_coresecref01_Narrow a0 5 10) fun x2 =>
 cond x2.2 (bnd ((shrK .u64 (x2.1 : UInt64) (UInt64.toNat 8 : Int) : Option UInt64)) fun (x3 : UInt64) =>
 letm ((toU8 (UInt64.toNat x3 : Int))) fun x4 =>
 letm ((toU8 (UInt64.toNat x2.1 : Int))) fun x5 =>
 some [249, x4, x5])
  (bnd (m_coresecref01_Narrow a0 8 23) fun x6 =>
 cond x6.2 (bnd ((shrK .u64 (x6.1 : UInt64) (UInt64.toNat 24 : Int) : Option UInt64)) fun (x7 : UInt64) =>
 letm ((toU8 (UInt64.toNat x7 : Int))) fun x8 =>
 bnd ((shrK .u64 (x6.1 : UInt64) (UInt64.toNat 16 : Int) : Option UInt64)) fun (x9 : UInt64) =>
 letm ((toU8 (UInt64.toNat x9 : Int))) fun x10 =>
 bnd ((shrK .u64 (x6.1 : UInt64) (UInt64.toNat 8 : Int) : Option UInt64)) fun (x11 : UInt64) =>
 letm ((toU8 (UInt64.toNat x11 : Int))) fun x12 =>
 letm ((toU8 (UInt64.toNat x6.1 : Int))) fun x13 =>
 some [250, x8, x10, x12, x13])
  (loopF (R := (List UInt8)) (S := ((List UInt8) × Int)) (fun self15 s14 =>
 letm (decide (0 ≤ s14.2)) fun x16 =>
 cond x16 (letm ((toU64 s14.2)) fun x17 =>
 letm ((8 * x17)) fun x18 =>
 bnd ((shrK .u64 (a0 : UInt64) (UInt64.toNat x18 : Int) : Option UInt64)) fun (x19 : UInt64) =>
 letm ((toU8 (UInt64.toNat x19 : Int))) fun x20 =>
 bnd (app s14.1 [x20]) fun x21 =>
 letm ((w64 (s14.2 - 1))) fun x22 =>
 self15 (x21, x22))
  (some s14.1)) FUEL ([251], 7))))
def b_coresecref01_Raw (m_coresecref01_Raw : (Go.Gk.Tr) → Option (List UInt8)) (a0 : Go.Gk.Tr) : Option (List UInt8) :=
 bndS (ρ := (List UInt8)) (ρ' := (List UInt8)) (Y := (List UInt8)) (bnd (β := Bool) (letm ((a0.k == 0)) fun x1 =>
 cond x1 (some true)
  (letm ((a0.k == 1)) fun x2 =>
 some x2)) fun v3 =>
 cond v3 (bnd (m_coresecref01_Head_o a0.k a0.n) fun x4 =>
 some (.inl x4))
  (bnd (β := Bool) (letm ((a0.k == 2)) fun x5 =>
 cond x5 (some true)
  (letm ((a0.k == 3)) fun x6 =>
 some x6)) fun v7 =>
 cond v7 (letm ((toU64 (a0.b.length : Int))) fun x8 =>
 bnd (m_coresecref01_Head_o a0.k x8) fun x9 =>
 bnd (app x9 a0.b) fun x10 =>
 some (.inl x10))
  (letm ((a0.k == 4)) fun x11 =>
 cond x11 (letm ((toU64 (a0.l.length : Int))) fun x12 =>
 bnd (m_coresecref01_Head_o 4 x12) fun x13 =>
 some (.inr x13))
  (letm ((a0.k == 5)) fun x14 =>
 cond x14 (bnd (quo (a0.l.length : Int) 2) fun x15 =>
 letm ((toU64 x15)) fun x16 =>
 bnd (m_coresecref01_Head_o 5 x16) fun x17 =>
 some (.inr x17))
  (letm ((a0.k == 6)) fun x18 =>
 cond x18 (bnd (m_coresecref01_Head_o 6 a0.n) fun x19 =>
 some (.inr x19))
  (letm ((a0.k == 7)) fun x20 =>
 cond x20 (letm (decide ((UInt64.toNat a0.n : Int) < (UInt64.toNat 24 : Int))) fun x21 =>
 cond x21 (letm ((224 + a0.n)) fun x22 =>
 letm ((toU8 (UInt64.toNat x22 : Int))) fun x23 =>
 some (.inl [x23]))
  (letm ((toU8 (UInt64.toNat a0.n : Int))) fun x24 =>
 some (.inl [248, x24])))
  (bnd (m_coresecref01_float a0.n) fun x25 =>
 some (.inl x25)))))))) (fun q => q) fun v26 =>
 loopL (R := (List UInt8)) (S := (List UInt8)) (α := Go.Gk.Tr) (fun _ s28 =>
 some s28)
  (fun x29 _ s31 self32 =>
 bnd (m_coresecref01_Raw x29) fun x33 =>
 bnd (app s31 x33) fun x34 =>
 self32 x34) a0.l 0 v26
def n_coresecref01_Raw (n : Nat) : (Go.Gk.Tr) → Option (List UInt8) := Nat.rec (motive := fun _ => (Go.Gk.Tr) → Option (List UInt8)) (fun _ => none) (fun _ ih => b_coresecref01_Raw ih) n
def m_coresecref01_Raw (a0 : Go.Gk.Tr) : Option (List UInt8) := n_coresecref01_Raw 40 a0

def m_coresecref01_Compare (a0 : (List UInt8)) (a1 : (List UInt8)) : Option Int :=
 loopF (R := Int) (S := Int) (fun self3 s2 =>
 bnd (β := Bool) (letm (decide (s2 < (a0.length : Int))) fun x4 =>
 cond x4 (letm (decide (s2 < (a1.length : Int))) fun x5 =>
 some x5)
  (some false)) fun v6 =>
 cond v6 (bnd (idx a0 s2) fun x7 =>
 bnd (idx a1 s2) fun x8 =>
 letm (((UInt8.toNat x7 : Int) != (UInt8.toNat x8 : Int))) fun x9 =>
 cond x9 (bnd (idx a0 s2) fun x10 =>
 bnd (idx a1 s2) fun x11 =>
 letm (decide ((UInt8.toNat x10 : Int) < (UInt8.toNat x11 : Int))) fun x12 =>
 cond x12 (some (-1))
  (some 1))
  (letm ((w64 (s2 + 1))) fun x13 =>
 self3 x13))
  (letm (decide ((a0.length : Int) < (a1.length : Int))) fun x14 =>
 cond x14 (some (-1))
  (letm (decide ((a1.length : Int) < (a0.length : Int))) fun x15 =>
 cond x15 (some 1)
  (some 0)))) FUEL 0
def b_coresecref01_left (m_coresecref01_left : (Go.Gk.Tr) → (Int) → (Int) → Option Int) (a0 : Go.Gk.Tr) (a1 : Int) (a2 : Int) : Option Int :=
 letm (decide (a1 < 1)) fun x3 =>
 cond x3 (some (-1))
  (letm ((w64 (a1 - 1))) fun x4 =>
 bnd (β := Bool) (letm ((a0.k == 4)) fun x5 =>
 cond x5 (some true)
  (letm ((a0.k == 5)) fun x6 =>
 cond x6 (some true)
  (letm ((a0.k == 6)) fun x7 =>
 some x7))) fun v8 =>
 bnd (β := Bool) (letm ((a0.k == 2)) fun x9 =>
 cond x9 (some true)
  (letm ((a0.k == 3)) fun x10 =>
 some x10)) fun v11 =>
 bnd (β := Bool) (bnd (β := Bool) (letm (decide (a0.k < 0)) fun x12 =>
 cond x12 (some true)
  (letm (decide (8 < a0.k)) fun x13 =>
 some x13)) fun v14 =>
 cond v14 (some true)
  (bnd (β := Bool) (letm (decide (0 < (a0.b.length : Int))) fun x15 =>
 cond x15 (letm ((!v11)) fun x16 =>
 some x16)
  (some false)) fun v17 =>
 cond v17 (some true)
  (bnd (β := Bool) (letm (decide (0 < (a0.l.length : Int))) fun x18 =>
 cond x18 (letm ((!v8)) fun x19 =>
 some x19)
  (some false)) fun v20 =>
 cond v20 (some true)
  (letm (((UInt64.toNat a0.n : Int) != (UInt64.toNat 0 : Int))) fun x21 =>
 cond x21 (cond v11 (some true)
  (letm ((a0.k == 4)) fun x22 =>
 cond x22 (some true)
  (letm ((a0.k == 5)) fun x23 =>
 some x23)))
  (some false))))) fun v24 =>
 cond v24 (some (-1))
  (bnd (β := Bool) (letm (decide (4096 < (a0.b.length : Int))) fun x25 =>
 cond x25 (some true)
  (letm ((a0.k == 3)) fun x26 =>
 cond x26 (bnd (m_unicode_utf8_Valid a0.b) fun x27 =>
 letm ((!x27)) fun x28 =>
 some x28)
  (some false))) fun v29 =>
 cond v29 (some (-1))
  (bnd (β := Bool) (bnd (β := Bool) (letm ((a0.k == 7)) fun x30 =>
 cond x30 (letm (decide ((UInt64.toNat 255 : Int) < (UInt64.toNat a0.n : Int))) fun x31 =>
 cond x31 (some true)
  (letm (decide ((UInt64.toNat 23 : Int) < (UInt64.toNat a0.n : Int))) fun x32 =>
 cond x32 (letm (decide ((UInt64.toNat a0.n : Int) < (UInt64.toNat 32 : Int))) fun x33 =>
 some x33)
  (some false)))
  (some false)) fun v34 =>
 cond v34 (some true)
  (letm ((a0.k == 8)) fun x35 =>
 cond x35 (bnd (m_coresecref01_IsNaN a0.n) fun x36 =>
 cond x36 (letm (((UInt64.toNat a0.n : Int) != (UInt64.toNat 9221120237041090560 : Int))) fun x37 =>
 some x37)
  (some false))
  (some false))) fun v38 =>
 cond v38 (some (-1))
  (bnd (β := Bool) (bnd (β := Bool) (cond v8 (letm (decide (8 ≤ a2)) fun x39 =>
 some x39)
  (some false)) fun v40 =>
 cond v40 (some true)
  (bnd (β := Bool) (letm ((a0.k == 6)) fun x41 =>
 cond x41 (letm (((a0.l.length : Int) != 1)) fun x42 =>
 some x42)
  (some false)) fun v43 =>
 cond v43 (some true)
  (bnd (β := Bool) (letm ((a0.k == 5)) fun x44 =>
 cond x44 (bnd (Gk.rem (a0.l.length : Int) 2) fun x45 =>
 letm ((x45 != 0)) fun x46 =>
 some x46)
  (some false)) fun v47 =>
 cond v47 (some true)
  (letm (decide (x4 < (a0.l.length : Int))) fun x48 =>
 some x48)))) fun v49 =>
 cond v49 (some (-1))
  (bndS (ρ := Int) (ρ' := Int) (Y := Int) (loopL (R := (Int ⊕ Int)) (S := Int) (α := Go.Gk.Tr) (fun _ s51 =>
 some (.inr s51))
  (fun x52 _ s54 self55 =>
 letm ((w64 (a2 + 1))) fun x56 =>
 bnd (m_coresecref01_left x52 s54 x56) fun x57 =>
 letm (decide (x57 < 0)) fun x58 =>
 cond x58 (some (.inl (-1)))
  (self55 x57)) a0.l 0 x4) (fun q => q) fun v59 =>
 loopF (R := Int) (S := Int) (fun self61 s60 =>
 bnd (β := Bool) (letm ((a0.k == 5)) fun x62 =>
 cond x62 (letm (decide (s60 < (a0.l.length : Int))) fun x63 =>
 some x63)
  (some false)) fun v64 =>
 cond v64 (letm ((w64 (s60 - 2))) fun x65 =>
 bnd (idx a0.l x65) fun x66 =>
 bnd (m_coresecref01_Raw x66) fun x67 =>
 bnd (idx a0.l s60) fun x68 =>
 bnd (m_coresecref01_Raw x68) fun x69 =>
 bnd (m_coresecref01_Compare x67 x69) fun x70 =>
 letm (decide (0 ≤ x70)) fun x71 =>
 cond x71 (some (-1))
  (letm ((w64 (s60 + 2))) fun x72 =>
 self61 x72))
  (some v59)) FUEL 2)))))
def n_coresecref01_left (n : Nat) : (Go.Gk.Tr) → (Int) → (Int) → Option Int := Nat.rec (motive := fun _ => (Go.Gk.Tr) → (Int) → (Int) → Option Int) (fun _ _ _ => none) (fun _ ih => b_coresecref01_left ih) n
def m_coresecref01_left (a0 : Go.Gk.Tr) (a1 : Int) (a2 : Int) : Option Int := n_coresecref01_left 40 a0 a1 a2

def m_coresecref01_Valid (a0 : Go.Gk.Tr) : Option Bool :=
 bnd (β := Bool) (bnd (m_coresecref01_left a0 256 0) fun x1 =>
 letm (decide (0 ≤ x1)) fun x2 =>
 cond x2 (bnd (m_coresecref01_Raw a0) fun x3 =>
 letm (decide ((x3.length : Int) ≤ 4096)) fun x4 =>
 some x4)
  (some false)) fun v5 =>
 some v5
def m_coresecref01_Encode (a0 : Go.Gk.Tr) : Option ((List UInt8) × Int) :=
 bnd (m_coresecref01_Valid a0) fun x1 =>
 letm ((!x1)) fun x2 =>
 cond x2 (some ([], 1))
  (bnd (m_coresecref01_Raw a0) fun x3 =>
 some (x3, 0))
def m_coresecref16_CacheKey (a0 : S_api_Message) : Option (List UInt8) :=
 loopL (R := (List UInt8)) (S := (List Go.Gk.Tr)) (α := S_api_Option) (fun _ s2 =>
 bnd (m_coresecref01_Int a0.2.1) fun x3 =>
 bnd (β := (List Go.Gk.Tr)) (letm ((a0.2.1 == 5)) fun x4 =>
 cond x4 (bnd (m_coresecref01_Bytes a0.2.2.2.2.2) fun x5 =>
 bnd (app [x3, (Tr.mk 4 0 [] s2)] [x5]) fun x6 =>
 some x6)
  (some [x3, (Tr.mk 4 0 [] s2)])) fun v7 =>
 bnd (m_coresecref01_Encode (Tr.mk 4 0 [] v7)) fun x8 =>
 letm ((x8.2 != 0)) fun x9 =>
 cond x9 (some [])
  (some x8.1))
  (fun x10 _ s12 self13 =>
 bnd (β := (List Go.Gk.Tr)) (bnd (β := Bool) (bnd (m_coresecref16_NoCacheKey x10.1) fun x14 =>
 letm ((!x14)) fun x15 =>
 cond x15 (letm ((x10.1 != 4)) fun x16 =>
 cond x16 (letm ((x10.1 != 6)) fun x17 =>
 some x17)
  (some false))
  (some false)) fun v18 =>
 cond v18 (bnd (m_coresecref01_Int x10.1) fun x19 =>
 bnd (m_coresecref01_Bytes x10.2) fun x20 =>
 bnd (app s12 [(Tr.mk 4 0 [] [x19, x20])]) fun x21 =>
 some x21)
  (some s12)) fun v22 =>
 self13 v22) a0.2.2.2.2.1 0 []
def m_coresecref15_extended (a0 : Int) : Option S_api_Option :=
 letm (decide (a0 < 13)) fun x1 =>
 cond x1 (some (a0, []))
  (letm (decide (a0 < 269)) fun x2 =>
 cond x2 (letm ((w64 (a0 - 13))) fun x3 =>
 letm ((toU8 x3)) fun x4 =>
 some (13, [x4]))
  (letm ((w64 (a0 - 269))) fun x5 =>
 bnd (Gk.shr x5 (UInt64.toNat 8 : Int)) fun x6 =>
 letm ((toU8 x6)) fun x7 =>
 letm ((w64 (a0 - 269))) fun x8 =>
 letm ((toU8 x8)) fun x9 =>
 some (14, [x7, x9])))
def m_coresecref15_Raw (a0 : S_api_Message) : Option (List UInt8) :=
 letm ((w64 (16 * a0.1))) fun x1 =>
 letm ((w64 (64 + x1))) fun x2 =>
 letm ((w64 (x2 + (a0.2.2.2.1.length : Int)))) fun x3 =>
 letm ((toU8 x3)) fun x4 =>
 letm ((toU8 a0.2.1)) fun x5 =>
 bnd (Gk.shr a0.2.2.1 (UInt64.toNat 8 : Int)) fun x6 =>
 letm ((toU8 x6)) fun x7 =>
 letm ((toU8 a0.2.2.1)) fun x8 =>
 bnd (app [x4, x5, x7, x8] a0.2.2.2.1) fun x9 =>
 loopL (R := (List UInt8)) (S := ((List UInt8) × Int)) (α := S_api_Option) (fun _ s11 =>
 bnd (β := (List UInt8)) (letm (decide (0 < (a0.2.2.2.2.2.length : Int))) fun x12 =>
 cond x12 (bnd (app s11.1 [255]) fun x13 =>
 bnd (app x13 a0.2.2.2.2.2) fun x14 =>
 some x14)
  (some s11.1)) fun v15 =>
 some v15)
  (fun x16 _ s18 self19 =>
 letm ((w64 (x16.1 - s18.2))) fun x20 =>
 bnd (m_coresecref15_extended x20) fun x21 =>
 bnd (m_coresecref15_extended (x16.2.length : Int)) fun x22 =>
 letm ((w64 (16 * x21.1))) fun x23 =>
 letm ((w64 (x23 + x22.1))) fun x24 =>
 letm ((toU8 x24)) fun x25 =>
 bnd (app s18.1 [x25]) fun x26 =>
 bnd (app x26 x21.2) fun x27 =>
 bnd (app x27 x22.2) fun x28 =>
 bnd (app x28 x16.2) fun x29 =>
 self19 (x29, x16.1)) a0.2.2.2.2.1 0 (x9, 0)
def m_coresecref15_Valid (a0 : S_api_Message) : Option Bool :=
 bnd (β := Bool) (letm (decide (a0.1 < 0)) fun x1 =>
 cond x1 (some true)
  (letm (decide (3 < a0.1)) fun x2 =>
 cond x2 (some true)
  (letm (decide (a0.2.1 < 0)) fun x3 =>
 cond x3 (some true)
  (letm (decide (255 < a0.2.1)) fun x4 =>
 cond x4 (some true)
  (letm (decide (a0.2.2.1 < 0)) fun x5 =>
 cond x5 (some true)
  (letm (decide (65535 < a0.2.2.1)) fun x6 =>
 cond x6 (some true)
  (letm (decide (8 < (a0.2.2.2.1.length : Int))) fun x7 =>
 cond x7 (some true)
  (letm (decide (32 < (a0.2.2.2.2.1.length : Int))) fun x8 =>
 cond x8 (some true)
  (letm (decide (4096 < (a0.2.2.2.2.2.length : Int))) fun x9 =>
 some x9))))))))) fun v10 =>
 cond v10 (some false)
  (bnd (quo a0.2.1 32) fun x11 =>
 bnd (β := Bool) (letm ((x11 != 0)) fun x12 =>
 cond x12 (letm ((x11 != 2)) fun x13 =>
 cond x13 (letm ((x11 != 4)) fun x14 =>
 cond x14 (letm ((x11 != 5)) fun x15 =>
 some x15)
  (some false))
  (some false))
  (some false)) fun v16 =>
 cond v16 (some false)
  (loopL (R := Bool) (S := Int) (α := S_api_Option) (fun _ _ =>
 bnd (β := Bool) (letm ((a0.2.1 == 0)) fun x19 =>
 cond x19 (letm ((w64 ((a0.2.2.2.1.length : Int) + (a0.2.2.2.2.1.length : Int)))) fun x20 =>
 letm ((w64 (x20 + (a0.2.2.2.2.2.length : Int)))) fun x21 =>
 letm (decide (0 < x21)) fun x22 =>
 cond x22 (some true)
  (letm ((a0.1 == 3)) fun x23 =>
 cond x23 (letm ((a0.2.1 != 0)) fun x24 =>
 some x24)
  (some false)))
  (letm ((a0.1 == 3)) fun x25 =>
 cond x25 (letm ((a0.2.1 != 0)) fun x26 =>
 some x26)
  (some false))) fun v27 =>
 cond v27 (some false)
  (bnd (m_coresecref15_Raw a0) fun x28 =>
 letm (decide ((x28.length : Int) ≤ 4096)) fun x29 =>
 some x29))
  (fun x30 _ s32 self33 =>
 bnd (β := Bool) (letm (decide (x30.1 < s32)) fun x34 =>
 cond x34 (some true)
  (letm (decide (65535 < x30.1)) fun x35 =>
 cond x35 (some true)
  (letm (decide (1034 < (x30.2.length : Int))) fun x36 =>
 some x36))) fun v37 =>
 cond v37 (some false)
  (self33 x30.1)) a0.2.2.2.2.1 0 0))
def m_coreseclaw16_OptionKeys (a0 : (List Int)) : Option Bool :=
 bnd (m_coreseclaw16_message a0) fun x1 =>
 bnd (mkl 1000 0) fun x2 =>
 bnd (mkl 1000 0) fun x3 =>
 bnd (mkl 1000 0) fun x4 =>
 bnd (mkl 900 0) fun x5 =>
 bnd (m_coresecref16_Set x1 4000 [x2, x3, x4, x5]) fun x6 =>
 bnd (β := Bool) (bnd (m_option_CacheKey x1) fun x7 =>
 bnd (m_coresecref16_CacheKey x1) fun x8 =>
 letm ((x7 == x8)) fun x9 =>
 cond x9 (bnd (m_coresecref15_Valid x6) fun x10 =>
 letm ((!x10)) fun x11 =>
 cond x11 (bnd (m_coreseclaw16_awake ) fun x12 =>
 some x12)
  (bnd (m_option_CacheKey x6) fun x13 =>
 bnd (m_coresecref16_CacheKey x6) fun x14 =>
 letm ((x13 == x14)) fun x15 =>
 cond x15 (bnd (m_coreseclaw16_awake ) fun x16 =>
 some x16)
  (some false)))
  (some false)) fun v17 =>
 some v17
def m_coreseclaw16_OptionSame (a0 : (List Int)) (a1 : Int) (a2 : (List UInt8)) (a3 : (List UInt8)) (a4 : Int) : Option Bool :=
 bnd (m_coreseclaw16_message a0) fun x5 =>
 bnd (m_option_CacheKey x5) fun x6 =>
 bnd (m_coresecref15_Copy x5) fun x7 =>
 bnd (m_coresecmake_Mod a1 2) fun x8 =>
 bnd (m_coresecmake_Mod a1 65536) fun x9 =>
 letm ((min (a2.length : Int) 8)) fun x10 =>
 bnd (Gk.cut a2 0 x10) fun x11 =>
 bnd (app [] x11) fun x12 =>
 bnd (m_coresecmake_Mod a4 5) fun x13 =>
 bnd (idx [4, 6, 60, 28, 92] x13) fun x14 =>
 letm ((min (a3.length : Int) 8)) fun x15 =>
 bnd (Gk.cut a3 0 x15) fun x16 =>
 bnd (m_coresecref16_Set (x8, (x7.2.1, (x9, (x12, x7.2.2.2.2)))) x14 [x16]) fun x17 =>
 bnd (β := Bool) (bnd (m_option_CacheKey x17) fun x18 =>
 letm ((x18 == x6)) fun x19 =>
 cond x19 (letm (decide (0 < (x6.length : Int))) fun x20 =>
 cond x20 (bnd (m_coreseclaw16_awake ) fun x21 =>
 some x21)
  (some false))
  (some false)) fun v22 =>
 some v22
def m_option_acceptable (a0 : (List S_api_Option)) (a1 : Int) : Option Bool :=
 bnd (idx a0 a1) fun x2 =>
 bnd (m_option_Known x2.1) fun x3 =>
 bnd (idx a0 a1) fun x4 =>
 bnd (β := Bool) (letm ((!x3.2)) fun x5 =>
 cond x5 (some true)
  (letm (decide ((x4.2.length : Int) < x3.1.2.1)) fun x6 =>
 cond x6 (some true)
  (letm (decide (x3.1.2.2.1 < (x4.2.length : Int))) fun x7 =>
 cond x7 (some true)
  (letm ((x3.1.1 == 4)) fun x8 =>
 cond x8 (bnd (idx a0 a1) fun x9 =>
 bnd (m_unicode_utf8_Valid x9.2) fun x10 =>
 letm ((!x10)) fun x11 =>
 some x11)
  (some false))))) fun v12 =>
 cond v12 (some false)
  (bnd (Gk.cut a0 0 a1) fun x13 =>
 loopL (R := Bool) (S := Unit) (α := S_api_Option) (fun _ _ =>
 some true)
  (fun x16 _ _ self19 =>
 bnd (β := Bool) (bnd (idx a0 a1) fun x20 =>
 letm ((x16.1 == x20.1)) fun x21 =>
 cond x21 (letm ((!x3.1.2.2.2)) fun x22 =>
 some x22)
  (some false)) fun v23 =>
 cond v23 (some false)
  (self19 ())) x13 0 ())
def m_option_Check (a0 : S_api_Message) : Option S_cbor_checker :=
 loopL (R := S_cbor_checker) (S := Unit) (α := S_api_Option) (fun _ _ =>
 some (0, 0))
  (fun x3 k4 _ self6 =>
 bnd (β := Bool) (bnd (m_option_Critical x3.1) fun x7 =>
 cond x7 (bnd (m_option_acceptable a0.2.2.2.2.1 (k4 : Int)) fun x8 =>
 letm ((!x8)) fun x9 =>
 some x9)
  (some false)) fun v10 =>
 cond v10 (some ((k4 : Int), 14))
  (self6 ())) a0.2.2.2.2.1 0 ()
def m_coresecref16_acceptable (a0 : S_api_Message) (a1 : Int) : Option Bool :=
 bnd (idx a0.2.2.2.2.1 a1) fun x2 =>
 bnd (m_coresecref16_Known x2.1) fun x3 =>
 bnd (β := Bool) (letm ((!x3.2)) fun x4 =>
 cond x4 (some true)
  (letm (decide ((x2.2.length : Int) < x3.1.2.1)) fun x5 =>
 cond x5 (some true)
  (letm (decide (x3.1.2.2.1 < (x2.2.length : Int))) fun x6 =>
 cond x6 (some true)
  (letm ((x3.1.1 == 4)) fun x7 =>
 cond x7 (bnd (m_unicode_utf8_Valid x2.2) fun x8 =>
 letm ((!x8)) fun x9 =>
 some x9)
  (some false))))) fun v10 =>
 cond v10 (some false)
  (bnd (β := Bool) (cond x3.1.2.2.2 (some true)
  (letm ((a1 == 0)) fun x11 =>
 cond x11 (some true)
  (letm ((w64 (a1 - 1))) fun x12 =>
 bnd (idx a0.2.2.2.2.1 x12) fun x13 =>
 letm ((x13.1 != x2.1)) fun x14 =>
 some x14))) fun v15 =>
 some v15)
def m_coresecref16_Check (a0 : S_api_Message) : Option S_cbor_checker :=
 loopL (R := S_cbor_checker) (S := Unit) (α := S_api_Option) (fun _ _ =>
 some (0, 0))
  (fun x3 k4 _ self6 =>
 bnd (β := Bool) (bnd (m_coresecref16_Critical x3.1) fun x7 =>
 cond x7 (bnd (m_coresecref16_acceptable a0 (k4 : Int)) fun x8 =>
 letm ((!x8)) fun x9 =>
 some x9)
  (some false)) fun v10 =>
 cond v10 (some ((k4 : Int), 14))
  (self6 ())) a0.2.2.2.2.1 0 ()
def m_option_Clean (a0 : S_api_Message) : Option S_api_Message :=
 loopL (R := S_api_Message) (S := (List S_api_Option)) (α := S_api_Option) (fun _ s2 =>
 bnd (m_option_owned a0 s2) fun x3 =>
 some x3)
  (fun x4 k5 s6 self7 =>
 bnd (β := (List S_api_Option)) (bnd (β := Bool) (bnd (m_option_Critical x4.1) fun x8 =>
 cond x8 (some true)
  (bnd (m_option_acceptable a0.2.2.2.2.1 (k5 : Int)) fun x9 =>
 some x9)) fun v10 =>
 cond v10 (bnd (app s6 [x4]) fun x11 =>
 some x11)
  (some s6)) fun v12 =>
 self7 v12) a0.2.2.2.2.1 0 []
def m_coresecref16_Clean (a0 : S_api_Message) : Option S_api_Message :=
 loopL (R := S_api_Message) (S := (List S_api_Option)) (α := S_api_Option) (fun _ s2 =>
 bnd (m_coresecref16_with a0 s2) fun x3 =>
 some x3)
  (fun x4 k5 s6 self7 =>
 bnd (β := (List S_api_Option)) (bnd (β := Bool) (bnd (m_coresecref16_Critical x4.1) fun x8 =>
 cond x8 (some true)
  (bnd (m_coresecref16_acceptable a0 (k5 : Int)) fun x9 =>
 some x9)) fun v10 =>
 cond v10 (bnd (app s6 [x4]) fun x11 =>
 some x11)
  (some s6)) fun v12 =>
 self7 v12) a0.2.2.2.2.1 0 []
def m_coreseclaw16_OptionChecks (a0 : (List Int)) : Option Bool :=
 bnd (m_coreseclaw16_message a0) fun x1 =>
 bnd (m_option_Check x1) fun x2 =>
 bnd (m_coresecref16_Check x1) fun x3 =>
 bnd (β := Bool) (letm ((x2.1 == x3.1)) fun x4 =>
 cond x4 (letm ((x2.2 == x3.2)) fun x5 =>
 cond x5 (bnd (m_option_Clean x1) fun x6 =>
 bnd (m_coresecref16_Clean x1) fun x7 =>
 bnd (m_coresecref15_Same x6 x7) fun x8 =>
 cond x8 (bnd (m_coreseclaw16_awake ) fun x9 =>
 some x9)
  (some false))
  (some false))
  (some false)) fun v10 =>
 some v10
end
end Go.Proofs.YtllomdfckciedaaDoor
