/-
  Models of the functions, as the evaluator computes them. No condition.
-/
import Derived.Test.YtllomdfckciedaaDoorEv
import Derived.Test.YtllomdfckciedaaDoorShelf
namespace Go.Proofs.YtllomdfckciedaaDoor
open Go.Gk Go.RowKit
noncomputable section
set_option maxRecDepth 100000
def m_bytes_Clone (a0 : List UInt8) : Option (List UInt8) := app ([] : List UInt8) a0
def m_bytes_Clone_o (a0 : List UInt8) : Option (List UInt8) := m_bytes_Clone a0

def m_option_owned (a0 : S_api_Message) (a1 : (List S_api_Option)) : Option S_api_Message :=
 bnd (m_bytes_Clone a0.2.2.2.1) fun x2 =>
 bnd (m_bytes_Clone a0.2.2.2.2.2) fun x3 =>
 loopL (R := S_api_Message) (S := (S_api_Message × (List S_api_Option))) (α := S_api_Option) (fun _ s5 =>
 some (s5.1.1, (s5.1.2.1, (s5.1.2.2.1, (s5.1.2.2.2.1, (s5.2, s5.1.2.2.2.2.2))))))
  (fun x6 _ s8 self9 =>
 bnd (m_bytes_Clone x6.2) fun x10 =>
 bnd (app s8.2 [(x6.1, x10)]) fun x11 =>
 self9 (s8.1, x11)) a1 0 ((a0.1, (a0.2.1, (a0.2.2.1, (x2, ([], x3))))), [])
def m_option_Set (a0 : S_api_Message) (a1 : Int) (a2 : (List (List UInt8))) : Option S_api_Message :=
 loopL (R := S_api_Message) (S := ((List S_api_Option) × (List S_api_Option))) (α := S_api_Option) (fun _ s4 =>
 loopL (R := S_api_Message) (S := (List S_api_Option)) (α := (List UInt8)) (fun _ s6 =>
 bnd (app s6 s4.2) fun x7 =>
 bnd (m_option_owned a0 x7) fun x8 =>
 some x8)
  (fun x9 _ s11 self12 =>
 bnd (app s11 [(a1, x9)]) fun x13 =>
 self12 x13) a2 0 s4.1)
  (fun x14 _ s16 self17 =>
 bnd (β := ((List S_api_Option) × (List S_api_Option))) (letm (decide (x14.1 < a1)) fun x18 =>
 cond x18 (bnd (app s16.1 [x14]) fun x19 =>
 some (x19, s16.2))
  (letm (decide (a1 < x14.1)) fun x20 =>
 cond x20 (bnd (app s16.2 [x14]) fun x21 =>
 some (s16.1, x21))
  (some (s16.1, s16.2)))) fun v22 =>
 self17 (v22.1, v22.2)) a0.2.2.2.2.1 0 ([], [])
def m_option_Uint (a0 : (List UInt8)) : Option (Int × Int) :=
 loopL (R := (Int × Int)) (S := Int) (α := UInt8) (fun _ s2 =>
 some (s2, 0))
  (fun x3 _ s5 self6 =>
 bnd (Gk.shl s5 (UInt64.toNat 8 : Int)) fun x7 =>
 letm ((w64 (UInt8.toNat x3 : Int))) fun x8 =>
 letm ((ibit .or x7 x8)) fun x9 =>
 letm (decide (4294967295 < x9)) fun x10 =>
 cond x10 (some (0, 8))
  (self6 x9)) a0 0 0
def m_strings_Split (a0 a1 : List UInt8) : Option (List (List UInt8)) := bif Nat.blt 0 a1.length && Nat.blt a0.length 4294967281 then some (Lib.split a0 a1) else none

def m_strings_IndexByte (a0 : List UInt8) (a1 : UInt8) : Option Int := some (Lib.indexByte a0 a1)

def m_option_plain (a0 : UInt8) : Option Bool :=
 bnd (β := Bool) (letm (decide ((UInt8.toNat 97 : Int) ≤ (UInt8.toNat a0 : Int))) fun x1 =>
 cond x1 (letm (decide ((UInt8.toNat a0 : Int) ≤ (UInt8.toNat 122 : Int))) fun x2 =>
 cond x2 (some true)
  (letm (decide ((UInt8.toNat 65 : Int) ≤ (UInt8.toNat a0 : Int))) fun x3 =>
 cond x3 (letm (decide ((UInt8.toNat a0 : Int) ≤ (UInt8.toNat 90 : Int))) fun x4 =>
 cond x4 (some true)
  (letm (decide ((UInt8.toNat 48 : Int) ≤ (UInt8.toNat a0 : Int))) fun x5 =>
 cond x5 (letm (decide ((UInt8.toNat a0 : Int) ≤ (UInt8.toNat 57 : Int))) fun x6 =>
 cond x6 (some true)
  (bnd (m_strings_IndexByte [45, 46, 95, 126] a0) fun x7 =>
 letm (decide (0 ≤ x7)) fun x8 =>
 some x8))
  (bnd (m_strings_IndexByte [45, 46, 95, 126] a0) fun x9 =>
 letm (decide (0 ≤ x9)) fun x10 =>
 some x10)))
  (letm (decide ((UInt8.toNat 48 : Int) ≤ (UInt8.toNat a0 : Int))) fun x11 =>
 cond x11 (letm (decide ((UInt8.toNat a0 : Int) ≤ (UInt8.toNat 57 : Int))) fun x12 =>
 cond x12 (some true)
  (bnd (m_strings_IndexByte [45, 46, 95, 126] a0) fun x13 =>
 letm (decide (0 ≤ x13)) fun x14 =>
 some x14))
  (bnd (m_strings_IndexByte [45, 46, 95, 126] a0) fun x15 =>
 letm (decide (0 ≤ x15)) fun x16 =>
 some x16))))
  (letm (decide ((UInt8.toNat 65 : Int) ≤ (UInt8.toNat a0 : Int))) fun x17 =>
 cond x17 (letm (decide ((UInt8.toNat a0 : Int) ≤ (UInt8.toNat 90 : Int))) fun x18 =>
 cond x18 (some true)
  (letm (decide ((UInt8.toNat 48 : Int) ≤ (UInt8.toNat a0 : Int))) fun x19 =>
 cond x19 (letm (decide ((UInt8.toNat a0 : Int) ≤ (UInt8.toNat 57 : Int))) fun x20 =>
 cond x20 (some true)
  (bnd (m_strings_IndexByte [45, 46, 95, 126] a0) fun x21 =>
 letm (decide (0 ≤ x21)) fun x22 =>
 some x22))
  (bnd (m_strings_IndexByte [45, 46, 95, 126] a0) fun x23 =>
 letm (decide (0 ≤ x23)) fun x24 =>
 some x24)))
  (letm (decide ((UInt8.toNat 48 : Int) ≤ (UInt8.toNat a0 : Int))) fun x25 =>
 cond x25 (letm (decide ((UInt8.toNat a0 : Int) ≤ (UInt8.toNat 57 : Int))) fun x26 =>
 cond x26 (some true)
  (bnd (m_strings_IndexByte [45, 46, 95, 126] a0) fun x27 =>
 letm (decide (0 ≤ x27)) fun x28 =>
 some x28))
  (bnd (m_strings_IndexByte [45, 46, 95, 126] a0) fun x29 =>
 letm (decide (0 ≤ x29)) fun x30 =>
 some x30)))) fun v31 =>
 some v31
def m_option_segment (a0 : (List UInt8)) : Option ((List UInt8) × Bool) :=
 loopF (R := ((List UInt8) × Bool)) (S := ((List UInt8) × Int)) (fun self2 s1 =>
 letm (decide (s1.2 < (a0.length : Int))) fun x3 =>
 cond x3 (bndS (ρ := ((List UInt8) × Bool)) (ρ' := ((List UInt8) × Bool)) (Y := ((List UInt8) × Int)) (bnd (idx a0 s1.2) fun x4 =>
 letm (((UInt8.toNat x4 : Int) != (UInt8.toNat 37 : Int))) fun x5 =>
 cond x5 (bnd (m_option_plain x4) fun x6 =>
 letm ((!x6)) fun x7 =>
 cond x7 (some (.inl ([], false)))
  (bnd (app s1.1 [x4]) fun x8 =>
 some (.inr (x8, s1.2))))
  (letm ((w64 (s1.2 + 2))) fun x9 =>
 letm (decide ((a0.length : Int) ≤ x9)) fun x10 =>
 cond x10 (some (.inl ([], false)))
  (letm ((w64 (s1.2 + 1))) fun x11 =>
 bnd (idx a0 x11) fun x12 =>
 bnd (m_strings_IndexByte [48, 49, 50, 51, 52, 53, 54, 55, 56, 57, 65, 66, 67, 68, 69, 70] x12) fun x13 =>
 letm ((w64 (s1.2 + 2))) fun x14 =>
 bnd (idx a0 x14) fun x15 =>
 bnd (m_strings_IndexByte [48, 49, 50, 51, 52, 53, 54, 55, 56, 57, 65, 66, 67, 68, 69, 70] x15) fun x16 =>
 bnd (β := Bool) (letm (decide (x13 < 0)) fun x17 =>
 cond x17 (some true)
  (letm (decide (x16 < 0)) fun x18 =>
 cond x18 (some true)
  (letm ((w64 (16 * x13))) fun x19 =>
 letm ((w64 (x19 + x16))) fun x20 =>
 letm ((toU8 x20)) fun x21 =>
 bnd (m_option_plain x21) fun x22 =>
 some x22))) fun v23 =>
 cond v23 (some (.inl ([], false)))
  (letm ((w64 (16 * x13))) fun x24 =>
 letm ((w64 (x24 + x16))) fun x25 =>
 letm ((toU8 x25)) fun x26 =>
 bnd (app s1.1 [x26]) fun x27 =>
 letm ((w64 (s1.2 + 2))) fun x28 =>
 some (.inr (x27, x28)))))) (fun q => q) fun v29 =>
 letm ((w64 (v29.2 + 1))) fun x30 =>
 self2 (v29.1, x30))
  (some (s1.1, true))) FUEL ([], 0)
def m_option_segments (a0 : (List UInt8)) : Option ((List (List UInt8)) × Bool) :=
 letm ((a0 == [])) fun x1 =>
 cond x1 (some ([], true))
  (bnd (idx a0 0) fun x2 =>
 letm (((UInt8.toNat x2 : Int) != (UInt8.toNat 47 : Int))) fun x3 =>
 cond x3 (some ([], false))
  (bnd (Gk.cut a0 1 (a0.length : Int)) fun x4 =>
 bnd (m_strings_Split x4 [47]) fun x5 =>
 loopL (R := ((List (List UInt8)) × Bool)) (S := (List (List UInt8))) (α := (List UInt8)) (fun _ s7 =>
 some (s7, true))
  (fun x8 _ s10 self11 =>
 bnd (m_option_segment x8) fun x12 =>
 letm ((!x12.2)) fun x13 =>
 cond x13 (some ([], false))
  (bnd (app s10 [x12.1]) fun x14 =>
 self11 x14)) x5 0 []))
def m_coap_sound (a0 : S_api_Message) : Option Bool :=
 bnd (Gk.shr a0.2.1 (UInt64.toNat 5 : Int)) fun x1 =>
 bnd (β := Bool) (letm (decide (a0.1 < 0)) fun x2 =>
 cond x2 (some true)
  (letm (decide (3 < a0.1)) fun x3 =>
 cond x3 (some true)
  (letm (decide (a0.2.1 < 0)) fun x4 =>
 cond x4 (some true)
  (letm (decide (255 < a0.2.1)) fun x5 =>
 cond x5 (some true)
  (letm ((x1 != 0)) fun x6 =>
 cond x6 (letm ((x1 != 2)) fun x7 =>
 cond x7 (letm ((x1 != 4)) fun x8 =>
 cond x8 (letm ((x1 != 5)) fun x9 =>
 some x9)
  (some false))
  (some false))
  (some false)))))) fun v10 =>
 cond v10 (some false)
  (bnd (β := Bool) (letm (decide (a0.2.2.1 < 0)) fun x11 =>
 cond x11 (some true)
  (letm (decide (65535 < a0.2.2.1)) fun x12 =>
 cond x12 (some true)
  (letm (decide (8 < (a0.2.2.2.1.length : Int))) fun x13 =>
 cond x13 (some true)
  (letm (decide (32 < (a0.2.2.2.2.1.length : Int))) fun x14 =>
 some x14)))) fun v15 =>
 cond v15 (some false)
  (loopL (R := Bool) (S := Int) (α := S_api_Option) (fun _ _ =>
 bnd (β := Bool) (letm ((a0.2.1 == 0)) fun x18 =>
 cond x18 (letm ((w64 ((a0.2.2.2.1.length : Int) + (a0.2.2.2.2.1.length : Int)))) fun x19 =>
 letm ((w64 (x19 + (a0.2.2.2.2.2.length : Int)))) fun x20 =>
 letm (decide (0 < x20)) fun x21 =>
 some x21)
  (some false)) fun v22 =>
 cond v22 (some false)
  (bnd (β := Bool) (letm ((a0.1 != 3)) fun x23 =>
 cond x23 (letm (decide ((a0.2.2.2.2.2.length : Int) ≤ 4096)) fun x24 =>
 some x24)
  (letm ((a0.2.1 == 0)) fun x25 =>
 cond x25 (letm (decide ((a0.2.2.2.2.2.length : Int) ≤ 4096)) fun x26 =>
 some x26)
  (some false))) fun v27 =>
 some v27))
  (fun x28 _ s30 self31 =>
 bnd (β := Bool) (letm (decide (x28.1 < s30)) fun x32 =>
 cond x32 (some true)
  (letm (decide (65535 < x28.1)) fun x33 =>
 cond x33 (some true)
  (letm (decide (1034 < (x28.2.length : Int))) fun x34 =>
 some x34))) fun v35 =>
 cond v35 (some false)
  (self31 x28.1)) a0.2.2.2.2.1 0 0))
def m_coap_parts (a0 : Int) : Option (UInt8 × (List UInt8)) :=
 letm (decide (a0 < 13)) fun x1 =>
 cond x1 (letm ((toU8 a0)) fun x2 =>
 some (x2, []))
  (letm (decide (a0 < 269)) fun x3 =>
 cond x3 (letm ((w64 (a0 - 13))) fun x4 =>
 letm ((toU8 x4)) fun x5 =>
 some (13, [x5]))
  (letm ((w64 (a0 - 269))) fun x6 =>
 bnd (Gk.shr x6 (UInt64.toNat 8 : Int)) fun x7 =>
 letm ((toU8 x7)) fun x8 =>
 letm ((w64 (a0 - 269))) fun x9 =>
 letm ((toU8 x9)) fun x10 =>
 some (14, [x8, x10])))
def m_coap_encode (a0 : S_api_Message) : Option (List UInt8) :=
 bnd (Gk.shl a0.1 (UInt64.toNat 4 : Int)) fun x1 =>
 letm ((ibit .or 64 x1)) fun x2 =>
 letm ((ibit .or x2 (a0.2.2.2.1.length : Int))) fun x3 =>
 letm ((toU8 x3)) fun x4 =>
 letm ((toU8 a0.2.1)) fun x5 =>
 bnd (Gk.shr a0.2.2.1 (UInt64.toNat 8 : Int)) fun x6 =>
 letm ((toU8 x6)) fun x7 =>
 letm ((toU8 a0.2.2.1)) fun x8 =>
 bnd (app [x4, x5, x7, x8] a0.2.2.2.1) fun x9 =>
 loopL (R := (List UInt8)) (S := ((List UInt8) × Int)) (α := S_api_Option) (fun _ s11 =>
 bnd (β := (List UInt8)) (letm (decide (0 < (a0.2.2.2.2.2.length : Int))) fun x12 =>
 cond x12 (bnd (app s11.1 [255]) fun x13 =>
 bnd (app x13 a0.2.2.2.2.2) fun x14 =>
 some x14)
  (some s11.1)) fun v15 =>
 some v15)
  (fun x16 _ s18 self19 =>
 letm ((w64 (x16.1 - s18.2))) fun x20 =>
 bnd (m_coap_parts x20) fun x21 =>
 bnd (m_coap_parts (x16.2.length : Int)) fun x22 =>
 bnd (shlK .u8 x21.1 (UInt64.toNat 4 : Int)) fun x23 =>
 letm ((toU8 (bits .or .u8 (UInt8.toNat x23) (UInt8.toNat x22.1)))) fun x24 =>
 bnd (app s18.1 [x24]) fun x25 =>
 bnd (app x25 x21.2) fun x26 =>
 bnd (app x26 x22.2) fun x27 =>
 bnd (app x27 x16.2) fun x28 =>
 self19 (x28, x16.1)) a0.2.2.2.2.1 0 (x9, 0)
def m_coap_Valid (a0 : S_api_Message) : Option Bool :=
 bnd (β := Bool) (bnd (m_coap_sound a0) fun x1 =>
 cond x1 (bnd (m_coap_encode a0) fun x2 =>
 letm (decide ((x2.length : Int) ≤ 4096)) fun x3 =>
 some x3)
  (some false)) fun v4 =>
 some v4
def m_option_SetPath (a0 : S_api_Message) (a1 : (List UInt8)) : Option (S_api_Message × Int) :=
 bnd (m_option_segments a1) fun x2 =>
 letm ((!x2.2)) fun x3 =>
 cond x3 (some ((0, (0, (0, ([], ([], []))))), 17))
  (bnd (m_option_Set a0 11 x2.1) fun x4 =>
 bnd (m_coap_Valid x4) fun x5 =>
 letm ((!x5)) fun x6 =>
 cond x6 (some ((0, (0, (0, ([], ([], []))))), 8))
  (some (x4, 0)))
def hexd (n : Nat) : UInt8 := [48, 49, 50, 51, 52, 53, 54, 55, 56, 57, 65, 66, 67, 68, 69, 70].getD n 0
def encC (c : UInt8) : Option (List UInt8) := bnd (m_option_plain c) fun b => some (bif b then [c] else [37, hexd (c.toNat / 16), hexd (c.toNat % 16)])
def pathV : List UInt8 → Option (List UInt8)
  | [] => some []
  | c :: r => bnd (encC c) fun x => bnd (pathV r) fun y => some (x ++ y)
def pathO : List S_api_Option → Option (List UInt8)
  | [] => some []
  | o :: r => bif o.1 != 11 then pathO r else bnd (pathV o.2) fun x => bnd (pathO r) fun y => some (47 :: (x ++ y))
def m_option_Path (a0 : S_api_Message) : Option (List UInt8) := bnd (pathO a0.2.2.2.2.1) fun z => bif Nat.ble z.length LIM then some z else none

def m_option_in (a0 : Int) : Option Bool :=
 bnd (β := Bool) (letm (decide (0 ≤ a0)) fun x1 =>
 cond x1 (letm (decide (a0 ≤ 65535)) fun x2 =>
 some x2)
  (some false)) fun v3 =>
 some v3
def m_option_NoCacheKey (a0 : Int) : Option Bool :=
 bnd (β := Bool) (bnd (m_option_in a0) fun x1 =>
 cond x1 (letm ((ibit .and a0 30)) fun x2 =>
 letm ((x2 == 28)) fun x3 =>
 some x3)
  (some false)) fun v4 =>
 some v4
def m_option_Critical (a0 : Int) : Option Bool :=
 bnd (β := Bool) (bnd (m_option_in a0) fun x1 =>
 cond x1 (letm ((ibit .and a0 1)) fun x2 =>
 letm ((x2 == 1)) fun x3 =>
 some x3)
  (some false)) fun v4 =>
 some v4
def m_coreseclaw16_awake : Option Bool :=
 bnd (m_option_Set (0, (1, (0, ([], ([], []))))) 11 [[97], [98, 47, 99], []]) fun x0 =>
 bnd (m_option_Uint [0, 1]) fun x1 =>
 bnd (m_option_SetPath x0 [47, 37, 50, 102]) fun x2 =>
 bnd (β := Bool) (bnd (m_option_Path x0) fun x3 =>
 letm ((x3 == [47, 97, 47, 98, 37, 50, 70, 99, 47])) fun x4 =>
 cond x4 (letm ((x1.1 == 1)) fun x5 =>
 cond x5 (letm ((x1.2 == 0)) fun x6 =>
 cond x6 (letm ((x2.2 == 17)) fun x7 =>
 cond x7 (bnd (m_option_NoCacheKey 60) fun x8 =>
 cond x8 (bnd (m_option_Critical 9) fun x9 =>
 some x9)
  (some false))
  (some false))
  (some false))
  (some false))
  (some false)) fun v10 =>
 some v10
def m_coresecmake_New (a0 : (List Int)) : Option S_coresecmake_Deck :=
 some (a0, 0)
def m_coresecmake_Mod (a0 : Int) (a1 : Int) : Option Int :=
 bnd (Gk.rem a0 a1) fun x2 =>
 bnd (β := Int) (letm (decide (x2 < 0)) fun x3 =>
 cond x3 (letm ((w64 (x2 + a1))) fun x4 =>
 some x4)
  (some x2)) fun v5 =>
 some v5
def m_coresecmake_Deck_Next (a0 : S_coresecmake_Deck) (a1 : Int) : Option (Int × S_coresecmake_Deck) :=
 letm (decide ((a0.1.length : Int) ≤ a0.2)) fun x2 =>
 cond x2 (some (0, a0))
  (letm ((w64 (a0.2 + 1))) fun x3 =>
 letm ((w64 (x3 - 1))) fun x4 =>
 bnd (idx a0.1 x4) fun x5 =>
 bnd (m_coresecmake_Mod x5 a1) fun x6 =>
 some (x6, (a0.1, x3)))
def m_coresecmake_Deck_Bytes (a0 : S_coresecmake_Deck) (a1 : Int) : Option ((List UInt8) × S_coresecmake_Deck) :=
 letm ((w64 (a1 + 1))) fun x2 =>
 bnd (m_coresecmake_Deck_Next a0 x2) fun x3 =>
 loopF (R := ((List UInt8) × S_coresecmake_Deck)) (S := ((List UInt8) × (Int × S_coresecmake_Deck))) (fun self5 s4 =>
 letm (decide (0 < s4.2.1)) fun x6 =>
 cond x6 (bnd (m_coresecmake_Deck_Next s4.2.2 256) fun x7 =>
 letm ((toU8 x7.1)) fun x8 =>
 bnd (app s4.1 [x8]) fun x9 =>
 letm ((w64 (s4.2.1 - 1))) fun x10 =>
 self5 (x9, (x10, x7.2)))
  (some (s4.1, s4.2.2))) FUEL ([], (x3.1, x3.2))
def m_coresecmake_numbers : Option (List Int) :=
 some [1, 3, 4, 6, 8, 11, 11, 12, 14, 15, 17, 23, 27, 28, 35, 60, 252, 258, 292, 9, 2, 13, 300, 65535]
def m_coresecref16_All (a0 : S_api_Message) (a1 : Int) : Option (List (List UInt8)) :=
 loopL (R := (List (List UInt8))) (S := (List (List UInt8))) (α := S_api_Option) (fun _ s3 =>
 some s3)
  (fun x4 _ s6 self7 =>
 bnd (β := (List (List UInt8))) (letm ((x4.1 == a1)) fun x8 =>
 cond x8 (bnd (app [] x4.2) fun x9 =>
 bnd (app s6 [x9]) fun x10 =>
 some x10)
  (some s6)) fun v11 =>
 self7 v11) a0.2.2.2.2.1 0 []
def m_coresecref16_All_o (a0 : S_api_Message) (a1 : Int) : Option (List (List UInt8)) :=
 loopL (R := (List (List UInt8))) (S := (List (List UInt8))) (α := S_api_Option) (fun _ s3 =>
 some s3)
  (fun x4 _ s6 self7 =>
 bnd (β := (List (List UInt8))) (letm ((x4.1 == a1)) fun x8 =>
 cond x8 (bnd (app [] x4.2) fun x9 =>
 bnd (app s6 [x9]) fun x10 =>
 some x10)
  (some s6)) fun v11 =>
 self7 v11) a0.2.2.2.2.1 0 []
def m_coresecref16_with (a0 : S_api_Message) (a1 : (List S_api_Option)) : Option S_api_Message :=
 bnd (app [] a0.2.2.2.1) fun x2 =>
 bnd (app [] a0.2.2.2.2.2) fun x3 =>
 loopL (R := S_api_Message) (S := (List S_api_Option)) (α := S_api_Option) (fun _ s5 =>
 some (a0.1, (a0.2.1, (a0.2.2.1, (x2, (s5, x3))))))
  (fun x6 _ s8 self9 =>
 bnd (app [] x6.2) fun x10 =>
 bnd (app s8 [(x6.1, x10)]) fun x11 =>
 self9 x11) a1 0 []
def m_coresecref16_Set (a0 : S_api_Message) (a1 : Int) (a2 : (List (List UInt8))) : Option S_api_Message :=
 loopL (R := S_api_Message) (S := (List S_api_Option)) (α := S_api_Option) (fun _ s4 =>
 loopL (R := S_api_Message) (S := (List S_api_Option)) (α := (List UInt8)) (fun _ s6 =>
 loopL (R := S_api_Message) (S := (List S_api_Option)) (α := S_api_Option) (fun _ s8 =>
 bnd (m_coresecref16_with a0 s8) fun x9 =>
 some x9)
  (fun x10 _ s12 self13 =>
 bnd (β := (List S_api_Option)) (letm (decide (a1 < x10.1)) fun x14 =>
 cond x14 (bnd (app s12 [x10]) fun x15 =>
 some x15)
  (some s12)) fun v16 =>
 self13 v16) a0.2.2.2.2.1 0 s6)
  (fun x17 _ s19 self20 =>
 bnd (app s19 [(a1, x17)]) fun x21 =>
 self20 x21) a2 0 s4)
  (fun x22 _ s24 self25 =>
 bnd (β := (List S_api_Option)) (letm (decide (x22.1 < a1)) fun x26 =>
 cond x26 (bnd (app s24 [x22]) fun x27 =>
 some x27)
  (some s24)) fun v28 =>
 self25 v28) a0.2.2.2.2.1 0 []
def m_coresecmake_Deck_Options (a0 : S_coresecmake_Deck) (a1 : Int) : Option ((List S_api_Option) × S_coresecmake_Deck) :=
 letm ((w64 (a1 + 1))) fun x2 =>
 bnd (m_coresecmake_Deck_Next a0 x2) fun x3 =>
 loopF (R := ((List S_api_Option) × S_coresecmake_Deck)) (S := (Int × (S_coresecmake_Deck × S_api_Message))) (fun self5 s4 =>
 letm (decide (0 < s4.1)) fun x6 =>
 cond x6 (bnd (m_coresecmake_numbers ) fun x7 =>
 bnd (m_coresecmake_Deck_Next s4.2.1 24) fun x8 =>
 bnd (idx x7 x8.1) fun x9 =>
 bnd (m_coresecref16_All_o s4.2.2 x9) fun x10 =>
 bnd (m_coresecmake_Deck_Bytes x8.2 5) fun x11 =>
 bnd (app x10 [x11.1]) fun x12 =>
 bnd (m_coresecref16_Set s4.2.2 x9 x12) fun x13 =>
 letm ((w64 (s4.1 - 1))) fun x14 =>
 self5 (x14, (x11.2, x13)))
  (some (s4.2.2.2.2.2.2.1, s4.2.1))) FUEL (x3.1, (x3.2, (0, (0, (0, ([], ([], [])))))))
def m_coresecref15_Copy (a0 : S_api_Message) : Option S_api_Message :=
 bnd (app [] a0.2.2.2.1) fun x1 =>
 bnd (app [] a0.2.2.2.2.2) fun x2 =>
 loopL (R := S_api_Message) (S := (List S_api_Option)) (α := S_api_Option) (fun _ s4 =>
 some (a0.1, (a0.2.1, (a0.2.2.1, (x1, (s4, x2))))))
  (fun x5 _ s7 self8 =>
 bnd (app [] x5.2) fun x9 =>
 bnd (app s7 [(x5.1, x9)]) fun x10 =>
 self8 x10) a0.2.2.2.2.1 0 []
def m_coresecmake_Deck_Message (a0 : S_coresecmake_Deck) (a1 : Int) : Option (S_api_Message × S_coresecmake_Deck) :=
 bnd (m_coresecmake_Deck_Next a0 2) fun x2 =>
 bnd (m_coresecmake_Deck_Next x2.2 65536) fun x3 =>
 bnd (m_coresecmake_Deck_Bytes x3.2 4) fun x4 =>
 bnd (m_coresecmake_Deck_Options x4.2 5) fun x5 =>
 bnd (m_coresecmake_Deck_Bytes x5.2 20) fun x6 =>
 bnd (β := (S_coresecmake_Deck × S_api_Message)) (letm ((a1 == 0)) fun x7 =>
 cond x7 (bnd (m_coresecmake_Deck_Next x6.2 4) fun x8 =>
 some (x8.2, (x8.1, (a1, (x3.1, ([], ([], [])))))))
  (some (x6.2, (x2.1, (a1, (x3.1, (x4.1, (x5.1, x6.1)))))))) fun v9 =>
 bnd (m_coresecref15_Copy v9.2) fun x10 =>
 some (x10, v9.1)
def m_coresecmake_Deck_Text (a0 : S_coresecmake_Deck) (a1 : Int) : Option ((List UInt8) × S_coresecmake_Deck) :=
 letm ((w64 (a1 + 1))) fun x2 =>
 bnd (m_coresecmake_Deck_Next a0 x2) fun x3 =>
 loopF (R := ((List UInt8) × S_coresecmake_Deck)) (S := ((List UInt8) × (Int × S_coresecmake_Deck))) (fun self5 s4 =>
 letm (decide (0 < s4.2.1)) fun x6 =>
 cond x6 (bnd (m_coresecmake_Deck_Next s4.2.2 10) fun x7 =>
 bnd (idx [[97], [98], [47], [34], [92], [10], [127], [37], [195, 169], [226, 130, 172]] x7.1) fun x8 =>
 bnd (app s4.1 x8) fun x9 =>
 letm ((w64 (s4.2.1 - 1))) fun x10 =>
 self5 (x9, (x10, x7.2)))
  (some (s4.1, s4.2.2))) FUEL ([], (x3.1, x3.2))
def m_coreseclaw16_message (a0 : (List Int)) : Option S_api_Message :=
 bnd (m_coresecmake_New a0) fun x1 =>
 bnd (m_coresecmake_Deck_Next x1 5) fun x2 =>
 bnd (idx [1, 2, 5, 69, 132] x2.1) fun x3 =>
 bnd (m_coresecmake_Deck_Message x2.2 x3) fun x4 =>
 bnd (β := S_api_Message) (bnd (m_coresecmake_Deck_Next x4.2 6) fun x5 =>
 letm ((x5.1 == 0)) fun x6 =>
 cond x6 (bnd (m_coresecmake_Deck_Bytes x5.2 3) fun x7 =>
 bnd (m_coresecmake_Deck_Next x7.2 2) fun x8 =>
 letm ((w64 (255 + x8.1))) fun x9 =>
 bnd (mkl x9 0) fun x10 =>
 bnd (m_coresecref16_Set x4.1 11 [x7.1, x10]) fun x11 =>
 some x11)
  (letm ((x5.1 == 1)) fun x12 =>
 cond x12 (bnd (m_coresecmake_Deck_Text x5.2 2) fun x13 =>
 bnd (app [] x13.1) fun x14 =>
 bnd (m_coresecref16_Set x4.1 3 [x14, [255]]) fun x15 =>
 some x15)
  (letm ((x5.1 == 2)) fun x16 =>
 cond x16 (bnd (m_coresecmake_Deck_Bytes x5.2 3) fun x17 =>
 bnd (m_coresecmake_Deck_Bytes x17.2 3) fun x18 =>
 bnd (m_coresecref16_Set x4.1 12 [x17.1, x18.1]) fun x19 =>
 some x19)
  (some x4.1)))) fun v20 =>
 some v20
def m_coresecref16_plain (a0 : UInt8) : Option Bool :=
 bnd (β := Bool) (letm (decide ((UInt8.toNat 97 : Int) ≤ (UInt8.toNat a0 : Int))) fun x1 =>
 cond x1 (letm (decide ((UInt8.toNat a0 : Int) ≤ (UInt8.toNat 122 : Int))) fun x2 =>
 cond x2 (some true)
  (letm (decide ((UInt8.toNat 65 : Int) ≤ (UInt8.toNat a0 : Int))) fun x3 =>
 cond x3 (letm (decide ((UInt8.toNat a0 : Int) ≤ (UInt8.toNat 90 : Int))) fun x4 =>
 cond x4 (some true)
  (letm (decide ((UInt8.toNat 48 : Int) ≤ (UInt8.toNat a0 : Int))) fun x5 =>
 cond x5 (letm (decide ((UInt8.toNat a0 : Int) ≤ (UInt8.toNat 57 : Int))) fun x6 =>
 cond x6 (some true)
  (letm (((UInt8.toNat a0 : Int) == (UInt8.toNat 45 : Int))) fun x7 =>
 cond x7 (some true)
  (letm (((UInt8.toNat a0 : Int) == (UInt8.toNat 46 : Int))) fun x8 =>
 cond x8 (some true)
  (letm (((UInt8.toNat a0 : Int) == (UInt8.toNat 95 : Int))) fun x9 =>
 cond x9 (some true)
  (letm (((UInt8.toNat a0 : Int) == (UInt8.toNat 126 : Int))) fun x10 =>
 some x10)))))
  (letm (((UInt8.toNat a0 : Int) == (UInt8.toNat 45 : Int))) fun x11 =>
 cond x11 (some true)
  (letm (((UInt8.toNat a0 : Int) == (UInt8.toNat 46 : Int))) fun x12 =>
 cond x12 (some true)
  (letm (((UInt8.toNat a0 : Int) == (UInt8.toNat 95 : Int))) fun x13 =>
 cond x13 (some true)
  (letm (((UInt8.toNat a0 : Int) == (UInt8.toNat 126 : Int))) fun x14 =>
 some x14))))))
  (letm (decide ((UInt8.toNat 48 : Int) ≤ (UInt8.toNat a0 : Int))) fun x15 =>
 cond x15 (letm (decide ((UInt8.toNat a0 : Int) ≤ (UInt8.toNat 57 : Int))) fun x16 =>
 cond x16 (some true)
  (letm (((UInt8.toNat a0 : Int) == (UInt8.toNat 45 : Int))) fun x17 =>
 cond x17 (some true)
  (letm (((UInt8.toNat a0 : Int) == (UInt8.toNat 46 : Int))) fun x18 =>
 cond x18 (some true)
  (letm (((UInt8.toNat a0 : Int) == (UInt8.toNat 95 : Int))) fun x19 =>
 cond x19 (some true)
  (letm (((UInt8.toNat a0 : Int) == (UInt8.toNat 126 : Int))) fun x20 =>
 some x20)))))
  (letm (((UInt8.toNat a0 : Int) == (UInt8.toNat 45 : Int))) fun x21 =>
 cond x21 (some true)
  (letm (((UInt8.toNat a0 : Int) == (UInt8.toNat 46 : Int))) fun x22 =>
 cond x22 (some true)
  (letm (((UInt8.toNat a0 : Int) == (UInt8.toNat 95 : Int))) fun x23 =>
 cond x23 (some true)
  (letm (((UInt8.toNat a0 : Int) == (UInt8.toNat 126 : Int))) fun x24 =>
 some x24)))))))
  (letm (decide ((UInt8.toNat 65 : Int) ≤ (UInt8.toNat a0 : Int))) fun x25 =>
 cond x25 (letm (decide ((UInt8.toNat a0 : Int) ≤ (UInt8.toNat 90 : Int))) fun x26 =>
 cond x26 (some true)
  (letm (decide ((UInt8.toNat 48 : Int) ≤ (UInt8.toNat a0 : Int))) fun x27 =>
 cond x27 (letm (decide ((UInt8.toNat a0 : Int) ≤ (UInt8.toNat 57 : Int))) fun x28 =>
 cond x28 (some true)
  (letm (((UInt8.toNat a0 : Int) == (UInt8.toNat 45 : Int))) fun x29 =>
 cond x29 (some true)
  (letm (((UInt8.toNat a0 : Int) == (UInt8.toNat 46 : Int))) fun x30 =>
 cond x30 (some true)
  (letm (((UInt8.toNat a0 : Int) == (UInt8.toNat 95 : Int))) fun x31 =>
 cond x31 (some true)
  (letm (((UInt8.toNat a0 : Int) == (UInt8.toNat 126 : Int))) fun x32 =>
 some x32)))))
  (letm (((UInt8.toNat a0 : Int) == (UInt8.toNat 45 : Int))) fun x33 =>
 cond x33 (some true)
  (letm (((UInt8.toNat a0 : Int) == (UInt8.toNat 46 : Int))) fun x34 =>
 cond x34 (some true)
  (letm (((UInt8.toNat a0 : Int) == (UInt8.toNat 95 : Int))) fun x35 =>
 cond x35 (some true)
  (letm (((UInt8.toNat a0 : Int) == (UInt8.toNat 126 : Int))) fun x36 =>
 some x36))))))
  (letm (decide ((UInt8.toNat 48 : Int) ≤ (UInt8.toNat a0 : Int))) fun x37 =>
 cond x37 (letm (decide ((UInt8.toNat a0 : Int) ≤ (UInt8.toNat 57 : Int))) fun x38 =>
 cond x38 (some true)
  (letm (((UInt8.toNat a0 : Int) == (UInt8.toNat 45 : Int))) fun x39 =>
 cond x39 (some true)
  (letm (((UInt8.toNat a0 : Int) == (UInt8.toNat 46 : Int))) fun x40 =>
 cond x40 (some true)
  (letm (((UInt8.toNat a0 : Int) == (UInt8.toNat 95 : Int))) fun x41 =>
 cond x41 (some true)
  (letm (((UInt8.toNat a0 : Int) == (UInt8.toNat 126 : Int))) fun x42 =>
 some x42)))))
  (letm (((UInt8.toNat a0 : Int) == (UInt8.toNat 45 : Int))) fun x43 =>
 cond x43 (some true)
  (letm (((UInt8.toNat a0 : Int) == (UInt8.toNat 46 : Int))) fun x44 =>
 cond x44 (some true)
  (letm (((UInt8.toNat a0 : Int) == (UInt8.toNat 95 : Int))) fun x45 =>
 cond x45 (some true)
  (letm (((UInt8.toNat a0 : Int) == (UInt8.toNat 126 : Int))) fun x46 =>
 some x46))))))) fun v47 =>
 some v47
def m_coresecref16_Path (a0 : S_api_Message) : Option (List UInt8) :=
 bnd (m_coresecref16_All a0 11) fun x1 =>
 loopL (R := (List UInt8)) (S := (List UInt8)) (α := (List UInt8)) (fun _ s3 =>
 some s3)
  (fun x4 _ s6 self7 =>
 bnd (app s6 [47]) fun x8 =>
 loopL (R := (List UInt8)) (S := (List UInt8)) (α := UInt8) (fun _ s10 =>
 self7 s10)
  (fun x11 _ s13 self14 =>
 bnd (β := (List UInt8)) (bnd (m_coresecref16_plain x11) fun x15 =>
 cond x15 (bnd (app s13 [x11]) fun x16 =>
 some x16)
  (bnd (shrK .u8 x11 (UInt64.toNat 4 : Int)) fun x17 =>
 bnd (idx [48, 49, 50, 51, 52, 53, 54, 55, 56, 57, 65, 66, 67, 68, 69, 70] (UInt8.toNat x17 : Int)) fun x18 =>
 letm ((toU8 (bits .and .u8 (UInt8.toNat x11) (UInt8.toNat 15)))) fun x19 =>
 bnd (idx [48, 49, 50, 51, 52, 53, 54, 55, 56, 57, 65, 66, 67, 68, 69, 70] (UInt8.toNat x19 : Int)) fun x20 =>
 bnd (app s13 [37, x18, x20]) fun x21 =>
 some x21)) fun v22 =>
 self14 v22) x4 0 x8) x1 0 []
def m_coresecmake_Spoilt (a0 : (List UInt8)) (a1 : Int) (a2 : Int) : Option (List UInt8) :=
 bnd (app [] a0) fun x3 =>
 letm (((x3.length : Int) == 0)) fun x4 =>
 cond x4 (letm ((toU8 a2)) fun x5 =>
 some [x5])
  (bnd (m_coresecmake_Mod a1 (x3.length : Int)) fun x6 =>
 bnd (quo a2 256) fun x7 =>
 bnd (m_coresecmake_Mod x7 4) fun x8 =>
 letm ((x8 == 0)) fun x9 =>
 cond x9 (letm ((toU8 a2)) fun x10 =>
 bnd (idx x3 x6) fun _ =>
 bnd (idx x3 (((x6 : Int)).toNat : Int)) fun _ =>
 letm ((x3.set ((x6 : Int)).toNat x10)) fun x13 =>
 some x13)
  (letm ((x8 == 1)) fun x14 =>
 cond x14 (bnd (Gk.cut x3 0 x6) fun x15 =>
 letm ((w64 (x6 + 1))) fun x16 =>
 bnd (Gk.cut x3 x16 (x3.length : Int)) fun x17 =>
 bnd (app x15 x17) fun x18 =>
 some x18)
  (letm ((x8 == 2)) fun x19 =>
 cond x19 (bnd (Gk.cut x3 0 x6) fun x20 =>
 bnd (app [] x20) fun x21 =>
 letm ((toU8 a2)) fun x22 =>
 bnd (app x21 [x22]) fun x23 =>
 bnd (Gk.cut x3 x6 (x3.length : Int)) fun x24 =>
 bnd (app x23 x24) fun x25 =>
 some x25)
  (bnd (Gk.cut x3 0 x6) fun x26 =>
 some x26))))
def m_coresecref16_nibble (a0 : UInt8) : Option UInt8 :=
 letm (decide ((UInt8.toNat a0 : Int) ≤ (UInt8.toNat 57 : Int))) fun x1 =>
 cond x1 (letm ((a0 - 48)) fun x2 =>
 some x2)
  (letm ((a0 - 65)) fun x3 =>
 letm ((x3 + 10)) fun x4 =>
 some x4)
def m_coresecref15_extended (a0 : Int) : Option S_api_Option :=
 letm (decide (a0 < 13)) fun x1 =>
 cond x1 (some (a0, []))
  (letm (decide (a0 < 269)) fun x2 =>
 cond x2 (letm ((w64 (a0 - 13))) fun x3 =>
 letm ((toU8 x3)) fun x4 =>
 some (13, [x4]))
  (letm ((w64 (a0 - 269))) fun x5 =>
 bnd (Gk.shr x5 (UInt64.toNat 8 : Int)) fun x6 =>
 letm ((toU8 x6)) fun x7 =>
 letm ((w64 (a0 - 269))) fun x8 =>
 letm ((toU8 x8)) fun x9 =>
 some (14, [x7, x9])))
def m_coresecref15_Raw (a0 : S_api_Message) : Option (List UInt8) :=
 letm ((w64 (16 * a0.1))) fun x1 =>
 letm ((w64 (64 + x1))) fun x2 =>
 letm ((w64 (x2 + (a0.2.2.2.1.length : Int)))) fun x3 =>
 letm ((toU8 x3)) fun x4 =>
 letm ((toU8 a0.2.1)) fun x5 =>
 bnd (Gk.shr a0.2.2.1 (UInt64.toNat 8 : Int)) fun x6 =>
 letm ((toU8 x6)) fun x7 =>
 letm ((toU8 a0.2.2.1)) fun x8 =>
 bnd (app [x4, x5, x7, x8] a0.2.2.2.1) fun x9 =>
 loopL (R := (List UInt8)) (S := ((List UInt8) × Int)) (α := S_api_Option) (fun _ s11 =>
 bnd (β := (List UInt8)) (letm (decide (0 < (a0.2.2.2.2.2.length : Int))) fun x12 =>
 cond x12 (bnd (app s11.1 [255]) fun x13 =>
 bnd (app x13 a0.2.2.2.2.2) fun x14 =>
 some x14)
  (some s11.1)) fun v15 =>
 some v15)
  (fun x16 _ s18 self19 =>
 letm ((w64 (x16.1 - s18.2))) fun x20 =>
 bnd (m_coresecref15_extended x20) fun x21 =>
 bnd (m_coresecref15_extended (x16.2.length : Int)) fun x22 =>
 letm ((w64 (16 * x21.1))) fun x23 =>
 letm ((w64 (x23 + x22.1))) fun x24 =>
 letm ((toU8 x24)) fun x25 =>
 bnd (app s18.1 [x25]) fun x26 =>
 bnd (app x26 x21.2) fun x27 =>
 bnd (app x27 x22.2) fun x28 =>
 bnd (app x28 x16.2) fun x29 =>
 self19 (x29, x16.1)) a0.2.2.2.2.1 0 (x9, 0)
def m_coresecref15_Valid (a0 : S_api_Message) : Option Bool :=
 bnd (β := Bool) (letm (decide (a0.1 < 0)) fun x1 =>
 cond x1 (some true)
  (letm (decide (3 < a0.1)) fun x2 =>
 cond x2 (some true)
  (letm (decide (a0.2.1 < 0)) fun x3 =>
 cond x3 (some true)
  (letm (decide (255 < a0.2.1)) fun x4 =>
 cond x4 (some true)
  (letm (decide (a0.2.2.1 < 0)) fun x5 =>
 cond x5 (some true)
  (letm (decide (65535 < a0.2.2.1)) fun x6 =>
 cond x6 (some true)
  (letm (decide (8 < (a0.2.2.2.1.length : Int))) fun x7 =>
 cond x7 (some true)
  (letm (decide (32 < (a0.2.2.2.2.1.length : Int))) fun x8 =>
 cond x8 (some true)
  (letm (decide (4096 < (a0.2.2.2.2.2.length : Int))) fun x9 =>
 some x9))))))))) fun v10 =>
 cond v10 (some false)
  (bnd (quo a0.2.1 32) fun x11 =>
 bnd (β := Bool) (letm ((x11 != 0)) fun x12 =>
 cond x12 (letm ((x11 != 2)) fun x13 =>
 cond x13 (letm ((x11 != 4)) fun x14 =>
 cond x14 (letm ((x11 != 5)) fun x15 =>
 some x15)
  (some false))
  (some false))
  (some false)) fun v16 =>
 cond v16 (some false)
  (loopL (R := Bool) (S := Int) (α := S_api_Option) (fun _ _ =>
 bnd (β := Bool) (letm ((a0.2.1 == 0)) fun x19 =>
 cond x19 (letm ((w64 ((a0.2.2.2.1.length : Int) + (a0.2.2.2.2.1.length : Int)))) fun x20 =>
 letm ((w64 (x20 + (a0.2.2.2.2.2.length : Int)))) fun x21 =>
 letm (decide (0 < x21)) fun x22 =>
 cond x22 (some true)
  (letm ((a0.1 == 3)) fun x23 =>
 cond x23 (letm ((a0.2.1 != 0)) fun x24 =>
 some x24)
  (some false)))
  (letm ((a0.1 == 3)) fun x25 =>
 cond x25 (letm ((a0.2.1 != 0)) fun x26 =>
 some x26)
  (some false))) fun v27 =>
 cond v27 (some false)
  (bnd (m_coresecref15_Raw a0) fun x28 =>
 letm (decide ((x28.length : Int) ≤ 4096)) fun x29 =>
 some x29))
  (fun x30 _ s32 self33 =>
 bnd (β := Bool) (letm (decide (x30.1 < s32)) fun x34 =>
 cond x34 (some true)
  (letm (decide (65535 < x30.1)) fun x35 =>
 cond x35 (some true)
  (letm (decide (1034 < (x30.2.length : Int))) fun x36 =>
 some x36))) fun v37 =>
 cond v37 (some false)
  (self33 x30.1)) a0.2.2.2.2.1 0 0))
def m_coresecref16_SetPath (a0 : S_api_Message) (a1 : (List UInt8)) : Option (S_api_Message × Int) :=
 loopF (R := (S_api_Message × Int)) (S := ((List (List UInt8)) × (Int × S_api_Message))) (fun self3 s2 =>
 letm (decide (s2.2.1 < (a1.length : Int))) fun x4 =>
 cond x4 (bndS (ρ := (S_api_Message × Int)) (ρ' := (S_api_Message × Int)) (Y := ((List (List UInt8)) × (Int × S_api_Message))) (bnd (idx a1 s2.2.1) fun x5 =>
 letm (((UInt8.toNat x5 : Int) == (UInt8.toNat 47 : Int))) fun x6 =>
 cond x6 (bnd (app s2.1 [[]]) fun x7 =>
 some (.inr (x7, (s2.2.1, s2.2.2))))
  (letm (((s2.1.length : Int) == 0)) fun x8 =>
 cond x8 (some (.inl ((0, (0, (0, ([], ([], []))))), 17)))
  (bnd (β := Bool) (bnd (idx a1 s2.2.1) fun x9 =>
 letm (((UInt8.toNat x9 : Int) == (UInt8.toNat 37 : Int))) fun x10 =>
 cond x10 (letm ((w64 (s2.2.1 + 2))) fun x11 =>
 letm (decide (x11 < (a1.length : Int))) fun x12 =>
 some x12)
  (some false)) fun v13 =>
 cond v13 (letm ((w64 ((s2.1.length : Int) - 1))) fun x14 =>
 bnd (inAt s2.1.length x14) fun _ =>
 bnd (lastAt s2.1 ((x14 : Int)).toNat) fun x16 =>
 letm ((w64 (s2.2.1 + 1))) fun x17 =>
 bnd (idx a1 x17) fun x18 =>
 bnd (m_coresecref16_nibble x18) fun x19 =>
 bnd (shlK .u8 x19 (UInt64.toNat 4 : Int)) fun x20 =>
 letm ((w64 (s2.2.1 + 2))) fun x21 =>
 bnd (idx a1 x21) fun x22 =>
 bnd (m_coresecref16_nibble x22) fun x23 =>
 letm ((toU8 (bits .and .u8 (UInt8.toNat x23) (UInt8.toNat 15)))) fun x24 =>
 letm ((toU8 (bits .or .u8 (UInt8.toNat x20) (UInt8.toNat x24)))) fun x25 =>
 bnd (app x16 [x25]) fun x26 =>
 letm ((w64 ((s2.1.length : Int) - 1))) fun x27 =>
 bnd (inAt s2.1.length x27) fun _ =>
 bnd (lastAt s2.1 ((x27 : Int)).toNat) fun _ =>
 letm ((s2.1.dropLast ++ [x26])) fun x30 =>
 letm ((w64 (s2.2.1 + 2))) fun x31 =>
 some (.inr (x30, (x31, s2.2.2))))
  (letm ((w64 ((s2.1.length : Int) - 1))) fun x32 =>
 bnd (inAt s2.1.length x32) fun _ =>
 bnd (lastAt s2.1 ((x32 : Int)).toNat) fun x34 =>
 bnd (idx a1 s2.2.1) fun x35 =>
 bnd (app x34 [x35]) fun x36 =>
 letm ((w64 ((s2.1.length : Int) - 1))) fun x37 =>
 bnd (inAt s2.1.length x37) fun _ =>
 bnd (lastAt s2.1 ((x37 : Int)).toNat) fun _ =>
 letm ((s2.1.dropLast ++ [x36])) fun x40 =>
 some (.inr (x40, (s2.2.1, s2.2.2))))))) (fun q => q) fun v41 =>
 letm ((w64 (v41.2.1 + 1))) fun x42 =>
 self3 (v41.1, (x42, v41.2.2)))
  (bnd (m_coresecref16_Set a0 11 s2.1) fun x43 =>
 bnd (m_coresecref16_Path x43) fun x44 =>
 letm ((x44 != a1)) fun x45 =>
 cond x45 (some ((0, (0, (0, ([], ([], []))))), 17))
  (bnd (m_coresecref15_Valid x43) fun x46 =>
 letm ((!x46)) fun x47 =>
 cond x47 (some ((0, (0, (0, ([], ([], []))))), 8))
  (some (x43, 0))))) FUEL ([], (0, (0, (0, (0, ([], ([], [])))))))
def m_coresecref15_Same (a0 : S_api_Message) (a1 : S_api_Message) : Option Bool :=
 bnd (β := Bool) (letm ((a0.1 != a1.1)) fun x2 =>
 cond x2 (some true)
  (letm ((a0.2.1 != a1.2.1)) fun x3 =>
 cond x3 (some true)
  (letm ((a0.2.2.1 != a1.2.2.1)) fun x4 =>
 cond x4 (some true)
  (letm ((a0.2.2.2.1 != a1.2.2.2.1)) fun x5 =>
 cond x5 (some true)
  (letm ((a0.2.2.2.2.2 != a1.2.2.2.2.2)) fun x6 =>
 cond x6 (some true)
  (letm (((a0.2.2.2.2.1.length : Int) != (a1.2.2.2.2.1.length : Int))) fun x7 =>
 some x7)))))) fun v8 =>
 cond v8 (some false)
  (loopL (R := Bool) (S := Unit) (α := S_api_Option) (fun _ _ =>
 some true)
  (fun x11 k12 _ self14 =>
 bnd (β := Bool) (bnd (idx a1.2.2.2.2.1 (k12 : Int)) fun x15 =>
 letm ((x11.1 != x15.1)) fun x16 =>
 cond x16 (some true)
  (bnd (idx a1.2.2.2.2.1 (k12 : Int)) fun x17 =>
 letm ((x11.2 != x17.2)) fun x18 =>
 some x18)) fun v19 =>
 cond v19 (some false)
  (self14 ())) a0.2.2.2.2.1 0 ())
def m_coreseclaw16_OptionPaths (a0 : (List Int)) (a1 : (List UInt8)) (a2 : Int) (a3 : Int) : Option Bool :=
 letm (decide (300 < (a1.length : Int))) fun x4 =>
 cond x4 (bnd (m_coreseclaw16_awake ) fun x5 =>
 some x5)
  (bnd (m_coreseclaw16_message a0) fun x6 =>
 bnd (m_coresecref16_Path x6) fun x7 =>
 bnd (m_coresecmake_Mod a3 4) fun x8 =>
 letm ((w64 (30 + x8))) fun x9 =>
 bnd (rng x9) fun j35 =>
 loopN (R := Bool) (S := (List UInt8)) (fun _ s11 =>
 bnd (app [47] a1) fun x12 =>
 bnd (app [] x7) fun x13 =>
 bnd (m_coresecmake_Spoilt x13 a2 a3) fun x14 =>
 loopL (R := Bool) (S := Unit) (α := (List UInt8)) (fun _ _ =>
 bnd (β := Bool) (bnd (m_option_Path x6) fun x17 =>
 letm ((x17 == x7)) fun x18 =>
 cond x18 (bnd (m_coreseclaw16_awake ) fun x19 =>
 some x19)
  (some false)) fun v20 =>
 some v20)
  (fun x21 _ _ self24 =>
 bnd (m_option_SetPath x6 x21) fun x25 =>
 bnd (m_coresecref16_SetPath x6 x21) fun x26 =>
 bnd (β := Bool) (bnd (m_coresecref15_Same x25.1 x26.1) fun x27 =>
 letm ((!x27)) fun x28 =>
 cond x28 (some true)
  (letm ((x25.2 != x26.2)) fun x29 =>
 some x29)) fun v30 =>
 cond v30 (some false)
  (self24 ())) [a1, x7, x12, x14, [47, 37, 52, 49], [47, 37, 50, 71], [47, 97, 37], [97], s11] 0 ())
  (fun _ s32 self33 =>
 bnd (app s32 [47]) fun x34 =>
 self33 x34) j35 0 [])
end
end Go.Proofs.YtllomdfckciedaaDoor
