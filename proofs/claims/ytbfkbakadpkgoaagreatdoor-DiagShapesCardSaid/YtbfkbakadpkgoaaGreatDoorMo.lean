/-
  Models of the functions, as the evaluator computes them. No condition.
-/
import Derived.Test.YtbfkbakadpkgoaaGreatDoorEv
import Derived.Test.YtbfkbakadpkgoaaGreatDoorShelf
namespace Go.Proofs.YtbfkbakadpkgoaaGreatDoor
open Go.Gk Go.RowKit
noncomputable section
set_option maxRecDepth 100000
instance (n : Nat) : OfNat (kden .u16) n := inferInstanceAs (OfNat Int n)
def m_coresecmake_New (a0 : (List Int)) : Option S_coresecmake_Deck :=
 some (a0, 0)
def m_coresecmake_Mod (a0 : Int) (a1 : Int) : Option Int :=
 bnd (Gk.rem a0 a1) fun x2 =>
 bnd (β := Int) (letm (decide (x2 < 0)) fun x3 =>
 cond x3 (letm ((w64 (x2 + a1))) fun x4 =>
 some x4)
 (some x2)) fun v5 =>
 some v5
def m_coresecmake_Deck_Next (a0 : S_coresecmake_Deck) (a1 : Int) : Option (Int × S_coresecmake_Deck) :=
 letm (decide ((a0.1.length : Int) ≤ a0.2)) fun x2 =>
 cond x2 (some (0, a0))
 (letm ((w64 (a0.2 + 1))) fun x3 =>
 letm ((w64 (x3 - 1))) fun x4 =>
 bnd (idx a0.1 x4) fun x5 =>
 bnd (m_coresecmake_Mod x5 a1) fun x6 =>
 some (x6, (a0.1, x3)))
def m_coresecmake_Deck_Number (a0 : S_coresecmake_Deck) : Option (UInt64 × S_coresecmake_Deck) :=
 bnd (m_coresecmake_Deck_Next a0 6) fun x1 =>
 letm ((x1.1 == 0)) fun x2 =>
 cond x2 (bnd (m_coresecmake_Deck_Next x1.2 9) fun x3 =>
 bnd (idx [23, 24, 255, 256, 65535, 65536, 4294967295, 4294967296, 18446744073709551615] x3.1) fun x4 =>
 some (x4, x3.2))
 (letm ((x1.1 == 1)) fun x5 =>
 cond x5 (bnd (m_coresecmake_Deck_Next x1.2 1073741824) fun x6 =>
 letm ((toU64 x6.1)) fun x7 =>
 some (x7, x6.2))
 (bnd (m_coresecmake_Deck_Next x1.2 30) fun x8 =>
 letm ((toU64 x8.1)) fun x9 =>
 some (x9, x8.2)))
def m_coresecmake_Deck_Bytes (a0 : S_coresecmake_Deck) (a1 : Int) : Option ((List UInt8) × S_coresecmake_Deck) :=
 letm ((w64 (a1 + 1))) fun x2 =>
 bnd (m_coresecmake_Deck_Next a0 x2) fun x3 =>
 loopF (R := ((List UInt8) × S_coresecmake_Deck)) (S := ((List UInt8) × (Int × S_coresecmake_Deck))) (fun self5 s4 =>
 letm (decide (0 < s4.2.1)) fun x6 =>
 cond x6 (bnd (m_coresecmake_Deck_Next s4.2.2 256) fun x7 =>
 letm ((toU8 x7.1)) fun x8 =>
 bnd (app s4.1 [x8]) fun x9 =>
 letm ((w64 (s4.2.1 - 1))) fun x10 =>
 self5 (x9, (x10, x7.2)))
 (some (s4.1, s4.2.2))) FUEL ([], (x3.1, x3.2))
def m_coresecref01_Bytes (a0 : (List UInt8)) : Option Go.Gk.Tr :=
 bnd (app [] a0) fun x1 =>
 some (Tr.mk 2 0 x1 [])
def m_coresecmake_Deck_Text (a0 : S_coresecmake_Deck) (a1 : Int) : Option ((List UInt8) × S_coresecmake_Deck) :=
 letm ((w64 (a1 + 1))) fun x2 =>
 bnd (m_coresecmake_Deck_Next a0 x2) fun x3 =>
 loopF (R := ((List UInt8) × S_coresecmake_Deck)) (S := ((List UInt8) × (Int × S_coresecmake_Deck))) (fun self5 s4 =>
 letm (decide (0 < s4.2.1)) fun x6 =>
 cond x6 (bnd (m_coresecmake_Deck_Next s4.2.2 10) fun x7 =>
 bnd (idx [[97], [98], [47], [34], [92], [10], [127], [37], [195, 169], [226, 130, 172]] x7.1) fun x8 =>
 bnd (app s4.1 x8) fun x9 =>
 letm ((w64 (s4.2.1 - 1))) fun x10 =>
 self5 (x9, (x10, x7.2)))
 (some (s4.1, s4.2.2))) FUEL ([], (x3.1, x3.2))
def m_coresecref01_Text (a0 : (List UInt8)) : Option Go.Gk.Tr :=
 bnd (app [] a0) fun x1 =>
 some (Tr.mk 3 0 x1 [])
def m_unicode_utf8_word_byte (a0 : (List UInt8)) : Option UInt64 :=
 bnd (idx a0 0) fun x1 =>
 letm ((toU64 (UInt8.toNat x1 : Int))) fun x2 =>
 bnd (idx a0 1) fun x3 =>
 letm ((toU64 (UInt8.toNat x3 : Int))) fun x4 =>
 bnd ((shlK .u64 (x4 : UInt64) (UInt64.toNat 8 : Int) : Option UInt64)) fun (x5 : UInt64) =>
 letm ((bitK .or .u64 (x2 : UInt64) (x5 : UInt64) : UInt64)) fun x6 =>
 bnd (idx a0 2) fun x7 =>
 letm ((toU64 (UInt8.toNat x7 : Int))) fun x8 =>
 bnd ((shlK .u64 (x8 : UInt64) (UInt64.toNat 16 : Int) : Option UInt64)) fun (x9 : UInt64) =>
 letm ((bitK .or .u64 (x6 : UInt64) (x9 : UInt64) : UInt64)) fun x10 =>
 bnd (idx a0 3) fun x11 =>
 letm ((toU64 (UInt8.toNat x11 : Int))) fun x12 =>
 bnd ((shlK .u64 (x12 : UInt64) (UInt64.toNat 24 : Int) : Option UInt64)) fun (x13 : UInt64) =>
 letm ((bitK .or .u64 (x10 : UInt64) (x13 : UInt64) : UInt64)) fun x14 =>
 bnd (idx a0 4) fun x15 =>
 letm ((toU64 (UInt8.toNat x15 : Int))) fun x16 =>
 bnd ((shlK .u64 (x16 : UInt64) (UInt64.toNat 32 : Int) : Option UInt64)) fun (x17 : UInt64) =>
 letm ((bitK .or .u64 (x14 : UInt64) (x17 : UInt64) : UInt64)) fun x18 =>
 bnd (idx a0 5) fun x19 =>
 letm ((toU64 (UInt8.toNat x19 : Int))) fun x20 =>
 bnd ((shlK .u64 (x20 : UInt64) (UInt64.toNat 40 : Int) : Option UInt64)) fun (x21 : UInt64) =>
 letm ((bitK .or .u64 (x18 : UInt64) (x21 : UInt64) : UInt64)) fun x22 =>
 bnd (idx a0 6) fun x23 =>
 letm ((toU64 (UInt8.toNat x23 : Int))) fun x24 =>
 bnd ((shlK .u64 (x24 : UInt64) (UInt64.toNat 48 : Int) : Option UInt64)) fun (x25 : UInt64) =>
 letm ((bitK .or .u64 (x22 : UInt64) (x25 : UInt64) : UInt64)) fun x26 =>
 bnd (idx a0 7) fun x27 =>
 letm ((toU64 (UInt8.toNat x27 : Int))) fun x28 =>
 bnd ((shlK .u64 (x28 : UInt64) (UInt64.toNat 56 : Int) : Option UInt64)) fun (x29 : UInt64) =>
 letm ((bitK .or .u64 (x26 : UInt64) (x29 : UInt64) : UInt64)) fun x30 =>
 some x30
def m_unicode_utf8_Valid (a0 : (List UInt8)) : Option Bool :=
 bnd (Gk.cut a0 0 (a0.length : Int)) fun x1 =>
 bnd (Gk.cut x1 0 (a0.length : Int)) fun x2 =>
 bndS (ρ := Bool) (ρ' := Bool) (Y := Unit) (loopF (R := (Bool ⊕ Unit)) (S := (List UInt8)) (fun self4 s3 =>
 letm (decide (0 < (s3.length : Int))) fun x5 =>
 cond x5 (bnd (idx s3 0) fun x6 =>
 letm (decide ((UInt8.toNat x6 : Int) < (UInt8.toNat 128 : Int))) fun x7 =>
 cond x7 (bnd (Gk.cut s3 1 (s3.length : Int)) fun x8 =>
 bnd (β := Bool) (letm (decide (8 < (x8.length : Int))) fun x9 =>
 cond x9 (bnd (m_unicode_utf8_word_byte x8) fun x10 =>
 letm ((bitK .and .u64 (x10 : UInt64) (9259542123273814144 : UInt64) : UInt64)) fun x11 =>
 letm (((UInt64.toNat x11 : Int) == (UInt64.toNat 0 : Int))) fun x12 =>
 some x12)
 (some false)) fun v13 =>
 cond v13 (bnd (Gk.cut x8 8 (x8.length : Int)) fun x14 =>
 bnd (β := Bool) (letm (decide (16 < (x14.length : Int))) fun x15 =>
 cond x15 (bnd (m_unicode_utf8_word_byte x14) fun x16 =>
 bnd (Gk.cut x14 8 (x14.length : Int)) fun x17 =>
 bnd (m_unicode_utf8_word_byte x17) fun x18 =>
 letm ((bitK .or .u64 (x16 : UInt64) (x18 : UInt64) : UInt64)) fun x19 =>
 letm ((bitK .and .u64 (x19 : UInt64) (9259542123273814144 : UInt64) : UInt64)) fun x20 =>
 letm (((UInt64.toNat x20 : Int) == (UInt64.toNat 0 : Int))) fun x21 =>
 some x21)
 (some false)) fun v22 =>
 cond v22 (bnd (Gk.cut x14 16 (x14.length : Int)) fun x23 =>
 loopF (R := (Bool ⊕ Unit)) (S := (List UInt8)) (fun self25 s24 =>
 bnd (β := Bool) (letm (decide (32 < (s24.length : Int))) fun x26 =>
 cond x26 (bnd (m_unicode_utf8_word_byte s24) fun x27 =>
 bnd (Gk.cut s24 8 (s24.length : Int)) fun x28 =>
 bnd (m_unicode_utf8_word_byte x28) fun x29 =>
 letm ((bitK .or .u64 (x27 : UInt64) (x29 : UInt64) : UInt64)) fun x30 =>
 bnd (Gk.cut s24 16 (s24.length : Int)) fun x31 =>
 bnd (m_unicode_utf8_word_byte x31) fun x32 =>
 bnd (Gk.cut s24 24 (s24.length : Int)) fun x33 =>
 bnd (m_unicode_utf8_word_byte x33) fun x34 =>
 letm ((bitK .or .u64 (x32 : UInt64) (x34 : UInt64) : UInt64)) fun x35 =>
 letm ((bitK .or .u64 (x30 : UInt64) (x35 : UInt64) : UInt64)) fun x36 =>
 letm ((bitK .and .u64 (x36 : UInt64) (9259542123273814144 : UInt64) : UInt64)) fun x37 =>
 letm (((UInt64.toNat x37 : Int) == (UInt64.toNat 0 : Int))) fun x38 =>
 some x38)
 (some false)) fun v39 =>
 cond v39 (bnd (Gk.cut s24 32 (s24.length : Int)) fun x40 =>
 self25 x40)
 (self4 s24)) FUEL x23)
 (self4 x14))
 (self4 x8))
 (bnd (idx glob_0 (UInt8.toNat x6 : Int)) fun x41 =>
 letm ((toU8 (bits .and .u8 (UInt8.toNat x41) (UInt8.toNat 7)))) fun x42 =>
 letm ((w64 (UInt8.toNat x42 : Int))) fun x43 =>
 bnd (shrK .u8 x41 (UInt64.toNat 4 : Int)) fun x44 =>
 bnd (idx glob_1 (UInt8.toNat x44 : Int)) fun x45 =>
 letm ((x43 == 2)) fun x46 =>
 cond x46 (bnd (β := Bool) (letm (decide ((s3.length : Int) < 2)) fun x47 =>
 cond x47 (some true)
 (bnd (idx s3 1) fun x48 =>
 letm (decide ((UInt8.toNat x48 : Int) < (UInt8.toNat x45.1 : Int))) fun x49 =>
 cond x49 (some true)
 (bnd (idx s3 1) fun x50 =>
 letm (decide ((UInt8.toNat x45.2 : Int) < (UInt8.toNat x50 : Int))) fun x51 =>
 some x51))) fun v52 =>
 cond v52 (some (.inl false))
 (bnd (Gk.cut s3 2 (s3.length : Int)) fun x53 =>
 self4 x53))
 (letm ((x43 == 3)) fun x54 =>
 cond x54 (bnd (β := Bool) (letm (decide ((s3.length : Int) < 3)) fun x55 =>
 cond x55 (some true)
 (bnd (idx s3 1) fun x56 =>
 letm (decide ((UInt8.toNat x56 : Int) < (UInt8.toNat x45.1 : Int))) fun x57 =>
 cond x57 (some true)
 (bnd (idx s3 1) fun x58 =>
 letm (decide ((UInt8.toNat x45.2 : Int) < (UInt8.toNat x58 : Int))) fun x59 =>
 cond x59 (some true)
 (bnd (idx s3 2) fun x60 =>
 letm (decide ((UInt8.toNat x60 : Int) < (UInt8.toNat 128 : Int))) fun x61 =>
 cond x61 (some true)
 (bnd (idx s3 2) fun x62 =>
 letm (decide ((UInt8.toNat 191 : Int) < (UInt8.toNat x62 : Int))) fun x63 =>
 some x63))))) fun v64 =>
 cond v64 (some (.inl false))
 (bnd (Gk.cut s3 3 (s3.length : Int)) fun x65 =>
 self4 x65))
 (letm ((x43 == 4)) fun x66 =>
 cond x66 (bnd (β := Bool) (letm (decide ((s3.length : Int) < 4)) fun x67 =>
 cond x67 (some true)
 (bnd (idx s3 1) fun x68 =>
 letm (decide ((UInt8.toNat x68 : Int) < (UInt8.toNat x45.1 : Int))) fun x69 =>
 cond x69 (some true)
 (bnd (idx s3 1) fun x70 =>
 letm (decide ((UInt8.toNat x45.2 : Int) < (UInt8.toNat x70 : Int))) fun x71 =>
 cond x71 (some true)
 (bnd (idx s3 2) fun x72 =>
 letm (decide ((UInt8.toNat x72 : Int) < (UInt8.toNat 128 : Int))) fun x73 =>
 cond x73 (some true)
 (bnd (idx s3 2) fun x74 =>
 letm (decide ((UInt8.toNat 191 : Int) < (UInt8.toNat x74 : Int))) fun x75 =>
 cond x75 (some true)
 (bnd (idx s3 3) fun x76 =>
 letm (decide ((UInt8.toNat x76 : Int) < (UInt8.toNat 128 : Int))) fun x77 =>
 cond x77 (some true)
 (bnd (idx s3 3) fun x78 =>
 letm (decide ((UInt8.toNat 191 : Int) < (UInt8.toNat x78 : Int))) fun x79 =>
 some x79))))))) fun v80 =>
 cond v80 (some (.inl false))
 (bnd (Gk.cut s3 4 (s3.length : Int)) fun x81 =>
 self4 x81))
 (some (.inl false))))))
 (some (.inr ()))) FUEL x2) (fun q => q) fun _ =>
 some true
def m_coresecref01_IsNaN (a0 : UInt64) : Option Bool :=
 bnd (β := Bool) (bnd ((shrK .u64 (a0 : UInt64) (UInt64.toNat 52 : Int) : Option UInt64)) fun (x1 : UInt64) =>
 letm ((bitK .and .u64 (x1 : UInt64) (2047 : UInt64) : UInt64)) fun x2 =>
 letm (((UInt64.toNat x2 : Int) == (UInt64.toNat 2047 : Int))) fun x3 =>
 cond x3 (letm ((bitK .and .u64 (a0 : UInt64) (4503599627370495 : UInt64) : UInt64)) fun x4 =>
 letm (((UInt64.toNat x4 : Int) != (UInt64.toNat 0 : Int))) fun x5 =>
 some x5)
 (some false)) fun v6 =>
 some v6
def m_coresecref01_Head (a0 : Int) (a1 : UInt64) : Option (List UInt8) :=
 letm ((w64 (32 * a0))) fun x2 =>
 letm ((w64 (x2 + 24))) fun x3 =>
 letm ((toU8 x3)) fun x4 =>
 bndS (ρ := (List UInt8)) (ρ' := (List UInt8)) (Y := ((List UInt8) × Int)) (letm (decide ((UInt64.toNat a1 : Int) < (UInt64.toNat 24 : Int))) fun x5 =>
 cond x5 (letm ((w64 (32 * a0))) fun x6 =>
 letm ((toU8 x6)) fun x7 =>
 letm ((toU8 (UInt64.toNat a1 : Int))) fun x8 =>
 letm ((x7 + x8)) fun x9 =>
 some (.inl [x9]))
 (letm (decide ((UInt64.toNat a1 : Int) < (UInt64.toNat 256 : Int))) fun x10 =>
 cond x10 (some (.inr ([x4], 1)))
 (letm (decide ((UInt64.toNat a1 : Int) < (UInt64.toNat 65536 : Int))) fun x11 =>
 cond x11 (bnd (idx [x4] 0) fun _ =>
 bnd (idx [x4] (((0 : Int)).toNat : Int)) fun x13 =>
 letm ((x13 + 1)) fun x14 =>
 bnd (idx [x4] 0) fun _ =>
 bnd (idx [x4] (((0 : Int)).toNat : Int)) fun _ =>
 letm ([x14]) fun x17 =>
 some (.inr (x17, 2)))
 (letm (decide ((UInt64.toNat a1 : Int) < (UInt64.toNat 4294967296 : Int))) fun x18 =>
 cond x18 (bnd (idx [x4] 0) fun _ =>
 bnd (idx [x4] (((0 : Int)).toNat : Int)) fun x20 =>
 letm ((x20 + 2)) fun x21 =>
 bnd (idx [x4] 0) fun _ =>
 bnd (idx [x4] (((0 : Int)).toNat : Int)) fun _ =>
 letm ([x21]) fun x24 =>
 some (.inr (x24, 4)))
 (bnd (idx [x4] 0) fun _ =>
 bnd (idx [x4] (((0 : Int)).toNat : Int)) fun x26 =>
 letm ((x26 + 3)) fun x27 =>
 bnd (idx [x4] 0) fun _ =>
 bnd (idx [x4] (((0 : Int)).toNat : Int)) fun _ =>
 letm ([x27]) fun x30 =>
 some (.inr (x30, 8))))))) (fun q => q) fun v31 =>
 letm ((w64 (v31.2 - 1))) fun x32 =>
 loopF (R := (List UInt8)) (S := ((List UInt8) × Int)) (fun self34 s33 =>
 letm (decide (0 ≤ s33.2)) fun x35 =>
 cond x35 (letm ((toU64 s33.2)) fun x36 =>
 letm ((8 * x36)) fun x37 =>
 bnd ((shrK .u64 (a1 : UInt64) (UInt64.toNat x37 : Int) : Option UInt64)) fun (x38 : UInt64) =>
 letm ((toU8 (UInt64.toNat x38 : Int))) fun x39 =>
 bnd (app s33.1 [x39]) fun x40 =>
 letm ((w64 (s33.2 - 1))) fun x41 =>
 self34 (x40, x41))
 (some s33.1)) FUEL (v31.1, x32)
def m_coresecref01_Head_o (a0 : Int) (a1 : UInt64) : Option (List UInt8) :=
 letm ((w64 (32 * a0))) fun x2 =>
 letm ((w64 (x2 + 24))) fun x3 =>
 letm ((toU8 x3)) fun x4 =>
 bndS (ρ := (List UInt8)) (ρ' := (List UInt8)) (Y := ((List UInt8) × Int)) (letm (decide ((UInt64.toNat a1 : Int) < (UInt64.toNat 24 : Int))) fun x5 =>
 cond x5 (letm ((w64 (32 * a0))) fun x6 =>
 letm ((toU8 x6)) fun x7 =>
 letm ((toU8 (UInt64.toNat a1 : Int))) fun x8 =>
 letm ((x7 + x8)) fun x9 =>
 some (.inl [x9]))
 (letm (decide ((UInt64.toNat a1 : Int) < (UInt64.toNat 256 : Int))) fun x10 =>
 cond x10 (some (.inr ([x4], 1)))
 (letm (decide ((UInt64.toNat a1 : Int) < (UInt64.toNat 65536 : Int))) fun x11 =>
 cond x11 (bnd (idx [x4] 0) fun _ =>
 bnd (idx [x4] (((0 : Int)).toNat : Int)) fun x13 =>
 letm ((x13 + 1)) fun x14 =>
 bnd (idx [x4] 0) fun _ =>
 bnd (idx [x4] (((0 : Int)).toNat : Int)) fun _ =>
 letm ([x14]) fun x17 =>
 some (.inr (x17, 2)))
 (letm (decide ((UInt64.toNat a1 : Int) < (UInt64.toNat 4294967296 : Int))) fun x18 =>
 cond x18 (bnd (idx [x4] 0) fun _ =>
 bnd (idx [x4] (((0 : Int)).toNat : Int)) fun x20 =>
 letm ((x20 + 2)) fun x21 =>
 bnd (idx [x4] 0) fun _ =>
 bnd (idx [x4] (((0 : Int)).toNat : Int)) fun _ =>
 letm ([x21]) fun x24 =>
 some (.inr (x24, 4)))
 (bnd (idx [x4] 0) fun _ =>
 bnd (idx [x4] (((0 : Int)).toNat : Int)) fun x26 =>
 letm ((x26 + 3)) fun x27 =>
 bnd (idx [x4] 0) fun _ =>
 bnd (idx [x4] (((0 : Int)).toNat : Int)) fun _ =>
 letm ([x27]) fun x30 =>
 some (.inr (x30, 8))))))) (fun q => q) fun v31 =>
 letm ((w64 (v31.2 - 1))) fun x32 =>
 loopF (R := (List UInt8)) (S := ((List UInt8) × Int)) (fun self34 s33 =>
 letm (decide (0 ≤ s33.2)) fun x35 =>
 cond x35 (letm ((toU64 s33.2)) fun x36 =>
 letm ((8 * x36)) fun x37 =>
 bnd ((shrK .u64 (a1 : UInt64) (UInt64.toNat x37 : Int) : Option UInt64)) fun (x38 : UInt64) =>
 letm ((toU8 (UInt64.toNat x38 : Int))) fun x39 =>
 bnd (app s33.1 [x39]) fun x40 =>
 letm ((w64 (s33.2 - 1))) fun x41 =>
 self34 (x40, x41))
 (some s33.1)) FUEL (v31.1, x32)
def m_coresecref01_Narrow (a0 : UInt64) (a1 : Int) (a2 : Int) : Option (UInt64 × Bool) :=
 bnd ((shrK .u64 (a0 : UInt64) (UInt64.toNat 63 : Int) : Option UInt64)) fun (x3 : UInt64) =>
 letm ((w64 (a1 + a2))) fun x4 =>
 letm ((toU64 x4)) fun x5 =>
 bnd ((shlK .u64 (x3 : UInt64) (UInt64.toNat x5 : Int) : Option UInt64)) fun (x6 : UInt64) =>
 bnd ((shrK .u64 (a0 : UInt64) (UInt64.toNat 52 : Int) : Option UInt64)) fun (x7 : UInt64) =>
 letm ((bitK .and .u64 (x7 : UInt64) (2047 : UInt64) : UInt64)) fun x8 =>
 letm ((w64 (UInt64.toNat x8 : Int))) fun x9 =>
 letm ((bitK .and .u64 (a0 : UInt64) (4503599627370495 : UInt64) : UInt64)) fun x10 =>
 letm ((toU64 a1)) fun x11 =>
 bnd (Gk.shl 1 (UInt64.toNat x11 : Int)) fun x12 =>
 letm ((w64 (x12 - 1))) fun x13 =>
 letm ((w64 (a1 - 1))) fun x14 =>
 letm ((toU64 x14)) fun x15 =>
 bnd (Gk.shl 1 (UInt64.toNat x15 : Int)) fun x16 =>
 letm ((w64 (x16 - 1))) fun x17 =>
 letm ((x9 == 2047)) fun x18 =>
 cond x18 (letm ((toU64 x13)) fun x19 =>
 letm ((toU64 a2)) fun x20 =>
 bnd ((shlK .u64 (x19 : UInt64) (UInt64.toNat x20 : Int) : Option UInt64)) fun (x21 : UInt64) =>
 letm ((bitK .or .u64 (x6 : UInt64) (x21 : UInt64) : UInt64)) fun x22 =>
 letm (((UInt64.toNat x10 : Int) == (UInt64.toNat 0 : Int))) fun x23 =>
 some (x22, x23))
 (letm ((x9 == 0)) fun x24 =>
 cond x24 (letm (((UInt64.toNat x10 : Int) == (UInt64.toNat 0 : Int))) fun x25 =>
 some (x6, x25))
 (letm ((w64 (x9 - 1023))) fun x26 =>
 letm ((w64 (x26 + x17))) fun x27 =>
 letm (decide (x13 ≤ x27)) fun x28 =>
 cond x28 (some (0, false))
 (letm (decide (0 < x27)) fun x29 =>
 cond x29 (letm ((toU64 x27)) fun x30 =>
 letm ((toU64 a2)) fun x31 =>
 bnd ((shlK .u64 (x30 : UInt64) (UInt64.toNat x31 : Int) : Option UInt64)) fun (x32 : UInt64) =>
 letm ((bitK .or .u64 (x6 : UInt64) (x32 : UInt64) : UInt64)) fun x33 =>
 letm ((w64 (52 - a2))) fun x34 =>
 letm ((toU64 x34)) fun x35 =>
 bnd ((shrK .u64 (x10 : UInt64) (UInt64.toNat x35 : Int) : Option UInt64)) fun (x36 : UInt64) =>
 letm ((bitK .or .u64 (x33 : UInt64) (x36 : UInt64) : UInt64)) fun x37 =>
 letm ((w64 (52 - a2))) fun x38 =>
 letm ((toU64 x38)) fun x39 =>
 bnd ((shlK .u64 (1 : UInt64) (UInt64.toNat x39 : Int) : Option UInt64)) fun (x40 : UInt64) =>
 letm ((x40 - 1)) fun x41 =>
 letm ((bitK .and .u64 (x10 : UInt64) (x41 : UInt64) : UInt64)) fun x42 =>
 letm (((UInt64.toNat x42 : Int) == (UInt64.toNat 0 : Int))) fun x43 =>
 some (x37, x43))
 (letm ((bitK .or .u64 (x10 : UInt64) (4503599627370496 : UInt64) : UInt64)) fun x44 =>
 letm ((w64 (53 - a2))) fun x45 =>
 letm ((w64 (x45 - x27))) fun x46 =>
 letm (decide (52 < x46)) fun x47 =>
 cond x47 (some (0, false))
 (letm ((toU64 x46)) fun x48 =>
 bnd ((shrK .u64 (x44 : UInt64) (UInt64.toNat x48 : Int) : Option UInt64)) fun (x49 : UInt64) =>
 letm ((bitK .or .u64 (x6 : UInt64) (x49 : UInt64) : UInt64)) fun x50 =>
 letm ((toU64 x46)) fun x51 =>
 bnd ((shlK .u64 (1 : UInt64) (UInt64.toNat x51 : Int) : Option UInt64)) fun (x52 : UInt64) =>
 letm ((x52 - 1)) fun x53 =>
 letm ((bitK .and .u64 (x44 : UInt64) (x53 : UInt64) : UInt64)) fun x54 =>
 letm (((UInt64.toNat x54 : Int) == (UInt64.toNat 0 : Int))) fun x55 =>
 some (x50, x55))))))
def m_coresecref01_float (a0 : UInt64) : Option (List UInt8) :=
 bnd (m_coresecref01_IsNaN a0) fun x1 =>
 cond x1 (some [249, 126, 0])
 (bnd (m_coresecref01_Narrow a0 5 10) fun x2 =>
 cond x2.2 (bnd ((shrK .u64 (x2.1 : UInt64) (UInt64.toNat 8 : Int) : Option UInt64)) fun (x3 : UInt64) =>
 letm ((toU8 (UInt64.toNat x3 : Int))) fun x4 =>
 letm ((toU8 (UInt64.toNat x2.1 : Int))) fun x5 =>
 some [249, x4, x5])
 (bnd (m_coresecref01_Narrow a0 8 23) fun x6 =>
 cond x6.2 (bnd ((shrK .u64 (x6.1 : UInt64) (UInt64.toNat 24 : Int) : Option UInt64)) fun (x7 : UInt64) =>
 letm ((toU8 (UInt64.toNat x7 : Int))) fun x8 =>
 bnd ((shrK .u64 (x6.1 : UInt64) (UInt64.toNat 16 : Int) : Option UInt64)) fun (x9 : UInt64) =>
 letm ((toU8 (UInt64.toNat x9 : Int))) fun x10 =>
 bnd ((shrK .u64 (x6.1 : UInt64) (UInt64.toNat 8 : Int) : Option UInt64)) fun (x11 : UInt64) =>
 letm ((toU8 (UInt64.toNat x11 : Int))) fun x12 =>
 letm ((toU8 (UInt64.toNat x6.1 : Int))) fun x13 =>
 some [250, x8, x10, x12, x13])
 (loopF (R := (List UInt8)) (S := ((List UInt8) × Int)) (fun self15 s14 =>
 letm (decide (0 ≤ s14.2)) fun x16 =>
 cond x16 (letm ((toU64 s14.2)) fun x17 =>
 letm ((8 * x17)) fun x18 =>
 bnd ((shrK .u64 (a0 : UInt64) (UInt64.toNat x18 : Int) : Option UInt64)) fun (x19 : UInt64) =>
 letm ((toU8 (UInt64.toNat x19 : Int))) fun x20 =>
 bnd (app s14.1 [x20]) fun x21 =>
 letm ((w64 (s14.2 - 1))) fun x22 =>
 self15 (x21, x22))
 (some s14.1)) FUEL ([251], 7))))
def b_coresecref01_Raw (m_coresecref01_Raw : (Go.Gk.Tr) → Option (List UInt8)) (a0 : Go.Gk.Tr) : Option (List UInt8) :=
 bndS (ρ := (List UInt8)) (ρ' := (List UInt8)) (Y := (List UInt8)) (bnd (β := Bool) (letm ((a0.k == 0)) fun x1 =>
 cond x1 (some true)
 (letm ((a0.k == 1)) fun x2 =>
 some x2)) fun v3 =>
 cond v3 (bnd (m_coresecref01_Head_o a0.k a0.n) fun x4 =>
 some (.inl x4))
 (bnd (β := Bool) (letm ((a0.k == 2)) fun x5 =>
 cond x5 (some true)
 (letm ((a0.k == 3)) fun x6 =>
 some x6)) fun v7 =>
 cond v7 (letm ((toU64 (a0.b.length : Int))) fun x8 =>
 bnd (m_coresecref01_Head_o a0.k x8) fun x9 =>
 bnd (app x9 a0.b) fun x10 =>
 some (.inl x10))
 (letm ((a0.k == 4)) fun x11 =>
 cond x11 (letm ((toU64 (a0.l.length : Int))) fun x12 =>
 bnd (m_coresecref01_Head_o 4 x12) fun x13 =>
 some (.inr x13))
 (letm ((a0.k == 5)) fun x14 =>
 cond x14 (bnd (quo (a0.l.length : Int) 2) fun x15 =>
 letm ((toU64 x15)) fun x16 =>
 bnd (m_coresecref01_Head_o 5 x16) fun x17 =>
 some (.inr x17))
 (letm ((a0.k == 6)) fun x18 =>
 cond x18 (bnd (m_coresecref01_Head_o 6 a0.n) fun x19 =>
 some (.inr x19))
 (letm ((a0.k == 7)) fun x20 =>
 cond x20 (letm (decide ((UInt64.toNat a0.n : Int) < (UInt64.toNat 24 : Int))) fun x21 =>
 cond x21 (letm ((224 + a0.n)) fun x22 =>
 letm ((toU8 (UInt64.toNat x22 : Int))) fun x23 =>
 some (.inl [x23]))
 (letm ((toU8 (UInt64.toNat a0.n : Int))) fun x24 =>
 some (.inl [248, x24])))
 (bnd (m_coresecref01_float a0.n) fun x25 =>
 some (.inl x25)))))))) (fun q => q) fun v26 =>
 loopL (R := (List UInt8)) (S := (List UInt8)) (α := Go.Gk.Tr) (fun _ s28 =>
 some s28)
 (fun x29 _ s31 self32 =>
 bnd (m_coresecref01_Raw x29) fun x33 =>
 bnd (app s31 x33) fun x34 =>
 self32 x34) a0.l 0 v26
def n_coresecref01_Raw (n : Nat) : (Go.Gk.Tr) → Option (List UInt8) := Nat.rec (motive := fun _ => (Go.Gk.Tr) → Option (List UInt8)) (fun _ => none) (fun _ ih => b_coresecref01_Raw ih) n
def m_coresecref01_Raw (a0 : Go.Gk.Tr) : Option (List UInt8) := n_coresecref01_Raw 40 a0
def m_coresecref01_Compare (a0 : (List UInt8)) (a1 : (List UInt8)) : Option Int :=
 loopF (R := Int) (S := Int) (fun self3 s2 =>
 bnd (β := Bool) (letm (decide (s2 < (a0.length : Int))) fun x4 =>
 cond x4 (letm (decide (s2 < (a1.length : Int))) fun x5 =>
 some x5)
 (some false)) fun v6 =>
 cond v6 (bnd (idx a0 s2) fun x7 =>
 bnd (idx a1 s2) fun x8 =>
 letm (((UInt8.toNat x7 : Int) != (UInt8.toNat x8 : Int))) fun x9 =>
 cond x9 (bnd (idx a0 s2) fun x10 =>
 bnd (idx a1 s2) fun x11 =>
 letm (decide ((UInt8.toNat x10 : Int) < (UInt8.toNat x11 : Int))) fun x12 =>
 cond x12 (some (-1))
 (some 1))
 (letm ((w64 (s2 + 1))) fun x13 =>
 self3 x13))
 (letm (decide ((a0.length : Int) < (a1.length : Int))) fun x14 =>
 cond x14 (some (-1))
 (letm (decide ((a1.length : Int) < (a0.length : Int))) fun x15 =>
 cond x15 (some 1)
 (some 0)))) FUEL 0
def b_coresecref01_left (m_coresecref01_left : (Go.Gk.Tr) → (Int) → (Int) → Option Int) (a0 : Go.Gk.Tr) (a1 : Int) (a2 : Int) : Option Int :=
 letm (decide (a1 < 1)) fun x3 =>
 cond x3 (some (-1))
 (letm ((w64 (a1 - 1))) fun x4 =>
 bnd (β := Bool) (letm ((a0.k == 4)) fun x5 =>
 cond x5 (some true)
 (letm ((a0.k == 5)) fun x6 =>
 cond x6 (some true)
 (letm ((a0.k == 6)) fun x7 =>
 some x7))) fun v8 =>
 bnd (β := Bool) (letm ((a0.k == 2)) fun x9 =>
 cond x9 (some true)
 (letm ((a0.k == 3)) fun x10 =>
 some x10)) fun v11 =>
 bnd (β := Bool) (bnd (β := Bool) (letm (decide (a0.k < 0)) fun x12 =>
 cond x12 (some true)
 (letm (decide (8 < a0.k)) fun x13 =>
 some x13)) fun v14 =>
 cond v14 (some true)
 (bnd (β := Bool) (letm (decide (0 < (a0.b.length : Int))) fun x15 =>
 cond x15 (letm ((!v11)) fun x16 =>
 some x16)
 (some false)) fun v17 =>
 cond v17 (some true)
 (bnd (β := Bool) (letm (decide (0 < (a0.l.length : Int))) fun x18 =>
 cond x18 (letm ((!v8)) fun x19 =>
 some x19)
 (some false)) fun v20 =>
 cond v20 (some true)
 (letm (((UInt64.toNat a0.n : Int) != (UInt64.toNat 0 : Int))) fun x21 =>
 cond x21 (cond v11 (some true)
 (letm ((a0.k == 4)) fun x22 =>
 cond x22 (some true)
 (letm ((a0.k == 5)) fun x23 =>
 some x23)))
 (some false))))) fun v24 =>
 cond v24 (some (-1))
 (bnd (β := Bool) (letm (decide (4096 < (a0.b.length : Int))) fun x25 =>
 cond x25 (some true)
 (letm ((a0.k == 3)) fun x26 =>
 cond x26 (bnd (m_unicode_utf8_Valid a0.b) fun x27 =>
 letm ((!x27)) fun x28 =>
 some x28)
 (some false))) fun v29 =>
 cond v29 (some (-1))
 (bnd (β := Bool) (bnd (β := Bool) (letm ((a0.k == 7)) fun x30 =>
 cond x30 (letm (decide ((UInt64.toNat 255 : Int) < (UInt64.toNat a0.n : Int))) fun x31 =>
 cond x31 (some true)
 (letm (decide ((UInt64.toNat 23 : Int) < (UInt64.toNat a0.n : Int))) fun x32 =>
 cond x32 (letm (decide ((UInt64.toNat a0.n : Int) < (UInt64.toNat 32 : Int))) fun x33 =>
 some x33)
 (some false)))
 (some false)) fun v34 =>
 cond v34 (some true)
 (letm ((a0.k == 8)) fun x35 =>
 cond x35 (bnd (m_coresecref01_IsNaN a0.n) fun x36 =>
 cond x36 (letm (((UInt64.toNat a0.n : Int) != (UInt64.toNat 9221120237041090560 : Int))) fun x37 =>
 some x37)
 (some false))
 (some false))) fun v38 =>
 cond v38 (some (-1))
 (bnd (β := Bool) (bnd (β := Bool) (cond v8 (letm (decide (8 ≤ a2)) fun x39 =>
 some x39)
 (some false)) fun v40 =>
 cond v40 (some true)
 (bnd (β := Bool) (letm ((a0.k == 6)) fun x41 =>
 cond x41 (letm (((a0.l.length : Int) != 1)) fun x42 =>
 some x42)
 (some false)) fun v43 =>
 cond v43 (some true)
 (bnd (β := Bool) (letm ((a0.k == 5)) fun x44 =>
 cond x44 (bnd (Gk.rem (a0.l.length : Int) 2) fun x45 =>
 letm ((x45 != 0)) fun x46 =>
 some x46)
 (some false)) fun v47 =>
 cond v47 (some true)
 (letm (decide (x4 < (a0.l.length : Int))) fun x48 =>
 some x48)))) fun v49 =>
 cond v49 (some (-1))
 (bndS (ρ := Int) (ρ' := Int) (Y := Int) (loopL (R := (Int ⊕ Int)) (S := Int) (α := Go.Gk.Tr) (fun _ s51 =>
 some (.inr s51))
 (fun x52 _ s54 self55 =>
 letm ((w64 (a2 + 1))) fun x56 =>
 bnd (m_coresecref01_left x52 s54 x56) fun x57 =>
 letm (decide (x57 < 0)) fun x58 =>
 cond x58 (some (.inl (-1)))
 (self55 x57)) a0.l 0 x4) (fun q => q) fun v59 =>
 loopF (R := Int) (S := Int) (fun self61 s60 =>
 bnd (β := Bool) (letm ((a0.k == 5)) fun x62 =>
 cond x62 (letm (decide (s60 < (a0.l.length : Int))) fun x63 =>
 some x63)
 (some false)) fun v64 =>
 cond v64 (letm ((w64 (s60 - 2))) fun x65 =>
 bnd (idx a0.l x65) fun x66 =>
 bnd (m_coresecref01_Raw x66) fun x67 =>
 bnd (idx a0.l s60) fun x68 =>
 bnd (m_coresecref01_Raw x68) fun x69 =>
 bnd (m_coresecref01_Compare x67 x69) fun x70 =>
 letm (decide (0 ≤ x70)) fun x71 =>
 cond x71 (some (-1))
 (letm ((w64 (s60 + 2))) fun x72 =>
 self61 x72))
 (some v59)) FUEL 2)))))
def n_coresecref01_left (n : Nat) : (Go.Gk.Tr) → (Int) → (Int) → Option Int := Nat.rec (motive := fun _ => (Go.Gk.Tr) → (Int) → (Int) → Option Int) (fun _ _ _ => none) (fun _ ih => b_coresecref01_left ih) n
def m_coresecref01_left (a0 : Go.Gk.Tr) (a1 : Int) (a2 : Int) : Option Int := n_coresecref01_left 40 a0 a1 a2
def m_coresecref01_Valid (a0 : Go.Gk.Tr) : Option Bool :=
 bnd (β := Bool) (bnd (m_coresecref01_left a0 256 0) fun x1 =>
 letm (decide (0 ≤ x1)) fun x2 =>
 cond x2 (bnd (m_coresecref01_Raw a0) fun x3 =>
 letm (decide ((x3.length : Int) ≤ 4096)) fun x4 =>
 some x4)
 (some false)) fun v5 =>
 some v5
def m_coresecmake_whole (a0 : Go.Gk.Tr) : Option Go.Gk.Tr :=
 bnd (m_coresecref01_Valid a0) fun x1 =>
 letm ((!x1)) fun x2 =>
 cond x2 (some (Tr.mk 0 0 [] []))
 (some a0)
def m_coresecref01_Widen (a0 : UInt64) (a1 : Int) (a2 : Int) : Option UInt64 :=
 letm ((w64 (a1 + a2))) fun x3 =>
 letm ((toU64 x3)) fun x4 =>
 bnd ((shrK .u64 (a0 : UInt64) (UInt64.toNat x4 : Int) : Option UInt64)) fun (x5 : UInt64) =>
 bnd ((shlK .u64 (x5 : UInt64) (UInt64.toNat 63 : Int) : Option UInt64)) fun (x6 : UInt64) =>
 letm ((toU64 a2)) fun x7 =>
 bnd ((shrK .u64 (a0 : UInt64) (UInt64.toNat x7 : Int) : Option UInt64)) fun (x8 : UInt64) =>
 letm ((w64 (UInt64.toNat x8 : Int))) fun x9 =>
 letm ((toU64 a1)) fun x10 =>
 bnd (Gk.shl 1 (UInt64.toNat x10 : Int)) fun x11 =>
 letm ((w64 (x11 - 1))) fun x12 =>
 letm ((ibit .and x9 x12)) fun x13 =>
 letm ((toU64 a2)) fun x14 =>
 bnd ((shlK .u64 (1 : UInt64) (UInt64.toNat x14 : Int) : Option UInt64)) fun (x15 : UInt64) =>
 letm ((x15 - 1)) fun x16 =>
 letm ((bitK .and .u64 (a0 : UInt64) (x16 : UInt64) : UInt64)) fun x17 =>
 letm ((toU64 a1)) fun x18 =>
 bnd (Gk.shl 1 (UInt64.toNat x18 : Int)) fun x19 =>
 letm ((w64 (x19 - 1))) fun x20 =>
 letm ((w64 (a1 - 1))) fun x21 =>
 letm ((toU64 x21)) fun x22 =>
 bnd (Gk.shl 1 (UInt64.toNat x22 : Int)) fun x23 =>
 letm ((w64 (x23 - 1))) fun x24 =>
 letm ((x13 == x20)) fun x25 =>
 cond x25 (letm ((bitK .or .u64 (x6 : UInt64) (9218868437227405312 : UInt64) : UInt64)) fun x26 =>
 letm ((w64 (52 - a2))) fun x27 =>
 letm ((toU64 x27)) fun x28 =>
 bnd ((shlK .u64 (x17 : UInt64) (UInt64.toNat x28 : Int) : Option UInt64)) fun (x29 : UInt64) =>
 letm ((bitK .or .u64 (x26 : UInt64) (x29 : UInt64) : UInt64)) fun x30 =>
 some x30)
 (bnd (β := Bool) (letm ((x13 == 0)) fun x31 =>
 cond x31 (letm (((UInt64.toNat x17 : Int) == (UInt64.toNat 0 : Int))) fun x32 =>
 some x32)
 (some false)) fun v33 =>
 cond v33 (some x6)
 (letm ((x13 == 0)) fun x34 =>
 cond x34 (bnd (β := Int) (loopF (R := Int) (S := Int) (fun self36 s35 =>
 letm ((w64 (s35 + 1))) fun x37 =>
 letm ((toU64 x37)) fun x38 =>
 bnd ((shrK .u64 (x17 : UInt64) (UInt64.toNat x38 : Int) : Option UInt64)) fun (x39 : UInt64) =>
 letm (decide ((UInt64.toNat 0 : Int) < (UInt64.toNat x39 : Int))) fun x40 =>
 cond x40 (letm ((w64 (s35 + 1))) fun x41 =>
 self36 x41)
 (some s35)) FUEL 0) fun v42 =>
 letm ((w64 (v42 + 1))) fun x43 =>
 letm ((w64 (x43 - x24))) fun x44 =>
 letm ((w64 (x44 - a2))) fun x45 =>
 letm ((w64 (x45 + 1023))) fun x46 =>
 letm ((toU64 x46)) fun x47 =>
 bnd ((shlK .u64 (x47 : UInt64) (UInt64.toNat 52 : Int) : Option UInt64)) fun (x48 : UInt64) =>
 letm ((bitK .or .u64 (x6 : UInt64) (x48 : UInt64) : UInt64)) fun x49 =>
 letm ((w64 (52 - v42))) fun x50 =>
 letm ((toU64 x50)) fun x51 =>
 bnd ((shlK .u64 (x17 : UInt64) (UInt64.toNat x51 : Int) : Option UInt64)) fun (x52 : UInt64) =>
 letm ((bitK .and .u64 (x52 : UInt64) (4503599627370495 : UInt64) : UInt64)) fun x53 =>
 letm ((bitK .or .u64 (x49 : UInt64) (x53 : UInt64) : UInt64)) fun x54 =>
 some x54)
 (letm ((w64 (x13 - x24))) fun x55 =>
 letm ((w64 (x55 + 1023))) fun x56 =>
 letm ((toU64 x56)) fun x57 =>
 bnd ((shlK .u64 (x57 : UInt64) (UInt64.toNat 52 : Int) : Option UInt64)) fun (x58 : UInt64) =>
 letm ((bitK .or .u64 (x6 : UInt64) (x58 : UInt64) : UInt64)) fun x59 =>
 letm ((w64 (52 - a2))) fun x60 =>
 letm ((toU64 x60)) fun x61 =>
 bnd ((shlK .u64 (x17 : UInt64) (UInt64.toNat x61 : Int) : Option UInt64)) fun (x62 : UInt64) =>
 letm ((bitK .or .u64 (x59 : UInt64) (x62 : UInt64) : UInt64)) fun x63 =>
 some x63)))
def m_coresecmake_Deck_Float (a0 : S_coresecmake_Deck) : Option (UInt64 × S_coresecmake_Deck) :=
 bnd (m_coresecmake_Deck_Next a0 1073741824) fun x1 =>
 letm ((toU64 x1.1)) fun x2 =>
 bnd (m_coresecmake_Deck_Next x1.2 5) fun x3 =>
 letm ((x3.1 == 0)) fun x4 =>
 cond x4 (letm ((bitK .and .u64 (x2 : UInt64) (31743 : UInt64) : UInt64)) fun x5 =>
 bnd ((shrK .u64 (x2 : UInt64) (UInt64.toNat 14 : Int) : Option UInt64)) fun (x6 : UInt64) =>
 letm ((bitK .and .u64 (x6 : UInt64) (32768 : UInt64) : UInt64)) fun x7 =>
 letm ((bitK .or .u64 (x5 : UInt64) (x7 : UInt64) : UInt64)) fun x8 =>
 bnd (m_coresecref01_Widen x8 5 10) fun x9 =>
 some (x9, x3.2))
 (letm ((x3.1 == 1)) fun x10 =>
 cond x10 (letm ((bitK .and .u64 (x2 : UInt64) (2139095039 : UInt64) : UInt64)) fun x11 =>
 bnd (m_coresecref01_Widen x11 8 23) fun x12 =>
 some (x12, x3.2))
 (letm ((x3.1 == 2)) fun x13 =>
 cond x13 (bnd (m_coresecmake_Deck_Next x3.2 7) fun x14 =>
 bnd (idx [9221120237041090560, 9218868437227405312, 18442240474082181120, 9223372036854775808, 0, 1, 4609434218613702656] x14.1) fun x15 =>
 some (x15, x14.2))
 (bnd ((shlK .u64 (x2 : UInt64) (UInt64.toNat 34 : Int) : Option UInt64)) fun (x16 : UInt64) =>
 bnd (m_coresecmake_Deck_Next x3.2 1073741824) fun x17 =>
 letm ((toU64 x17.1)) fun x18 =>
 bnd ((shlK .u64 (x18 : UInt64) (UInt64.toNat 4 : Int) : Option UInt64)) fun (x19 : UInt64) =>
 letm ((bitK .or .u64 (x16 : UInt64) (x19 : UInt64) : UInt64)) fun x20 =>
 bnd (m_coresecref01_IsNaN x20) fun x21 =>
 cond x21 (some (9221120237041090560, x17.2))
 (some (x20, x17.2)))))
def b_coresecref01_Copy (m_coresecref01_Copy : (Go.Gk.Tr) → Option Go.Gk.Tr) (a0 : Go.Gk.Tr) : Option Go.Gk.Tr :=
 bnd (app [] a0.b) fun x1 =>
 loopL (R := Go.Gk.Tr) (S := (List Go.Gk.Tr)) (α := Go.Gk.Tr) (fun _ s3 =>
 some (Tr.mk a0.k a0.n x1 s3))
 (fun x4 _ s6 self7 =>
 bnd (m_coresecref01_Copy x4) fun x8 =>
 bnd (app s6 [x8]) fun x9 =>
 self7 x9) a0.l 0 []
def n_coresecref01_Copy (n : Nat) : (Go.Gk.Tr) → Option Go.Gk.Tr := Nat.rec (motive := fun _ => (Go.Gk.Tr) → Option Go.Gk.Tr) (fun _ => none) (fun _ ih => b_coresecref01_Copy ih) n
def m_coresecref01_Copy (a0 : Go.Gk.Tr) : Option Go.Gk.Tr := n_coresecref01_Copy 40 a0
def m_coresecref01_Build (a0 : (List Go.Gk.Tr)) : Option (Go.Gk.Tr × Int) :=
 bnd (Gk.rem (a0.length : Int) 2) fun x1 =>
 letm ((x1 != 0)) fun x2 =>
 cond x2 (some ((Tr.mk 0 0 [] []), 1))
 (bndS (ρ := (Go.Gk.Tr × Int)) (ρ' := (Go.Gk.Tr × Int)) (Y := Go.Gk.Tr) (loopL (R := ((Go.Gk.Tr × Int) ⊕ Go.Gk.Tr)) (S := Go.Gk.Tr) (α := Go.Gk.Tr) (fun _ s4 =>
 some (.inr s4))
 (fun x5 _ s7 self8 =>
 bnd (m_coresecref01_Valid x5) fun x9 =>
 letm ((!x9)) fun x10 =>
 cond x10 (some (.inl ((Tr.mk 0 0 [] []), 1)))
 (self8 s7)) a0 0 (Tr.mk 0 0 [] [])) (fun q => q) fun _ =>
 bnd (β := ((List Go.Gk.Tr) × Bool)) (loopF (R := ((List Go.Gk.Tr) × Bool)) (S := ((List Go.Gk.Tr) × (Bool × Int))) (fun self13 s12 =>
 letm (decide (s12.2.2 < (a0.length : Int))) fun x14 =>
 cond x14 (bnd (β := ((List Go.Gk.Tr) × Bool)) (bnd (β := Int) (loopF (R := Int) (S := Int) (fun self16 s15 =>
 bnd (β := Bool) (letm (decide (0 < s15)) fun x17 =>
 cond x17 (letm ((w64 (s15 - 2))) fun x18 =>
 bnd (idx s12.1 x18) fun x19 =>
 bnd (m_coresecref01_Raw x19) fun x20 =>
 bnd (idx a0 s12.2.2) fun x21 =>
 bnd (m_coresecref01_Raw x21) fun x22 =>
 bnd (m_coresecref01_Compare x20 x22) fun x23 =>
 letm (decide (0 < x23)) fun x24 =>
 some x24)
 (some false)) fun v25 =>
 cond v25 (letm ((w64 (s15 - 2))) fun x26 =>
 self16 x26)
 (some s15)) FUEL (s12.1.length : Int)) fun v27 =>
 bnd (β := Bool) (cond s12.2.1 (some true)
 (letm (decide (0 < v27)) fun x28 =>
 cond x28 (letm ((w64 (v27 - 2))) fun x29 =>
 bnd (idx s12.1 x29) fun x30 =>
 bnd (m_coresecref01_Raw x30) fun x31 =>
 bnd (idx a0 s12.2.2) fun x32 =>
 bnd (m_coresecref01_Raw x32) fun x33 =>
 bnd (m_coresecref01_Compare x31 x33) fun x34 =>
 letm ((x34 == 0)) fun x35 =>
 some x35)
 (some false))) fun v36 =>
 bnd (Gk.cut s12.1 0 v27) fun x37 =>
 bnd (app [] x37) fun x38 =>
 bnd (idx a0 s12.2.2) fun x39 =>
 letm ((w64 (s12.2.2 + 1))) fun x40 =>
 bnd (idx a0 x40) fun x41 =>
 bnd (app x38 [x39, x41]) fun x42 =>
 bnd (Gk.cut s12.1 v27 (s12.1.length : Int)) fun x43 =>
 bnd (app x42 x43) fun x44 =>
 some (x44, v36)) fun v45 =>
 letm ((w64 (s12.2.2 + 2))) fun x46 =>
 self13 (v45.1, (v45.2, x46)))
 (some (s12.1, s12.2.1))) FUEL ([], (false, 0))) fun v47 =>
 cond v47.2 (some ((Tr.mk 0 0 [] []), 7))
 (bnd (m_coresecref01_Valid (Tr.mk 5 0 [] v47.1)) fun x48 =>
 letm ((!x48)) fun x49 =>
 cond x49 (some ((Tr.mk 0 0 [] []), 8))
 (bnd (m_coresecref01_Copy (Tr.mk 5 0 [] v47.1)) fun x50 =>
 some (x50, 0))))
def b_coresecmake_Deck_Item (m_coresecmake_Deck_Item : (S_coresecmake_Deck) → (Int) → Option (Go.Gk.Tr × S_coresecmake_Deck)) (a0 : S_coresecmake_Deck) (a1 : Int) : Option (Go.Gk.Tr × S_coresecmake_Deck) :=
 bnd (m_coresecmake_Deck_Next a0 9) fun x2 =>
 bnd (β := Int) (bnd (β := Bool) (letm ((a1 == 0)) fun x3 =>
 cond x3 (letm (decide (4 ≤ x2.1)) fun x4 =>
 cond x4 (letm (decide (x2.1 ≤ 6)) fun x5 =>
 some x5)
 (some false))
 (some false)) fun v6 =>
 cond v6 (some 0)
 (some x2.1)) fun v7 =>
 bnd (β := Bool) (letm ((v7 == 0)) fun x8 =>
 cond x8 (some true)
 (letm ((v7 == 1)) fun x9 =>
 some x9)) fun v10 =>
 cond v10 (bnd (m_coresecmake_Deck_Number x2.2) fun x11 =>
 some ((Tr.mk v7 x11.1 [] []), x11.2))
 (letm ((v7 == 2)) fun x12 =>
 cond x12 (bnd (m_coresecmake_Deck_Bytes x2.2 30) fun x13 =>
 bnd (m_coresecref01_Bytes x13.1) fun x14 =>
 some (x14, x13.2))
 (letm ((v7 == 3)) fun x15 =>
 cond x15 (bnd (m_coresecmake_Deck_Text x2.2 8) fun x16 =>
 bnd (m_coresecref01_Text x16.1) fun x17 =>
 some (x17, x16.2))
 (letm ((v7 == 6)) fun x18 =>
 cond x18 (bnd (m_coresecmake_Deck_Number x2.2) fun x19 =>
 letm ((w64 (a1 - 1))) fun x20 =>
 bnd (m_coresecmake_Deck_Item x19.2 x20) fun x21 =>
 bnd (m_coresecmake_whole (Tr.mk v7 x19.1 [] [x21.1])) fun x22 =>
 some (x22, x21.2))
 (letm ((v7 == 7)) fun x23 =>
 cond x23 (bnd (m_coresecmake_Deck_Next x2.2 8) fun x24 =>
 bnd (idx [20, 21, 22, 23, 0, 19, 32, 255] x24.1) fun x25 =>
 some ((Tr.mk v7 x25 [] []), x24.2))
 (letm ((v7 == 8)) fun x26 =>
 cond x26 (bnd (m_coresecmake_Deck_Float x2.2) fun x27 =>
 some ((Tr.mk v7 x27.1 [] []), x27.2))
 (bnd (β := ((List Go.Gk.Tr) × S_coresecmake_Deck)) (bnd (m_coresecmake_Deck_Next x2.2 4) fun x28 =>
 loopF (R := ((List Go.Gk.Tr) × S_coresecmake_Deck)) (S := ((List Go.Gk.Tr) × (Int × S_coresecmake_Deck))) (fun self30 s29 =>
 letm (decide (0 < s29.2.1)) fun x31 =>
 cond x31 (bnd (β := ((List Go.Gk.Tr) × S_coresecmake_Deck)) (letm ((w64 (a1 - 1))) fun x32 =>
 bnd (m_coresecmake_Deck_Item s29.2.2 x32) fun x33 =>
 bnd (app s29.1 [x33.1]) fun x34 =>
 letm ((v7 == 5)) fun x35 =>
 cond x35 (letm ((w64 (a1 - 1))) fun x36 =>
 bnd (m_coresecmake_Deck_Item x33.2 x36) fun x37 =>
 bnd (app x34 [x37.1]) fun x38 =>
 some (x38, x37.2))
 (some (x34, x33.2))) fun v39 =>
 letm ((w64 (s29.2.1 - 1))) fun x40 =>
 self30 (v39.1, (x40, v39.2)))
 (some (s29.1, s29.2.2))) FUEL ([], (x28.1, x28.2))) fun v41 =>
 letm ((v7 == 4)) fun x42 =>
 cond x42 (bnd (m_coresecmake_whole (Tr.mk v7 0 [] v41.1)) fun x43 =>
 some (x43, v41.2))
 (bnd (m_coresecref01_Build v41.1) fun x44 =>
 letm ((x44.2 != 0)) fun x45 =>
 cond x45 (some ((Tr.mk 5 0 [] []), v41.2))
 (some (x44.1, v41.2)))))))))
def n_coresecmake_Deck_Item (n : Nat) : (S_coresecmake_Deck) → (Int) → Option (Go.Gk.Tr × S_coresecmake_Deck) := Nat.rec (motive := fun _ => (S_coresecmake_Deck) → (Int) → Option (Go.Gk.Tr × S_coresecmake_Deck)) (fun _ _ => none) (fun _ ih => b_coresecmake_Deck_Item ih) n
def m_coresecmake_Deck_Item (a0 : S_coresecmake_Deck) (a1 : Int) : Option (Go.Gk.Tr × S_coresecmake_Deck) := n_coresecmake_Deck_Item 40 a0 a1
def m_cbor_plain (a0 : Go.Gk.Tr) : Option (Bool × Bool) :=
 bnd (β := Bool) (letm ((a0.k == 0)) fun x1 =>
 cond x1 (some true)
 (letm ((a0.k == 1)) fun x2 =>
 some x2)) fun v3 =>
 cond v3 (bnd (β := (Bool × Bool)) (letm (((a0.b.length : Int) == 0)) fun x4 =>
 cond x4 (letm (((a0.l.length : Int) == 0)) fun x5 =>
 some (x5, true))
 (some (false, true))) fun v6 =>
 some (v6.1, v6.2))
 (letm ((a0.k == 2)) fun x7 =>
 cond x7 (bnd (β := (Bool × Bool)) (letm (((UInt64.toNat a0.n : Int) == (UInt64.toNat 0 : Int))) fun x8 =>
 cond x8 (letm (((a0.l.length : Int) == 0)) fun x9 =>
 some (x9, true))
 (some (false, true))) fun v10 =>
 some (v10.1, v10.2))
 (letm ((a0.k == 3)) fun x11 =>
 cond x11 (bnd (β := (Bool × Bool)) (letm (((UInt64.toNat a0.n : Int) == (UInt64.toNat 0 : Int))) fun x12 =>
 cond x12 (letm (((a0.l.length : Int) == 0)) fun x13 =>
 cond x13 (bnd (m_unicode_utf8_Valid a0.b) fun x14 =>
 some (x14, true))
 (some (false, true)))
 (some (false, true))) fun v15 =>
 some (v15.1, v15.2))
 (letm ((a0.k == 7)) fun x16 =>
 cond x16 (bnd (β := (Bool × Bool)) (letm (((a0.b.length : Int) == 0)) fun x17 =>
 cond x17 (letm (((a0.l.length : Int) == 0)) fun x18 =>
 cond x18 (letm (decide ((UInt64.toNat a0.n : Int) < (UInt64.toNat 24 : Int))) fun x19 =>
 cond x19 (some (true, true))
 (letm (decide ((UInt64.toNat 32 : Int) ≤ (UInt64.toNat a0.n : Int))) fun x20 =>
 cond x20 (letm (decide ((UInt64.toNat a0.n : Int) < (UInt64.toNat 256 : Int))) fun x21 =>
 some (x21, true))
 (some (false, true))))
 (some (false, true)))
 (some (false, true))) fun v22 =>
 some (v22.1, v22.2))
 (letm ((a0.k == 8)) fun x23 =>
 cond x23 (letm (a0.n) fun x24 =>
 bnd (β := (Bool × Bool)) (letm (((a0.b.length : Int) == 0)) fun x25 =>
 cond x25 (letm (((a0.l.length : Int) == 0)) fun x26 =>
 cond x26 (letm ((feq x24 x24)) fun x27 =>
 cond x27 (some (true, true))
 (letm (((UInt64.toNat a0.n : Int) == (UInt64.toNat 9221120237041090560 : Int))) fun x28 =>
 some (x28, true)))
 (some (false, true)))
 (some (false, true))) fun v29 =>
 some (v29.1, v29.2))
 (some (false, false))))))
def m_cbor_wide (a0 : UInt64) : Option (List UInt8) :=
 loopF (R := (List UInt8)) (S := ((List UInt8) × Int)) (fun self2 s1 =>
 letm (decide (0 ≤ s1.2)) fun x3 =>
 cond x3 (bnd ((shrK .u64 (a0 : UInt64) s1.2 : Option UInt64)) fun (x4 : UInt64) =>
 letm ((toU8 (UInt64.toNat x4 : Int))) fun x5 =>
 bnd (app s1.1 [x5]) fun x6 =>
 letm ((w64 (s1.2 - 8))) fun x7 =>
 self2 (x6, x7))
 (some s1.1)) FUEL ([], 56)
def m_cbor_half (a0 : UInt32) : Option (Int × Bool) :=
 bnd ((shrK .u32 (a0 : UInt32) (UInt64.toNat 31 : Int) : Option UInt32)) fun (x1 : UInt32) =>
 bnd ((shlK .u32 (x1 : UInt32) (UInt64.toNat 15 : Int) : Option UInt32)) fun (x2 : UInt32) =>
 letm ((Gk.fromI .u16 (UInt32.toNat x2 : Int))) fun x3 =>
 bnd ((shrK .u32 (a0 : UInt32) (UInt64.toNat 23 : Int) : Option UInt32)) fun (x4 : UInt32) =>
 letm ((bitK .and .u32 (x4 : UInt32) (255 : UInt32) : UInt32)) fun x5 =>
 letm ((w64 (UInt32.toNat x5 : Int))) fun x6 =>
 letm ((bitK .and .u32 (a0 : UInt32) (8388607 : UInt32) : UInt32)) fun x7 =>
 letm ((x6 == 255)) fun x8 =>
 cond x8 (letm ((bitK .or .u16 x3 31744)) fun x9 =>
 some (x9, true))
 (letm ((x6 == 0)) fun x10 =>
 cond x10 (letm (((UInt32.toNat x7 : Int) == (UInt32.toNat 0 : Int))) fun x11 =>
 some (x3, x11))
 (bnd (β := Bool) (letm (decide (113 ≤ x6)) fun x12 =>
 cond x12 (letm (decide (x6 ≤ 142)) fun x13 =>
 some x13)
 (some false)) fun v14 =>
 cond v14 (letm ((w64 (x6 - 112))) fun x15 =>
 letm ((Gk.fromI .u16 x15)) fun x16 =>
 bnd (shlK .u16 x16 (UInt64.toNat 10 : Int)) fun x17 =>
 letm ((bitK .or .u16 x3 x17)) fun x18 =>
 bnd ((shrK .u32 (x7 : UInt32) (UInt64.toNat 13 : Int) : Option UInt32)) fun (x19 : UInt32) =>
 letm ((Gk.fromI .u16 (UInt32.toNat x19 : Int))) fun x20 =>
 letm ((bitK .or .u16 x18 x20)) fun x21 =>
 letm ((bitK .and .u32 (x7 : UInt32) (8191 : UInt32) : UInt32)) fun x22 =>
 letm (((UInt32.toNat x22 : Int) == (UInt32.toNat 0 : Int))) fun x23 =>
 some (x21, x23))
 (bnd (β := Bool) (letm (decide (103 ≤ x6)) fun x24 =>
 cond x24 (letm (decide (x6 < 113)) fun x25 =>
 some x25)
 (some false)) fun v26 =>
 cond v26 (letm ((w64 (126 - x6))) fun x27 =>
 letm ((toU64 x27)) fun x28 =>
 letm ((bitK .or .u32 (x7 : UInt32) (8388608 : UInt32) : UInt32)) fun x29 =>
 bnd ((shrK .u32 (x29 : UInt32) (UInt64.toNat x28 : Int) : Option UInt32)) fun (x30 : UInt32) =>
 letm ((Gk.fromI .u16 (UInt32.toNat x30 : Int))) fun x31 =>
 letm ((bitK .or .u16 x3 x31)) fun x32 =>
 bnd ((shlK .u32 (1 : UInt32) (UInt64.toNat x28 : Int) : Option UInt32)) fun (x33 : UInt32) =>
 letm ((x33 - 1)) fun x34 =>
 letm ((bitK .and .u32 (x29 : UInt32) (x34 : UInt32) : UInt32)) fun x35 =>
 letm (((UInt32.toNat x35 : Int) == (UInt32.toNat 0 : Int))) fun x36 =>
 some (x32, x36))
 (some (0, false)))))
def m_cbor_float (a0 : UInt64) : Option (List UInt8) :=
 bif feq a0 a0 then (match f32of a0.toNat with
  | none => bnd (m_cbor_wide a0) fun x => app [251] x
  | some s => bnd (m_cbor_half (UInt32.ofNat s)) fun x => some (bif x.2 then [249, toU8 (x.1 / 256), toU8 x.1] else [250, toU8 ((s : Int) / 16777216), toU8 ((s : Int) / 65536), toU8 ((s : Int) / 256), toU8 (s : Int)]))
 else some [249, 126, 0]
def m_cbor_major (a0 : Go.Gk.Tr) : Option (UInt8 × UInt64) :=
 bnd (β := Bool) (letm ((a0.k == 2)) fun x1 =>
 cond x1 (some true)
 (letm ((a0.k == 3)) fun x2 =>
 some x2)) fun v3 =>
 cond v3 (letm ((toU8 a0.k)) fun x4 =>
 letm ((toU64 (a0.b.length : Int))) fun x5 =>
 some (x4, x5))
 (letm ((a0.k == 4)) fun x6 =>
 cond x6 (letm ((toU64 (a0.l.length : Int))) fun x7 =>
 some (4, x7))
 (letm ((a0.k == 5)) fun x8 =>
 cond x8 (bnd (quo (a0.l.length : Int) 2) fun x9 =>
 letm ((toU64 x9)) fun x10 =>
 some (5, x10))
 (letm ((toU8 a0.k)) fun x11 =>
 some (x11, a0.n))))
def m_cbor_head (a0 : UInt8) (a1 : UInt64) : Option (List UInt8) :=
 bnd (shlK .u8 a0 (UInt64.toNat 5 : Int)) fun x2 =>
 letm (decide ((UInt64.toNat a1 : Int) < (UInt64.toNat 24 : Int))) fun x3 =>
 cond x3 (letm ((toU8 (UInt64.toNat a1 : Int))) fun x4 =>
 letm ((toU8 (bits .or .u8 (UInt8.toNat x2) (UInt8.toNat x4)))) fun x5 =>
 some [x5])
 (letm (decide ((UInt64.toNat a1 : Int) < (UInt64.toNat 256 : Int))) fun x6 =>
 cond x6 (letm ((toU8 (bits .or .u8 (UInt8.toNat x2) (UInt8.toNat 24)))) fun x7 =>
 letm ((toU8 (UInt64.toNat a1 : Int))) fun x8 =>
 some [x7, x8])
 (letm (decide ((UInt64.toNat a1 : Int) < (UInt64.toNat 65536 : Int))) fun x9 =>
 cond x9 (letm ((toU8 (bits .or .u8 (UInt8.toNat x2) (UInt8.toNat 25)))) fun x10 =>
 bnd ((shrK .u64 (a1 : UInt64) (UInt64.toNat 8 : Int) : Option UInt64)) fun (x11 : UInt64) =>
 letm ((toU8 (UInt64.toNat x11 : Int))) fun x12 =>
 letm ((toU8 (UInt64.toNat a1 : Int))) fun x13 =>
 some [x10, x12, x13])
 (letm (decide ((UInt64.toNat a1 : Int) < (UInt64.toNat 4294967296 : Int))) fun x14 =>
 cond x14 (letm ((toU8 (bits .or .u8 (UInt8.toNat x2) (UInt8.toNat 26)))) fun x15 =>
 bnd ((shrK .u64 (a1 : UInt64) (UInt64.toNat 24 : Int) : Option UInt64)) fun (x16 : UInt64) =>
 letm ((toU8 (UInt64.toNat x16 : Int))) fun x17 =>
 bnd ((shrK .u64 (a1 : UInt64) (UInt64.toNat 16 : Int) : Option UInt64)) fun (x18 : UInt64) =>
 letm ((toU8 (UInt64.toNat x18 : Int))) fun x19 =>
 bnd ((shrK .u64 (a1 : UInt64) (UInt64.toNat 8 : Int) : Option UInt64)) fun (x20 : UInt64) =>
 letm ((toU8 (UInt64.toNat x20 : Int))) fun x21 =>
 letm ((toU8 (UInt64.toNat a1 : Int))) fun x22 =>
 some [x15, x17, x19, x21, x22])
 (letm ((toU8 (bits .or .u8 (UInt8.toNat x2) (UInt8.toNat 27)))) fun x23 =>
 loopF (R := (List UInt8)) (S := ((List UInt8) × Int)) (fun self25 s24 =>
 letm (decide (0 ≤ s24.2)) fun x26 =>
 cond x26 (bnd ((shrK .u64 (a1 : UInt64) s24.2 : Option UInt64)) fun (x27 : UInt64) =>
 letm ((toU8 (UInt64.toNat x27 : Int))) fun x28 =>
 bnd (app s24.1 [x28]) fun x29 =>
 letm ((w64 (s24.2 - 8))) fun x30 =>
 self25 (x29, x30))
 (some s24.1)) FUEL ([x23], 56)))))
def m_cbor_checker_spend (a0 : S_cbor_checker) (a1 : Go.Gk.Tr) : Option (Bool × S_cbor_checker) :=
 bnd (β := S_cbor_checker) (letm ((a1.k == 8)) fun x2 =>
 cond x2 (bnd (m_cbor_float a1.n) fun x3 =>
 letm ((w64 (a0.2 + (x3.length : Int)))) fun x4 =>
 some (a0.1, x4))
 (letm ((a1.k == 7)) fun x5 =>
 cond x5 (letm ((w64 (a0.2 + 1))) fun x6 =>
 letm (decide ((UInt64.toNat 24 : Int) ≤ (UInt64.toNat a1.n : Int))) fun x7 =>
 cond x7 (letm ((w64 (x6 + 1))) fun x8 =>
 some (a0.1, x8))
 (some (a0.1, x6)))
 (bnd (m_cbor_major a1) fun x9 =>
 bnd (m_cbor_head x9.1 x9.2) fun x10 =>
 letm ((w64 ((x10.length : Int) + (a1.b.length : Int)))) fun x11 =>
 letm ((w64 (a0.2 + x11))) fun x12 =>
 some (a0.1, x12)))) fun v13 =>
 letm (decide (v13.2 ≤ 4096)) fun x14 =>
 some (x14, v13)
def b_cbor_add_o (m_cbor_add_o : ((List UInt8)) → (Go.Gk.Tr) → Option (List UInt8)) (a0 : (List UInt8)) (a1 : Go.Gk.Tr) : Option (List UInt8) :=
 letm ((a1.k == 8)) fun x2 =>
 cond x2 (bnd (m_cbor_float a1.n) fun x3 =>
 bnd (app a0 x3) fun x4 =>
 some x4)
 (bnd (β := Bool) (letm ((a1.k == 7)) fun x5 =>
 cond x5 (letm (decide ((UInt64.toNat 24 : Int) ≤ (UInt64.toNat a1.n : Int))) fun x6 =>
 some x6)
 (some false)) fun v7 =>
 cond v7 (letm ((toU8 (UInt64.toNat a1.n : Int))) fun x8 =>
 bnd (app a0 [248, x8]) fun x9 =>
 some x9)
 (bnd (m_cbor_major a1) fun x10 =>
 bnd (m_cbor_head x10.1 x10.2) fun x11 =>
 bnd (app a0 x11) fun x12 =>
 bnd (app x12 a1.b) fun x13 =>
 loopL (R := (List UInt8)) (S := (List UInt8)) (α := Go.Gk.Tr) (fun _ s15 =>
 some s15)
 (fun x16 _ s18 self19 =>
 bnd (m_cbor_add_o s18 x16) fun x20 =>
 self19 x20) a1.l 0 x13))
def n_cbor_add_o (n : Nat) : ((List UInt8)) → (Go.Gk.Tr) → Option (List UInt8) := Nat.rec (motive := fun _ => ((List UInt8)) → (Go.Gk.Tr) → Option (List UInt8)) (fun _ _ => none) (fun _ ih => b_cbor_add_o ih) n
def m_cbor_add_o (a0 : (List UInt8)) (a1 : Go.Gk.Tr) : Option (List UInt8) := n_cbor_add_o 40 a0 a1
def m_cbor_add (a0 : (List UInt8)) (a1 : Go.Gk.Tr) : Option (List UInt8) :=
 letm ((a1.k == 8)) fun x2 =>
 cond x2 (bnd (m_cbor_float a1.n) fun x3 =>
 bnd (app a0 x3) fun x4 =>
 some x4)
 (bnd (β := Bool) (letm ((a1.k == 7)) fun x5 =>
 cond x5 (letm (decide ((UInt64.toNat 24 : Int) ≤ (UInt64.toNat a1.n : Int))) fun x6 =>
 some x6)
 (some false)) fun v7 =>
 cond v7 (letm ((toU8 (UInt64.toNat a1.n : Int))) fun x8 =>
 bnd (app a0 [248, x8]) fun x9 =>
 some x9)
 (bnd (m_cbor_major a1) fun x10 =>
 bnd (m_cbor_head x10.1 x10.2) fun x11 =>
 bnd (app a0 x11) fun x12 =>
 bnd (app x12 a1.b) fun x13 =>
 loopL (R := (List UInt8)) (S := (List UInt8)) (α := Go.Gk.Tr) (fun _ s15 =>
 some s15)
 (fun x16 _ s18 self19 =>
 bnd (m_cbor_add_o s18 x16) fun x20 =>
 self19 x20) a1.l 0 x13))
def m_bytes_Compare (a0 a1 : List UInt8) : Option Int := some (Lib.compareBytes a0 a1)
def m_cbor_ascending (a0 : (List Go.Gk.Tr)) : Option Bool :=
 loopF (R := Bool) (S := Int) (fun self2 s1 =>
 letm (decide (s1 < (a0.length : Int))) fun x3 =>
 cond x3 (letm ((w64 (s1 - 2))) fun x4 =>
 bnd (idx a0 x4) fun x5 =>
 bnd (m_cbor_add [] x5) fun x6 =>
 bnd (idx a0 s1) fun x7 =>
 bnd (m_cbor_add [] x7) fun x8 =>
 bnd (m_bytes_Compare x6 x8) fun x9 =>
 letm (decide (0 ≤ x9)) fun x10 =>
 cond x10 (some false)
 (letm ((w64 (s1 + 2))) fun x11 =>
 self2 x11))
 (some true)) FUEL 2
def b_cbor_checker_item (m_cbor_checker_item : (S_cbor_checker) → (Go.Gk.Tr) → (Int) → Option (Bool × S_cbor_checker)) (a0 : S_cbor_checker) (a1 : Go.Gk.Tr) (a2 : Int) : Option (Bool × S_cbor_checker) :=
 letm ((w64 (a0.1 + 1))) fun x3 =>
 bnd (β := Bool) (letm (decide (256 < x3)) fun x4 =>
 cond x4 (some true)
 (letm (decide (4096 < (a1.b.length : Int))) fun x5 =>
 cond x5 (some true)
 (letm (decide (256 < (a1.l.length : Int))) fun x6 =>
 some x6))) fun v7 =>
 cond v7 (some (false, (x3, a0.2)))
 (bnd (m_cbor_plain a1) fun x8 =>
 cond x8.2 (bnd (β := (Bool × S_cbor_checker)) (cond x8.1 (bnd (m_cbor_checker_spend (x3, a0.2) a1) fun x9 =>
 some (x9.1, x9.2))
 (some (false, (x3, a0.2)))) fun v10 =>
 some (v10.1, v10.2))
 (bnd (β := Bool) (letm (decide (a1.k < 4)) fun x11 =>
 cond x11 (some true)
 (letm (decide (6 < a1.k)) fun x12 =>
 cond x12 (some true)
 (letm (decide (8 ≤ a2)) fun x13 =>
 cond x13 (some true)
 (letm (decide (0 < (a1.b.length : Int))) fun x14 =>
 some x14)))) fun v15 =>
 cond v15 (some (false, (x3, a0.2)))
 (bnd (β := Bool) (letm ((a1.k == 6)) fun x16 =>
 cond x16 (letm (((a1.l.length : Int) != 1)) fun x17 =>
 cond x17 (some true)
 (letm ((a1.k != 6)) fun x18 =>
 cond x18 (letm (((UInt64.toNat a1.n : Int) != (UInt64.toNat 0 : Int))) fun x19 =>
 cond x19 (some true)
 (letm ((a1.k == 5)) fun x20 =>
 cond x20 (bnd (Gk.rem (a1.l.length : Int) 2) fun x21 =>
 letm ((x21 == 1)) fun x22 =>
 some x22)
 (some false)))
 (letm ((a1.k == 5)) fun x23 =>
 cond x23 (bnd (Gk.rem (a1.l.length : Int) 2) fun x24 =>
 letm ((x24 == 1)) fun x25 =>
 some x25)
 (some false))))
 (letm ((a1.k != 6)) fun x26 =>
 cond x26 (letm (((UInt64.toNat a1.n : Int) != (UInt64.toNat 0 : Int))) fun x27 =>
 cond x27 (some true)
 (letm ((a1.k == 5)) fun x28 =>
 cond x28 (bnd (Gk.rem (a1.l.length : Int) 2) fun x29 =>
 letm ((x29 == 1)) fun x30 =>
 some x30)
 (some false)))
 (letm ((a1.k == 5)) fun x31 =>
 cond x31 (bnd (Gk.rem (a1.l.length : Int) 2) fun x32 =>
 letm ((x32 == 1)) fun x33 =>
 some x33)
 (some false)))) fun v34 =>
 cond v34 (some (false, (x3, a0.2)))
 (bnd (m_cbor_checker_spend (x3, a0.2) a1) fun x35 =>
 letm ((!x35.1)) fun x36 =>
 cond x36 (some (false, x35.2))
 (loopL (R := (Bool × S_cbor_checker)) (S := S_cbor_checker) (α := Go.Gk.Tr) (fun _ s38 =>
 bnd (β := Bool) (letm ((a1.k != 5)) fun x39 =>
 cond x39 (some true)
 (bnd (m_cbor_ascending a1.l) fun x40 =>
 some x40)) fun v41 =>
 some (v41, s38))
 (fun x42 _ s44 self45 =>
 letm ((w64 (a2 + 1))) fun x46 =>
 bnd (m_cbor_checker_item s44 x42 x46) fun x47 =>
 letm ((!x47.1)) fun x48 =>
 cond x48 (some (false, x47.2))
 (self45 x47.2)) a1.l 0 x35.2)))))
def n_cbor_checker_item (n : Nat) : (S_cbor_checker) → (Go.Gk.Tr) → (Int) → Option (Bool × S_cbor_checker) := Nat.rec (motive := fun _ => (S_cbor_checker) → (Go.Gk.Tr) → (Int) → Option (Bool × S_cbor_checker)) (fun _ _ _ => none) (fun _ ih => b_cbor_checker_item ih) n
def m_cbor_checker_item (a0 : S_cbor_checker) (a1 : Go.Gk.Tr) (a2 : Int) : Option (Bool × S_cbor_checker) := n_cbor_checker_item 40 a0 a1 a2
def m_cbor_Valid (a0 : Go.Gk.Tr) : Option Bool :=
 bnd (m_cbor_checker_item (0, 0) a0 0) fun x1 =>
 some x1.1
def m_internal_strconv_AppendUint_o (a0 : List UInt8) (a1 : UInt64) (a2 : Int) : Option (List UInt8) := bif a2 == 10 then app a0 (Lib.decDigits a1.toNat) else none
def m_internal_strconv_AppendUint (a0 : List UInt8) (a1 : UInt64) (a2 : Int) : Option (List UInt8) := m_internal_strconv_AppendUint_o a0 a1 a2
def m_strconv_AppendUint (a0 : (List UInt8)) (a1 : UInt64) (a2 : Int) : Option (List UInt8) :=
 bnd (m_internal_strconv_AppendUint a0 a1 a2) fun x3 =>
 some x3
def m_strconv_AppendUint_o (a0 : (List UInt8)) (a1 : UInt64) (a2 : Int) : Option (List UInt8) :=
 bnd (m_internal_strconv_AppendUint_o a0 a1 a2) fun x3 =>
 some x3
def m_diag_hexed (a0 : (List UInt8)) (a1 : (List UInt8)) : Option (List UInt8) :=
 loopL (R := (List UInt8)) (S := (List UInt8)) (α := UInt8) (fun _ s3 =>
 some s3)
 (fun x4 _ s6 self7 =>
 bnd (shrK .u8 x4 (UInt64.toNat 4 : Int)) fun x8 =>
 bnd (idx [48, 49, 50, 51, 52, 53, 54, 55, 56, 57, 97, 98, 99, 100, 101, 102] (UInt8.toNat x8 : Int)) fun x9 =>
 letm ((toU8 (bits .and .u8 (UInt8.toNat x4) (UInt8.toNat 15)))) fun x10 =>
 bnd (idx [48, 49, 50, 51, 52, 53, 54, 55, 56, 57, 97, 98, 99, 100, 101, 102] (UInt8.toNat x10 : Int)) fun x11 =>
 bnd (app s6 [x9, x11]) fun x12 =>
 self7 x12) a1 0 a0
def m_diag_hexed_o (a0 : (List UInt8)) (a1 : (List UInt8)) : Option (List UInt8) :=
 loopL (R := (List UInt8)) (S := (List UInt8)) (α := UInt8) (fun _ s3 =>
 some s3)
 (fun x4 _ s6 self7 =>
 bnd (shrK .u8 x4 (UInt64.toNat 4 : Int)) fun x8 =>
 bnd (idx [48, 49, 50, 51, 52, 53, 54, 55, 56, 57, 97, 98, 99, 100, 101, 102] (UInt8.toNat x8 : Int)) fun x9 =>
 letm ((toU8 (bits .and .u8 (UInt8.toNat x4) (UInt8.toNat 15)))) fun x10 =>
 bnd (idx [48, 49, 50, 51, 52, 53, 54, 55, 56, 57, 97, 98, 99, 100, 101, 102] (UInt8.toNat x10 : Int)) fun x11 =>
 bnd (app s6 [x9, x11]) fun x12 =>
 self7 x12) a1 0 a0
def m_diag_quoted (a0 : (List UInt8)) (a1 : (List UInt8)) : Option (List UInt8) :=
 bnd (app a0 [34]) fun x2 =>
 loopL (R := (List UInt8)) (S := (List UInt8)) (α := UInt8) (fun _ s4 =>
 bnd (app s4 [34]) fun x5 =>
 some x5)
 (fun x6 _ s8 self9 =>
 bnd (β := (List UInt8)) (bnd (β := Bool) (letm (((UInt8.toNat x6 : Int) == (UInt8.toNat 34 : Int))) fun x10 =>
 cond x10 (some true)
 (letm (((UInt8.toNat x6 : Int) == (UInt8.toNat 92 : Int))) fun x11 =>
 some x11)) fun v12 =>
 cond v12 (bnd (app s8 [92, x6]) fun x13 =>
 some x13)
 (bnd (β := Bool) (letm (decide ((UInt8.toNat x6 : Int) < (UInt8.toNat 32 : Int))) fun x14 =>
 cond x14 (some true)
 (letm (((UInt8.toNat x6 : Int) == (UInt8.toNat 127 : Int))) fun x15 =>
 some x15)) fun v16 =>
 cond v16 (bnd (shrK .u8 x6 (UInt64.toNat 4 : Int)) fun x17 =>
 bnd (idx [48, 49, 50, 51, 52, 53, 54, 55, 56, 57, 97, 98, 99, 100, 101, 102] (UInt8.toNat x17 : Int)) fun x18 =>
 letm ((toU8 (bits .and .u8 (UInt8.toNat x6) (UInt8.toNat 15)))) fun x19 =>
 bnd (idx [48, 49, 50, 51, 52, 53, 54, 55, 56, 57, 97, 98, 99, 100, 101, 102] (UInt8.toNat x19 : Int)) fun x20 =>
 bnd (app s8 [92, 117, 48, 48, x18, x20]) fun x21 =>
 some x21)
 (bnd (app s8 [x6]) fun x22 =>
 some x22))) fun v23 =>
 self9 v23) a1 0 x2
def m_diag_quoted_o (a0 : (List UInt8)) (a1 : (List UInt8)) : Option (List UInt8) :=
 bnd (app a0 [34]) fun x2 =>
 loopL (R := (List UInt8)) (S := (List UInt8)) (α := UInt8) (fun _ s4 =>
 bnd (app s4 [34]) fun x5 =>
 some x5)
 (fun x6 _ s8 self9 =>
 bnd (β := (List UInt8)) (bnd (β := Bool) (letm (((UInt8.toNat x6 : Int) == (UInt8.toNat 34 : Int))) fun x10 =>
 cond x10 (some true)
 (letm (((UInt8.toNat x6 : Int) == (UInt8.toNat 92 : Int))) fun x11 =>
 some x11)) fun v12 =>
 cond v12 (bnd (app s8 [92, x6]) fun x13 =>
 some x13)
 (bnd (β := Bool) (letm (decide ((UInt8.toNat x6 : Int) < (UInt8.toNat 32 : Int))) fun x14 =>
 cond x14 (some true)
 (letm (((UInt8.toNat x6 : Int) == (UInt8.toNat 127 : Int))) fun x15 =>
 some x15)) fun v16 =>
 cond v16 (bnd (shrK .u8 x6 (UInt64.toNat 4 : Int)) fun x17 =>
 bnd (idx [48, 49, 50, 51, 52, 53, 54, 55, 56, 57, 97, 98, 99, 100, 101, 102] (UInt8.toNat x17 : Int)) fun x18 =>
 letm ((toU8 (bits .and .u8 (UInt8.toNat x6) (UInt8.toNat 15)))) fun x19 =>
 bnd (idx [48, 49, 50, 51, 52, 53, 54, 55, 56, 57, 97, 98, 99, 100, 101, 102] (UInt8.toNat x19 : Int)) fun x20 =>
 bnd (app s8 [92, 117, 48, 48, x18, x20]) fun x21 =>
 some x21)
 (bnd (app s8 [x6]) fun x22 =>
 some x22))) fun v23 =>
 self9 v23) a1 0 x2
def b_diag_put_o (m_diag_put_o : ((List UInt8)) → (Go.Gk.Tr) → Option (List UInt8)) (a0 : (List UInt8)) (a1 : Go.Gk.Tr) : Option (List UInt8) :=
 letm ((a1.k == 0)) fun x2 =>
 cond x2 (bnd (m_strconv_AppendUint_o a0 a1.n 10) fun x3 =>
 some x3)
 (letm ((a1.k == 1)) fun x4 =>
 cond x4 (letm (((UInt64.toNat a1.n : Int) == (UInt64.toNat 18446744073709551615 : Int))) fun x5 =>
 cond x5 (bnd (app a0 [45, 49, 56, 52, 52, 54, 55, 52, 52, 48, 55, 51, 55, 48, 57, 53, 53, 49, 54, 49, 54]) fun x6 =>
 some x6)
 (bnd (app a0 [45]) fun x7 =>
 letm ((a1.n + 1)) fun x8 =>
 bnd (m_strconv_AppendUint_o x7 x8 10) fun x9 =>
 some x9))
 (letm ((a1.k == 2)) fun x10 =>
 cond x10 (bnd (app a0 [104, 39]) fun x11 =>
 bnd (m_diag_hexed_o x11 a1.b) fun x12 =>
 bnd (app x12 [39]) fun x13 =>
 some x13)
 (letm ((a1.k == 3)) fun x14 =>
 cond x14 (bnd (m_diag_quoted_o a0 a1.b) fun x15 =>
 some x15)
 (letm ((a1.k == 6)) fun x16 =>
 cond x16 (bnd (m_strconv_AppendUint_o a0 a1.n 10) fun x17 =>
 bnd (app x17 [40]) fun x18 =>
 bnd (idx a1.l 0) fun x19 =>
 bnd (m_diag_put_o x18 x19) fun x20 =>
 bnd (app x20 [41]) fun x21 =>
 some x21)
 (letm ((a1.k == 7)) fun x22 =>
 cond x22 (bnd (β := Bool) (letm (decide ((UInt64.toNat 20 : Int) ≤ (UInt64.toNat a1.n : Int))) fun x23 =>
 cond x23 (letm (decide ((UInt64.toNat a1.n : Int) < (UInt64.toNat 24 : Int))) fun x24 =>
 some x24)
 (some false)) fun v25 =>
 cond v25 (letm ((a1.n - 20)) fun x26 =>
 bnd (idx [[102, 97, 108, 115, 101], [116, 114, 117, 101], [110, 117, 108, 108], [117, 110, 100, 101, 102, 105, 110, 101, 100]] (UInt64.toNat x26 : Int)) fun x27 =>
 bnd (app a0 x27) fun x28 =>
 some x28)
 (bnd (app a0 [115, 105, 109, 112, 108, 101, 40]) fun x29 =>
 bnd (m_strconv_AppendUint_o x29 a1.n 10) fun x30 =>
 bnd (app x30 [41]) fun x31 =>
 some x31))
 (letm ((a1.k == 8)) fun x32 =>
 cond x32 (bnd (app a0 [102, 108, 111, 97, 116, 39]) fun x33 =>
 loopF (R := (List UInt8)) (S := ((List UInt8) × Int)) (fun self35 s34 =>
 letm (decide (0 ≤ s34.2)) fun x36 =>
 cond x36 (bnd ((shrK .u64 (a1.n : UInt64) s34.2 : Option UInt64)) fun (x37 : UInt64) =>
 letm ((bitK .and .u64 (x37 : UInt64) (15 : UInt64) : UInt64)) fun x38 =>
 bnd (idx [48, 49, 50, 51, 52, 53, 54, 55, 56, 57, 97, 98, 99, 100, 101, 102] (UInt64.toNat x38 : Int)) fun x39 =>
 bnd (app s34.1 [x39]) fun x40 =>
 letm ((w64 (s34.2 - 4))) fun x41 =>
 self35 (x40, x41))
 (bnd (app s34.1 [39]) fun x42 =>
 some x42)) FUEL (x33, 60))
 (bnd (β := (UInt8 × UInt8)) (letm ((a1.k == 5)) fun x43 =>
 cond x43 (some (123, 125))
 (some (91, 93))) fun v44 =>
 bnd (app a0 [v44.1]) fun x45 =>
 loopL (R := (List UInt8)) (S := (List UInt8)) (α := Go.Gk.Tr) (fun _ s47 =>
 bnd (app s47 [v44.2]) fun x48 =>
 some x48)
 (fun x49 k50 s51 self52 =>
 bnd (β := (List UInt8)) (bnd (β := Bool) (letm ((a1.k == 5)) fun x53 =>
 cond x53 (bnd (Gk.rem (k50 : Int) 2) fun x54 =>
 letm ((x54 == 1)) fun x55 =>
 some x55)
 (some false)) fun v56 =>
 cond v56 (bnd (app s51 [58, 32]) fun x57 =>
 some x57)
 (letm (decide (0 < (k50 : Int))) fun x58 =>
 cond x58 (bnd (app s51 [44, 32]) fun x59 =>
 some x59)
 (some s51))) fun v60 =>
 bnd (m_diag_put_o v60 x49) fun x61 =>
 self52 x61) a1.l 0 x45)))))))
def n_diag_put_o (n : Nat) : ((List UInt8)) → (Go.Gk.Tr) → Option (List UInt8) := Nat.rec (motive := fun _ => ((List UInt8)) → (Go.Gk.Tr) → Option (List UInt8)) (fun _ _ => none) (fun _ ih => b_diag_put_o ih) n
def m_diag_put_o (a0 : (List UInt8)) (a1 : Go.Gk.Tr) : Option (List UInt8) := n_diag_put_o 40 a0 a1
def m_diag_put (a0 : (List UInt8)) (a1 : Go.Gk.Tr) : Option (List UInt8) :=
 letm ((a1.k == 0)) fun x2 =>
 cond x2 (bnd (m_strconv_AppendUint_o a0 a1.n 10) fun x3 =>
 some x3)
 (letm ((a1.k == 1)) fun x4 =>
 cond x4 (letm (((UInt64.toNat a1.n : Int) == (UInt64.toNat 18446744073709551615 : Int))) fun x5 =>
 cond x5 (bnd (app a0 [45, 49, 56, 52, 52, 54, 55, 52, 52, 48, 55, 51, 55, 48, 57, 53, 53, 49, 54, 49, 54]) fun x6 =>
 some x6)
 (bnd (app a0 [45]) fun x7 =>
 letm ((a1.n + 1)) fun x8 =>
 bnd (m_strconv_AppendUint_o x7 x8 10) fun x9 =>
 some x9))
 (letm ((a1.k == 2)) fun x10 =>
 cond x10 (bnd (app a0 [104, 39]) fun x11 =>
 bnd (m_diag_hexed_o x11 a1.b) fun x12 =>
 bnd (app x12 [39]) fun x13 =>
 some x13)
 (letm ((a1.k == 3)) fun x14 =>
 cond x14 (bnd (m_diag_quoted a0 a1.b) fun x15 =>
 some x15)
 (letm ((a1.k == 6)) fun x16 =>
 cond x16 (bnd (m_strconv_AppendUint_o a0 a1.n 10) fun x17 =>
 bnd (app x17 [40]) fun x18 =>
 bnd (idx a1.l 0) fun x19 =>
 bnd (m_diag_put_o x18 x19) fun x20 =>
 bnd (app x20 [41]) fun x21 =>
 some x21)
 (letm ((a1.k == 7)) fun x22 =>
 cond x22 (bnd (β := Bool) (letm (decide ((UInt64.toNat 20 : Int) ≤ (UInt64.toNat a1.n : Int))) fun x23 =>
 cond x23 (letm (decide ((UInt64.toNat a1.n : Int) < (UInt64.toNat 24 : Int))) fun x24 =>
 some x24)
 (some false)) fun v25 =>
 cond v25 (letm ((a1.n - 20)) fun x26 =>
 bnd (idx [[102, 97, 108, 115, 101], [116, 114, 117, 101], [110, 117, 108, 108], [117, 110, 100, 101, 102, 105, 110, 101, 100]] (UInt64.toNat x26 : Int)) fun x27 =>
 bnd (app a0 x27) fun x28 =>
 some x28)
 (bnd (app a0 [115, 105, 109, 112, 108, 101, 40]) fun x29 =>
 bnd (m_strconv_AppendUint_o x29 a1.n 10) fun x30 =>
 bnd (app x30 [41]) fun x31 =>
 some x31))
 (letm ((a1.k == 8)) fun x32 =>
 cond x32 (bnd (app a0 [102, 108, 111, 97, 116, 39]) fun x33 =>
 loopF (R := (List UInt8)) (S := ((List UInt8) × Int)) (fun self35 s34 =>
 letm (decide (0 ≤ s34.2)) fun x36 =>
 cond x36 (bnd ((shrK .u64 (a1.n : UInt64) s34.2 : Option UInt64)) fun (x37 : UInt64) =>
 letm ((bitK .and .u64 (x37 : UInt64) (15 : UInt64) : UInt64)) fun x38 =>
 bnd (idx [48, 49, 50, 51, 52, 53, 54, 55, 56, 57, 97, 98, 99, 100, 101, 102] (UInt64.toNat x38 : Int)) fun x39 =>
 bnd (app s34.1 [x39]) fun x40 =>
 letm ((w64 (s34.2 - 4))) fun x41 =>
 self35 (x40, x41))
 (bnd (app s34.1 [39]) fun x42 =>
 some x42)) FUEL (x33, 60))
 (bnd (β := (UInt8 × UInt8)) (letm ((a1.k == 5)) fun x43 =>
 cond x43 (some (123, 125))
 (some (91, 93))) fun v44 =>
 bnd (app a0 [v44.1]) fun x45 =>
 loopL (R := (List UInt8)) (S := (List UInt8)) (α := Go.Gk.Tr) (fun _ s47 =>
 bnd (app s47 [v44.2]) fun x48 =>
 some x48)
 (fun x49 k50 s51 self52 =>
 bnd (β := (List UInt8)) (bnd (β := Bool) (letm ((a1.k == 5)) fun x53 =>
 cond x53 (bnd (Gk.rem (k50 : Int) 2) fun x54 =>
 letm ((x54 == 1)) fun x55 =>
 some x55)
 (some false)) fun v56 =>
 cond v56 (bnd (app s51 [58, 32]) fun x57 =>
 some x57)
 (letm (decide (0 < (k50 : Int))) fun x58 =>
 cond x58 (bnd (app s51 [44, 32]) fun x59 =>
 some x59)
 (some s51))) fun v60 =>
 bnd (m_diag_put_o v60 x49) fun x61 =>
 self52 x61) a1.l 0 x45)))))))
def m_diag_Print (a0 : Go.Gk.Tr) : Option ((List UInt8) × Int) :=
 bnd (m_cbor_Valid a0) fun x1 =>
 letm ((!x1)) fun x2 =>
 cond x2 (some ([], 1))
 (bnd (m_diag_put [] a0) fun x3 =>
 some (x3, 0))
def m_coresecref03_decimal (a0 : UInt64) : Option (List UInt8) :=
 bnd (β := (UInt64 × (List UInt8))) (loopF (R := (UInt64 × (List UInt8))) (S := (UInt64 × (List UInt8))) (fun self2 s1 =>
 letm (decide ((UInt64.toNat 9 : Int) < (UInt64.toNat s1.1 : Int))) fun x3 =>
 cond x3 (bnd ((remK .u64 (s1.1 : UInt64) (10 : UInt64) : Option UInt64)) fun (x4 : UInt64) =>
 letm ((x4 + 1)) fun x5 =>
 bnd (Gk.cut [48, 49, 50, 51, 52, 53, 54, 55, 56, 57, 97, 98, 99, 100, 101, 102] (UInt64.toNat x4 : Int) (UInt64.toNat x5 : Int)) fun x6 =>
 bnd (app x6 s1.2) fun x7 =>
 bnd ((quoK .u64 (s1.1 : UInt64) (10 : UInt64) : Option UInt64)) fun (x8 : UInt64) =>
 self2 (x8, x7))
 (some (s1.1, s1.2))) FUEL (a0, [])) fun v9 =>
 letm ((v9.1 + 1)) fun x10 =>
 bnd (Gk.cut [48, 49, 50, 51, 52, 53, 54, 55, 56, 57, 97, 98, 99, 100, 101, 102] (UInt64.toNat v9.1 : Int) (UInt64.toNat x10 : Int)) fun x11 =>
 bnd (app x11 v9.2) fun x12 =>
 some x12
def m_coresecref03_Hex (a0 : (List UInt8)) : Option (List UInt8) :=
 loopL (R := (List UInt8)) (S := (List UInt8)) (α := UInt8) (fun _ s2 =>
 some s2)
 (fun x3 _ s5 self6 =>
 bnd (shrK .u8 x3 (UInt64.toNat 4 : Int)) fun x7 =>
 bnd (idx [48, 49, 50, 51, 52, 53, 54, 55, 56, 57, 97, 98, 99, 100, 101, 102] (UInt8.toNat x7 : Int)) fun x8 =>
 letm ((toU8 (bits .and .u8 (UInt8.toNat x3) (UInt8.toNat 15)))) fun x9 =>
 bnd (idx [48, 49, 50, 51, 52, 53, 54, 55, 56, 57, 97, 98, 99, 100, 101, 102] (UInt8.toNat x9 : Int)) fun x10 =>
 bnd (app s5 [x8, x10]) fun x11 =>
 self6 x11) a0 0 []
def m_coresecref03_quoted (a0 : (List UInt8)) : Option (List UInt8) :=
 loopL (R := (List UInt8)) (S := (List UInt8)) (α := UInt8) (fun _ s2 =>
 bnd (app s2 [34]) fun x3 =>
 some x3)
 (fun x4 _ s6 self7 =>
 bnd (β := (List UInt8)) (bnd (β := Bool) (letm (((UInt8.toNat x4 : Int) == (UInt8.toNat 34 : Int))) fun x8 =>
 cond x8 (some true)
 (letm (((UInt8.toNat x4 : Int) == (UInt8.toNat 92 : Int))) fun x9 =>
 some x9)) fun v10 =>
 cond v10 (bnd (app s6 [92, x4]) fun x11 =>
 some x11)
 (bnd (β := Bool) (letm (decide ((UInt8.toNat x4 : Int) < (UInt8.toNat 32 : Int))) fun x12 =>
 cond x12 (some true)
 (letm (((UInt8.toNat x4 : Int) == (UInt8.toNat 127 : Int))) fun x13 =>
 some x13)) fun v14 =>
 cond v14 (bnd (shrK .u8 x4 (UInt64.toNat 4 : Int)) fun x15 =>
 bnd (idx [48, 49, 50, 51, 52, 53, 54, 55, 56, 57, 97, 98, 99, 100, 101, 102] (UInt8.toNat x15 : Int)) fun x16 =>
 letm ((toU8 (bits .and .u8 (UInt8.toNat x4) (UInt8.toNat 15)))) fun x17 =>
 bnd (idx [48, 49, 50, 51, 52, 53, 54, 55, 56, 57, 97, 98, 99, 100, 101, 102] (UInt8.toNat x17 : Int)) fun x18 =>
 bnd (app s6 [92, 117, 48, 48, x16, x18]) fun x19 =>
 some x19)
 (bnd (app s6 [x4]) fun x20 =>
 some x20))) fun v21 =>
 self7 v21) a0 0 [34]
def m_coresecref03_pattern (a0 : UInt64) : Option (List UInt8) :=
 loopF (R := (List UInt8)) (S := ((List UInt8) × Int)) (fun self2 s1 =>
 letm (decide (0 ≤ s1.2)) fun x3 =>
 cond x3 (letm ((toU64 s1.2)) fun x4 =>
 letm ((8 * x4)) fun x5 =>
 bnd ((shrK .u64 (a0 : UInt64) (UInt64.toNat x5 : Int) : Option UInt64)) fun (x6 : UInt64) =>
 letm ((toU8 (UInt64.toNat x6 : Int))) fun x7 =>
 bnd (app s1.1 [x7]) fun x8 =>
 letm ((w64 (s1.2 - 1))) fun x9 =>
 self2 (x8, x9))
 (bnd (m_coresecref03_Hex s1.1) fun x10 =>
 some x10)) FUEL ([], 7)
def b_coresecref03_text (m_coresecref03_text : (Go.Gk.Tr) → Option (List UInt8)) (a0 : Go.Gk.Tr) : Option (List UInt8) :=
 letm ((a0.k == 0)) fun x1 =>
 cond x1 (bnd (m_coresecref03_decimal a0.n) fun x2 =>
 some x2)
 (letm ((a0.k == 1)) fun x3 =>
 cond x3 (letm (((UInt64.toNat a0.n : Int) == (UInt64.toNat 18446744073709551615 : Int))) fun x4 =>
 cond x4 (some [45, 49, 56, 52, 52, 54, 55, 52, 52, 48, 55, 51, 55, 48, 57, 53, 53, 49, 54, 49, 54])
 (letm ((a0.n + 1)) fun x5 =>
 bnd (m_coresecref03_decimal x5) fun x6 =>
 bnd (app [45] x6) fun x7 =>
 some x7))
 (letm ((a0.k == 2)) fun x8 =>
 cond x8 (bnd (m_coresecref03_Hex a0.b) fun x9 =>
 bnd (app [104, 39] x9) fun x10 =>
 bnd (app x10 [39]) fun x11 =>
 some x11)
 (letm ((a0.k == 3)) fun x12 =>
 cond x12 (bnd (m_coresecref03_quoted a0.b) fun x13 =>
 some x13)
 (letm ((a0.k == 6)) fun x14 =>
 cond x14 (bnd (m_coresecref03_decimal a0.n) fun x15 =>
 bnd (app x15 [40]) fun x16 =>
 bnd (idx a0.l 0) fun x17 =>
 bnd (m_coresecref03_text x17) fun x18 =>
 bnd (app x16 x18) fun x19 =>
 bnd (app x19 [41]) fun x20 =>
 some x20)
 (letm ((a0.k == 7)) fun x21 =>
 cond x21 (bnd (β := Bool) (letm (decide ((UInt64.toNat 20 : Int) ≤ (UInt64.toNat a0.n : Int))) fun x22 =>
 cond x22 (letm (decide ((UInt64.toNat a0.n : Int) < (UInt64.toNat 24 : Int))) fun x23 =>
 some x23)
 (some false)) fun v24 =>
 cond v24 (letm ((a0.n - 20)) fun x25 =>
 bnd (idx [[102, 97, 108, 115, 101], [116, 114, 117, 101], [110, 117, 108, 108], [117, 110, 100, 101, 102, 105, 110, 101, 100]] (UInt64.toNat x25 : Int)) fun x26 =>
 some x26)
 (bnd (m_coresecref03_decimal a0.n) fun x27 =>
 bnd (app [115, 105, 109, 112, 108, 101, 40] x27) fun x28 =>
 bnd (app x28 [41]) fun x29 =>
 some x29))
 (letm ((a0.k == 8)) fun x30 =>
 cond x30 (bnd (m_coresecref03_pattern a0.n) fun x31 =>
 bnd (app [102, 108, 111, 97, 116, 39] x31) fun x32 =>
 bnd (app x32 [39]) fun x33 =>
 some x33)
 (bnd (β := ((List UInt8) × (List UInt8))) (letm ((a0.k == 5)) fun x34 =>
 cond x34 (some ([123], [125]))
 (some ([91], [93]))) fun v35 =>
 loopL (R := (List UInt8)) (S := (List UInt8)) (α := Go.Gk.Tr) (fun _ s37 =>
 bnd (app s37 v35.2) fun x38 =>
 some x38)
 (fun x39 k40 s41 self42 =>
 bnd (β := (List UInt8)) (bnd (β := Bool) (letm (decide (0 < (k40 : Int))) fun x43 =>
 cond x43 (letm ((a0.k == 5)) fun x44 =>
 cond x44 (bnd (Gk.rem (k40 : Int) 2) fun x45 =>
 letm ((x45 == 1)) fun x46 =>
 some x46)
 (some false))
 (some false)) fun v47 =>
 cond v47 (bnd (app s41 [58, 32]) fun x48 =>
 some x48)
 (letm (decide (0 < (k40 : Int))) fun x49 =>
 cond x49 (bnd (app s41 [44, 32]) fun x50 =>
 some x50)
 (some s41))) fun v51 =>
 bnd (m_coresecref03_text x39) fun x52 =>
 bnd (app v51 x52) fun x53 =>
 self42 x53) a0.l 0 v35.1)))))))
def n_coresecref03_text (n : Nat) : (Go.Gk.Tr) → Option (List UInt8) := Nat.rec (motive := fun _ => (Go.Gk.Tr) → Option (List UInt8)) (fun _ => none) (fun _ ih => b_coresecref03_text ih) n
def m_coresecref03_text (a0 : Go.Gk.Tr) : Option (List UInt8) := n_coresecref03_text 40 a0
def m_coresecref03_Print (a0 : Go.Gk.Tr) : Option ((List UInt8) × Int) :=
 bnd (m_coresecref01_Valid a0) fun x1 =>
 letm ((!x1)) fun x2 =>
 cond x2 (some ([], 1))
 (bnd (m_coresecref03_text a0) fun x3 =>
 some (x3, 0))
def m_internal_stringslite_HasPrefix (a0 : (List UInt8)) (a1 : (List UInt8)) : Option Bool :=
 bnd (β := Bool) (letm (decide ((a1.length : Int) ≤ (a0.length : Int))) fun x2 =>
 cond x2 (bnd (Gk.cut a0 0 (a1.length : Int)) fun x3 =>
 letm ((x3 == a1)) fun x4 =>
 some x4)
 (some false)) fun v5 =>
 some v5
def m_internal_stringslite_CutPrefix (a0 : (List UInt8)) (a1 : (List UInt8)) : Option ((List UInt8) × Bool) :=
 bnd (m_internal_stringslite_HasPrefix a0 a1) fun x2 =>
 letm ((!x2)) fun x3 =>
 cond x3 (some (a0, false))
 (bnd (Gk.cut a0 (a1.length : Int) (a0.length : Int)) fun x4 =>
 some (x4, true))
def m_strings_CutPrefix (a0 : (List UInt8)) (a1 : (List UInt8)) : Option ((List UInt8) × Bool) :=
 bnd (m_internal_stringslite_CutPrefix a0 a1) fun x2 =>
 some (x2.1, x2.2)
def m_diag_parser_skip (a0 : S_diag_parser) (a1 : (List UInt8)) : Option (Bool × S_diag_parser) :=
 bnd (m_strings_CutPrefix a0.1 a1) fun x2 =>
 bnd (β := S_diag_parser) (cond x2.2 (some (x2.1, a0.2))
 (some a0)) fun v3 =>
 some (x2.2, v3)
def m_internal_stringslite_Index (a0 a1 : List UInt8) : Option Int := match a1 with
 | [c] => some (Lib.indexByte a0 c)
 | _ => none
def m_internal_stringslite_Cut (a0 : (List UInt8)) (a1 : (List UInt8)) : Option ((List UInt8) × ((List UInt8) × Bool)) :=
 bnd (m_internal_stringslite_Index a0 a1) fun x2 =>
 letm (decide (0 ≤ x2)) fun x3 =>
 cond x3 (bnd (Gk.cut a0 0 x2) fun x4 =>
 letm ((w64 (x2 + (a1.length : Int)))) fun x5 =>
 bnd (Gk.cut a0 x5 (a0.length : Int)) fun x6 =>
 some (x4, (x6, true)))
 (some (a0, ([], false)))
def m_strings_Cut (a0 : (List UInt8)) (a1 : (List UInt8)) : Option ((List UInt8) × ((List UInt8) × Bool)) :=
 bnd (m_internal_stringslite_Cut a0 a1) fun x2 =>
 some (x2.1, (x2.2.1, x2.2.2))
def m_strings_Trim (a0 a1 : List UInt8) : Option (List UInt8) := bif decide (a0.length ≤ 4294967280) && decide (a1.length ≤ 4294967280) && a1.all (fun b => decide (b.toNat < 128)) then some (Lib.trimS a0 a1) else none
def m_diag_parser_digits (a0 : S_diag_parser) : Option ((List UInt8) × S_diag_parser) :=
 bnd (m_strings_Cut a0.1 [39]) fun x1 =>
 bnd (β := S_diag_parser) (cond a0.2.2 (some (a0.1, (a0.2.1, true)))
 (letm ((!x1.2.2)) fun x2 =>
 cond x2 (some (a0.1, (a0.2.1, true)))
 (bnd (m_strings_Trim x1.1 [48, 49, 50, 51, 52, 53, 54, 55, 56, 57, 97, 98, 99, 100, 101, 102]) fun x3 =>
 letm ((x3 != [])) fun x4 =>
 some (a0.1, (a0.2.1, x4))))) fun v5 =>
 some (x1.1, (x1.2.1, v5.2))
def m_strings_IndexByte (a0 : List UInt8) (a1 : UInt8) : Option Int := some (Lib.indexByte a0 a1)
def m_diag_nibble (a0 : UInt8) : Option UInt8 :=
 bnd (m_strings_IndexByte [48, 49, 50, 51, 52, 53, 54, 55, 56, 57, 97, 98, 99, 100, 101, 102] a0) fun x1 =>
 letm ((max 0 x1)) fun x2 =>
 letm ((toU8 x2)) fun x3 =>
 some x3
def m_diag_parser_bytes (a0 : S_diag_parser) : Option ((List UInt8) × S_diag_parser) :=
 bnd (m_diag_parser_digits a0) fun x1 =>
 bnd (β := Bool) (cond x1.2.2.2 (some true)
 (bnd (Gk.rem (x1.1.length : Int) 2) fun x2 =>
 letm ((x2 == 1)) fun x3 =>
 some x3)) fun v4 =>
 cond v4 (some ([], (x1.2.1, (x1.2.2.1, true))))
 (loopF (R := ((List UInt8) × S_diag_parser)) (S := ((List UInt8) × Int)) (fun self6 s5 =>
 letm (decide (s5.2 < (x1.1.length : Int))) fun x7 =>
 cond x7 (bnd (idx x1.1 s5.2) fun x8 =>
 bnd (m_diag_nibble x8) fun x9 =>
 bnd (shlK .u8 x9 (UInt64.toNat 4 : Int)) fun x10 =>
 letm ((w64 (s5.2 + 1))) fun x11 =>
 bnd (idx x1.1 x11) fun x12 =>
 bnd (m_diag_nibble x12) fun x13 =>
 letm ((toU8 (bits .or .u8 (UInt8.toNat x10) (UInt8.toNat x13)))) fun x14 =>
 bnd (app s5.1 [x14]) fun x15 =>
 letm ((w64 (s5.2 + 2))) fun x16 =>
 self6 (x15, x16))
 (some (s5.1, x1.2))) FUEL ([], 0))
def m_diag_parser_text (a0 : S_diag_parser) : Option ((List UInt8) × S_diag_parser) :=
 bndS (ρ := ((List UInt8) × S_diag_parser)) (ρ' := ((List UInt8) × S_diag_parser)) (Y := S_diag_parser) (loopF (R := (((List UInt8) × S_diag_parser) ⊕ S_diag_parser)) (S := ((List UInt8) × S_diag_parser)) (fun self2 s1 =>
 letm (decide (0 < (s1.2.1.length : Int))) fun x3 =>
 cond x3 (bnd (idx s1.2.1 0) fun x4 =>
 bnd (Gk.cut s1.2.1 1 (s1.2.1.length : Int)) fun x5 =>
 letm (((UInt8.toNat x4 : Int) == (UInt8.toNat 34 : Int))) fun x6 =>
 cond x6 (some (.inl (s1.1, (x5, s1.2.2))))
 (bnd (β := Bool) (letm (decide ((UInt8.toNat x4 : Int) < (UInt8.toNat 32 : Int))) fun x7 =>
 cond x7 (some true)
 (letm (((UInt8.toNat x4 : Int) == (UInt8.toNat 127 : Int))) fun x8 =>
 some x8)) fun v9 =>
 cond v9 (some (.inl ([], (x5, (s1.2.2.1, true)))))
 (letm (((UInt8.toNat x4 : Int) != (UInt8.toNat 92 : Int))) fun x10 =>
 cond x10 (bnd (app s1.1 [x4]) fun x11 =>
 self2 (x11, (x5, s1.2.2)))
 (bnd (m_diag_parser_skip (x5, s1.2.2) [34]) fun x12 =>
 cond x12.1 (bnd (app s1.1 [34]) fun x13 =>
 self2 (x13, x12.2))
 (bnd (m_diag_parser_skip x12.2 [92]) fun x14 =>
 cond x14.1 (bnd (app s1.1 [92]) fun x15 =>
 self2 (x15, x14.2))
 (bnd (β := (Bool × S_diag_parser)) (bnd (m_diag_parser_skip x14.2 [117, 48, 48]) fun x16 =>
 cond x16.1 (letm (decide (2 ≤ (x16.2.1.length : Int))) fun x17 =>
 cond x17 (bnd (Gk.cut x16.2.1 0 2) fun x18 =>
 bnd (m_strings_Trim x18 [48, 49, 50, 51, 52, 53, 54, 55, 56, 57, 97, 98, 99, 100, 101, 102]) fun x19 =>
 letm ((x19 == [])) fun x20 =>
 some (x20, x16.2))
 (some (false, x16.2)))
 (some (false, x16.2))) fun v21 =>
 cond v21.1 (bnd (idx v21.2.1 0) fun x22 =>
 bnd (m_diag_nibble x22) fun x23 =>
 bnd (shlK .u8 x23 (UInt64.toNat 4 : Int)) fun x24 =>
 bnd (idx v21.2.1 1) fun x25 =>
 bnd (m_diag_nibble x25) fun x26 =>
 letm ((toU8 (bits .or .u8 (UInt8.toNat x24) (UInt8.toNat x26)))) fun x27 =>
 bnd (β := S_diag_parser) (cond v21.2.2.2 (some (v21.2.1, (v21.2.2.1, true)))
 (letm (decide ((UInt8.toNat 32 : Int) ≤ (UInt8.toNat x27 : Int))) fun x28 =>
 cond x28 (letm (((UInt8.toNat x27 : Int) != (UInt8.toNat 127 : Int))) fun x29 =>
 some (v21.2.1, (v21.2.2.1, x29)))
 (some (v21.2.1, (v21.2.2.1, false))))) fun v30 =>
 bnd (app s1.1 [x27]) fun x31 =>
 bnd (Gk.cut v30.1 2 (v30.1.length : Int)) fun x32 =>
 self2 (x31, (x32, v30.2)))
 (some (.inl ([], (v21.2.1, (v21.2.2.1, true)))))))))))
 (some (.inr s1.2))) FUEL ([], a0)) (fun q => q) fun v33 =>
 some ([], (v33.1, (v33.2.1, true)))
def m_diag_parser_need (a0 : S_diag_parser) (a1 : (List UInt8)) : Option S_diag_parser :=
 cond a0.2.2 (some (a0.1, (a0.2.1, true)))
 (bnd (m_diag_parser_skip a0 a1) fun x2 =>
 letm ((!x2.1)) fun x3 =>
 some (x2.2.1, (x2.2.2.1, x3)))
def puRes : Lib.NumEnd Nat → UInt64 × Bool
 | .ok n => (UInt64.ofNat n, false)
 | .syntax => (0, true)
 | .range => (18446744073709551615, true)
def m_strconv_ParseUint (a0 : List UInt8) (a1 a2 : Int) : Option (UInt64 × Bool) :=
 bif decide (a0.length ≤ 281474976710656) && a2 == 64 then (bif a1 == 10 then some (puRes (Lib.parseUintB 64 a0)) else bif a1 == 16 then some (puRes (Gk.parseHexA a0)) else none) else none
def m_diag_parser_number (a0 : S_diag_parser) : Option (UInt64 × S_diag_parser) :=
 bnd (β := Int) (loopF (R := Int) (S := Int) (fun self2 s1 =>
 bnd (β := Bool) (letm (decide (s1 < (a0.1.length : Int))) fun x3 =>
 cond x3 (bnd (idx a0.1 s1) fun x4 =>
 letm (decide ((UInt8.toNat 48 : Int) ≤ (UInt8.toNat x4 : Int))) fun x5 =>
 cond x5 (bnd (idx a0.1 s1) fun x6 =>
 letm (decide ((UInt8.toNat x6 : Int) ≤ (UInt8.toNat 57 : Int))) fun x7 =>
 some x7)
 (some false))
 (some false)) fun v8 =>
 cond v8 (letm ((w64 (s1 + 1))) fun x9 =>
 self2 x9)
 (some s1)) FUEL 0) fun v10 =>
 bnd (Gk.cut a0.1 0 v10) fun x11 =>
 bnd (m_strconv_ParseUint x11 10 64) fun x12 =>
 bnd (β := S_diag_parser) (cond a0.2.2 (some (a0.1, (a0.2.1, true)))
 (letm (x12.2) fun x13 =>
 cond x13 (some (a0.1, (a0.2.1, true)))
 (letm (decide (1 < v10)) fun x14 =>
 cond x14 (bnd (idx a0.1 0) fun x15 =>
 letm (((UInt8.toNat x15 : Int) == (UInt8.toNat 48 : Int))) fun x16 =>
 some (a0.1, (a0.2.1, x16)))
 (some (a0.1, (a0.2.1, false)))))) fun v17 =>
 bnd (Gk.cut v17.1 v10 (v17.1.length : Int)) fun x18 =>
 some (x12.1, (x18, v17.2))
def b_diag_parser_list (m_diag_parser_item : (S_diag_parser) → (Int) → Option (Go.Gk.Tr × S_diag_parser)) (a0 : S_diag_parser) (a1 : (List UInt8)) (a2 : Bool) (a3 : Int) : Option ((List Go.Gk.Tr) × S_diag_parser) :=
 bnd (β := ((List Go.Gk.Tr) × S_diag_parser)) (loopF (R := ((List Go.Gk.Tr) × S_diag_parser)) (S := ((List Go.Gk.Tr) × S_diag_parser)) (fun self5 s4 =>
 bnd (β := (Bool × S_diag_parser)) (letm ((!s4.2.2.2)) fun x6 =>
 cond x6 (bnd (m_diag_parser_skip s4.2 a1) fun x7 =>
 letm ((!x7.1)) fun x8 =>
 some (x8, x7.2))
 (some (false, s4.2))) fun v9 =>
 cond v9.1 (bnd (β := S_diag_parser) (letm (decide (0 < (s4.1.length : Int))) fun x10 =>
 cond x10 (bnd (m_diag_parser_need v9.2 [44, 32]) fun x11 =>
 some x11)
 (some v9.2)) fun v12 =>
 bnd (m_diag_parser_item v12 a3) fun x13 =>
 bnd (app s4.1 [x13.1]) fun x14 =>
 cond a2 (bnd (m_diag_parser_need x13.2 [58, 32]) fun x15 =>
 bnd (m_diag_parser_item x15 a3) fun x16 =>
 bnd (app x14 [x16.1]) fun x17 =>
 self5 (x17, x16.2))
 (self5 (x14, x13.2)))
 (some (s4.1, v9.2))) FUEL ([], a0)) fun v18 =>
 some (v18.1, v18.2)
def b_diag_parser_item (m_diag_parser_item : (S_diag_parser) → (Int) → Option (Go.Gk.Tr × S_diag_parser)) (a0 : S_diag_parser) (a1 : Int) : Option (Go.Gk.Tr × S_diag_parser) :=
 letm ((w64 (a0.2.1 + 1))) fun x2 =>
 bnd (β := Bool) (cond a0.2.2 (some true)
 (letm (decide (256 < x2)) fun x3 =>
 cond x3 (some true)
 (letm (decide (8 < a1)) fun x4 =>
 some x4))) fun v5 =>
 cond v5 (some ((Tr.mk 0 0 [] []), (a0.1, (x2, true))))
 (bnd (m_diag_parser_skip (a0.1, (x2, a0.2.2)) [104, 39]) fun x6 =>
 cond x6.1 (bnd (m_diag_parser_bytes x6.2) fun x7 =>
 some ((Tr.mk 2 0 x7.1 []), x7.2))
 (bnd (m_diag_parser_skip x6.2 [34]) fun x8 =>
 cond x8.1 (bnd (m_diag_parser_text x8.2) fun x9 =>
 some ((Tr.mk 3 0 x9.1 []), x9.2))
 (bnd (m_diag_parser_skip x8.2 [91]) fun x10 =>
 cond x10.1 (letm ((w64 (a1 + 1))) fun x11 =>
 bnd (b_diag_parser_list m_diag_parser_item x10.2 [93] false x11) fun x12 =>
 some ((Tr.mk 4 0 [] x12.1), x12.2))
 (bnd (m_diag_parser_skip x10.2 [123]) fun x13 =>
 cond x13.1 (letm ((w64 (a1 + 1))) fun x14 =>
 bnd (b_diag_parser_list m_diag_parser_item x13.2 [125] true x14) fun x15 =>
 some ((Tr.mk 5 0 [] x15.1), x15.2))
 (bnd (m_diag_parser_skip x13.2 [115, 105, 109, 112, 108, 101, 40]) fun x16 =>
 cond x16.1 (bnd (m_diag_parser_number x16.2) fun x17 =>
 bnd (m_diag_parser_need x17.2 [41]) fun x18 =>
 some ((Tr.mk 7 x17.1 [] []), x18))
 (bnd (m_diag_parser_skip x16.2 [102, 108, 111, 97, 116, 39]) fun x19 =>
 cond x19.1 (bnd (m_diag_parser_digits x19.2) fun x20 =>
 bnd (m_strconv_ParseUint x20.1 16 64) fun x21 =>
 bnd (β := S_diag_parser) (cond x20.2.2.2 (some (x20.2.1, (x20.2.2.1, true)))
 (letm (x21.2) fun x22 =>
 cond x22 (some (x20.2.1, (x20.2.2.1, true)))
 (letm (((x20.1.length : Int) != 16)) fun x23 =>
 some (x20.2.1, (x20.2.2.1, x23))))) fun v24 =>
 some ((Tr.mk 8 x21.1 [] []), v24))
 (bnd (m_diag_parser_skip x19.2 [45]) fun x25 =>
 cond x25.1 (bnd (m_diag_parser_skip x25.2 [49, 56, 52, 52, 54, 55, 52, 52, 48, 55, 51, 55, 48, 57, 53, 53, 49, 54, 49, 54]) fun x26 =>
 cond x26.1 (some ((Tr.mk 1 18446744073709551615 [] []), x26.2))
 (bnd (m_diag_parser_number x26.2) fun x27 =>
 bnd (β := S_diag_parser) (cond x27.2.2.2 (some (x27.2.1, (x27.2.2.1, true)))
 (letm (((UInt64.toNat x27.1 : Int) == (UInt64.toNat 0 : Int))) fun x28 =>
 some (x27.2.1, (x27.2.2.1, x28)))) fun v29 =>
 letm ((x27.1 - 1)) fun x30 =>
 some ((Tr.mk 1 x30 [] []), v29)))
 (loopF (R := (Go.Gk.Tr × S_diag_parser)) (S := (Int × (S_diag_parser × Go.Gk.Tr))) (fun self32 s31 =>
 letm (decide (s31.1 < 4)) fun x33 =>
 cond x33 (bnd (idx [[102, 97, 108, 115, 101], [116, 114, 117, 101], [110, 117, 108, 108], [117, 110, 100, 101, 102, 105, 110, 101, 100]] s31.1) fun x34 =>
 bnd (m_diag_parser_skip s31.2.1 x34) fun x35 =>
 cond x35.1 (letm ((w64 (20 + s31.1))) fun x36 =>
 letm ((toU64 x36)) fun x37 =>
 some ((Tr.mk 7 x37 [] []), x35.2))
 (letm ((w64 (s31.1 + 1))) fun x38 =>
 self32 (x38, (x35.2, s31.2.2))))
 (bnd (m_diag_parser_number s31.2.1) fun x39 =>
 bnd (m_diag_parser_skip x39.2 [40]) fun x40 =>
 letm ((!x40.1)) fun x41 =>
 cond x41 (some ((Tr.mk 0 x39.1 [] []), x40.2))
 (letm ((w64 (a1 + 1))) fun x42 =>
 bnd (m_diag_parser_item x40.2 x42) fun x43 =>
 bnd (m_diag_parser_need x43.2 [41]) fun x44 =>
 some ((Tr.mk 6 x39.1 [] [x43.1]), x44)))) FUEL (0, (x25.2, (Tr.mk 0 0 [] [])))))))))))
def n_diag_parser_item (n : Nat) : (S_diag_parser) → (Int) → Option (Go.Gk.Tr × S_diag_parser) := Nat.rec (motive := fun _ => (S_diag_parser) → (Int) → Option (Go.Gk.Tr × S_diag_parser)) (fun _ _ => none) (fun _ ih => b_diag_parser_item ih) n
def m_diag_parser_item (a0 : S_diag_parser) (a1 : Int) : Option (Go.Gk.Tr × S_diag_parser) := n_diag_parser_item 40 a0 a1
def m_diag_parser_list (a0 : S_diag_parser) (a1 : (List UInt8)) (a2 : Bool) (a3 : Int) : Option ((List Go.Gk.Tr) × S_diag_parser) := b_diag_parser_list (n_diag_parser_item 40) a0 a1 a2 a3
def m_diag_Parse (a0 : (List UInt8)) : Option (Go.Gk.Tr × Int) :=
 bnd (m_diag_parser_item (a0, (0, false)) 0) fun x1 =>
 bnd (β := Bool) (cond x1.2.2.2 (some true)
 (letm ((x1.2.1 != [])) fun x2 =>
 cond x2 (some true)
 (bnd (m_cbor_Valid x1.1) fun x3 =>
 letm ((!x3)) fun x4 =>
 some x4))) fun v5 =>
 cond v5 (some ((Tr.mk 0 0 [] []), 17))
 (bnd (m_diag_put [] x1.1) fun x6 =>
 letm ((x6 != a0)) fun x7 =>
 cond x7 (some ((Tr.mk 0 0 [] []), 17))
 (some (x1.1, 0)))
def m_coreseclaw03_awake : Option Bool :=
 bnd (m_diag_Print (Tr.mk 6 24 [] [(Tr.mk 2 0 [] [])])) fun x0 =>
 bnd (m_diag_Parse [123, 49, 58, 32, 104, 39, 48, 97, 102, 102, 39, 44, 32, 45, 51, 58, 32, 116, 114, 117, 101, 125]) fun x1 =>
 bnd (m_diag_Parse [123, 50, 58, 32, 48, 44, 32, 49, 58, 32, 48, 125]) fun x2 =>
 bnd (β := Bool) (letm ((x0.1 == [50, 52, 40, 104, 39, 39, 41])) fun x3 =>
 cond x3 (letm ((x0.2 == 0)) fun x4 =>
 cond x4 (letm ((x1.2 == 0)) fun x5 =>
 cond x5 (letm (((x1.1.l.length : Int) == 4)) fun x6 =>
 cond x6 (bnd (idx x1.1.l 2) fun x7 =>
 letm (((UInt64.toNat x7.n : Int) == (UInt64.toNat 2 : Int))) fun x8 =>
 cond x8 (letm ((x2.2 == 17)) fun x9 =>
 some x9)
 (some false))
 (some false))
 (some false))
 (some false))
 (some false)) fun v10 =>
 some v10
def m_coreseclaw03_DiagPrints (a0 : Go.Gk.Tr) (a1 : (List Int)) : Option Bool :=
 bnd (m_coresecmake_New a1) fun x2 =>
 bnd (m_coresecmake_Deck_Item x2 4) fun x3 =>
 loopL (R := Bool) (S := Unit) (α := Go.Gk.Tr) (fun _ _ =>
 bnd (m_coreseclaw03_awake ) fun x6 =>
 some x6)
 (fun x7 _ _ self10 =>
 bnd (m_diag_Print x7) fun x11 =>
 bnd (m_coresecref03_Print x7) fun x12 =>
 bnd (β := Bool) (letm ((x11.1 != x12.1)) fun x13 =>
 cond x13 (some true)
 (letm ((x11.2 != x12.2)) fun x14 =>
 some x14)) fun v15 =>
 cond v15 (some false)
 (self10 ())) [a0, x3.1] 0 ()
def m_coresecmake_Spoilt (a0 : (List UInt8)) (a1 : Int) (a2 : Int) : Option (List UInt8) :=
 bnd (app [] a0) fun x3 =>
 letm (((x3.length : Int) == 0)) fun x4 =>
 cond x4 (letm ((toU8 a2)) fun x5 =>
 some [x5])
 (bnd (m_coresecmake_Mod a1 (x3.length : Int)) fun x6 =>
 bnd (quo a2 256) fun x7 =>
 bnd (m_coresecmake_Mod x7 4) fun x8 =>
 letm ((x8 == 0)) fun x9 =>
 cond x9 (letm ((toU8 a2)) fun x10 =>
 bnd (idx x3 x6) fun _ =>
 bnd (idx x3 (((x6 : Int)).toNat : Int)) fun _ =>
 letm ((x3.set ((x6 : Int)).toNat x10)) fun x13 =>
 some x13)
 (letm ((x8 == 1)) fun x14 =>
 cond x14 (bnd (Gk.cut x3 0 x6) fun x15 =>
 letm ((w64 (x6 + 1))) fun x16 =>
 bnd (Gk.cut x3 x16 (x3.length : Int)) fun x17 =>
 bnd (app x15 x17) fun x18 =>
 some x18)
 (letm ((x8 == 2)) fun x19 =>
 cond x19 (bnd (Gk.cut x3 0 x6) fun x20 =>
 bnd (app [] x20) fun x21 =>
 letm ((toU8 a2)) fun x22 =>
 bnd (app x21 [x22]) fun x23 =>
 bnd (Gk.cut x3 x6 (x3.length : Int)) fun x24 =>
 bnd (app x23 x24) fun x25 =>
 some x25)
 (bnd (Gk.cut x3 0 x6) fun x26 =>
 some x26))))
def m_coresecref03_parser_take (a0 : S_diag_parser) (a1 : (List UInt8)) : Option (Bool × S_diag_parser) :=
 bnd (β := Bool) (letm ((w64 ((a0.1.length : Int) - a0.2.1))) fun x2 =>
 letm (decide (x2 < (a1.length : Int))) fun x3 =>
 cond x3 (some true)
 (letm ((w64 (a0.2.1 + (a1.length : Int)))) fun x4 =>
 bnd (Gk.cut a0.1 a0.2.1 x4) fun x5 =>
 letm ((x5 != a1)) fun x6 =>
 some x6)) fun v7 =>
 cond v7 (some (false, a0))
 (letm ((w64 (a0.2.1 + (a1.length : Int)))) fun x8 =>
 some (true, (a0.1, (x8, a0.2.2))))
def m_coresecref03_parser_until (a0 : S_diag_parser) (a1 : UInt8) : Option ((List UInt8) × S_diag_parser) :=
 loopF (R := ((List UInt8) × S_diag_parser)) (S := (Int × S_diag_parser)) (fun self3 s2 =>
 letm (decide (s2.1 < (s2.2.1.length : Int))) fun x4 =>
 cond x4 (bnd (idx s2.2.1 s2.1) fun x5 =>
 letm (((UInt8.toNat x5 : Int) == (UInt8.toNat a1 : Int))) fun x6 =>
 cond x6 (bnd (Gk.cut s2.2.1 s2.2.2.1 s2.1) fun x7 =>
 letm ((w64 (s2.1 + 1))) fun x8 =>
 some (x7, (s2.2.1, (x8, s2.2.2.2))))
 (letm ((w64 (s2.1 + 1))) fun x9 =>
 self3 (x9, s2.2)))
 (some ([], (s2.2.1, (s2.2.2.1, true))))) FUEL (a0.2.1, a0)
def m_coresecref03_digit (a0 : UInt8) : Option Int :=
 loopF (R := Int) (S := Int) (fun self2 s1 =>
 letm (decide (s1 < 16)) fun x3 =>
 cond x3 (bnd (idx [48, 49, 50, 51, 52, 53, 54, 55, 56, 57, 97, 98, 99, 100, 101, 102] s1) fun x4 =>
 letm (((UInt8.toNat x4 : Int) == (UInt8.toNat a0 : Int))) fun x5 =>
 cond x5 (some s1)
 (letm ((w64 (s1 + 1))) fun x6 =>
 self2 x6))
 (some (-1))) FUEL 0
def m_coresecref03_parser_bytes (a0 : S_diag_parser) (a1 : (List UInt8)) : Option ((List UInt8) × S_diag_parser) :=
 loopF (R := ((List UInt8) × S_diag_parser)) (S := ((List UInt8) × (Int × S_diag_parser))) (fun self3 s2 =>
 letm ((w64 (s2.2.1 + 1))) fun x4 =>
 letm (decide (x4 < (a1.length : Int))) fun x5 =>
 cond x5 (bnd (idx a1 s2.2.1) fun x6 =>
 bnd (m_coresecref03_digit x6) fun x7 =>
 letm ((w64 (s2.2.1 + 1))) fun x8 =>
 bnd (idx a1 x8) fun x9 =>
 bnd (m_coresecref03_digit x9) fun x10 =>
 bnd (β := Bool) (letm (decide (x7 < 0)) fun x11 =>
 cond x11 (some true)
 (letm (decide (x10 < 0)) fun x12 =>
 some x12)) fun v13 =>
 cond v13 (some ([], (s2.2.2.1, (s2.2.2.2.1, true))))
 (letm ((w64 (16 * x7))) fun x14 =>
 letm ((w64 (x14 + x10))) fun x15 =>
 letm ((toU8 x15)) fun x16 =>
 bnd (app s2.1 [x16]) fun x17 =>
 letm ((w64 (s2.2.1 + 2))) fun x18 =>
 self3 (x17, (x18, s2.2.2))))
 (some (s2.1, s2.2.2))) FUEL ([], (0, a0))
def m_coresecref03_parser_quoted (a0 : S_diag_parser) : Option ((List UInt8) × S_diag_parser) :=
 bnd (β := ((List UInt8) × S_diag_parser)) (loopF (R := ((List UInt8) × S_diag_parser)) (S := ((List UInt8) × S_diag_parser)) (fun self2 s1 =>
 bnd (β := Bool) (letm (decide (s1.2.2.1 < (s1.2.1.length : Int))) fun x3 =>
 cond x3 (bnd (idx s1.2.1 s1.2.2.1) fun x4 =>
 letm (((UInt8.toNat x4 : Int) != (UInt8.toNat 34 : Int))) fun x5 =>
 some x5)
 (some false)) fun v6 =>
 cond v6 (bnd (idx s1.2.1 s1.2.2.1) fun x7 =>
 letm ((w64 (s1.2.2.1 + 1))) fun x8 =>
 letm (((UInt8.toNat x7 : Int) != (UInt8.toNat 92 : Int))) fun x9 =>
 cond x9 (bnd (app s1.1 [x7]) fun x10 =>
 self2 (x10, (s1.2.1, (x8, s1.2.2.2))))
 (bnd (m_coresecref03_parser_take (s1.2.1, (x8, s1.2.2.2)) [117, 48, 48]) fun x11 =>
 cond x11.1 (letm ((w64 ((x11.2.1.length : Int) - x11.2.2.1))) fun x12 =>
 letm (decide (x12 < 2)) fun x13 =>
 cond x13 (some (s1.1, x11.2))
 (letm ((w64 (x11.2.2.1 + 2))) fun x14 =>
 bnd (Gk.cut x11.2.1 x11.2.2.1 x14) fun x15 =>
 bnd (m_coresecref03_parser_bytes x11.2 x15) fun x16 =>
 bnd (app s1.1 x16.1) fun x17 =>
 letm ((w64 (x16.2.2.1 + 2))) fun x18 =>
 self2 (x17, (x16.2.1, (x18, x16.2.2.2)))))
 (letm (decide (x11.2.2.1 < (x11.2.1.length : Int))) fun x19 =>
 cond x19 (bnd (idx x11.2.1 x11.2.2.1) fun x20 =>
 bnd (app s1.1 [x20]) fun x21 =>
 letm ((w64 (x11.2.2.1 + 1))) fun x22 =>
 self2 (x21, (x11.2.1, (x22, x11.2.2.2))))
 (self2 (s1.1, x11.2)))))
 (some (s1.1, s1.2))) FUEL ([], a0)) fun v23 =>
 bnd (β := S_diag_parser) (cond v23.2.2.2 (some (v23.2.1, (v23.2.2.1, true)))
 (bnd (m_coresecref03_parser_take v23.2 [34]) fun x24 =>
 letm ((!x24.1)) fun x25 =>
 some (x24.2.1, (x24.2.2.1, x25)))) fun v26 =>
 some (v23.1, v26)
def m_coresecref03_parser_number (a0 : S_diag_parser) : Option (UInt64 × S_diag_parser) :=
 bnd (β := (UInt64 × S_diag_parser)) (loopF (R := (UInt64 × S_diag_parser)) (S := (UInt64 × S_diag_parser)) (fun self2 s1 =>
 bnd (β := Bool) (letm (decide (s1.2.2.1 < (s1.2.1.length : Int))) fun x3 =>
 cond x3 (bnd (idx s1.2.1 s1.2.2.1) fun x4 =>
 letm (decide ((UInt8.toNat 48 : Int) ≤ (UInt8.toNat x4 : Int))) fun x5 =>
 cond x5 (bnd (idx s1.2.1 s1.2.2.1) fun x6 =>
 letm (decide ((UInt8.toNat x6 : Int) ≤ (UInt8.toNat 57 : Int))) fun x7 =>
 some x7)
 (some false))
 (some false)) fun v8 =>
 cond v8 (letm ((10 * s1.1)) fun x9 =>
 bnd (idx s1.2.1 s1.2.2.1) fun x10 =>
 letm ((x10 - 48)) fun x11 =>
 letm ((toU64 (UInt8.toNat x11 : Int))) fun x12 =>
 letm ((x9 + x12)) fun x13 =>
 letm ((w64 (s1.2.2.1 + 1))) fun x14 =>
 self2 (x13, (s1.2.1, (x14, s1.2.2.2))))
 (some (s1.1, s1.2))) FUEL (0, a0)) fun v15 =>
 bnd (β := S_diag_parser) (cond v15.2.2.2 (some (v15.2.1, (v15.2.2.1, true)))
 (letm ((v15.2.2.1 == a0.2.1)) fun x16 =>
 some (v15.2.1, (v15.2.2.1, x16)))) fun v17 =>
 some (v15.1, v17)
def b_coresecref03_parser_list (m_coresecref03_parser_item : (S_diag_parser) → (Int) → Option (Go.Gk.Tr × S_diag_parser)) (a0 : S_diag_parser) (a1 : Int) (a2 : (List UInt8)) (a3 : Int) : Option (Go.Gk.Tr × S_diag_parser) :=
 bnd (β := ((List Go.Gk.Tr) × S_diag_parser)) (loopF (R := ((List Go.Gk.Tr) × S_diag_parser)) (S := ((List Go.Gk.Tr) × S_diag_parser)) (fun self5 s4 =>
 bnd (β := (Bool × S_diag_parser)) (letm ((!s4.2.2.2)) fun x6 =>
 cond x6 (bnd (m_coresecref03_parser_take s4.2 a2) fun x7 =>
 letm ((!x7.1)) fun x8 =>
 some (x8, x7.2))
 (some (false, s4.2))) fun v9 =>
 cond v9.1 (bnd (β := (List UInt8)) (bnd (β := Bool) (letm ((a1 == 5)) fun x10 =>
 cond x10 (bnd (Gk.rem (s4.1.length : Int) 2) fun x11 =>
 letm ((x11 == 1)) fun x12 =>
 some x12)
 (some false)) fun v13 =>
 cond v13 (some [58, 32])
 (some [44, 32])) fun v14 =>
 bnd (β := (Bool × S_diag_parser)) (letm (decide (0 < (s4.1.length : Int))) fun x15 =>
 cond x15 (bnd (m_coresecref03_parser_take v9.2 v14) fun x16 =>
 letm ((!x16.1)) fun x17 =>
 cond x17 (some (true, x16.2))
 (letm (decide (256 < (s4.1.length : Int))) fun x18 =>
 some (x18, x16.2)))
 (letm (decide (256 < (s4.1.length : Int))) fun x19 =>
 some (x19, v9.2))) fun v20 =>
 cond v20.1 (some (s4.1, (v20.2.1, (v20.2.2.1, true))))
 (letm ((w64 (a3 + 1))) fun x21 =>
 bnd (m_coresecref03_parser_item v20.2 x21) fun x22 =>
 bnd (app s4.1 [x22.1]) fun x23 =>
 self5 (x23, x22.2)))
 (some (s4.1, v9.2))) FUEL ([], a0)) fun v24 =>
 some ((Tr.mk a1 0 [] v24.1), v24.2)
def b_coresecref03_parser_item (m_coresecref03_parser_item : (S_diag_parser) → (Int) → Option (Go.Gk.Tr × S_diag_parser)) (a0 : S_diag_parser) (a1 : Int) : Option (Go.Gk.Tr × S_diag_parser) :=
 bnd (β := S_diag_parser) (bnd (β := Bool) (letm (decide (9 < a1)) fun x2 =>
 cond x2 (some true)
 (letm (decide ((a0.1.length : Int) ≤ a0.2.1)) fun x3 =>
 some x3)) fun v4 =>
 cond v4 (some (a0.1, (a0.2.1, true)))
 (some a0)) fun v5 =>
 cond v5.2.2 (some ((Tr.mk 0 0 [] []), v5))
 (loopL (R := (Go.Gk.Tr × S_diag_parser)) (S := (S_diag_parser × Go.Gk.Tr)) (α := (List UInt8)) (fun _ s7 =>
 bnd (m_coresecref03_parser_take s7.1 [91]) fun x8 =>
 cond x8.1 (bnd (b_coresecref03_parser_list m_coresecref03_parser_item x8.2 4 [93] a1) fun x9 =>
 some (x9.1, x9.2))
 (bnd (m_coresecref03_parser_take x8.2 [123]) fun x10 =>
 cond x10.1 (bnd (b_coresecref03_parser_list m_coresecref03_parser_item x10.2 5 [125] a1) fun x11 =>
 some (x11.1, x11.2))
 (bnd (m_coresecref03_parser_take x10.2 [104, 39]) fun x12 =>
 cond x12.1 (bnd (m_coresecref03_parser_until x12.2 39) fun x13 =>
 bnd (m_coresecref03_parser_bytes x13.2 x13.1) fun x14 =>
 some ((Tr.mk 2 0 x14.1 []), x14.2))
 (bnd (m_coresecref03_parser_take x12.2 [34]) fun x15 =>
 cond x15.1 (bnd (m_coresecref03_parser_quoted x15.2) fun x16 =>
 some ((Tr.mk 3 0 x16.1 []), x16.2))
 (bnd (m_coresecref03_parser_take x15.2 [115, 105, 109, 112, 108, 101, 40]) fun x17 =>
 cond x17.1 (bnd (m_coresecref03_parser_number x17.2) fun x18 =>
 bnd (β := S_diag_parser) (cond x18.2.2.2 (some (x18.2.1, (x18.2.2.1, true)))
 (bnd (m_coresecref03_parser_take x18.2 [41]) fun x19 =>
 letm ((!x19.1)) fun x20 =>
 some (x19.2.1, (x19.2.2.1, x20)))) fun v21 =>
 some ((Tr.mk 7 x18.1 [] []), v21))
 (bnd (m_coresecref03_parser_take x17.2 [102, 108, 111, 97, 116, 39]) fun x22 =>
 cond x22.1 (bnd (m_coresecref03_parser_until x22.2 39) fun x23 =>
 bnd (m_coresecref03_parser_bytes x23.2 x23.1) fun x24 =>
 loopL (R := (Go.Gk.Tr × S_diag_parser)) (S := UInt64) (α := UInt8) (fun _ s26 =>
 some ((Tr.mk 8 s26 [] []), x24.2))
 (fun x27 _ s29 self30 =>
 bnd ((shlK .u64 (s29 : UInt64) (UInt64.toNat 8 : Int) : Option UInt64)) fun (x31 : UInt64) =>
 letm ((toU64 (UInt8.toNat x27 : Int))) fun x32 =>
 letm ((bitK .or .u64 (x31 : UInt64) (x32 : UInt64) : UInt64)) fun x33 =>
 self30 x33) x24.1 0 0)
 (bnd (m_coresecref03_parser_take x22.2 [45]) fun x34 =>
 cond x34.1 (bnd (m_coresecref03_parser_number x34.2) fun x35 =>
 letm ((x35.1 - 1)) fun x36 =>
 some ((Tr.mk 1 x36 [] []), x35.2))
 (bnd (m_coresecref03_parser_number x34.2) fun x37 =>
 bnd (m_coresecref03_parser_take x37.2 [40]) fun x38 =>
 letm ((!x38.1)) fun x39 =>
 cond x39 (some ((Tr.mk 0 x37.1 [] []), x38.2))
 (letm ((w64 (a1 + 1))) fun x40 =>
 bnd (m_coresecref03_parser_item x38.2 x40) fun x41 =>
 bnd (β := S_diag_parser) (cond x41.2.2.2 (some (x41.2.1, (x41.2.2.1, true)))
 (bnd (m_coresecref03_parser_take x41.2 [41]) fun x42 =>
 letm ((!x42.1)) fun x43 =>
 some (x42.2.1, (x42.2.2.1, x43)))) fun v44 =>
 some ((Tr.mk 6 x37.1 [] [x41.1]), v44))))))))))
 (fun x45 k46 s47 self48 =>
 bnd (m_coresecref03_parser_take s47.1 x45) fun x49 =>
 cond x49.1 (letm ((w64 (20 + (k46 : Int)))) fun x50 =>
 letm ((toU64 x50)) fun x51 =>
 some ((Tr.mk 7 x51 [] []), x49.2))
 (self48 (x49.2, s47.2))) [[102, 97, 108, 115, 101], [116, 114, 117, 101], [110, 117, 108, 108], [117, 110, 100, 101, 102, 105, 110, 101, 100]] 0 (v5, (Tr.mk 0 0 [] [])))
def n_coresecref03_parser_item (n : Nat) : (S_diag_parser) → (Int) → Option (Go.Gk.Tr × S_diag_parser) := Nat.rec (motive := fun _ => (S_diag_parser) → (Int) → Option (Go.Gk.Tr × S_diag_parser)) (fun _ _ => none) (fun _ ih => b_coresecref03_parser_item ih) n
def m_coresecref03_parser_item (a0 : S_diag_parser) (a1 : Int) : Option (Go.Gk.Tr × S_diag_parser) := n_coresecref03_parser_item 40 a0 a1
def m_coresecref03_parser_list (a0 : S_diag_parser) (a1 : Int) (a2 : (List UInt8)) (a3 : Int) : Option (Go.Gk.Tr × S_diag_parser) := b_coresecref03_parser_list (n_coresecref03_parser_item 40) a0 a1 a2 a3
def m_coresecref03_Parse (a0 : (List UInt8)) : Option (Go.Gk.Tr × Int) :=
 bnd (m_coresecref03_parser_item (a0, (0, false)) 0) fun x1 =>
 bnd (β := Bool) (cond x1.2.2.2 (some true)
 (letm (decide (x1.2.2.1 < (a0.length : Int))) fun x2 =>
 some x2)) fun v3 =>
 cond v3 (some ((Tr.mk 0 0 [] []), 17))
 (bnd (m_coresecref03_Print x1.1) fun x4 =>
 bnd (β := Bool) (letm ((x4.2 != 0)) fun x5 =>
 cond x5 (some true)
 (letm ((x4.1 != a0)) fun x6 =>
 some x6)) fun v7 =>
 cond v7 (some ((Tr.mk 0 0 [] []), 17))
 (some (x1.1, 0)))
def b_coresecref01_Same (m_coresecref01_Same : (Go.Gk.Tr) → (Go.Gk.Tr) → Option Bool) (a0 : Go.Gk.Tr) (a1 : Go.Gk.Tr) : Option Bool :=
 bnd (β := Bool) (letm ((a0.k != a1.k)) fun x2 =>
 cond x2 (some true)
 (letm (((UInt64.toNat a0.n : Int) != (UInt64.toNat a1.n : Int))) fun x3 =>
 cond x3 (some true)
 (bnd (m_coresecref01_Compare a0.b a1.b) fun x4 =>
 letm ((x4 != 0)) fun x5 =>
 cond x5 (some true)
 (letm (((a0.l.length : Int) != (a1.l.length : Int))) fun x6 =>
 some x6)))) fun v7 =>
 cond v7 (some false)
 (loopL (R := Bool) (S := Unit) (α := Go.Gk.Tr) (fun _ _ =>
 some true)
 (fun x10 k11 _ self13 =>
 bnd (idx a1.l (k11 : Int)) fun x14 =>
 bnd (m_coresecref01_Same x10 x14) fun x15 =>
 letm ((!x15)) fun x16 =>
 cond x16 (some false)
 (self13 ())) a0.l 0 ())
def n_coresecref01_Same (n : Nat) : (Go.Gk.Tr) → (Go.Gk.Tr) → Option Bool := Nat.rec (motive := fun _ => (Go.Gk.Tr) → (Go.Gk.Tr) → Option Bool) (fun _ _ => none) (fun _ ih => b_coresecref01_Same ih) n
def m_coresecref01_Same (a0 : Go.Gk.Tr) (a1 : Go.Gk.Tr) : Option Bool := n_coresecref01_Same 40 a0 a1
def m_coreseclaw03_DiagParses (a0 : (List UInt8)) (a1 : (List Int)) (a2 : Int) (a3 : Int) : Option Bool :=
 letm (decide (600 < (a0.length : Int))) fun x4 =>
 cond x4 (bnd (m_coreseclaw03_awake ) fun x5 =>
 some x5)
 (bnd (m_coresecmake_New a1) fun x6 =>
 bnd (m_coresecmake_Deck_Item x6 4) fun x7 =>
 bnd (m_coresecref03_Print x7.1) fun x8 =>
 bnd (app [] x8.1) fun x9 =>
 bnd (m_coresecmake_Spoilt x9 a2 a3) fun x10 =>
 bnd (app x8.1 a0) fun x11 =>
 loopL (R := Bool) (S := Unit) (α := (List UInt8)) (fun _ _ =>
 bnd (m_coreseclaw03_awake ) fun x14 =>
 some x14)
 (fun x15 _ _ self18 =>
 bnd (m_diag_Parse x15) fun x19 =>
 bnd (m_coresecref03_Parse x15) fun x20 =>
 bnd (β := Bool) (bnd (m_coresecref01_Same x19.1 x20.1) fun x21 =>
 letm ((!x21)) fun x22 =>
 cond x22 (some true)
 (letm ((x19.2 != x20.2)) fun x23 =>
 some x23)) fun v24 =>
 cond v24 (some false)
 (self18 ())) [a0, x8.1, x10, x11] 0 ())
def m_coreseclaw03_DiagShapes (a0 : Int) (a1 : (List Int)) : Option Bool :=
 bnd (m_coresecmake_New a1) fun x2 =>
 bnd (m_coresecmake_Deck_Item x2 2) fun x3 =>
 bnd (m_coresecref03_Print x3.1) fun x4 =>
 bnd (app [91] x4.1) fun x5 =>
 bnd (app [91] x4.1) fun x6 =>
 bnd (app x6 [44, 93]) fun x7 =>
 bnd (app [91] x4.1) fun x8 =>
 bnd (app x8 [44]) fun x9 =>
 bnd (app x9 x4.1) fun x10 =>
 bnd (app x10 [93]) fun x11 =>
 bnd (app [91] x4.1) fun x12 =>
 bnd (app x12 [44, 32]) fun x13 =>
 bnd (app x13 x4.1) fun x14 =>
 bnd (app x14 [93]) fun x15 =>
 bnd (app [123] x4.1) fun x16 =>
 bnd (app x16 [58, 32]) fun x17 =>
 bnd (app x17 x4.1) fun x18 =>
 bnd (app x18 [125]) fun x19 =>
 bnd (app [123] x4.1) fun x20 =>
 bnd (app x20 [125]) fun x21 =>
 loopL (R := Bool) (S := Unit) (α := (List UInt8)) (fun _ _ =>
 bnd (m_coresecmake_Mod a0 3) fun x24 =>
 letm ((w64 (7 + x24))) fun x25 =>
 bnd (rng x25) fun j47 =>
 loopN (R := Bool) (S := (List UInt8)) (fun _ s27 =>
 bnd (m_coresecmake_Mod a0 3) fun x28 =>
 letm ((w64 (7 + x28))) fun x29 =>
 bnd (rng x29) fun j42 =>
 loopN (R := Bool) (S := (List UInt8)) (fun _ s31 =>
 bnd (m_diag_Parse s31) fun x32 =>
 bnd (m_coresecref03_Parse s31) fun x33 =>
 bnd (β := Bool) (bnd (m_coresecref01_Same x32.1 x33.1) fun x34 =>
 cond x34 (letm ((x32.2 == x33.2)) fun x35 =>
 cond x35 (bnd (m_coreseclaw03_awake ) fun x36 =>
 some x36)
 (some false))
 (some false)) fun v37 =>
 some v37)
 (fun _ s39 self40 =>
 bnd (app s39 [93]) fun x41 =>
 self40 x41) j42 0 s27)
 (fun _ s44 self45 =>
 bnd (app s44 [91]) fun x46 =>
 self45 x46) j47 0 [])
 (fun x48 _ _ self51 =>
 bnd (m_diag_Parse x48) fun x52 =>
 bnd (m_coresecref03_Parse x48) fun x53 =>
 bnd (β := Bool) (bnd (m_coresecref01_Same x52.1 x53.1) fun x54 =>
 letm ((!x54)) fun x55 =>
 cond x55 (some true)
 (letm ((x52.2 != x53.2)) fun x56 =>
 some x56)) fun v57 =>
 cond v57 (some false)
 (self51 ())) [x5, x7, x11, x15, x19, x21, [45, 48], [45], [48, 48, 55], [49, 56, 52, 52, 54, 55, 52, 52, 48, 55, 51, 55, 48, 57, 53, 53, 49, 54, 49, 54], [45, 49, 56, 52, 52, 54, 55, 52, 52, 48, 55, 51, 55, 48, 57, 53, 53, 49, 54, 49, 55], [45, 49, 56, 52, 52, 54, 55, 52, 52, 48, 55, 51, 55, 48, 57, 53, 53, 49, 54, 49, 54], [104, 39, 48, 39], [104, 39, 48, 65, 39], [34, 92, 117, 48, 48, 52, 49, 34], [34, 92, 117, 48, 48, 34], [34, 92, 120, 34], [115, 105, 109, 112, 108, 101, 40, 50, 48, 41], [115, 105, 109, 112, 108, 101, 40, 50, 52, 41], [115, 105, 109, 112, 108, 101, 40, 51, 48, 48, 41], [102, 108, 111, 97, 116, 39, 55, 102, 102, 56, 48, 48, 48, 48, 48, 48, 48, 48, 48, 48, 48, 49, 39], [102, 108, 111, 97, 116, 39, 48, 39], [49, 32, 40, 32, 50, 41], [49, 40, 50], [], [32, 49], [91, 93, 93]] 0 ()
def m_coreseclaw03_DiagOne (a0 : (List UInt8)) (a1 : (List Int)) (a2 : Int) (a3 : Int) : Option Bool :=
 letm (decide (600 < (a0.length : Int))) fun x4 =>
 cond x4 (bnd (m_coreseclaw03_awake ) fun x5 =>
 some x5)
 (bnd (m_coresecmake_New a1) fun x6 =>
 bnd (m_coresecmake_Deck_Item x6 4) fun x7 =>
 bnd (m_coresecref03_Print x7.1) fun x8 =>
 bnd (app [] x8.1) fun x9 =>
 bnd (m_coresecmake_Spoilt x9 a2 a3) fun x10 =>
 loopL (R := Bool) (S := Unit) (α := (List UInt8)) (fun _ _ =>
 bnd (m_coreseclaw03_awake ) fun x13 =>
 some x13)
 (fun x14 _ _ self17 =>
 bndS (ρ := Bool) (ρ' := Bool) (Y := Unit) (bnd (m_diag_Parse x14) fun x18 =>
 letm ((x18.2 != 0)) fun x19 =>
 cond x19 (some (.inr ()))
 (bnd (m_diag_Print x18.1) fun x20 =>
 bnd (β := Bool) (letm ((x20.2 != 0)) fun x21 =>
 cond x21 (some true)
 (letm ((x20.1 != x14)) fun x22 =>
 some x22)) fun v23 =>
 cond v23 (some (.inl false))
 (some (.inr ())))) (fun q => q) fun _ =>
 self17 ()) [a0, x10] 0 ())
end
end Go.Proofs.YtbfkbakadpkgoaaGreatDoor
