/-
  Models of the functions, as the evaluator computes them. No condition.
-/
import Derived.Test.YtdgpkkfkloapbaaEv
namespace Go.Proofs.Ytdgpkkfkloapbaa
open Go.Gk Go.RowKit
noncomputable section
set_option maxRecDepth 100000
def m_coresecmake_New (a0 : (List Int)) : Option S_coresecmake_Deck :=
 some (a0, 0)
def m_coresecmake_Mod (a0 : Int) (a1 : Int) : Option Int :=
 bnd (Gk.rem a0 a1) fun x2 =>
 bnd (β := Int) (letm (decide (x2 < 0)) fun x3 =>
 cond x3 (letm ((w64 (x2 + a1))) fun x4 =>
 some x4)
  (some x2)) fun v5 =>
 some v5
def m_coresecmake_Deck_Next (a0 : S_coresecmake_Deck) (a1 : Int) : Option (Int × S_coresecmake_Deck) :=
 letm (decide ((a0.1.length : Int) ≤ a0.2)) fun x2 =>
 cond x2 (some (0, a0))
  (letm ((w64 (a0.2 + 1))) fun x3 =>
 letm ((w64 (x3 - 1))) fun x4 =>
 bnd (idx a0.1 x4) fun x5 =>
 bnd (m_coresecmake_Mod x5 a1) fun x6 =>
 some (x6, (a0.1, x3)))
def m_coresecmake_Deck_Bytes (a0 : S_coresecmake_Deck) (a1 : Int) : Option ((List UInt8) × S_coresecmake_Deck) :=
 letm ((w64 (a1 + 1))) fun x2 =>
 bnd (m_coresecmake_Deck_Next a0 x2) fun x3 =>
 loopF (R := ((List UInt8) × S_coresecmake_Deck)) (S := ((List UInt8) × (Int × S_coresecmake_Deck))) (fun self5 s4 =>
 letm (decide (0 < s4.2.1)) fun x6 =>
 cond x6 (bnd (m_coresecmake_Deck_Next s4.2.2 256) fun x7 =>
 letm ((toU8 x7.1)) fun x8 =>
 bnd (app s4.1 [x8]) fun x9 =>
 letm ((w64 (s4.2.1 - 1))) fun x10 =>
 self5 (x9, (x10, x7.2)))
  (some (s4.1, s4.2.2))) FUEL ([], (x3.1, x3.2))
def m_coresecref16_All (a0 : S_api_Message) (a1 : Int) : Option (List (List UInt8)) :=
 loopL (R := (List (List UInt8))) (S := (List (List UInt8))) (α := S_api_Option) (fun _ s3 =>
 some s3)
  (fun x4 _ s6 self7 =>
 bnd (β := (List (List UInt8))) (letm ((x4.1 == a1)) fun x8 =>
 cond x8 (bnd (app [] x4.2) fun x9 =>
 bnd (app s6 [x9]) fun x10 =>
 some x10)
  (some s6)) fun v11 =>
 self7 v11) a0.2.2.2.2.1 0 []
def m_coresecref16_All_o (a0 : S_api_Message) (a1 : Int) : Option (List (List UInt8)) :=
 loopL (R := (List (List UInt8))) (S := (List (List UInt8))) (α := S_api_Option) (fun _ s3 =>
 some s3)
  (fun x4 _ s6 self7 =>
 bnd (β := (List (List UInt8))) (letm ((x4.1 == a1)) fun x8 =>
 cond x8 (bnd (app [] x4.2) fun x9 =>
 bnd (app s6 [x9]) fun x10 =>
 some x10)
  (some s6)) fun v11 =>
 self7 v11) a0.2.2.2.2.1 0 []
def m_coresecref16_with (a0 : S_api_Message) (a1 : (List S_api_Option)) : Option S_api_Message :=
 bnd (app [] a0.2.2.2.1) fun x2 =>
 bnd (app [] a0.2.2.2.2.2) fun x3 =>
 loopL (R := S_api_Message) (S := (List S_api_Option)) (α := S_api_Option) (fun _ s5 =>
 some (a0.1, (a0.2.1, (a0.2.2.1, (x2, (s5, x3))))))
  (fun x6 _ s8 self9 =>
 bnd (app [] x6.2) fun x10 =>
 bnd (app s8 [(x6.1, x10)]) fun x11 =>
 self9 x11) a1 0 []
def m_coresecref16_Set (a0 : S_api_Message) (a1 : Int) (a2 : (List (List UInt8))) : Option S_api_Message :=
 loopL (R := S_api_Message) (S := (List S_api_Option)) (α := S_api_Option) (fun _ s4 =>
 loopL (R := S_api_Message) (S := (List S_api_Option)) (α := (List UInt8)) (fun _ s6 =>
 loopL (R := S_api_Message) (S := (List S_api_Option)) (α := S_api_Option) (fun _ s8 =>
 bnd (m_coresecref16_with a0 s8) fun x9 =>
 some x9)
  (fun x10 _ s12 self13 =>
 bnd (β := (List S_api_Option)) (letm (decide (a1 < x10.1)) fun x14 =>
 cond x14 (bnd (app s12 [x10]) fun x15 =>
 some x15)
  (some s12)) fun v16 =>
 self13 v16) a0.2.2.2.2.1 0 s6)
  (fun x17 _ s19 self20 =>
 bnd (app s19 [(a1, x17)]) fun x21 =>
 self20 x21) a2 0 s4)
  (fun x22 _ s24 self25 =>
 bnd (β := (List S_api_Option)) (letm (decide (x22.1 < a1)) fun x26 =>
 cond x26 (bnd (app s24 [x22]) fun x27 =>
 some x27)
  (some s24)) fun v28 =>
 self25 v28) a0.2.2.2.2.1 0 []
def m_coresecmake2_dressed (a0 : S_coresecmake_Deck) (a1 : S_api_Message) : Option (S_api_Message × S_coresecmake_Deck) :=
 bnd (m_coresecmake_Deck_Next a0 6) fun x2 =>
 loopF (R := (S_api_Message × S_coresecmake_Deck)) (S := (Int × (S_coresecmake_Deck × S_api_Message))) (fun self4 s3 =>
 letm (decide (0 < s3.1)) fun x5 =>
 cond x5 (bnd (m_coresecmake_Deck_Next s3.2.1 19) fun x6 =>
 bnd (idx [1, 3, 4, 6, 7, 11, 12, 14, 15, 16, 17, 23, 27, 39, 60, 252, 258, 292, 300] x6.1) fun x7 =>
 bnd (m_coresecref16_All_o s3.2.2 x7) fun x8 =>
 bnd (m_coresecmake_Deck_Bytes x6.2 4) fun x9 =>
 bnd (app x8 [x9.1]) fun x10 =>
 bnd (m_coresecref16_Set s3.2.2 x7 x10) fun x11 =>
 letm ((w64 (s3.1 - 1))) fun x12 =>
 self4 (x12, (x9.2, x11)))
  (some (s3.2.2, s3.2.1))) FUEL (x2.1, (x2.2, a1))
def m_coresecmake2_Request (a0 : S_coresecmake_Deck) : Option (S_api_Message × S_coresecmake_Deck) :=
 bnd (m_coresecmake_Deck_Next a0 2) fun x1 =>
 bnd (m_coresecmake_Deck_Next x1.2 7) fun x2 =>
 letm ((w64 (1 + x2.1))) fun x3 =>
 bnd (m_coresecmake_Deck_Next x2.2 65536) fun x4 =>
 bnd (m_coresecmake_Deck_Bytes x4.2 4) fun x5 =>
 bnd (m_coresecmake_Deck_Bytes x5.2 20) fun x6 =>
 bnd (m_coresecmake2_dressed x6.2 (x1.1, (x3, (x4.1, (x5.1, ([], x6.1)))))) fun x7 =>
 some (x7.1, x7.2)
def m_coresecmake_Some (a0 : Int) (a1 : Int) : Option (List UInt8) :=
 bnd (rng a1) fun j17 =>
 loopN (R := (List UInt8)) (S := (List UInt8)) (fun _ s3 =>
 some s3)
  (fun k4 s5 self6 =>
 letm ((toU64 a0)) fun x7 =>
 bnd (Gk.rem (k4 : Int) 8) fun x8 =>
 letm ((toU64 x8)) fun x9 =>
 letm ((8 * x9)) fun x10 =>
 bnd (shrK .u64 x7 (UInt64.toNat x10 : Int)) fun x11 =>
 letm ((toU8 (UInt64.toNat x11 : Int))) fun x12 =>
 bnd (quo (k4 : Int) 8) fun x13 =>
 letm ((toU8 x13)) fun x14 =>
 letm ((x12 + x14)) fun x15 =>
 bnd (app s5 [x15]) fun x16 =>
 self6 x16) j17 0 []
def m_coreseclaw33_body (a0 : S_coresecmake_Deck) : Option (S_api_Message × S_coresecmake_Deck) :=
 bnd (m_coresecmake2_Request a0) fun x1 =>
 bnd (m_coresecref16_Set x1.1 27 []) fun x2 =>
 bnd (m_coresecref16_Set x2 23 []) fun x3 =>
 bnd (m_coresecmake_Deck_Next x1.2 999) fun x4 =>
 bnd (m_coresecmake_Deck_Next x4.2 90) fun x5 =>
 bnd (m_coresecmake_Some x4.1 x5.1) fun x6 =>
 some ((x3.1, (x3.2.1, (x3.2.2.1, (x3.2.2.2.1, (x3.2.2.2.2.1, x6))))), x5.2)
def m_fragment_numbered (a0 : Int) : Option Bool :=
 bnd (β := Bool) (letm ((a0 == 27)) fun x1 =>
 cond x1 (some true)
  (letm ((a0 == 23)) fun x2 =>
 some x2)) fun v3 =>
 some v3
def m_fragment_copied (a0 : (List UInt8)) : Option (List UInt8) :=
 bnd (app [] a0) fun x1 =>
 some x1
def m_fragment_message (a0 : S_api_Message) : Option S_api_Message :=
 bnd (m_fragment_copied a0.2.2.2.1) fun x1 =>
 bnd (m_fragment_copied a0.2.2.2.2.2) fun x2 =>
 loopL (R := S_api_Message) (S := (S_api_Message × (List S_api_Option))) (α := S_api_Option) (fun _ s4 =>
 some (s4.1.1, (s4.1.2.1, (s4.1.2.2.1, (s4.1.2.2.2.1, (s4.2, s4.1.2.2.2.2.2))))))
  (fun x5 _ s7 self8 =>
 bnd (m_fragment_copied x5.2) fun x9 =>
 bnd (app s7.2 [(x5.1, x9)]) fun x10 =>
 self8 (s7.1, x10)) a0.2.2.2.2.1 0 ((a0.1, (a0.2.1, (a0.2.2.1, (x1, ([], x2))))), [])
def m_fragment_without (a0 : S_api_Message) (a1 : Int) : Option S_api_Message :=
 bnd (m_fragment_message a0) fun x2 =>
 bnd (m_fragment_message a0) fun x3 =>
 loopL (R := S_api_Message) (S := (S_api_Message × (List S_api_Option))) (α := S_api_Option) (fun _ s5 =>
 some (s5.1.1, (s5.1.2.1, (s5.1.2.2.1, (s5.1.2.2.2.1, (s5.2, s5.1.2.2.2.2.2))))))
  (fun x6 _ s8 self9 =>
 bnd (β := (S_api_Message × (List S_api_Option))) (letm ((x6.1 != a1)) fun x10 =>
 cond x10 (bnd (app s8.2 [x6]) fun x11 =>
 some (s8.1, x11))
  (some (s8.1, s8.2))) fun v12 =>
 self9 (v12.1, v12.2)) x3.2.2.2.2.1 0 ((x2.1, (x2.2.1, (x2.2.2.1, (x2.2.2.2.1, ([], x2.2.2.2.2.2))))), [])
def m_coap_sound (a0 : S_api_Message) : Option Bool :=
 bnd (Gk.shr a0.2.1 (UInt64.toNat 5 : Int)) fun x1 =>
 bnd (β := Bool) (letm (decide (a0.1 < 0)) fun x2 =>
 cond x2 (some true)
  (letm (decide (3 < a0.1)) fun x3 =>
 cond x3 (some true)
  (letm (decide (a0.2.1 < 0)) fun x4 =>
 cond x4 (some true)
  (letm (decide (255 < a0.2.1)) fun x5 =>
 cond x5 (some true)
  (letm ((x1 != 0)) fun x6 =>
 cond x6 (letm ((x1 != 2)) fun x7 =>
 cond x7 (letm ((x1 != 4)) fun x8 =>
 cond x8 (letm ((x1 != 5)) fun x9 =>
 some x9)
  (some false))
  (some false))
  (some false)))))) fun v10 =>
 cond v10 (some false)
  (bnd (β := Bool) (letm (decide (a0.2.2.1 < 0)) fun x11 =>
 cond x11 (some true)
  (letm (decide (65535 < a0.2.2.1)) fun x12 =>
 cond x12 (some true)
  (letm (decide (8 < (a0.2.2.2.1.length : Int))) fun x13 =>
 cond x13 (some true)
  (letm (decide (32 < (a0.2.2.2.2.1.length : Int))) fun x14 =>
 some x14)))) fun v15 =>
 cond v15 (some false)
  (loopL (R := Bool) (S := Int) (α := S_api_Option) (fun _ _ =>
 bnd (β := Bool) (letm ((a0.2.1 == 0)) fun x18 =>
 cond x18 (letm ((w64 ((a0.2.2.2.1.length : Int) + (a0.2.2.2.2.1.length : Int)))) fun x19 =>
 letm ((w64 (x19 + (a0.2.2.2.2.2.length : Int)))) fun x20 =>
 letm (decide (0 < x20)) fun x21 =>
 some x21)
  (some false)) fun v22 =>
 cond v22 (some false)
  (bnd (β := Bool) (letm ((a0.1 != 3)) fun x23 =>
 cond x23 (letm (decide ((a0.2.2.2.2.2.length : Int) ≤ 4096)) fun x24 =>
 some x24)
  (letm ((a0.2.1 == 0)) fun x25 =>
 cond x25 (letm (decide ((a0.2.2.2.2.2.length : Int) ≤ 4096)) fun x26 =>
 some x26)
  (some false))) fun v27 =>
 some v27))
  (fun x28 _ s30 self31 =>
 bnd (β := Bool) (letm (decide (x28.1 < s30)) fun x32 =>
 cond x32 (some true)
  (letm (decide (65535 < x28.1)) fun x33 =>
 cond x33 (some true)
  (letm (decide (1034 < (x28.2.length : Int))) fun x34 =>
 some x34))) fun v35 =>
 cond v35 (some false)
  (self31 x28.1)) a0.2.2.2.2.1 0 0))
def m_coap_parts (a0 : Int) : Option (UInt8 × (List UInt8)) :=
 letm (decide (a0 < 13)) fun x1 =>
 cond x1 (letm ((toU8 a0)) fun x2 =>
 some (x2, []))
  (letm (decide (a0 < 269)) fun x3 =>
 cond x3 (letm ((w64 (a0 - 13))) fun x4 =>
 letm ((toU8 x4)) fun x5 =>
 some (13, [x5]))
  (letm ((w64 (a0 - 269))) fun x6 =>
 bnd (Gk.shr x6 (UInt64.toNat 8 : Int)) fun x7 =>
 letm ((toU8 x7)) fun x8 =>
 letm ((w64 (a0 - 269))) fun x9 =>
 letm ((toU8 x9)) fun x10 =>
 some (14, [x8, x10])))
def m_coap_encode (a0 : S_api_Message) : Option (List UInt8) :=
 bnd (Gk.shl a0.1 (UInt64.toNat 4 : Int)) fun x1 =>
 letm ((ibit .or 64 x1)) fun x2 =>
 letm ((ibit .or x2 (a0.2.2.2.1.length : Int))) fun x3 =>
 letm ((toU8 x3)) fun x4 =>
 letm ((toU8 a0.2.1)) fun x5 =>
 bnd (Gk.shr a0.2.2.1 (UInt64.toNat 8 : Int)) fun x6 =>
 letm ((toU8 x6)) fun x7 =>
 letm ((toU8 a0.2.2.1)) fun x8 =>
 bnd (app [x4, x5, x7, x8] a0.2.2.2.1) fun x9 =>
 loopL (R := (List UInt8)) (S := ((List UInt8) × Int)) (α := S_api_Option) (fun _ s11 =>
 bnd (β := (List UInt8)) (letm (decide (0 < (a0.2.2.2.2.2.length : Int))) fun x12 =>
 cond x12 (bnd (app s11.1 [255]) fun x13 =>
 bnd (app x13 a0.2.2.2.2.2) fun x14 =>
 some x14)
  (some s11.1)) fun v15 =>
 some v15)
  (fun x16 _ s18 self19 =>
 letm ((w64 (x16.1 - s18.2))) fun x20 =>
 bnd (m_coap_parts x20) fun x21 =>
 bnd (m_coap_parts (x16.2.length : Int)) fun x22 =>
 bnd (shlK .u8 x21.1 (UInt64.toNat 4 : Int)) fun x23 =>
 letm ((toU8 (bits .or .u8 (UInt8.toNat x23) (UInt8.toNat x22.1)))) fun x24 =>
 bnd (app s18.1 [x24]) fun x25 =>
 bnd (app x25 x21.2) fun x26 =>
 bnd (app x26 x22.2) fun x27 =>
 bnd (app x27 x16.2) fun x28 =>
 self19 (x28, x16.1)) a0.2.2.2.2.1 0 (x9, 0)
def m_coap_Encode (a0 : S_api_Message) : Option ((List UInt8) × Int) :=
 bnd (m_coap_sound a0) fun x1 =>
 letm ((!x1)) fun x2 =>
 cond x2 (some ([], 1))
  (bnd (m_coap_encode a0) fun x3 =>
 letm (decide (4096 < (x3.length : Int))) fun x4 =>
 cond x4 (some ([], 1))
  (some (x3, 0)))
def m_fragment_Key (a0 : S_api_Message) (a1 : Int) : Option ((List UInt8) × Int) :=
 bnd (m_fragment_numbered a1) fun x2 =>
 letm ((!x2)) fun x3 =>
 cond x3 (some ([], 1))
  (bnd (m_fragment_without a0 a1) fun x4 =>
 bnd (m_coap_Encode (0, (x4.2.1, (0, ([], (x4.2.2.2.2.1, [])))))) fun x5 =>
 some (x5.1, x5.2))
def m_bytes_Clone (a0 : List UInt8) : Option (List UInt8) := app ([] : List UInt8) a0
def m_bytes_Clone_o (a0 : List UInt8) : Option (List UInt8) := m_bytes_Clone a0

def m_option_All (a0 : S_api_Message) (a1 : Int) : Option (List (List UInt8)) :=
 loopL (R := (List (List UInt8))) (S := (List (List UInt8))) (α := S_api_Option) (fun _ s3 =>
 some s3)
  (fun x4 _ s6 self7 =>
 bnd (β := (List (List UInt8))) (letm ((x4.1 == a1)) fun x8 =>
 cond x8 (bnd (m_bytes_Clone x4.2) fun x9 =>
 bnd (app s6 [x9]) fun x10 =>
 some x10)
  (some s6)) fun v11 =>
 self7 v11) a0.2.2.2.2.1 0 []
def m_block_sound (a0 : S_api_Block) : Option Bool :=
 bnd (β := Bool) (letm (decide (0 ≤ a0.1)) fun x1 =>
 cond x1 (letm (decide (a0.1 ≤ 1048575)) fun x2 =>
 cond x2 (letm (decide (0 ≤ a0.2.2)) fun x3 =>
 cond x3 (letm (decide (a0.2.2 ≤ 6)) fun x4 =>
 some x4)
  (some false))
  (some false))
  (some false)) fun v5 =>
 some v5
def m_block_length (a0 : Int) : Option Int :=
 bnd (Gk.shl 16 a0) fun x1 =>
 some x1
def m_block_Cut (a0 : (List UInt8)) (a1 : Int) (a2 : Int) : Option ((List UInt8) × (Bool × Int)) :=
 bnd (m_block_sound (a1, (false, a2))) fun x3 =>
 letm ((!x3)) fun x4 =>
 cond x4 (some ([], (false, 1)))
  (bnd (m_block_length a2) fun x5 =>
 letm ((w64 (a1 * x5))) fun x6 =>
 bnd (β := Bool) (letm (decide ((a0.length : Int) ≤ x6)) fun x7 =>
 cond x7 (letm ((w64 (x6 + (a0.length : Int)))) fun x8 =>
 letm (decide (0 < x8)) fun x9 =>
 some x9)
  (some false)) fun v10 =>
 cond v10 (some ([], (false, 10)))
  (bnd (m_block_length a2) fun x11 =>
 letm ((w64 (x6 + x11))) fun x12 =>
 letm ((min (a0.length : Int) x12)) fun x13 =>
 bnd (Gk.cut a0 x6 x13) fun x14 =>
 bnd (m_bytes_Clone x14) fun x15 =>
 letm (decide (x13 < (a0.length : Int))) fun x16 =>
 some (x15, (x16, 0))))
def m_option_FromUint (a0 : Int) : Option (List UInt8) :=
 bnd (β := Bool) (letm (decide (a0 < 0)) fun x1 =>
 cond x1 (some true)
  (letm (decide (4294967295 < a0)) fun x2 =>
 some x2)) fun v3 =>
 cond v3 (some [])
  (loopF (R := (List UInt8)) (S := ((List UInt8) × Int)) (fun self5 s4 =>
 letm (decide (0 ≤ s4.2)) fun x6 =>
 cond x6 (bnd (β := (List UInt8)) (bnd (Gk.shr a0 s4.2) fun x7 =>
 letm (decide (0 < x7)) fun x8 =>
 cond x8 (bnd (Gk.shr a0 s4.2) fun x9 =>
 letm ((toU8 x9)) fun x10 =>
 bnd (app s4.1 [x10]) fun x11 =>
 some x11)
  (some s4.1)) fun v12 =>
 letm ((w64 (s4.2 - 8))) fun x13 =>
 self5 (v12, x13))
  (some s4.1)) FUEL ([], 24))
def m_block_Value (a0 : S_api_Block) : Option ((List UInt8) × Int) :=
 bnd (m_block_sound a0) fun x1 =>
 letm ((!x1)) fun x2 =>
 cond x2 (some ([], 1))
  (bnd (Gk.shl a0.1 (UInt64.toNat 4 : Int)) fun x3 =>
 letm ((ibit .or x3 a0.2.2)) fun x4 =>
 bnd (β := Int) (cond a0.2.1 (letm ((ibit .or x4 8)) fun x5 =>
 some x5)
  (some x4)) fun v6 =>
 bnd (m_option_FromUint v6) fun x7 =>
 some (x7, 0))
def m_option_owned (a0 : S_api_Message) (a1 : (List S_api_Option)) : Option S_api_Message :=
 bnd (m_bytes_Clone a0.2.2.2.1) fun x2 =>
 bnd (m_bytes_Clone a0.2.2.2.2.2) fun x3 =>
 loopL (R := S_api_Message) (S := (S_api_Message × (List S_api_Option))) (α := S_api_Option) (fun _ s5 =>
 some (s5.1.1, (s5.1.2.1, (s5.1.2.2.1, (s5.1.2.2.2.1, (s5.2, s5.1.2.2.2.2.2))))))
  (fun x6 _ s8 self9 =>
 bnd (m_bytes_Clone x6.2) fun x10 =>
 bnd (app s8.2 [(x6.1, x10)]) fun x11 =>
 self9 (s8.1, x11)) a1 0 ((a0.1, (a0.2.1, (a0.2.2.1, (x2, ([], x3))))), [])
def m_option_Set (a0 : S_api_Message) (a1 : Int) (a2 : (List (List UInt8))) : Option S_api_Message :=
 loopL (R := S_api_Message) (S := ((List S_api_Option) × (List S_api_Option))) (α := S_api_Option) (fun _ s4 =>
 loopL (R := S_api_Message) (S := (List S_api_Option)) (α := (List UInt8)) (fun _ s6 =>
 bnd (app s6 s4.2) fun x7 =>
 bnd (m_option_owned a0 x7) fun x8 =>
 some x8)
  (fun x9 _ s11 self12 =>
 bnd (app s11 [(a1, x9)]) fun x13 =>
 self12 x13) a2 0 s4.1)
  (fun x14 _ s16 self17 =>
 bnd (β := ((List S_api_Option) × (List S_api_Option))) (letm (decide (x14.1 < a1)) fun x18 =>
 cond x18 (bnd (app s16.1 [x14]) fun x19 =>
 some (x19, s16.2))
  (letm (decide (a1 < x14.1)) fun x20 =>
 cond x20 (bnd (app s16.2 [x14]) fun x21 =>
 some (s16.1, x21))
  (some (s16.1, s16.2)))) fun v22 =>
 self17 (v22.1, v22.2)) a0.2.2.2.2.1 0 ([], [])
def m_fragment_Cut (a0 : S_api_Message) (a1 : Int) (a2 : Int) (a3 : Int) : Option (S_api_Message × Int) :=
 bnd (m_fragment_numbered a1) fun x4 =>
 letm ((!x4)) fun x5 =>
 cond x5 (some ((0, (0, (0, ([], ([], []))))), 1))
  (bnd (m_option_All a0 a1) fun x6 =>
 letm (decide (0 < (x6.length : Int))) fun x7 =>
 cond x7 (some ((0, (0, (0, ([], ([], []))))), 7))
  (bnd (m_block_Cut a0.2.2.2.2.2 a2 a3) fun x8 =>
 letm ((x8.2.2 != 0)) fun x9 =>
 cond x9 (some ((0, (0, (0, ([], ([], []))))), x8.2.2))
  (bnd (m_block_Value (a2, (x8.2.1, a3))) fun x10 =>
 letm ((x10.2 != 0)) fun x11 =>
 cond x11 (some ((0, (0, (0, ([], ([], []))))), x10.2))
  (bnd (m_option_Set a0 a1 [x10.1]) fun x12 =>
 bnd (m_fragment_message x12) fun x13 =>
 bnd (m_fragment_copied x8.1) fun x14 =>
 some ((x13.1, (x13.2.1, (x13.2.2.1, (x13.2.2.2.1, (x13.2.2.2.2.1, x14))))), 0)))))
def m_option_Uint (a0 : (List UInt8)) : Option (Int × Int) :=
 loopL (R := (Int × Int)) (S := Int) (α := UInt8) (fun _ s2 =>
 some (s2, 0))
  (fun x3 _ s5 self6 =>
 bnd (Gk.shl s5 (UInt64.toNat 8 : Int)) fun x7 =>
 letm ((w64 (UInt8.toNat x3 : Int))) fun x8 =>
 letm ((ibit .or x7 x8)) fun x9 =>
 letm (decide (4294967295 < x9)) fun x10 =>
 cond x10 (some (0, 8))
  (self6 x9)) a0 0 0
def m_block_Parse (a0 : (List UInt8)) : Option (S_api_Block × Int) :=
 bnd (m_option_Uint a0) fun x1 =>
 bnd (β := Bool) (letm (decide (3 < (a0.length : Int))) fun x2 =>
 cond x2 (some true)
  (letm ((x1.2 != 0)) fun x3 =>
 cond x3 (some true)
  (letm ((ibit .and x1.1 7)) fun x4 =>
 letm ((x4 == 7)) fun x5 =>
 some x5))) fun v6 =>
 cond v6 (some ((0, (false, 0)), 4))
  (bnd (Gk.shr x1.1 (UInt64.toNat 4 : Int)) fun x7 =>
 letm ((ibit .and x1.1 8)) fun x8 =>
 letm ((x8 == 8)) fun x9 =>
 letm ((ibit .and x1.1 7)) fun x10 =>
 some ((x7, (x9, x10)), 0))
def m_fragment_sound (a0 : S_api_Message) (a1 : Int) : Option (S_api_Block × (Bool × Bool)) :=
 bnd (m_option_All a0 a1) fun x2 =>
 letm (((x2.length : Int) != 1)) fun x3 =>
 cond x3 (letm (decide (0 < (x2.length : Int))) fun x4 =>
 some ((0, (false, 0)), (x4, false)))
  (bnd (idx x2 0) fun x5 =>
 bnd (m_block_Parse x5) fun x6 =>
 letm ((x6.2 == 0)) fun x7 =>
 some (x6.1, (true, x7)))
def m_fragment_partials (a0 : (List S_api_Partial)) : Option (List S_api_Partial) :=
 loopL (R := (List S_api_Partial)) (S := (List S_api_Partial)) (α := S_api_Partial) (fun _ s2 =>
 some s2)
  (fun x3 _ s5 self6 =>
 bnd (m_fragment_copied x3.2.1) fun x7 =>
 bnd (m_fragment_copied x3.2.2.1) fun x8 =>
 bnd (app s5 [(x3.1, (x7, (x8, x3.2.2.2)))]) fun x9 =>
 self6 x9) a0 0 []
def m_fragment_position (a0 : S_api_Block) : Option Int :=
 letm ((toU64 a0.2.2)) fun x1 =>
 bnd (Gk.shl 16 (UInt64.toNat x1 : Int)) fun x2 =>
 letm ((w64 (a0.1 * x2))) fun x3 =>
 some x3
def m_bytes_Equal (a0 : (List UInt8)) (a1 : (List UInt8)) : Option Bool :=
 letm ((a0 == a1)) fun x2 =>
 some x2
def m_block_find (a0 : (List S_api_Partial)) (a1 : Int) (a2 : (List UInt8)) : Option Int :=
 loopL (R := Int) (S := Unit) (α := S_api_Partial) (fun _ _ =>
 some (-1))
  (fun x5 k6 _ self8 =>
 bnd (β := Bool) (letm ((x5.1 == a1)) fun x9 =>
 cond x9 (bnd (m_bytes_Equal x5.2.1 a2) fun x10 =>
 some x10)
  (some false)) fun v11 =>
 cond v11 (some (k6 : Int))
  (self8 ())) a0 0 ()
def m_block_Valid (a0 : (List S_api_Partial)) : Option Bool :=
 letm (decide (4 < (a0.length : Int))) fun x1 =>
 cond x1 (some false)
  (loopL (R := Bool) (S := Unit) (α := S_api_Partial) (fun _ _ =>
 some true)
  (fun x4 k5 _ self7 =>
 bnd (β := Bool) (letm (decide (x4.1 < 0)) fun x8 =>
 cond x8 (some true)
  (letm (decide (65536 < x4.1)) fun x9 =>
 cond x9 (some true)
  (letm (decide (4096 < (x4.2.1.length : Int))) fun x10 =>
 cond x10 (some true)
  (letm (decide (4096 < (x4.2.2.1.length : Int))) fun x11 =>
 cond x11 (some true)
  (letm (decide (x4.2.2.2 < 0)) fun x12 =>
 cond x12 (some true)
  (bnd (Gk.cut a0 0 (k5 : Int)) fun x13 =>
 bnd (m_block_find x13 x4.1 x4.2.1) fun x14 =>
 letm (decide (0 ≤ x14)) fun x15 =>
 some x15)))))) fun v16 =>
 cond v16 (some false)
  (self7 ())) a0 0 ())
def m_block_kept (a0 : (List S_api_Partial)) (a1 : Int) (a2 : (List UInt8)) (a3 : Bool) (a4 : Int) : Option (List S_api_Partial) :=
 loopL (R := (List S_api_Partial)) (S := (List S_api_Partial)) (α := S_api_Partial) (fun _ s6 =>
 some s6)
  (fun x7 _ s9 self10 =>
 bnd (β := (List S_api_Partial)) (bnd (β := Bool) (letm (decide (x7.2.2.2 ≤ a4)) fun x11 =>
 cond x11 (some true)
  (cond a3 (letm ((x7.1 == a1)) fun x12 =>
 cond x12 (bnd (m_bytes_Equal x7.2.1 a2) fun x13 =>
 some x13)
  (some false))
  (some false))) fun v14 =>
 cond v14 (some s9)
  (bnd (m_bytes_Clone x7.2.1) fun x15 =>
 bnd (m_bytes_Clone x7.2.2.1) fun x16 =>
 bnd (app s9 [(x7.1, (x15, (x16, x7.2.2.2)))]) fun x17 =>
 some x17)) fun v18 =>
 self10 v18) a0 0 []
def m_block_kept_o (a0 : (List S_api_Partial)) (a1 : Int) (a2 : (List UInt8)) (a3 : Bool) (a4 : Int) : Option (List S_api_Partial) :=
 loopL (R := (List S_api_Partial)) (S := (List S_api_Partial)) (α := S_api_Partial) (fun _ s6 =>
 some s6)
  (fun x7 _ s9 self10 =>
 bnd (β := (List S_api_Partial)) (bnd (β := Bool) (letm (decide (x7.2.2.2 ≤ a4)) fun x11 =>
 cond x11 (some true)
  (cond a3 (letm ((x7.1 == a1)) fun x12 =>
 cond x12 (bnd (m_bytes_Equal x7.2.1 a2) fun x13 =>
 some x13)
  (some false))
  (some false))) fun v14 =>
 cond v14 (some s9)
  (bnd (m_bytes_Clone x7.2.1) fun x15 =>
 bnd (m_bytes_Clone x7.2.2.1) fun x16 =>
 bnd (app s9 [(x7.1, (x15, (x16, x7.2.2.2)))]) fun x17 =>
 some x17)) fun v18 =>
 self10 v18) a0 0 []
def m_block_Put (a0 : (List S_api_Partial)) (a1 : Int) (a2 : (List UInt8)) (a3 : S_api_Block) (a4 : (List UInt8)) (a5 : Int) : Option ((List S_api_Partial) × ((List UInt8) × (Bool × Int))) :=
 bnd (β := Bool) (bnd (m_block_Valid a0) fun x6 =>
 letm ((!x6)) fun x7 =>
 cond x7 (some true)
  (letm (decide (a1 < 0)) fun x8 =>
 cond x8 (some true)
  (letm (decide (65536 < a1)) fun x9 =>
 cond x9 (some true)
  (letm (decide (4096 < (a2.length : Int))) fun x10 =>
 cond x10 (some true)
  (bnd (m_block_sound a3) fun x11 =>
 letm ((!x11)) fun x12 =>
 cond x12 (some true)
  (letm (decide (a5 < 0)) fun x13 =>
 cond x13 (some true)
  (letm (decide (1073741824 < a5)) fun x14 =>
 some x14))))))) fun v15 =>
 cond v15 (some ([], ([], (false, 1))))
  (bnd (m_block_length a3.2.2) fun x16 =>
 bnd (β := Bool) (cond a3.2.1 (letm (((a4.length : Int) != x16)) fun x17 =>
 cond x17 (some true)
  (letm ((!a3.2.1)) fun x18 =>
 cond x18 (letm (decide (x16 < (a4.length : Int))) fun x19 =>
 cond x19 (some true)
  (letm (((a4.length : Int) == 0)) fun x20 =>
 cond x20 (letm (decide (0 < a3.1)) fun x21 =>
 some x21)
  (some false)))
  (some false)))
  (letm ((!a3.2.1)) fun x22 =>
 cond x22 (letm (decide (x16 < (a4.length : Int))) fun x23 =>
 cond x23 (some true)
  (letm (((a4.length : Int) == 0)) fun x24 =>
 cond x24 (letm (decide (0 < a3.1)) fun x25 =>
 some x25)
  (some false)))
  (some false))) fun v26 =>
 cond v26 (some ([], ([], (false, 4))))
  (letm ((a3.1 == 0)) fun x27 =>
 bnd (m_block_kept_o a0 a1 a2 x27 a5) fun x28 =>
 bnd (m_block_find x28 a1 a2) fun x29 =>
 bndS (ρ := ((List S_api_Partial) × ((List UInt8) × (Bool × Int)))) (ρ' := ((List S_api_Partial) × ((List UInt8) × (Bool × Int)))) (Y := (List UInt8)) (letm (decide (0 < a3.1)) fun x30 =>
 cond x30 (bnd (β := Bool) (letm (decide (x29 < 0)) fun x31 =>
 cond x31 (some true)
  (bnd (idx x28 x29) fun _ =>
 bnd (idx x28 ((x29).toNat : Int)) fun x33 =>
 letm ((w64 (a3.1 * x16))) fun x34 =>
 letm (((x33.2.2.1.length : Int) != x34)) fun x35 =>
 some x35)) fun v36 =>
 cond v36 (some (.inl ([], ([], (false, 15)))))
  (bnd (idx x28 x29) fun _ =>
 bnd (idx x28 ((x29).toNat : Int)) fun x38 =>
 some (.inr x38.2.2.1)))
  (some (.inr []))) (fun q => q) fun v39 =>
 letm ((w64 ((v39.length : Int) + (a4.length : Int)))) fun x40 =>
 letm (decide (4096 < x40)) fun x41 =>
 cond x41 (some ([], ([], (false, 8))))
  (bnd (m_bytes_Clone_o v39) fun x42 =>
 bnd (app x42 a4) fun x43 =>
 bnd (β := Bool) (letm ((!a3.2.1)) fun x44 =>
 cond x44 (letm (decide (0 ≤ x29)) fun x45 =>
 some x45)
  (some false)) fun v46 =>
 cond v46 (bnd (Gk.cut x28 0 x29) fun x47 =>
 letm ((w64 (x29 + 1))) fun x48 =>
 bnd (Gk.cut x28 x48 (x28.length : Int)) fun x49 =>
 bnd (app x47 x49) fun x50 =>
 some (x50, (x43, (true, 0))))
  (letm ((!a3.2.1)) fun x51 =>
 cond x51 (some (x28, (x43, (true, 0))))
  (letm (decide (0 ≤ x29)) fun x52 =>
 cond x52 (letm ((w64 (a5 + 128))) fun x53 =>
 bnd (idx x28 x29) fun _ =>
 bnd (idx x28 ((x29).toNat : Int)) fun x55 =>
 letm ((x28.set (x29).toNat (x55.1, (x55.2.1, (x43, x55.2.2.2))))) fun x56 =>
 bnd (idx x56 x29) fun _ =>
 bnd (idx x56 ((x29).toNat : Int)) fun x58 =>
 letm ((x56.set (x29).toNat (x58.1, (x58.2.1, (x58.2.2.1, x53))))) fun x59 =>
 some (x59, ([], (false, 0))))
  (letm (decide (4 ≤ (x28.length : Int))) fun x60 =>
 cond x60 (some ([], ([], (false, 16))))
  (bnd (m_bytes_Clone_o a2) fun x61 =>
 letm ((w64 (a5 + 128))) fun x62 =>
 bnd (app x28 [(a1, (x61, (x43, x62)))]) fun x63 =>
 some (x63, ([], (false, 0))))))))))
def m_fragment_Put (a0 : (List S_api_Partial)) (a1 : Int) (a2 : S_api_Message) (a3 : Int) (a4 : Int) (a5 : Int) : Option ((List S_api_Partial) × (S_api_Message × (Bool × Int))) :=
 bnd (m_fragment_numbered a3) fun x6 =>
 letm ((!x6)) fun x7 =>
 cond x7 (some ([], ((0, (0, (0, ([], ([], []))))), (false, 1))))
  (bnd (m_fragment_sound a2 a3) fun x8 =>
 letm ((!x8.2.1)) fun x9 =>
 cond x9 (bnd (m_fragment_partials a0) fun x10 =>
 bnd (m_fragment_message a2) fun x11 =>
 some (x10, (x11, (true, 0))))
  (letm ((!x8.2.2)) fun x12 =>
 cond x12 (some ([], ((0, (0, (0, ([], ([], []))))), (false, 4))))
  (bnd (m_fragment_position x8.1) fun x13 =>
 letm ((w64 (x13 + (a2.2.2.2.2.2.length : Int)))) fun x14 =>
 letm (decide (a4 < x14)) fun x15 =>
 cond x15 (some ([], ((0, (0, (0, ([], ([], []))))), (false, 8))))
  (bnd (m_fragment_Key a2 a3) fun x16 =>
 letm ((x16.2 != 0)) fun x17 =>
 cond x17 (some ([], ((0, (0, (0, ([], ([], []))))), (false, x16.2))))
  (bnd (m_block_Put a0 a1 x16.1 x8.1 a2.2.2.2.2.2 a5) fun x18 =>
 letm ((x18.2.2.2 != 0)) fun x19 =>
 cond x19 (some ([], ((0, (0, (0, ([], ([], []))))), (false, x18.2.2.2))))
  (letm ((!x18.2.2.1)) fun x20 =>
 cond x20 (some (x18.1, ((0, (0, (0, ([], ([], []))))), (false, 0))))
  (bnd (m_fragment_without a2 a3) fun x21 =>
 bnd (m_fragment_copied x18.2.1) fun x22 =>
 some (x18.1, ((x21.1, (x21.2.1, (x21.2.2.1, (x21.2.2.2.1, (x21.2.2.2.2.1, x22))))), (true, 0))))))))))
def m_fragment_putting_1 (a0 : (List S_api_Partial)) (a1 : Int) (a2 : S_api_Message) (a3 : Int) (a4 : (Option Int)) (a5 : (Option Int)) : Option ((List S_api_Partial) × (S_api_Message × (Bool × Int))) :=
 bnd (a4) fun x6 =>
 bnd (a5) fun x7 =>
 bnd (m_fragment_Put a0 a1 a2 x6 x7 a3) fun x8 =>
 some (x8.1, (x8.2.1, (x8.2.2.1, x8.2.2.2)))
def m_fragment_putting (a0 : Int) (a1 : Int) : Option (Option ((Option Int) × ((Option Int) × Unit))) :=
 some (some ((some a0), ((some a1), ())))
def m_fragment_Inner (a0 : (List S_api_Partial)) (a1 : Int) (a2 : S_api_Message) (a3 : Int) : Option ((List S_api_Partial) × (S_api_Message × (Bool × Int))) :=
 bnd (m_fragment_putting 27 4096) fun x4 =>
 bnd (x4) fun x5 =>
 bnd (m_fragment_putting_1 a0 a1 a2 a3 x5.1 x5.2.1) fun x6 =>
 some (x6.1, (x6.2.1, (x6.2.2.1, x6.2.2.2)))
def m_coresecref01_Compare (a0 : (List UInt8)) (a1 : (List UInt8)) : Option Int :=
 loopF (R := Int) (S := Int) (fun self3 s2 =>
 bnd (β := Bool) (letm (decide (s2 < (a0.length : Int))) fun x4 =>
 cond x4 (letm (decide (s2 < (a1.length : Int))) fun x5 =>
 some x5)
  (some false)) fun v6 =>
 cond v6 (bnd (idx a0 s2) fun x7 =>
 bnd (idx a1 s2) fun x8 =>
 letm (((UInt8.toNat x7 : Int) != (UInt8.toNat x8 : Int))) fun x9 =>
 cond x9 (bnd (idx a0 s2) fun x10 =>
 bnd (idx a1 s2) fun x11 =>
 letm (decide ((UInt8.toNat x10 : Int) < (UInt8.toNat x11 : Int))) fun x12 =>
 cond x12 (some (-1))
  (some 1))
  (letm ((w64 (s2 + 1))) fun x13 =>
 self3 x13))
  (letm (decide ((a0.length : Int) < (a1.length : Int))) fun x14 =>
 cond x14 (some (-1))
  (letm (decide ((a1.length : Int) < (a0.length : Int))) fun x15 =>
 cond x15 (some 1)
  (some 0)))) FUEL 0
def m_coresecref26_Equal (a0 : (List UInt8)) (a1 : (List UInt8)) : Option Bool :=
 bnd (β := Bool) (bnd (m_coresecref01_Compare a0 a1) fun x2 =>
 letm ((x2 == 0)) fun x3 =>
 cond x3 (letm (((a0.length : Int) == (a1.length : Int))) fun x4 =>
 some x4)
  (some false)) fun v5 =>
 some v5
def m_coreseclaw33_FragmentApart (a0 : (List Int)) (a1 : Int) : Option Bool :=
 bnd (m_coresecmake_New a0) fun x2 =>
 bnd (m_coreseclaw33_body x2) fun x3 =>
 bnd (m_coreseclaw33_body x3.2) fun x4 =>
 bnd (m_coresecmake_Some 1 40) fun x5 =>
 bnd (m_coresecmake_Some 2 40) fun x6 =>
 bnd (m_coresecmake_Mod a1 2) fun x7 =>
 bnd (m_fragment_Key (x3.1.1, (x3.1.2.1, (x3.1.2.2.1, (x3.1.2.2.2.1, (x3.1.2.2.2.2.1, x5))))) 27) fun x8 =>
 bnd (m_fragment_Key (x4.1.1, (x4.1.2.1, (x4.1.2.2.1, (x4.1.2.2.2.1, (x4.1.2.2.2.2.1, x6))))) 27) fun x9 =>
 bnd (β := Bool) (letm ((x8.2 != 0)) fun x10 =>
 cond x10 (some true)
  (letm ((x9.2 != 0)) fun x11 =>
 some x11)) fun v12 =>
 cond v12 (some false)
  (bnd (m_fragment_Cut (x3.1.1, (x3.1.2.1, (x3.1.2.2.1, (x3.1.2.2.2.1, (x3.1.2.2.2.2.1, x5))))) 27 0 0) fun x13 =>
 bnd (m_fragment_Cut (x4.1.1, (x4.1.2.1, (x4.1.2.2.1, (x4.1.2.2.2.1, (x4.1.2.2.2.2.1, x6))))) 27 1 0) fun x14 =>
 bnd (m_fragment_Inner [] 0 x13.1 1) fun x15 =>
 bnd (β := Bool) (letm ((x15.2.2.2 != 0)) fun x16 =>
 cond x16 (some true)
  (cond x15.2.2.1 (some true)
  (letm (((x15.1.length : Int) != 1)) fun x17 =>
 some x17))) fun v18 =>
 cond v18 (some false)
  (bnd (m_fragment_Inner x15.1 x7 x14.1 2) fun x19 =>
 bnd (β := Bool) (letm ((x7 == 0)) fun x20 =>
 cond x20 (bnd (m_coresecref26_Equal x8.1 x9.1) fun x21 =>
 some x21)
  (some false)) fun v22 =>
 cond v22 (bnd (β := Bool) (letm ((x19.2.2.2 == 0)) fun x23 =>
 cond x23 (letm (((x19.1.length : Int) == 1)) fun x24 =>
 cond x24 (bnd (idx x19.1 0) fun x25 =>
 letm (((x25.2.2.1.length : Int) == 32)) fun x26 =>
 some x26)
  (some false))
  (some false)) fun v27 =>
 some v27)
  (letm ((x19.2.2.2 == 15)) fun x28 =>
 some x28)))
def m_coresecref18_length (a0 : Int) : Option Int :=
 letm ((toU64 a0)) fun x1 =>
 bnd (Gk.shl 16 (UInt64.toNat x1 : Int)) fun x2 =>
 some x2
def m_coresecref18_Blocks (a0 : Int) (a1 : Int) : Option Int :=
 bnd (β := Bool) (letm (decide (a0 < 0)) fun x2 =>
 cond x2 (some true)
  (letm (decide (1073741824 < a0)) fun x3 =>
 cond x3 (some true)
  (letm (decide (a1 < 0)) fun x4 =>
 cond x4 (some true)
  (letm (decide (6 < a1)) fun x5 =>
 some x5)))) fun v6 =>
 cond v6 (some 0)
  (bnd (m_coresecref18_length a1) fun x7 =>
 letm ((w64 (a0 + x7))) fun x8 =>
 letm ((w64 (x8 - 1))) fun x9 =>
 bnd (m_coresecref18_length a1) fun x10 =>
 bnd (quo x9 x10) fun x11 =>
 letm ((max 1 x11)) fun x12 =>
 some x12)
def m_fragment_Outer (a0 : (List S_api_Partial)) (a1 : Int) (a2 : S_api_Message) (a3 : Int) : Option ((List S_api_Partial) × (S_api_Message × (Bool × Int))) :=
 bnd (m_fragment_sound a2 23) fun x4 =>
 bnd (β := Bool) (cond x4.2.2 (letm (decide (0 < x4.1.1)) fun x5 =>
 some x5)
  (some false)) fun v6 =>
 cond v6 (some ([], ((0, (0, (0, ([], ([], []))))), (false, 15))))
  (bnd (m_fragment_putting 27 1024) fun x7 =>
 bnd (x7) fun x8 =>
 bnd (m_fragment_putting_1 a0 a1 a2 a3 x8.1 x8.2.1) fun x9 =>
 some (x9.1, (x9.2.1, (x9.2.2.1, x9.2.2.2))))
def m_coresecref15_Same (a0 : S_api_Message) (a1 : S_api_Message) : Option Bool :=
 bnd (β := Bool) (letm ((a0.1 != a1.1)) fun x2 =>
 cond x2 (some true)
  (letm ((a0.2.1 != a1.2.1)) fun x3 =>
 cond x3 (some true)
  (letm ((a0.2.2.1 != a1.2.2.1)) fun x4 =>
 cond x4 (some true)
  (letm ((a0.2.2.2.1 != a1.2.2.2.1)) fun x5 =>
 cond x5 (some true)
  (letm ((a0.2.2.2.2.2 != a1.2.2.2.2.2)) fun x6 =>
 cond x6 (some true)
  (letm (((a0.2.2.2.2.1.length : Int) != (a1.2.2.2.2.1.length : Int))) fun x7 =>
 some x7)))))) fun v8 =>
 cond v8 (some false)
  (loopL (R := Bool) (S := Unit) (α := S_api_Option) (fun _ _ =>
 some true)
  (fun x11 k12 _ self14 =>
 bnd (β := Bool) (bnd (idx a1.2.2.2.2.1 (k12 : Int)) fun x15 =>
 letm ((x11.1 != x15.1)) fun x16 =>
 cond x16 (some true)
  (bnd (idx a1.2.2.2.2.1 (k12 : Int)) fun x17 =>
 letm ((x11.2 != x17.2)) fun x18 =>
 some x18)) fun v19 =>
 cond v19 (some false)
  (self14 ())) a0.2.2.2.2.1 0 ())
def m_coreseclaw33_awake : Option Bool :=
 bnd (mkl 40 0) fun x0 =>
 bnd (m_fragment_Cut (0, (2, (0, ([], ([], x0))))) 27 0 0) fun x1 =>
 bnd (m_fragment_Cut (0, (2, (0, ([], ([], x0))))) 27 2 0) fun x2 =>
 bnd (β := Bool) (letm ((x1.2 == 0)) fun x3 =>
 cond x3 (letm ((x2.2 == 0)) fun x4 =>
 cond x4 (letm (((x1.1.2.2.2.2.2.length : Int) == 16)) fun x5 =>
 cond x5 (letm (((x1.1.2.2.2.2.1.length : Int) == 1)) fun x6 =>
 cond x6 (bnd (idx x1.1.2.2.2.2.1 0) fun x7 =>
 bnd (idx x7.2 0) fun x8 =>
 letm (((UInt8.toNat x8 : Int) == (UInt8.toNat 8 : Int))) fun x9 =>
 cond x9 (letm (((x2.1.2.2.2.2.2.length : Int) == 8)) fun x10 =>
 cond x10 (bnd (idx x2.1.2.2.2.2.1 0) fun x11 =>
 bnd (idx x11.2 0) fun x12 =>
 letm (((UInt8.toNat x12 : Int) == (UInt8.toNat 32 : Int))) fun x13 =>
 some x13)
  (some false))
  (some false))
  (some false))
  (some false))
  (some false))
  (some false)) fun v14 =>
 some v14
def m_coreseclaw33_FragmentBack (a0 : (List Int)) (a1 : Int) : Option Bool :=
 bnd (m_coresecmake_New a0) fun x2 =>
 bnd (m_coreseclaw33_body x2) fun x3 =>
 bnd (m_coresecmake_Mod a1 3) fun x4 =>
 bnd (m_coresecref18_Blocks (x3.1.2.2.2.2.2.length : Int) x4) fun x5 =>
 loopF (R := Bool) (S := ((List S_api_Partial) × (Int × S_coresecmake_Deck))) (fun self7 s6 =>
 letm (decide (s6.2.1 < x5)) fun x8 =>
 cond x8 (bndS (ρ := Bool) (ρ' := Bool) (Y := ((List S_api_Partial) × S_coresecmake_Deck)) (bnd (m_fragment_Cut x3.1 27 s6.2.1 x4) fun x9 =>
 letm ((x9.2 != 0)) fun x10 =>
 cond x10 (some (.inl false))
  (letm ((w64 (10 + s6.2.1))) fun x11 =>
 bnd (m_fragment_Outer s6.1 3 (x9.1.1, (x9.1.2.1, (x3.1.2.2.1, (x3.1.2.2.2.1, x9.1.2.2.2.2)))) x11) fun x12 =>
 bnd (β := Bool) (letm ((x12.2.2.2 != 0)) fun x13 =>
 cond x13 (some true)
  (letm ((w64 (x5 - 1))) fun x14 =>
 letm ((s6.2.1 == x14)) fun x15 =>
 letm ((x12.2.2.1 != x15)) fun x16 =>
 some x16)) fun v17 =>
 cond v17 (some (.inl false))
  (cond x12.2.2.1 (bnd (β := Bool) (bnd (m_coresecref15_Same x12.2.1 x3.1) fun x18 =>
 cond x18 (letm (((x12.1.length : Int) == 0)) fun x19 =>
 cond x19 (bnd (m_coreseclaw33_awake ) fun x20 =>
 some x20)
  (some false))
  (some false)) fun v21 =>
 some (.inl v21))
  (bnd (β := (Bool × S_coresecmake_Deck)) (bnd (m_coresecmake_Deck_Next s6.2.2 3) fun x22 =>
 letm ((x22.1 == 0)) fun x23 =>
 cond x23 (letm (decide (0 < s6.2.1)) fun x24 =>
 some (x24, x22.2))
  (some (false, x22.2))) fun v25 =>
 cond v25.1 (letm ((w64 (10 + s6.2.1))) fun x26 =>
 bnd (m_fragment_Outer x12.1 3 (x9.1.1, (x9.1.2.1, (x3.1.2.2.1, (x3.1.2.2.2.1, x9.1.2.2.2.2)))) x26) fun x27 =>
 letm ((x27.2.2.2 != 15)) fun x28 =>
 cond x28 (some (.inl false))
  (some (.inr (x12.1, v25.2))))
  (some (.inr (x12.1, v25.2))))))) (fun q => q) fun v29 =>
 letm ((w64 (s6.2.1 + 1))) fun x30 =>
 self7 (v29.1, (x30, v29.2)))
  (some false)) FUEL ([], (0, x3.2))
def m_coresecmake2_Small (a0 : (List UInt8)) : Option Bool :=
 letm (decide ((a0.length : Int) ≤ 900)) fun x1 =>
 some x1
def m_coreseclaw33_light (a0 : (List S_api_Partial)) : Option Bool :=
 loopL (R := Bool) (S := Unit) (α := S_api_Partial) (fun _ _ =>
 letm (decide ((a0.length : Int) ≤ 20)) fun x3 =>
 some x3)
  (fun x4 _ _ self7 =>
 bnd (β := Bool) (bnd (m_coresecmake2_Small x4.2.1) fun x8 =>
 letm ((!x8)) fun x9 =>
 cond x9 (some true)
  (bnd (m_coresecmake2_Small x4.2.2.1) fun x10 =>
 letm ((!x10)) fun x11 =>
 some x11)) fun v12 =>
 cond v12 (some false)
  (self7 ())) a0 0 ()
def m_coresecmake2_Message (a0 : S_api_Message) : Option Bool :=
 loopL (R := Bool) (S := Unit) (α := S_api_Option) (fun _ _ =>
 bnd (β := Bool) (letm (decide ((a0.2.2.2.2.1.length : Int) ≤ 20)) fun x3 =>
 cond x3 (bnd (m_coresecmake2_Small a0.2.2.2.1) fun x4 =>
 cond x4 (bnd (m_coresecmake2_Small a0.2.2.2.2.2) fun x5 =>
 some x5)
  (some false))
  (some false)) fun v6 =>
 some v6)
  (fun x7 _ _ self10 =>
 bnd (m_coresecmake2_Small x7.2) fun x11 =>
 letm ((!x11)) fun x12 =>
 cond x12 (some false)
  (self10 ())) a0.2.2.2.2.1 0 ()
def m_coresecmake_Few (a0 : (List Int)) : Option Bool :=
 letm (decide ((a0.length : Int) ≤ 300)) fun x1 =>
 some x1
def m_coresecref16_Uint (a0 : (List UInt8)) : Option (Int × Int) :=
 loopL (R := (Int × Int)) (S := Int) (α := UInt8) (fun _ s2 =>
 some (s2, 0))
  (fun x3 _ s5 self6 =>
 bnd (Gk.shl s5 (UInt64.toNat 8 : Int)) fun x7 =>
 letm ((w64 (UInt8.toNat x3 : Int))) fun x8 =>
 letm ((ibit .or x7 x8)) fun x9 =>
 letm (decide (4294967295 < x9)) fun x10 =>
 cond x10 (some (0, 8))
  (self6 x9)) a0 0 0
def m_coresecref18_Parse (a0 : (List UInt8)) : Option (S_api_Block × Int) :=
 letm (decide (3 < (a0.length : Int))) fun x1 =>
 cond x1 (some ((0, (false, 0)), 4))
  (bnd (m_coresecref16_Uint a0) fun x2 =>
 bnd (Gk.rem x2.1 8) fun x3 =>
 letm ((x3 == 7)) fun x4 =>
 cond x4 (some ((0, (false, 0)), 4))
  (bnd (quo x2.1 16) fun x5 =>
 bnd (quo x2.1 8) fun x6 =>
 bnd (Gk.rem x6 2) fun x7 =>
 letm ((x7 == 1)) fun x8 =>
 bnd (Gk.rem x2.1 8) fun x9 =>
 some ((x5, (x8, x9)), 0)))
def m_coresecref33_Sound (a0 : S_api_Message) (a1 : Int) : Option (S_api_Block × (Bool × Bool)) :=
 bnd (m_coresecref16_All a0 a1) fun x2 =>
 letm (((x2.length : Int) == 0)) fun x3 =>
 cond x3 (some ((0, (false, 0)), (false, false)))
  (bnd (idx x2 0) fun x4 =>
 bnd (m_coresecref18_Parse x4) fun x5 =>
 bnd (β := Bool) (letm ((x5.2 != 0)) fun x6 =>
 cond x6 (some true)
  (letm (decide (1 < (x2.length : Int))) fun x7 =>
 some x7)) fun v8 =>
 cond v8 (some ((0, (false, 0)), (true, false)))
  (some (x5.1, (true, true))))
def m_coresecref18_valid (a0 : S_api_Block) : Option Bool :=
 bnd (β := Bool) (letm (decide (0 ≤ a0.1)) fun x1 =>
 cond x1 (letm (decide (a0.1 < 1048576)) fun x2 =>
 cond x2 (letm (decide (0 ≤ a0.2.2)) fun x3 =>
 cond x3 (letm (decide (a0.2.2 ≤ 6)) fun x4 =>
 some x4)
  (some false))
  (some false))
  (some false)) fun v5 =>
 some v5
def m_coresecref18_Cut (a0 : (List UInt8)) (a1 : Int) (a2 : Int) : Option ((List UInt8) × (Bool × Int)) :=
 bnd (m_coresecref18_valid (a1, (false, a2))) fun x3 =>
 letm ((!x3)) fun x4 =>
 cond x4 (some ([], (false, 1)))
  (bnd (m_coresecref18_length a2) fun x5 =>
 letm ((w64 (a1 * x5))) fun x6 =>
 bnd (β := Bool) (letm (decide ((a0.length : Int) ≤ x6)) fun x7 =>
 cond x7 (letm ((w64 (x6 + (a0.length : Int)))) fun x8 =>
 letm (decide (0 < x8)) fun x9 =>
 some x9)
  (some false)) fun v10 =>
 cond v10 (some ([], (false, 10)))
  (bnd (m_coresecref18_length a2) fun x11 =>
 letm ((w64 (x6 + x11))) fun x12 =>
 letm ((min (a0.length : Int) x12)) fun x13 =>
 bnd (Gk.cut a0 x6 x13) fun x14 =>
 bnd (app [] x14) fun x15 =>
 letm (decide (x13 < (a0.length : Int))) fun x16 =>
 some (x15, (x16, 0))))
def m_coresecref16_FromUint (a0 : Int) : Option (List UInt8) :=
 bnd (β := Bool) (letm (decide (a0 < 0)) fun x1 =>
 cond x1 (some true)
  (letm (decide (4294967295 < a0)) fun x2 =>
 some x2)) fun v3 =>
 cond v3 (some [])
  (bnd (β := (List UInt8)) (loopF (R := (List UInt8)) (S := S_api_Option) (fun self5 s4 =>
 letm (decide (0 < s4.1)) fun x6 =>
 cond x6 (letm ((toU8 s4.1)) fun x7 =>
 bnd (app [x7] s4.2) fun x8 =>
 bnd (Gk.shr s4.1 (UInt64.toNat 8 : Int)) fun x9 =>
 self5 (x9, x8))
  (some s4.2)) FUEL (a0, [])) fun v10 =>
 some v10)
def m_coresecref18_Value (a0 : S_api_Block) : Option ((List UInt8) × Int) :=
 bnd (m_coresecref18_valid a0) fun x1 =>
 letm ((!x1)) fun x2 =>
 cond x2 (some ([], 1))
  (letm ((w64 (16 * a0.1))) fun x3 =>
 letm ((w64 (x3 + a0.2.2))) fun x4 =>
 bnd (β := Int) (cond a0.2.1 (letm ((w64 (x4 + 8))) fun x5 =>
 some x5)
  (some x4)) fun v6 =>
 bnd (m_coresecref16_FromUint v6) fun x7 =>
 some (x7, 0))
def m_coresecref33_Cut (a0 : S_api_Message) (a1 : Int) (a2 : Int) (a3 : Int) : Option (S_api_Message × Int) :=
 bnd (β := Bool) (letm ((a1 != 27)) fun x4 =>
 cond x4 (letm ((a1 != 23)) fun x5 =>
 some x5)
  (some false)) fun v6 =>
 cond v6 (some ((0, (0, (0, ([], ([], []))))), 1))
  (bnd (m_coresecref33_Sound a0 a1) fun x7 =>
 cond x7.2.1 (some ((0, (0, (0, ([], ([], []))))), 7))
  (bnd (m_coresecref18_Cut a0.2.2.2.2.2 a2 a3) fun x8 =>
 letm ((x8.2.2 != 0)) fun x9 =>
 cond x9 (some ((0, (0, (0, ([], ([], []))))), x8.2.2))
  (bnd (m_coresecref18_Value (a2, (x8.2.1, a3))) fun x10 =>
 bnd (m_coresecref16_Set a0 a1 [x10.1]) fun x11 =>
 some ((x11.1, (x11.2.1, (x11.2.2.1, (x11.2.2.2.1, (x11.2.2.2.2.1, x8.1))))), 0))))
def m_coresecmake2_Block (a0 : S_coresecmake_Deck) (a1 : Int) : Option ((List UInt8) × S_coresecmake_Deck) :=
 bnd (m_coresecmake_Deck_Next a0 2) fun x2 =>
 letm ((x2.1 == 0)) fun x3 =>
 bnd (m_coresecmake_Deck_Next x2.2 3) fun x4 =>
 bnd (m_coresecref18_Value (a1, (x3, x4.1))) fun x5 =>
 some (x5.1, x4.2)
def m_coresecref33_position (a0 : S_api_Block) : Option Int :=
 letm ((toU64 a0.2.2)) fun x1 =>
 bnd (Gk.shl 16 (UInt64.toNat x1 : Int)) fun x2 =>
 letm ((w64 (a0.1 * x2))) fun x3 =>
 some x3
def m_coresecref15_extended (a0 : Int) : Option S_api_Option :=
 letm (decide (a0 < 13)) fun x1 =>
 cond x1 (some (a0, []))
  (letm (decide (a0 < 269)) fun x2 =>
 cond x2 (letm ((w64 (a0 - 13))) fun x3 =>
 letm ((toU8 x3)) fun x4 =>
 some (13, [x4]))
  (letm ((w64 (a0 - 269))) fun x5 =>
 bnd (Gk.shr x5 (UInt64.toNat 8 : Int)) fun x6 =>
 letm ((toU8 x6)) fun x7 =>
 letm ((w64 (a0 - 269))) fun x8 =>
 letm ((toU8 x8)) fun x9 =>
 some (14, [x7, x9])))
def m_coresecref15_Raw (a0 : S_api_Message) : Option (List UInt8) :=
 letm ((w64 (16 * a0.1))) fun x1 =>
 letm ((w64 (64 + x1))) fun x2 =>
 letm ((w64 (x2 + (a0.2.2.2.1.length : Int)))) fun x3 =>
 letm ((toU8 x3)) fun x4 =>
 letm ((toU8 a0.2.1)) fun x5 =>
 bnd (Gk.shr a0.2.2.1 (UInt64.toNat 8 : Int)) fun x6 =>
 letm ((toU8 x6)) fun x7 =>
 letm ((toU8 a0.2.2.1)) fun x8 =>
 bnd (app [x4, x5, x7, x8] a0.2.2.2.1) fun x9 =>
 loopL (R := (List UInt8)) (S := ((List UInt8) × Int)) (α := S_api_Option) (fun _ s11 =>
 bnd (β := (List UInt8)) (letm (decide (0 < (a0.2.2.2.2.2.length : Int))) fun x12 =>
 cond x12 (bnd (app s11.1 [255]) fun x13 =>
 bnd (app x13 a0.2.2.2.2.2) fun x14 =>
 some x14)
  (some s11.1)) fun v15 =>
 some v15)
  (fun x16 _ s18 self19 =>
 letm ((w64 (x16.1 - s18.2))) fun x20 =>
 bnd (m_coresecref15_extended x20) fun x21 =>
 bnd (m_coresecref15_extended (x16.2.length : Int)) fun x22 =>
 letm ((w64 (16 * x21.1))) fun x23 =>
 letm ((w64 (x23 + x22.1))) fun x24 =>
 letm ((toU8 x24)) fun x25 =>
 bnd (app s18.1 [x25]) fun x26 =>
 bnd (app x26 x21.2) fun x27 =>
 bnd (app x27 x22.2) fun x28 =>
 bnd (app x28 x16.2) fun x29 =>
 self19 (x29, x16.1)) a0.2.2.2.2.1 0 (x9, 0)
def m_coresecref15_Valid (a0 : S_api_Message) : Option Bool :=
 bnd (β := Bool) (letm (decide (a0.1 < 0)) fun x1 =>
 cond x1 (some true)
  (letm (decide (3 < a0.1)) fun x2 =>
 cond x2 (some true)
  (letm (decide (a0.2.1 < 0)) fun x3 =>
 cond x3 (some true)
  (letm (decide (255 < a0.2.1)) fun x4 =>
 cond x4 (some true)
  (letm (decide (a0.2.2.1 < 0)) fun x5 =>
 cond x5 (some true)
  (letm (decide (65535 < a0.2.2.1)) fun x6 =>
 cond x6 (some true)
  (letm (decide (8 < (a0.2.2.2.1.length : Int))) fun x7 =>
 cond x7 (some true)
  (letm (decide (32 < (a0.2.2.2.2.1.length : Int))) fun x8 =>
 cond x8 (some true)
  (letm (decide (4096 < (a0.2.2.2.2.2.length : Int))) fun x9 =>
 some x9))))))))) fun v10 =>
 cond v10 (some false)
  (bnd (quo a0.2.1 32) fun x11 =>
 bnd (β := Bool) (letm ((x11 != 0)) fun x12 =>
 cond x12 (letm ((x11 != 2)) fun x13 =>
 cond x13 (letm ((x11 != 4)) fun x14 =>
 cond x14 (letm ((x11 != 5)) fun x15 =>
 some x15)
  (some false))
  (some false))
  (some false)) fun v16 =>
 cond v16 (some false)
  (loopL (R := Bool) (S := Int) (α := S_api_Option) (fun _ _ =>
 bnd (β := Bool) (letm ((a0.2.1 == 0)) fun x19 =>
 cond x19 (letm ((w64 ((a0.2.2.2.1.length : Int) + (a0.2.2.2.2.1.length : Int)))) fun x20 =>
 letm ((w64 (x20 + (a0.2.2.2.2.2.length : Int)))) fun x21 =>
 letm (decide (0 < x21)) fun x22 =>
 cond x22 (some true)
  (letm ((a0.1 == 3)) fun x23 =>
 cond x23 (letm ((a0.2.1 != 0)) fun x24 =>
 some x24)
  (some false)))
  (letm ((a0.1 == 3)) fun x25 =>
 cond x25 (letm ((a0.2.1 != 0)) fun x26 =>
 some x26)
  (some false))) fun v27 =>
 cond v27 (some false)
  (bnd (m_coresecref15_Raw a0) fun x28 =>
 letm (decide ((x28.length : Int) ≤ 4096)) fun x29 =>
 some x29))
  (fun x30 _ s32 self33 =>
 bnd (β := Bool) (letm (decide (x30.1 < s32)) fun x34 =>
 cond x34 (some true)
  (letm (decide (65535 < x30.1)) fun x35 =>
 cond x35 (some true)
  (letm (decide (1034 < (x30.2.length : Int))) fun x36 =>
 some x36))) fun v37 =>
 cond v37 (some false)
  (self33 x30.1)) a0.2.2.2.2.1 0 0))
def m_coresecref15_Encode (a0 : S_api_Message) : Option ((List UInt8) × Int) :=
 bnd (m_coresecref15_Valid a0) fun x1 =>
 letm ((!x1)) fun x2 =>
 cond x2 (some ([], 1))
  (bnd (m_coresecref15_Raw a0) fun x3 =>
 some (x3, 0))
def m_coresecref33_Key (a0 : S_api_Message) (a1 : Int) : Option ((List UInt8) × Int) :=
 bnd (β := Bool) (letm ((a1 != 27)) fun x2 =>
 cond x2 (letm ((a1 != 23)) fun x3 =>
 some x3)
  (some false)) fun v4 =>
 cond v4 (some ([], 1))
  (loopL (R := ((List UInt8) × Int)) (S := (S_api_Message × (List S_api_Option))) (α := S_api_Option) (fun _ s6 =>
 bnd (m_coresecref15_Encode (s6.1.1, (s6.1.2.1, (s6.1.2.2.1, (s6.1.2.2.2.1, (s6.2, s6.1.2.2.2.2.2)))))) fun x7 =>
 some (x7.1, x7.2))
  (fun x8 _ s10 self11 =>
 bnd (β := (S_api_Message × (List S_api_Option))) (letm ((x8.1 != a1)) fun x12 =>
 cond x12 (bnd (app s10.2 [x8]) fun x13 =>
 some (s10.1, x13))
  (some (s10.1, s10.2))) fun v14 =>
 self11 (v14.1, v14.2)) a0.2.2.2.2.1 0 ((0, (a0.2.1, (0, ([], ([], []))))), []))
def m_coresecref18_Valid (a0 : (List S_api_Partial)) : Option Bool :=
 letm (decide (4 < (a0.length : Int))) fun x1 =>
 cond x1 (some false)
  (loopL (R := Bool) (S := Unit) (α := S_api_Partial) (fun _ _ =>
 some true)
  (fun x4 k5 _ self7 =>
 bnd (β := Bool) (letm (decide (x4.1 < 0)) fun x8 =>
 cond x8 (some true)
  (letm (decide (65536 < x4.1)) fun x9 =>
 cond x9 (some true)
  (letm (decide (4096 < (x4.2.1.length : Int))) fun x10 =>
 cond x10 (some true)
  (letm (decide (4096 < (x4.2.2.1.length : Int))) fun x11 =>
 cond x11 (some true)
  (letm (decide (x4.2.2.2 < 0)) fun x12 =>
 some x12))))) fun v13 =>
 cond v13 (some false)
  (bnd (Gk.cut a0 0 (k5 : Int)) fun x14 =>
 loopL (R := Bool) (S := Unit) (α := S_api_Partial) (fun _ _ =>
 self7 ())
  (fun x17 _ _ self20 =>
 bnd (β := Bool) (letm ((x17.1 == x4.1)) fun x21 =>
 cond x21 (letm ((x17.2.1 == x4.2.1)) fun x22 =>
 some x22)
  (some false)) fun v23 =>
 cond v23 (some false)
  (self20 ())) x14 0 ())) a0 0 ())
def m_coresecref18_Put (a0 : (List S_api_Partial)) (a1 : Int) (a2 : (List UInt8)) (a3 : S_api_Block) (a4 : (List UInt8)) (a5 : Int) : Option ((List S_api_Partial) × ((List UInt8) × (Bool × Int))) :=
 bnd (β := Bool) (bnd (m_coresecref18_Valid a0) fun x6 =>
 letm ((!x6)) fun x7 =>
 cond x7 (some true)
  (letm (decide (a1 < 0)) fun x8 =>
 cond x8 (some true)
  (letm (decide (65536 < a1)) fun x9 =>
 cond x9 (some true)
  (letm (decide (4096 < (a2.length : Int))) fun x10 =>
 cond x10 (some true)
  (bnd (m_coresecref18_valid a3) fun x11 =>
 letm ((!x11)) fun x12 =>
 cond x12 (some true)
  (letm (decide (a5 < 0)) fun x13 =>
 cond x13 (some true)
  (letm (decide (1073741824 < a5)) fun x14 =>
 some x14))))))) fun v15 =>
 cond v15 (some ([], ([], (false, 1))))
  (bnd (β := Bool) (cond a3.2.1 (bnd (m_coresecref18_length a3.2.2) fun x16 =>
 letm (((a4.length : Int) != x16)) fun x17 =>
 cond x17 (some true)
  (letm ((!a3.2.1)) fun x18 =>
 cond x18 (bnd (m_coresecref18_length a3.2.2) fun x19 =>
 letm (decide (x19 < (a4.length : Int))) fun x20 =>
 cond x20 (some true)
  (letm (((a4.length : Int) == 0)) fun x21 =>
 cond x21 (letm (decide (0 < a3.1)) fun x22 =>
 some x22)
  (some false)))
  (some false)))
  (letm ((!a3.2.1)) fun x23 =>
 cond x23 (bnd (m_coresecref18_length a3.2.2) fun x24 =>
 letm (decide (x24 < (a4.length : Int))) fun x25 =>
 cond x25 (some true)
  (letm (((a4.length : Int) == 0)) fun x26 =>
 cond x26 (letm (decide (0 < a3.1)) fun x27 =>
 some x27)
  (some false)))
  (some false))) fun v28 =>
 cond v28 (some ([], ([], (false, 4))))
  (loopL (R := ((List S_api_Partial) × ((List UInt8) × (Bool × Int)))) (S := ((List S_api_Partial) × Int)) (α := S_api_Partial) (fun _ s30 =>
 bndS (ρ := ((List S_api_Partial) × ((List UInt8) × (Bool × Int)))) (ρ' := ((List S_api_Partial) × ((List UInt8) × (Bool × Int)))) (Y := (List UInt8)) (letm (decide (0 < a3.1)) fun x31 =>
 cond x31 (bnd (β := Bool) (letm (decide (s30.2 < 0)) fun x32 =>
 cond x32 (some true)
  (bnd (idx s30.1 s30.2) fun _ =>
 bnd (idx s30.1 ((s30.2).toNat : Int)) fun x34 =>
 bnd (m_coresecref18_length a3.2.2) fun x35 =>
 letm ((w64 (a3.1 * x35))) fun x36 =>
 letm (((x34.2.2.1.length : Int) != x36)) fun x37 =>
 some x37)) fun v38 =>
 cond v38 (some (.inl ([], ([], (false, 15)))))
  (bnd (idx s30.1 s30.2) fun _ =>
 bnd (idx s30.1 ((s30.2).toNat : Int)) fun x40 =>
 bnd (app [] x40.2.2.1) fun x41 =>
 some (.inr x41)))
  (some (.inr []))) (fun q => q) fun v42 =>
 bnd (app v42 a4) fun x43 =>
 letm (decide (4096 < (x43.length : Int))) fun x44 =>
 cond x44 (some ([], ([], (false, 8))))
  (bnd (β := Bool) (letm ((!a3.2.1)) fun x45 =>
 cond x45 (letm (decide (0 ≤ s30.2)) fun x46 =>
 some x46)
  (some false)) fun v47 =>
 cond v47 (bnd (Gk.cut s30.1 0 s30.2) fun x48 =>
 bnd (app [] x48) fun x49 =>
 letm ((w64 (s30.2 + 1))) fun x50 =>
 bnd (Gk.cut s30.1 x50 (s30.1.length : Int)) fun x51 =>
 bnd (app x49 x51) fun x52 =>
 some (x52, (x43, (true, 0))))
  (letm ((!a3.2.1)) fun x53 =>
 cond x53 (some (s30.1, (x43, (true, 0))))
  (bnd (β := Bool) (letm (decide (s30.2 < 0)) fun x54 =>
 cond x54 (letm (decide (4 ≤ (s30.1.length : Int))) fun x55 =>
 some x55)
  (some false)) fun v56 =>
 cond v56 (some ([], ([], (false, 16))))
  (bnd (app [] a2) fun x57 =>
 letm ((w64 (a5 + 128))) fun x58 =>
 letm (decide (s30.2 < 0)) fun x59 =>
 cond x59 (bnd (app s30.1 [(a1, (x57, (x43, x58)))]) fun x60 =>
 some (x60, ([], (false, 0))))
  (bnd (idx s30.1 s30.2) fun _ =>
 bnd (idx s30.1 ((s30.2).toNat : Int)) fun _ =>
 letm ((s30.1.set (s30.2).toNat (a1, (x57, (x43, x58))))) fun x63 =>
 some (x63, ([], (false, 0)))))))))
  (fun x64 _ s66 self67 =>
 bnd (β := ((List S_api_Partial) × Int)) (bnd (β := Bool) (letm ((x64.1 == a1)) fun x68 =>
 cond x68 (letm ((x64.2.1 == a2)) fun x69 =>
 some x69)
  (some false)) fun v70 =>
 bnd (β := Bool) (letm (decide (x64.2.2.2 ≤ a5)) fun x71 =>
 cond x71 (some true)
  (cond v70 (letm ((a3.1 == 0)) fun x72 =>
 some x72)
  (some false))) fun v73 =>
 cond v73 (some (s66.1, s66.2))
  (bnd (β := Int) (cond v70 (some (s66.1.length : Int))
  (some s66.2)) fun v74 =>
 bnd (app [] x64.2.1) fun x75 =>
 bnd (app [] x64.2.2.1) fun x76 =>
 bnd (app s66.1 [(x64.1, (x75, (x76, x64.2.2.2)))]) fun x77 =>
 some (x77, v74))) fun v78 =>
 self67 (v78.1, v78.2)) a0 0 ([], (-1))))
def m_coresecref33_Put (a0 : (List S_api_Partial)) (a1 : Int) (a2 : S_api_Message) (a3 : Int) (a4 : Int) (a5 : Int) : Option ((List S_api_Partial) × (S_api_Message × (Bool × Int))) :=
 bnd (β := Bool) (letm ((a3 != 27)) fun x6 =>
 cond x6 (letm ((a3 != 23)) fun x7 =>
 some x7)
  (some false)) fun v8 =>
 cond v8 (some ([], ((0, (0, (0, ([], ([], []))))), (false, 1))))
  (bnd (m_coresecref33_Sound a2 a3) fun x9 =>
 letm ((!x9.2.1)) fun x10 =>
 cond x10 (some (a0, (a2, (true, 0))))
  (letm ((!x9.2.2)) fun x11 =>
 cond x11 (some ([], ((0, (0, (0, ([], ([], []))))), (false, 4))))
  (bnd (m_coresecref33_position x9.1) fun x12 =>
 letm ((w64 (x12 + (a2.2.2.2.2.2.length : Int)))) fun x13 =>
 letm (decide (a4 < x13)) fun x14 =>
 cond x14 (some ([], ((0, (0, (0, ([], ([], []))))), (false, 8))))
  (bnd (m_coresecref33_Key a2 a3) fun x15 =>
 letm ((x15.2 != 0)) fun x16 =>
 cond x16 (some ([], ((0, (0, (0, ([], ([], []))))), (false, x15.2))))
  (bnd (m_coresecref18_Put a0 a1 x15.1 x9.1 a2.2.2.2.2.2 a5) fun x17 =>
 letm ((x17.2.2.2 != 0)) fun x18 =>
 cond x18 (some ([], ((0, (0, (0, ([], ([], []))))), (false, x17.2.2.2))))
  (letm ((!x17.2.2.1)) fun x19 =>
 cond x19 (some (x17.1, ((0, (0, (0, ([], ([], []))))), (false, 0))))
  (bnd (m_coresecref16_Set a2 a3 []) fun x20 =>
 some (x17.1, ((x20.1, (x20.2.1, (x20.2.2.1, (x20.2.2.2.1, (x20.2.2.2.2.1, x17.2.1))))), (true, 0))))))))))
def m_coresecref33_Outer (a0 : (List S_api_Partial)) (a1 : Int) (a2 : S_api_Message) (a3 : Int) : Option ((List S_api_Partial) × (S_api_Message × (Bool × Int))) :=
 bnd (m_coresecref33_Sound a2 23) fun x4 =>
 bnd (β := Bool) (cond x4.2.2 (letm (decide (0 < x4.1.1)) fun x5 =>
 some x5)
  (some false)) fun v6 =>
 cond v6 (some ([], ((0, (0, (0, ([], ([], []))))), (false, 15))))
  (bnd (m_coresecref33_Put a0 a1 a2 27 1024 a3) fun x7 =>
 some (x7.1, (x7.2.1, (x7.2.2.1, x7.2.2.2))))
def m_coresecref18_Same (a0 : (List S_api_Partial)) (a1 : (List S_api_Partial)) : Option Bool :=
 letm (((a0.length : Int) != (a1.length : Int))) fun x2 =>
 cond x2 (some false)
  (loopL (R := Bool) (S := Unit) (α := S_api_Partial) (fun _ _ =>
 some true)
  (fun x5 k6 _ self8 =>
 bnd (β := Bool) (bnd (idx a1 (k6 : Int)) fun x9 =>
 letm ((x5.1 != x9.1)) fun x10 =>
 cond x10 (some true)
  (bnd (idx a1 (k6 : Int)) fun x11 =>
 letm ((x5.2.2.2 != x11.2.2.2)) fun x12 =>
 cond x12 (some true)
  (bnd (idx a1 (k6 : Int)) fun x13 =>
 letm ((x5.2.1 != x13.2.1)) fun x14 =>
 cond x14 (some true)
  (bnd (idx a1 (k6 : Int)) fun x15 =>
 letm ((x5.2.2.1 != x15.2.2.1)) fun x16 =>
 some x16)))) fun v17 =>
 cond v17 (some false)
  (self8 ())) a0 0 ())
def m_coresecref33_Inner (a0 : (List S_api_Partial)) (a1 : Int) (a2 : S_api_Message) (a3 : Int) : Option ((List S_api_Partial) × (S_api_Message × (Bool × Int))) :=
 bnd (m_coresecref33_Put a0 a1 a2 27 4096 a3) fun x4 =>
 some (x4.1, (x4.2.1, (x4.2.2.1, x4.2.2.2)))
def m_coreseclaw33_FragmentPuts (a0 : (List S_api_Partial)) (a1 : S_api_Message) (a2 : (List Int)) (a3 : Int) (a4 : Int) (a5 : Int) : Option Bool :=
 bnd (β := Bool) (bnd (m_coreseclaw33_light a0) fun x6 =>
 letm ((!x6)) fun x7 =>
 cond x7 (some true)
  (bnd (m_coresecmake2_Message a1) fun x8 =>
 letm ((!x8)) fun x9 =>
 cond x9 (some true)
  (bnd (m_coresecmake_Few a2) fun x10 =>
 letm ((!x10)) fun x11 =>
 some x11))) fun v12 =>
 cond v12 (bnd (m_coreseclaw33_awake ) fun x13 =>
 some x13)
  (bnd (m_coresecmake_New a2) fun x14 =>
 bnd (β := ((List S_api_Partial) × S_coresecmake_Deck)) (bnd (m_coresecmake_Deck_Next x14 3) fun x15 =>
 letm (decide (0 < x15.1)) fun x16 =>
 cond x16 (some ([], x15.2))
  (some (a0, x15.2))) fun v17 =>
 bnd (m_coreseclaw33_body v17.2) fun x18 =>
 bnd (m_coreseclaw33_body x18.2) fun x19 =>
 loopF (R := Bool) (S := ((List S_api_Partial) × (Int × (Int × S_coresecmake_Deck)))) (fun self21 s20 =>
 letm (decide (s20.2.2.1 < 8)) fun x22 =>
 cond x22 (bndS (ρ := Bool) (ρ' := Bool) (Y := ((List S_api_Partial) × (Int × S_coresecmake_Deck))) (bnd (β := (Int × (S_api_Message × S_coresecmake_Deck))) (bnd (m_coresecmake_Deck_Next s20.2.2.2 6) fun x23 =>
 bnd (β := Bool) (letm ((x23.1 == 0)) fun x24 =>
 cond x24 (some true)
  (letm ((x23.1 == 1)) fun x25 =>
 cond x25 (some true)
  (letm ((x23.1 == 2)) fun x26 =>
 some x26))) fun v27 =>
 cond v27 (bnd (m_coresecref33_Cut x18.1 27 s20.2.1 0) fun x28 =>
 letm ((w64 (s20.2.1 + 1))) fun x29 =>
 some (x29, (x28.1, x23.2)))
  (letm ((x23.1 == 3)) fun x30 =>
 cond x30 (bnd (m_coresecmake_Deck_Next x23.2 4) fun x31 =>
 bnd (m_coresecmake_Deck_Next x31.2 2) fun x32 =>
 bnd (m_coresecref33_Cut x19.1 27 x31.1 x32.1) fun x33 =>
 some (s20.2.1, (x33.1, x32.2)))
  (letm ((x23.1 == 4)) fun x34 =>
 cond x34 (bnd (m_coresecmake_Deck_Next x23.2 2) fun x35 =>
 bnd (idx [27, 23] x35.1) fun x36 =>
 bnd (m_coresecmake_Deck_Next x35.2 3) fun x37 =>
 bnd (m_coresecmake2_Block x37.2 x37.1) fun x38 =>
 bnd (m_coresecref16_Set x18.1 x36 [x38.1]) fun x39 =>
 some (s20.2.1, (x39, x38.2)))
  (some (s20.2.1, (a1, x23.2)))))) fun v40 =>
 bnd (m_coresecmake_Deck_Next v40.2.2 2) fun x41 =>
 letm ((w64 (5 + s20.2.2.1))) fun x42 =>
 bnd (β := (Int × (Int × S_coresecmake_Deck))) (bnd (m_coresecmake_Deck_Next x41.2 9) fun x43 =>
 letm ((x43.1 == 8)) fun x44 =>
 cond x44 (some (a3, (a4, x43.2)))
  (some (x41.1, (x42, x43.2)))) fun v45 =>
 bnd (m_fragment_Outer s20.1 v45.1 v40.2.1 v45.2.1) fun x46 =>
 bnd (m_coresecref33_Outer s20.1 v45.1 v40.2.1 v45.2.1) fun x47 =>
 bnd (β := Bool) (letm ((x46.2.2.2 != x47.2.2.2)) fun x48 =>
 cond x48 (some true)
  (letm ((x46.2.2.1 != x47.2.2.1)) fun x49 =>
 cond x49 (some true)
  (bnd (m_coresecref18_Same x46.1 x47.1) fun x50 =>
 letm ((!x50)) fun x51 =>
 cond x51 (some true)
  (bnd (m_coresecref15_Same x46.2.1 x47.2.1) fun x52 =>
 letm ((!x52)) fun x53 =>
 some x53)))) fun v54 =>
 cond v54 (some (.inl false))
  (bnd (m_fragment_Inner s20.1 v45.1 v40.2.1 v45.2.1) fun x55 =>
 bnd (m_coresecref33_Inner s20.1 v45.1 v40.2.1 v45.2.1) fun x56 =>
 bnd (β := Bool) (letm ((x55.2.2.2 != x56.2.2.2)) fun x57 =>
 cond x57 (some true)
  (letm ((x55.2.2.1 != x56.2.2.1)) fun x58 =>
 cond x58 (some true)
  (bnd (m_coresecref18_Same x55.1 x56.1) fun x59 =>
 letm ((!x59)) fun x60 =>
 cond x60 (some true)
  (bnd (m_coresecref15_Same x55.2.1 x56.2.1) fun x61 =>
 letm ((!x61)) fun x62 =>
 some x62)))) fun v63 =>
 cond v63 (some (.inl false))
  (loopL (R := (Bool ⊕ ((List S_api_Partial) × (Int × S_coresecmake_Deck)))) (S := (S_api_Message × S_api_Message)) (α := Int) (fun _ _ =>
 letm ((x46.2.2.2 == 0)) fun x66 =>
 cond x66 (some (.inr (x46.1, (v40.1, v45.2.2))))
  (some (.inr (s20.1, (v40.1, v45.2.2)))))
  (fun x67 _ _ self70 =>
 bnd (m_coresecmake_Mod a5 60) fun x71 =>
 bnd (m_fragment_Put s20.1 v45.1 v40.2.1 x67 x71 v45.2.1) fun x72 =>
 bnd (m_coresecmake_Mod a5 60) fun x73 =>
 bnd (m_coresecref33_Put s20.1 v45.1 v40.2.1 x67 x73 v45.2.1) fun x74 =>
 bnd (β := Bool) (letm ((x72.2.2.2 != x74.2.2.2)) fun x75 =>
 cond x75 (some true)
  (letm ((x72.2.2.1 != x74.2.2.1)) fun x76 =>
 cond x76 (some true)
  (bnd (m_coresecref18_Same x72.1 x74.1) fun x77 =>
 letm ((!x77)) fun x78 =>
 cond x78 (some true)
  (bnd (m_coresecref15_Same x72.2.1 x74.2.1) fun x79 =>
 letm ((!x79)) fun x80 =>
 some x80)))) fun v81 =>
 cond v81 (some (.inl false))
  (self70 (x72.2.1, x74.2.1))) [a5, 23] 0 (x55.2.1, x56.2.1)))) (fun q => q) fun v82 =>
 letm ((w64 (s20.2.2.1 + 1))) fun x83 =>
 self21 (v82.1, (v82.2.1, (x83, v82.2.2))))
  (bnd (m_coreseclaw33_awake ) fun x84 =>
 some x84)) FUEL (v17.1, (0, (0, x19.2))))
end
end Go.Proofs.Ytdgpkkfkloapbaa
