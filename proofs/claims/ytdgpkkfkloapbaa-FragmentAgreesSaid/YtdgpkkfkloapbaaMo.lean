/-
  Models of the functions, as the evaluator computes them. No condition.
-/
import Derived.Test.YtdgpkkfkloapbaaEv
namespace Go.Proofs.Ytdgpkkfkloapbaa
open Go.Gk Go.RowKit
noncomputable section
set_option maxRecDepth 100000
def m_coresecmake2_Small (a0 : (List UInt8)) : Option Bool :=
 letm (decide ((a0.length : Int) ≤ 900)) fun x1 =>
 some x1
def m_coresecmake2_Message (a0 : S_api_Message) : Option Bool :=
 loopL (R := Bool) (S := Unit) (α := S_api_Option) (fun _ _ =>
 letm (decide ((a0.2.2.2.2.1.length : Int) ≤ 20)) fun x3 =>
 cond x3 (bnd (m_coresecmake2_Small a0.2.2.2.1) fun x4 =>
 cond x4 (bnd (m_coresecmake2_Small a0.2.2.2.2.2) fun x5 =>
 some x5)
  (some false))
  (some false))
  (fun x6 _ _ self9 =>
 bnd (m_coresecmake2_Small x6.2) fun x10 =>
 letm ((!x10)) fun x11 =>
 cond x11 (some false)
  (self9 ())) a0.2.2.2.2.1 0 ()
def m_coresecmake2_All (a0 : (List (List UInt8))) : Option Bool :=
 loopL (R := Bool) (S := Unit) (α := (List UInt8)) (fun _ _ =>
 letm (decide ((a0.length : Int) ≤ 20)) fun x3 =>
 some x3)
  (fun x4 _ _ self7 =>
 bnd (m_coresecmake2_Small x4) fun x8 =>
 letm ((!x8)) fun x9 =>
 cond x9 (some false)
  (self7 ())) a0 0 ()
def m_fragment_numbered (a0 : Int) : Option Bool :=
 letm ((a0 == 27)) fun x1 =>
 cond x1 (some true)
  (letm ((a0 == 23)) fun x2 =>
 some x2)
def m_bytes_Clone (a0 : List UInt8) : Option (List UInt8) := app ([] : List UInt8) a0
def m_bytes_Clone_o (a0 : List UInt8) : Option (List UInt8) := m_bytes_Clone a0

def m_option_All (a0 : S_api_Message) (a1 : Int) : Option (List (List UInt8)) :=
 loopL (R := (List (List UInt8))) (S := (List (List UInt8))) (α := S_api_Option) (fun _ s3 =>
 some s3)
  (fun x4 _ s6 self7 =>
 bnd (β := (List (List UInt8))) (letm ((x4.1 == a1)) fun x8 =>
 cond x8 (bnd (m_bytes_Clone x4.2) fun x9 =>
 bnd (app s6 [x9]) fun x10 =>
 some x10)
  (some s6)) fun v11 =>
 self7 v11) a0.2.2.2.2.1 0 []
def m_block_sound (a0 : S_api_Block) : Option Bool :=
 letm (decide (0 ≤ a0.1)) fun x1 =>
 cond x1 (letm (decide (a0.1 ≤ 1048575)) fun x2 =>
 cond x2 (letm (decide (0 ≤ a0.2.2)) fun x3 =>
 cond x3 (letm (decide (a0.2.2 ≤ 6)) fun x4 =>
 some x4)
  (some false))
  (some false))
  (some false)
def m_block_length (a0 : Int) : Option Int :=
 bnd (Gk.shl 16 a0) fun x1 =>
 some x1
def m_block_Cut (a0 : (List UInt8)) (a1 : Int) (a2 : Int) : Option ((List UInt8) × (Bool × Int)) :=
 bnd (m_block_sound (a1, (false, a2))) fun x3 =>
 letm ((!x3)) fun x4 =>
 cond x4 (some ([], (false, 1)))
  (bnd (m_block_length a2) fun x5 =>
 letm ((w64 (a1 * x5))) fun x6 =>
 letm (decide ((a0.length : Int) ≤ x6)) fun x7 =>
 cond x7 (letm ((w64 (x6 + (a0.length : Int)))) fun x8 =>
 letm (decide (0 < x8)) fun x9 =>
 cond x9 (some ([], (false, 10)))
  (bnd (m_block_length a2) fun x10 =>
 letm ((w64 (x6 + x10))) fun x11 =>
 letm ((min (a0.length : Int) x11)) fun x12 =>
 bnd (Gk.cut a0 x6 x12) fun x13 =>
 bnd (m_bytes_Clone x13) fun x14 =>
 letm (decide (x12 < (a0.length : Int))) fun x15 =>
 some (x14, (x15, 0))))
  (bnd (m_block_length a2) fun x16 =>
 letm ((w64 (x6 + x16))) fun x17 =>
 letm ((min (a0.length : Int) x17)) fun x18 =>
 bnd (Gk.cut a0 x6 x18) fun x19 =>
 bnd (m_bytes_Clone x19) fun x20 =>
 letm (decide (x18 < (a0.length : Int))) fun x21 =>
 some (x20, (x21, 0))))
def m_option_FromUint (a0 : Int) : Option (List UInt8) :=
 letm (decide (a0 < 0)) fun x1 =>
 cond x1 (some [])
  (letm (decide (4294967295 < a0)) fun x2 =>
 cond x2 (some [])
  (loopF (R := (List UInt8)) (S := ((List UInt8) × Int)) (fun self4 s3 =>
 letm (decide (0 ≤ s3.2)) fun x5 =>
 cond x5 (bnd (β := (List UInt8)) (bnd (Gk.shr a0 s3.2) fun x6 =>
 letm (decide (0 < x6)) fun x7 =>
 cond x7 (bnd (Gk.shr a0 s3.2) fun x8 =>
 letm ((toU8 x8)) fun x9 =>
 bnd (app s3.1 [x9]) fun x10 =>
 some x10)
  (some s3.1)) fun v11 =>
 letm ((w64 (s3.2 - 8))) fun x12 =>
 self4 (v11, x12))
  (some s3.1)) FUEL ([], 24)))
def m_block_Value (a0 : S_api_Block) : Option ((List UInt8) × Int) :=
 bnd (m_block_sound a0) fun x1 =>
 letm ((!x1)) fun x2 =>
 cond x2 (some ([], 1))
  (bnd (Gk.shl a0.1 (UInt64.toNat 4 : Int)) fun x3 =>
 letm ((ibit .or x3 a0.2.2)) fun x4 =>
 bnd (β := Int) (cond a0.2.1 (letm ((ibit .or x4 8)) fun x5 =>
 some x5)
  (some x4)) fun v6 =>
 bnd (m_option_FromUint v6) fun x7 =>
 some (x7, 0))
def m_option_owned (a0 : S_api_Message) (a1 : (List S_api_Option)) : Option S_api_Message :=
 bnd (m_bytes_Clone a0.2.2.2.1) fun x2 =>
 bnd (m_bytes_Clone a0.2.2.2.2.2) fun x3 =>
 loopL (R := S_api_Message) (S := (S_api_Message × (List S_api_Option))) (α := S_api_Option) (fun _ s5 =>
 some (s5.1.1, (s5.1.2.1, (s5.1.2.2.1, (s5.1.2.2.2.1, (s5.2, s5.1.2.2.2.2.2))))))
  (fun x6 _ s8 self9 =>
 bnd (m_bytes_Clone x6.2) fun x10 =>
 bnd (app s8.2 [(x6.1, x10)]) fun x11 =>
 self9 (s8.1, x11)) a1 0 ((a0.1, (a0.2.1, (a0.2.2.1, (x2, ([], x3))))), [])
def m_option_Set (a0 : S_api_Message) (a1 : Int) (a2 : (List (List UInt8))) : Option S_api_Message :=
 loopL (R := S_api_Message) (S := ((List S_api_Option) × (List S_api_Option))) (α := S_api_Option) (fun _ s4 =>
 loopL (R := S_api_Message) (S := (List S_api_Option)) (α := (List UInt8)) (fun _ s6 =>
 bnd (app s6 s4.2) fun x7 =>
 bnd (m_option_owned a0 x7) fun x8 =>
 some x8)
  (fun x9 _ s11 self12 =>
 bnd (app s11 [(a1, x9)]) fun x13 =>
 self12 x13) a2 0 s4.1)
  (fun x14 _ s16 self17 =>
 bnd (β := ((List S_api_Option) × (List S_api_Option))) (letm (decide (x14.1 < a1)) fun x18 =>
 cond x18 (bnd (app s16.1 [x14]) fun x19 =>
 some (x19, s16.2))
  (letm (decide (a1 < x14.1)) fun x20 =>
 cond x20 (bnd (app s16.2 [x14]) fun x21 =>
 some (s16.1, x21))
  (some (s16.1, s16.2)))) fun v22 =>
 self17 (v22.1, v22.2)) a0.2.2.2.2.1 0 ([], [])
def m_fragment_copied (a0 : (List UInt8)) : Option (List UInt8) :=
 bnd (app [] a0) fun x1 =>
 some x1
def m_fragment_copied_o (a0 : (List UInt8)) : Option (List UInt8) :=
 bnd (app [] a0) fun x1 =>
 some x1
def m_fragment_message (a0 : S_api_Message) : Option S_api_Message :=
 bnd (m_fragment_copied a0.2.2.2.1) fun x1 =>
 bnd (m_fragment_copied a0.2.2.2.2.2) fun x2 =>
 loopL (R := S_api_Message) (S := (S_api_Message × (List S_api_Option))) (α := S_api_Option) (fun _ s4 =>
 some (s4.1.1, (s4.1.2.1, (s4.1.2.2.1, (s4.1.2.2.2.1, (s4.2, s4.1.2.2.2.2.2))))))
  (fun x5 _ s7 self8 =>
 bnd (m_fragment_copied x5.2) fun x9 =>
 bnd (app s7.2 [(x5.1, x9)]) fun x10 =>
 self8 (s7.1, x10)) a0.2.2.2.2.1 0 ((a0.1, (a0.2.1, (a0.2.2.1, (x1, ([], x2))))), [])
def m_fragment_Cut (a0 : S_api_Message) (a1 : Int) (a2 : Int) (a3 : Int) : Option (S_api_Message × Int) :=
 bnd (m_fragment_numbered a1) fun x4 =>
 letm ((!x4)) fun x5 =>
 cond x5 (some ((0, (0, (0, ([], ([], []))))), 1))
  (bnd (m_option_All a0 a1) fun x6 =>
 letm (decide (0 < (x6.length : Int))) fun x7 =>
 cond x7 (some ((0, (0, (0, ([], ([], []))))), 7))
  (bnd (m_block_Cut a0.2.2.2.2.2 a2 a3) fun x8 =>
 letm ((x8.2.2 != 0)) fun x9 =>
 cond x9 (some ((0, (0, (0, ([], ([], []))))), x8.2.2))
  (bnd (m_block_Value (a2, (x8.2.1, a3))) fun x10 =>
 letm ((x10.2 != 0)) fun x11 =>
 cond x11 (some ((0, (0, (0, ([], ([], []))))), x10.2))
  (bnd (m_option_Set a0 a1 [x10.1]) fun x12 =>
 bnd (m_fragment_message x12) fun x13 =>
 bnd (m_fragment_copied x8.1) fun x14 =>
 some ((x13.1, (x13.2.1, (x13.2.2.1, (x13.2.2.2.1, (x13.2.2.2.2.1, x14))))), 0)))))
def m_coreseclaw33_awake : Option Bool :=
 bnd (mkl 40 0) fun x0 =>
 bnd (m_fragment_Cut (0, (2, (0, ([], ([], x0))))) 27 0 0) fun x1 =>
 bnd (m_fragment_Cut (0, (2, (0, ([], ([], x0))))) 27 2 0) fun x2 =>
 letm ((x1.2 == 0)) fun x3 =>
 cond x3 (letm ((x2.2 == 0)) fun x4 =>
 cond x4 (letm (((x1.1.2.2.2.2.2.length : Int) == 16)) fun x5 =>
 cond x5 (letm (((x1.1.2.2.2.2.1.length : Int) == 1)) fun x6 =>
 cond x6 (bnd (idx x1.1.2.2.2.2.1 0) fun x7 =>
 bnd (idx x7.2 0) fun x8 =>
 letm (((UInt8.toNat x8 : Int) == (UInt8.toNat 8 : Int))) fun x9 =>
 cond x9 (letm (((x2.1.2.2.2.2.2.length : Int) == 8)) fun x10 =>
 cond x10 (bnd (idx x2.1.2.2.2.2.1 0) fun x11 =>
 bnd (idx x11.2 0) fun x12 =>
 letm (((UInt8.toNat x12 : Int) == (UInt8.toNat 32 : Int))) fun x13 =>
 some x13)
  (some false))
  (some false))
  (some false))
  (some false))
  (some false))
  (some false)
def m_coresecmake_New (a0 : (List Int)) : Option S_coresecmake_Deck :=
 some (a0, 0)
def m_coresecmake_Mod (a0 : Int) (a1 : Int) : Option Int :=
 bnd (Gk.rem a0 a1) fun x2 =>
 bnd (β := Int) (letm (decide (x2 < 0)) fun x3 =>
 cond x3 (letm ((w64 (x2 + a1))) fun x4 =>
 some x4)
  (some x2)) fun v5 =>
 some v5
def m_coresecmake_Deck_Next (a0 : S_coresecmake_Deck) (a1 : Int) : Option (Int × S_coresecmake_Deck) :=
 letm (decide ((a0.1.length : Int) ≤ a0.2)) fun x2 =>
 cond x2 (some (0, a0))
  (letm ((w64 (a0.2 + 1))) fun x3 =>
 letm ((w64 (x3 - 1))) fun x4 =>
 bnd (idx a0.1 x4) fun x5 =>
 bnd (m_coresecmake_Mod x5 a1) fun x6 =>
 some (x6, (a0.1, x3)))
def m_coresecmake_Deck_Bytes (a0 : S_coresecmake_Deck) (a1 : Int) : Option ((List UInt8) × S_coresecmake_Deck) :=
 letm ((w64 (a1 + 1))) fun x2 =>
 bnd (m_coresecmake_Deck_Next a0 x2) fun x3 =>
 loopF (R := ((List UInt8) × S_coresecmake_Deck)) (S := ((List UInt8) × (Int × S_coresecmake_Deck))) (fun self5 s4 =>
 letm (decide (0 < s4.2.1)) fun x6 =>
 cond x6 (bnd (m_coresecmake_Deck_Next s4.2.2 256) fun x7 =>
 letm ((toU8 x7.1)) fun x8 =>
 bnd (app s4.1 [x8]) fun x9 =>
 letm ((w64 (s4.2.1 - 1))) fun x10 =>
 self5 (x9, (x10, x7.2)))
  (some (s4.1, s4.2.2))) FUEL ([], (x3.1, x3.2))
def m_coresecref16_All (a0 : S_api_Message) (a1 : Int) : Option (List (List UInt8)) :=
 loopL (R := (List (List UInt8))) (S := (List (List UInt8))) (α := S_api_Option) (fun _ s3 =>
 some s3)
  (fun x4 _ s6 self7 =>
 bnd (β := (List (List UInt8))) (letm ((x4.1 == a1)) fun x8 =>
 cond x8 (bnd (app [] x4.2) fun x9 =>
 bnd (app s6 [x9]) fun x10 =>
 some x10)
  (some s6)) fun v11 =>
 self7 v11) a0.2.2.2.2.1 0 []
def m_coresecref16_All_o (a0 : S_api_Message) (a1 : Int) : Option (List (List UInt8)) :=
 loopL (R := (List (List UInt8))) (S := (List (List UInt8))) (α := S_api_Option) (fun _ s3 =>
 some s3)
  (fun x4 _ s6 self7 =>
 bnd (β := (List (List UInt8))) (letm ((x4.1 == a1)) fun x8 =>
 cond x8 (bnd (app [] x4.2) fun x9 =>
 bnd (app s6 [x9]) fun x10 =>
 some x10)
  (some s6)) fun v11 =>
 self7 v11) a0.2.2.2.2.1 0 []
def m_coresecref16_with (a0 : S_api_Message) (a1 : (List S_api_Option)) : Option S_api_Message :=
 bnd (app [] a0.2.2.2.1) fun x2 =>
 bnd (app [] a0.2.2.2.2.2) fun x3 =>
 loopL (R := S_api_Message) (S := (List S_api_Option)) (α := S_api_Option) (fun _ s5 =>
 some (a0.1, (a0.2.1, (a0.2.2.1, (x2, (s5, x3))))))
  (fun x6 _ s8 self9 =>
 bnd (app [] x6.2) fun x10 =>
 bnd (app s8 [(x6.1, x10)]) fun x11 =>
 self9 x11) a1 0 []
def m_coresecref16_Set (a0 : S_api_Message) (a1 : Int) (a2 : (List (List UInt8))) : Option S_api_Message :=
 loopL (R := S_api_Message) (S := (List S_api_Option)) (α := S_api_Option) (fun _ s4 =>
 loopL (R := S_api_Message) (S := (List S_api_Option)) (α := (List UInt8)) (fun _ s6 =>
 loopL (R := S_api_Message) (S := (List S_api_Option)) (α := S_api_Option) (fun _ s8 =>
 bnd (m_coresecref16_with a0 s8) fun x9 =>
 some x9)
  (fun x10 _ s12 self13 =>
 bnd (β := (List S_api_Option)) (letm (decide (a1 < x10.1)) fun x14 =>
 cond x14 (bnd (app s12 [x10]) fun x15 =>
 some x15)
  (some s12)) fun v16 =>
 self13 v16) a0.2.2.2.2.1 0 s6)
  (fun x17 _ s19 self20 =>
 bnd (app s19 [(a1, x17)]) fun x21 =>
 self20 x21) a2 0 s4)
  (fun x22 _ s24 self25 =>
 bnd (β := (List S_api_Option)) (letm (decide (x22.1 < a1)) fun x26 =>
 cond x26 (bnd (app s24 [x22]) fun x27 =>
 some x27)
  (some s24)) fun v28 =>
 self25 v28) a0.2.2.2.2.1 0 []
def m_coresecmake2_dressed (a0 : S_coresecmake_Deck) (a1 : S_api_Message) : Option (S_api_Message × S_coresecmake_Deck) :=
 bnd (m_coresecmake_Deck_Next a0 6) fun x2 =>
 loopF (R := (S_api_Message × S_coresecmake_Deck)) (S := (Int × (S_coresecmake_Deck × S_api_Message))) (fun self4 s3 =>
 letm (decide (0 < s3.1)) fun x5 =>
 cond x5 (bnd (m_coresecmake_Deck_Next s3.2.1 19) fun x6 =>
 bnd (idx [1, 3, 4, 6, 7, 11, 12, 14, 15, 16, 17, 23, 27, 39, 60, 252, 258, 292, 300] x6.1) fun x7 =>
 bnd (m_coresecref16_All_o s3.2.2 x7) fun x8 =>
 bnd (m_coresecmake_Deck_Bytes x6.2 4) fun x9 =>
 bnd (app x8 [x9.1]) fun x10 =>
 bnd (m_coresecref16_Set s3.2.2 x7 x10) fun x11 =>
 letm ((w64 (s3.1 - 1))) fun x12 =>
 self4 (x12, (x9.2, x11)))
  (some (s3.2.2, s3.2.1))) FUEL (x2.1, (x2.2, a1))
def m_coresecmake2_Request (a0 : S_coresecmake_Deck) : Option (S_api_Message × S_coresecmake_Deck) :=
 bnd (m_coresecmake_Deck_Next a0 2) fun x1 =>
 bnd (m_coresecmake_Deck_Next x1.2 7) fun x2 =>
 letm ((w64 (1 + x2.1))) fun x3 =>
 bnd (m_coresecmake_Deck_Next x2.2 65536) fun x4 =>
 bnd (m_coresecmake_Deck_Bytes x4.2 4) fun x5 =>
 bnd (m_coresecmake_Deck_Bytes x5.2 20) fun x6 =>
 bnd (m_coresecmake2_dressed x6.2 (x1.1, (x3, (x4.1, (x5.1, ([], x6.1)))))) fun x7 =>
 some (x7.1, x7.2)
def m_coresecref18_valid (a0 : S_api_Block) : Option Bool :=
 letm (decide (0 ≤ a0.1)) fun x1 =>
 cond x1 (letm (decide (a0.1 < 1048576)) fun x2 =>
 cond x2 (letm (decide (0 ≤ a0.2.2)) fun x3 =>
 cond x3 (letm (decide (a0.2.2 ≤ 6)) fun x4 =>
 some x4)
  (some false))
  (some false))
  (some false)
def m_coresecref16_FromUint (a0 : Int) : Option (List UInt8) :=
 letm (decide (a0 < 0)) fun x1 =>
 cond x1 (some [])
  (letm (decide (4294967295 < a0)) fun x2 =>
 cond x2 (some [])
  (bnd (β := (List UInt8)) (loopF (R := (List UInt8)) (S := S_api_Option) (fun self4 s3 =>
 letm (decide (0 < s3.1)) fun x5 =>
 cond x5 (letm ((toU8 s3.1)) fun x6 =>
 bnd (app [x6] s3.2) fun x7 =>
 bnd (Gk.shr s3.1 (UInt64.toNat 8 : Int)) fun x8 =>
 self4 (x8, x7))
  (some s3.2)) FUEL (a0, [])) fun v9 =>
 some v9))
def m_coresecref18_Value (a0 : S_api_Block) : Option ((List UInt8) × Int) :=
 bnd (m_coresecref18_valid a0) fun x1 =>
 letm ((!x1)) fun x2 =>
 cond x2 (some ([], 1))
  (letm ((w64 (16 * a0.1))) fun x3 =>
 letm ((w64 (x3 + a0.2.2))) fun x4 =>
 bnd (β := Int) (cond a0.2.1 (letm ((w64 (x4 + 8))) fun x5 =>
 some x5)
  (some x4)) fun v6 =>
 bnd (m_coresecref16_FromUint v6) fun x7 =>
 some (x7, 0))
def m_coresecmake2_Block (a0 : S_coresecmake_Deck) (a1 : Int) : Option ((List UInt8) × S_coresecmake_Deck) :=
 bnd (m_coresecmake_Deck_Next a0 2) fun x2 =>
 letm ((x2.1 == 0)) fun x3 =>
 bnd (m_coresecmake_Deck_Next x2.2 3) fun x4 =>
 bnd (m_coresecref18_Value (a1, (x3, x4.1))) fun x5 =>
 some (x5.1, x4.2)
def m_coresecmake2_Response (a0 : S_coresecmake_Deck) : Option (S_api_Message × S_coresecmake_Deck) :=
 bnd (m_coresecmake_Deck_Next a0 3) fun x1 =>
 bnd (m_coresecmake_Deck_Next x1.2 7) fun x2 =>
 bnd (idx [69, 68, 65, 132, 129, 160, 95] x2.1) fun x3 =>
 bnd (m_coresecmake_Deck_Next x2.2 65536) fun x4 =>
 bnd (m_coresecmake_Deck_Bytes x4.2 4) fun x5 =>
 bnd (m_coresecmake_Deck_Bytes x5.2 20) fun x6 =>
 bnd (m_coresecmake2_dressed x6.2 (x1.1, (x3, (x4.1, (x5.1, ([], x6.1)))))) fun x7 =>
 some (x7.1, x7.2)
def m_coresecmake_Some (a0 : Int) (a1 : Int) : Option (List UInt8) :=
 bnd (rng a1) fun j17 =>
 loopN (R := (List UInt8)) (S := (List UInt8)) (fun _ s3 =>
 some s3)
  (fun k4 s5 self6 =>
 letm ((toU64 a0)) fun x7 =>
 bnd (Gk.rem (k4 : Int) 8) fun x8 =>
 letm ((toU64 x8)) fun x9 =>
 letm ((8 * x9)) fun x10 =>
 bnd (shrK .u64 x7 (UInt64.toNat x10 : Int)) fun x11 =>
 letm ((toU8 (UInt64.toNat x11 : Int))) fun x12 =>
 bnd (quo (k4 : Int) 8) fun x13 =>
 letm ((toU8 x13)) fun x14 =>
 letm ((x12 + x14)) fun x15 =>
 bnd (app s5 [x15]) fun x16 =>
 self6 x16) j17 0 []
def m_option_Uint (a0 : (List UInt8)) : Option (Int × Int) :=
 loopL (R := (Int × Int)) (S := Int) (α := UInt8) (fun _ s2 =>
 some (s2, 0))
  (fun x3 _ s5 self6 =>
 bnd (Gk.shl s5 (UInt64.toNat 8 : Int)) fun x7 =>
 letm ((w64 (UInt8.toNat x3 : Int))) fun x8 =>
 letm ((ibit .or x7 x8)) fun x9 =>
 letm (decide (4294967295 < x9)) fun x10 =>
 cond x10 (some (0, 8))
  (self6 x9)) a0 0 0
def m_block_Parse (a0 : (List UInt8)) : Option (S_api_Block × Int) :=
 bnd (m_option_Uint a0) fun x1 =>
 letm (decide (3 < (a0.length : Int))) fun x2 =>
 cond x2 (some ((0, (false, 0)), 4))
  (letm ((x1.2 != 0)) fun x3 =>
 cond x3 (some ((0, (false, 0)), 4))
  (letm ((ibit .and x1.1 7)) fun x4 =>
 letm ((x4 == 7)) fun x5 =>
 cond x5 (some ((0, (false, 0)), 4))
  (bnd (Gk.shr x1.1 (UInt64.toNat 4 : Int)) fun x6 =>
 letm ((ibit .and x1.1 8)) fun x7 =>
 letm ((x7 == 8)) fun x8 =>
 letm ((ibit .and x1.1 7)) fun x9 =>
 some ((x6, (x8, x9)), 0))))
def m_fragment_sound (a0 : S_api_Message) (a1 : Int) : Option (S_api_Block × (Bool × Bool)) :=
 bnd (m_option_All a0 a1) fun x2 =>
 letm (((x2.length : Int) != 1)) fun x3 =>
 cond x3 (letm (decide (0 < (x2.length : Int))) fun x4 =>
 some ((0, (false, 0)), (x4, false)))
  (bnd (idx x2 0) fun x5 =>
 bnd (m_block_Parse x5) fun x6 =>
 letm ((x6.2 == 0)) fun x7 =>
 some (x6.1, (true, x7)))
def m_fragment_position (a0 : S_api_Block) : Option Int :=
 letm ((toU64 a0.2.2)) fun x1 =>
 bnd (Gk.shl 16 (UInt64.toNat x1 : Int)) fun x2 =>
 letm ((w64 (a0.1 * x2))) fun x3 =>
 some x3
def m_fragment_Agree (a0 : S_api_Message) (a1 : S_api_Message) : Option Int :=
 bnd (β := (Int × Int)) (bnd (m_fragment_sound a0 23) fun x2 =>
 cond x2.2.2 (bnd (m_fragment_position x2.1) fun x3 =>
 some (x3, x2.1.2.2))
  (some (0, 6))) fun v4 =>
 bnd (m_fragment_sound a1 23) fun x5 =>
 cond x5.2.1 (letm ((!x5.2.2)) fun x6 =>
 cond x6 (some 4)
  (letm ((!x5.2.1)) fun x7 =>
 cond x7 (letm (decide (0 < v4.1)) fun x8 =>
 cond x8 (some 18)
  (letm ((!x5.2.1)) fun x9 =>
 cond x9 (some 0)
  (bnd (m_fragment_position x5.1) fun x10 =>
 letm ((x10 != v4.1)) fun x11 =>
 cond x11 (some 18)
  (letm (decide (v4.2 < x5.1.2.2)) fun x12 =>
 cond x12 (some 18)
  (letm ((toU64 x5.1.2.2)) fun x13 =>
 bnd (Gk.shl 16 (UInt64.toNat x13 : Int)) fun x14 =>
 cond x5.1.2.1 (letm (((a1.2.2.2.2.2.length : Int) != x14)) fun x15 =>
 cond x15 (some 4)
  (letm (decide (x14 < (a1.2.2.2.2.2.length : Int))) fun x16 =>
 cond x16 (some 4)
  (some 0)))
  (letm (decide (x14 < (a1.2.2.2.2.2.length : Int))) fun x17 =>
 cond x17 (some 4)
  (some 0)))))))
  (letm ((!x5.2.1)) fun x18 =>
 cond x18 (some 0)
  (bnd (m_fragment_position x5.1) fun x19 =>
 letm ((x19 != v4.1)) fun x20 =>
 cond x20 (some 18)
  (letm (decide (v4.2 < x5.1.2.2)) fun x21 =>
 cond x21 (some 18)
  (letm ((toU64 x5.1.2.2)) fun x22 =>
 bnd (Gk.shl 16 (UInt64.toNat x22 : Int)) fun x23 =>
 cond x5.1.2.1 (letm (((a1.2.2.2.2.2.length : Int) != x23)) fun x24 =>
 cond x24 (some 4)
  (letm (decide (x23 < (a1.2.2.2.2.2.length : Int))) fun x25 =>
 cond x25 (some 4)
  (some 0)))
  (letm (decide (x23 < (a1.2.2.2.2.2.length : Int))) fun x26 =>
 cond x26 (some 4)
  (some 0))))))))
  (letm ((!x5.2.1)) fun x27 =>
 cond x27 (letm (decide (0 < v4.1)) fun x28 =>
 cond x28 (some 18)
  (letm ((!x5.2.1)) fun x29 =>
 cond x29 (some 0)
  (bnd (m_fragment_position x5.1) fun x30 =>
 letm ((x30 != v4.1)) fun x31 =>
 cond x31 (some 18)
  (letm (decide (v4.2 < x5.1.2.2)) fun x32 =>
 cond x32 (some 18)
  (letm ((toU64 x5.1.2.2)) fun x33 =>
 bnd (Gk.shl 16 (UInt64.toNat x33 : Int)) fun x34 =>
 cond x5.1.2.1 (letm (((a1.2.2.2.2.2.length : Int) != x34)) fun x35 =>
 cond x35 (some 4)
  (letm (decide (x34 < (a1.2.2.2.2.2.length : Int))) fun x36 =>
 cond x36 (some 4)
  (some 0)))
  (letm (decide (x34 < (a1.2.2.2.2.2.length : Int))) fun x37 =>
 cond x37 (some 4)
  (some 0)))))))
  (letm ((!x5.2.1)) fun x38 =>
 cond x38 (some 0)
  (bnd (m_fragment_position x5.1) fun x39 =>
 letm ((x39 != v4.1)) fun x40 =>
 cond x40 (some 18)
  (letm (decide (v4.2 < x5.1.2.2)) fun x41 =>
 cond x41 (some 18)
  (letm ((toU64 x5.1.2.2)) fun x42 =>
 bnd (Gk.shl 16 (UInt64.toNat x42 : Int)) fun x43 =>
 cond x5.1.2.1 (letm (((a1.2.2.2.2.2.length : Int) != x43)) fun x44 =>
 cond x44 (some 4)
  (letm (decide (x43 < (a1.2.2.2.2.2.length : Int))) fun x45 =>
 cond x45 (some 4)
  (some 0)))
  (letm (decide (x43 < (a1.2.2.2.2.2.length : Int))) fun x46 =>
 cond x46 (some 4)
  (some 0)))))))
def m_coresecref16_Uint (a0 : (List UInt8)) : Option (Int × Int) :=
 loopL (R := (Int × Int)) (S := Int) (α := UInt8) (fun _ s2 =>
 some (s2, 0))
  (fun x3 _ s5 self6 =>
 bnd (Gk.shl s5 (UInt64.toNat 8 : Int)) fun x7 =>
 letm ((w64 (UInt8.toNat x3 : Int))) fun x8 =>
 letm ((ibit .or x7 x8)) fun x9 =>
 letm (decide (4294967295 < x9)) fun x10 =>
 cond x10 (some (0, 8))
  (self6 x9)) a0 0 0
def m_coresecref18_Parse (a0 : (List UInt8)) : Option (S_api_Block × Int) :=
 letm (decide (3 < (a0.length : Int))) fun x1 =>
 cond x1 (some ((0, (false, 0)), 4))
  (bnd (m_coresecref16_Uint a0) fun x2 =>
 bnd (Gk.rem x2.1 8) fun x3 =>
 letm ((x3 == 7)) fun x4 =>
 cond x4 (some ((0, (false, 0)), 4))
  (bnd (quo x2.1 16) fun x5 =>
 bnd (quo x2.1 8) fun x6 =>
 bnd (Gk.rem x6 2) fun x7 =>
 letm ((x7 == 1)) fun x8 =>
 bnd (Gk.rem x2.1 8) fun x9 =>
 some ((x5, (x8, x9)), 0)))
def m_coresecref33_Sound (a0 : S_api_Message) (a1 : Int) : Option (S_api_Block × (Bool × Bool)) :=
 bnd (m_coresecref16_All a0 a1) fun x2 =>
 letm (((x2.length : Int) == 0)) fun x3 =>
 cond x3 (some ((0, (false, 0)), (false, false)))
  (bnd (idx x2 0) fun x4 =>
 bnd (m_coresecref18_Parse x4) fun x5 =>
 letm ((x5.2 != 0)) fun x6 =>
 cond x6 (some ((0, (false, 0)), (true, false)))
  (letm (decide (1 < (x2.length : Int))) fun x7 =>
 cond x7 (some ((0, (false, 0)), (true, false)))
  (some (x5.1, (true, true)))))
def m_coresecref33_position (a0 : S_api_Block) : Option Int :=
 letm ((toU64 a0.2.2)) fun x1 =>
 bnd (Gk.shl 16 (UInt64.toNat x1 : Int)) fun x2 =>
 letm ((w64 (a0.1 * x2))) fun x3 =>
 some x3
def m_coresecref33_Agree (a0 : S_api_Message) (a1 : S_api_Message) : Option Int :=
 bnd (β := (Int × Int)) (bnd (m_coresecref33_Sound a0 23) fun x2 =>
 cond x2.2.2 (bnd (m_coresecref33_position x2.1) fun x3 =>
 some (x3, x2.1.2.2))
  (some (0, 6))) fun v4 =>
 bnd (m_coresecref33_Sound a1 23) fun x5 =>
 cond x5.2.1 (letm ((!x5.2.2)) fun x6 =>
 cond x6 (some 4)
  (letm ((!x5.2.1)) fun x7 =>
 cond x7 (letm (decide (0 < v4.1)) fun x8 =>
 cond x8 (some 18)
  (letm ((!x5.2.1)) fun x9 =>
 cond x9 (some 0)
  (bnd (m_coresecref33_position x5.1) fun x10 =>
 letm ((x10 != v4.1)) fun x11 =>
 cond x11 (some 18)
  (letm (decide (v4.2 < x5.1.2.2)) fun x12 =>
 cond x12 (some 18)
  (cond x5.1.2.1 (letm ((toU64 x5.1.2.2)) fun x13 =>
 bnd (Gk.shl 16 (UInt64.toNat x13 : Int)) fun x14 =>
 letm (((a1.2.2.2.2.2.length : Int) != x14)) fun x15 =>
 cond x15 (some 4)
  (letm ((toU64 x5.1.2.2)) fun x16 =>
 bnd (Gk.shl 16 (UInt64.toNat x16 : Int)) fun x17 =>
 letm (decide (x17 < (a1.2.2.2.2.2.length : Int))) fun x18 =>
 cond x18 (some 4)
  (some 0)))
  (letm ((toU64 x5.1.2.2)) fun x19 =>
 bnd (Gk.shl 16 (UInt64.toNat x19 : Int)) fun x20 =>
 letm (decide (x20 < (a1.2.2.2.2.2.length : Int))) fun x21 =>
 cond x21 (some 4)
  (some 0)))))))
  (letm ((!x5.2.1)) fun x22 =>
 cond x22 (some 0)
  (bnd (m_coresecref33_position x5.1) fun x23 =>
 letm ((x23 != v4.1)) fun x24 =>
 cond x24 (some 18)
  (letm (decide (v4.2 < x5.1.2.2)) fun x25 =>
 cond x25 (some 18)
  (cond x5.1.2.1 (letm ((toU64 x5.1.2.2)) fun x26 =>
 bnd (Gk.shl 16 (UInt64.toNat x26 : Int)) fun x27 =>
 letm (((a1.2.2.2.2.2.length : Int) != x27)) fun x28 =>
 cond x28 (some 4)
  (letm ((toU64 x5.1.2.2)) fun x29 =>
 bnd (Gk.shl 16 (UInt64.toNat x29 : Int)) fun x30 =>
 letm (decide (x30 < (a1.2.2.2.2.2.length : Int))) fun x31 =>
 cond x31 (some 4)
  (some 0)))
  (letm ((toU64 x5.1.2.2)) fun x32 =>
 bnd (Gk.shl 16 (UInt64.toNat x32 : Int)) fun x33 =>
 letm (decide (x33 < (a1.2.2.2.2.2.length : Int))) fun x34 =>
 cond x34 (some 4)
  (some 0))))))))
  (letm ((!x5.2.1)) fun x35 =>
 cond x35 (letm (decide (0 < v4.1)) fun x36 =>
 cond x36 (some 18)
  (letm ((!x5.2.1)) fun x37 =>
 cond x37 (some 0)
  (bnd (m_coresecref33_position x5.1) fun x38 =>
 letm ((x38 != v4.1)) fun x39 =>
 cond x39 (some 18)
  (letm (decide (v4.2 < x5.1.2.2)) fun x40 =>
 cond x40 (some 18)
  (cond x5.1.2.1 (letm ((toU64 x5.1.2.2)) fun x41 =>
 bnd (Gk.shl 16 (UInt64.toNat x41 : Int)) fun x42 =>
 letm (((a1.2.2.2.2.2.length : Int) != x42)) fun x43 =>
 cond x43 (some 4)
  (letm ((toU64 x5.1.2.2)) fun x44 =>
 bnd (Gk.shl 16 (UInt64.toNat x44 : Int)) fun x45 =>
 letm (decide (x45 < (a1.2.2.2.2.2.length : Int))) fun x46 =>
 cond x46 (some 4)
  (some 0)))
  (letm ((toU64 x5.1.2.2)) fun x47 =>
 bnd (Gk.shl 16 (UInt64.toNat x47 : Int)) fun x48 =>
 letm (decide (x48 < (a1.2.2.2.2.2.length : Int))) fun x49 =>
 cond x49 (some 4)
  (some 0)))))))
  (letm ((!x5.2.1)) fun x50 =>
 cond x50 (some 0)
  (bnd (m_coresecref33_position x5.1) fun x51 =>
 letm ((x51 != v4.1)) fun x52 =>
 cond x52 (some 18)
  (letm (decide (v4.2 < x5.1.2.2)) fun x53 =>
 cond x53 (some 18)
  (cond x5.1.2.1 (letm ((toU64 x5.1.2.2)) fun x54 =>
 bnd (Gk.shl 16 (UInt64.toNat x54 : Int)) fun x55 =>
 letm (((a1.2.2.2.2.2.length : Int) != x55)) fun x56 =>
 cond x56 (some 4)
  (letm ((toU64 x5.1.2.2)) fun x57 =>
 bnd (Gk.shl 16 (UInt64.toNat x57 : Int)) fun x58 =>
 letm (decide (x58 < (a1.2.2.2.2.2.length : Int))) fun x59 =>
 cond x59 (some 4)
  (some 0)))
  (letm ((toU64 x5.1.2.2)) fun x60 =>
 bnd (Gk.shl 16 (UInt64.toNat x60 : Int)) fun x61 =>
 letm (decide (x61 < (a1.2.2.2.2.2.length : Int))) fun x62 =>
 cond x62 (some 4)
  (some 0)))))))
def m_option_Get (a0 : S_api_Message) (a1 : Int) : Option ((List UInt8) × Bool) :=
 loopL (R := ((List UInt8) × Bool)) (S := Unit) (α := S_api_Option) (fun _ _ =>
 some ([], false))
  (fun x4 _ _ self7 =>
 letm ((x4.1 == a1)) fun x8 =>
 cond x8 (bnd (m_bytes_Clone x4.2) fun x9 =>
 some (x9, true))
  (self7 ())) a0.2.2.2.2.1 0 ()
def m_fragment_Collect (a0 : (List UInt8)) (a1 : (List UInt8)) (a2 : S_api_Message) (a3 : S_api_Message) : Option ((List UInt8) × ((List UInt8) × (Bool × Int))) :=
 bnd (m_fragment_Agree a2 a3) fun x4 =>
 letm ((x4 != 0)) fun x5 =>
 cond x5 (some ([], ([], (false, x4))))
  (bnd (m_fragment_sound a3 23) fun x6 =>
 cond x6.2.1 (bnd (m_fragment_position x6.1) fun x7 =>
 letm ((x7 != (a0.length : Int))) fun x8 =>
 cond x8 (some ([], ([], (false, 15))))
  (letm ((!x6.2.1)) fun x9 =>
 cond x9 (letm (decide (0 < (a0.length : Int))) fun x10 =>
 cond x10 (some ([], ([], (false, 15))))
  (bnd (m_option_Get a3 4) fun x11 =>
 letm (decide (0 < (a0.length : Int))) fun x12 =>
 cond x12 (letm ((x11.1 != a1)) fun x13 =>
 cond x13 (some ([], ([], (false, 18))))
  (letm ((w64 ((a0.length : Int) + (a3.2.2.2.2.2.length : Int)))) fun x14 =>
 letm (decide (4096 < x14)) fun x15 =>
 cond x15 (some ([], ([], (false, 8))))
  (bnd (m_fragment_copied_o a0) fun x16 =>
 bnd (app x16 a3.2.2.2.2.2) fun x17 =>
 bnd (m_fragment_copied_o x11.1) fun x18 =>
 letm ((!x6.2.1)) fun x19 =>
 cond x19 (some (x17, (x18, (true, 0))))
  (letm ((!x6.1.2.1)) fun x20 =>
 some (x17, (x18, (x20, 0)))))))
  (letm ((w64 ((a0.length : Int) + (a3.2.2.2.2.2.length : Int)))) fun x21 =>
 letm (decide (4096 < x21)) fun x22 =>
 cond x22 (some ([], ([], (false, 8))))
  (bnd (m_fragment_copied_o a0) fun x23 =>
 bnd (app x23 a3.2.2.2.2.2) fun x24 =>
 bnd (m_fragment_copied_o x11.1) fun x25 =>
 letm ((!x6.2.1)) fun x26 =>
 cond x26 (some (x24, (x25, (true, 0))))
  (letm ((!x6.1.2.1)) fun x27 =>
 some (x24, (x25, (x27, 0))))))))
  (bnd (m_option_Get a3 4) fun x28 =>
 letm (decide (0 < (a0.length : Int))) fun x29 =>
 cond x29 (letm ((x28.1 != a1)) fun x30 =>
 cond x30 (some ([], ([], (false, 18))))
  (letm ((w64 ((a0.length : Int) + (a3.2.2.2.2.2.length : Int)))) fun x31 =>
 letm (decide (4096 < x31)) fun x32 =>
 cond x32 (some ([], ([], (false, 8))))
  (bnd (m_fragment_copied_o a0) fun x33 =>
 bnd (app x33 a3.2.2.2.2.2) fun x34 =>
 bnd (m_fragment_copied_o x28.1) fun x35 =>
 letm ((!x6.2.1)) fun x36 =>
 cond x36 (some (x34, (x35, (true, 0))))
  (letm ((!x6.1.2.1)) fun x37 =>
 some (x34, (x35, (x37, 0)))))))
  (letm ((w64 ((a0.length : Int) + (a3.2.2.2.2.2.length : Int)))) fun x38 =>
 letm (decide (4096 < x38)) fun x39 =>
 cond x39 (some ([], ([], (false, 8))))
  (bnd (m_fragment_copied_o a0) fun x40 =>
 bnd (app x40 a3.2.2.2.2.2) fun x41 =>
 bnd (m_fragment_copied_o x28.1) fun x42 =>
 letm ((!x6.2.1)) fun x43 =>
 cond x43 (some (x41, (x42, (true, 0))))
  (letm ((!x6.1.2.1)) fun x44 =>
 some (x41, (x42, (x44, 0)))))))))
  (letm ((!x6.2.1)) fun x45 =>
 cond x45 (letm (decide (0 < (a0.length : Int))) fun x46 =>
 cond x46 (some ([], ([], (false, 15))))
  (bnd (m_option_Get a3 4) fun x47 =>
 letm (decide (0 < (a0.length : Int))) fun x48 =>
 cond x48 (letm ((x47.1 != a1)) fun x49 =>
 cond x49 (some ([], ([], (false, 18))))
  (letm ((w64 ((a0.length : Int) + (a3.2.2.2.2.2.length : Int)))) fun x50 =>
 letm (decide (4096 < x50)) fun x51 =>
 cond x51 (some ([], ([], (false, 8))))
  (bnd (m_fragment_copied_o a0) fun x52 =>
 bnd (app x52 a3.2.2.2.2.2) fun x53 =>
 bnd (m_fragment_copied_o x47.1) fun x54 =>
 letm ((!x6.2.1)) fun x55 =>
 cond x55 (some (x53, (x54, (true, 0))))
  (letm ((!x6.1.2.1)) fun x56 =>
 some (x53, (x54, (x56, 0)))))))
  (letm ((w64 ((a0.length : Int) + (a3.2.2.2.2.2.length : Int)))) fun x57 =>
 letm (decide (4096 < x57)) fun x58 =>
 cond x58 (some ([], ([], (false, 8))))
  (bnd (m_fragment_copied_o a0) fun x59 =>
 bnd (app x59 a3.2.2.2.2.2) fun x60 =>
 bnd (m_fragment_copied_o x47.1) fun x61 =>
 letm ((!x6.2.1)) fun x62 =>
 cond x62 (some (x60, (x61, (true, 0))))
  (letm ((!x6.1.2.1)) fun x63 =>
 some (x60, (x61, (x63, 0))))))))
  (bnd (m_option_Get a3 4) fun x64 =>
 letm (decide (0 < (a0.length : Int))) fun x65 =>
 cond x65 (letm ((x64.1 != a1)) fun x66 =>
 cond x66 (some ([], ([], (false, 18))))
  (letm ((w64 ((a0.length : Int) + (a3.2.2.2.2.2.length : Int)))) fun x67 =>
 letm (decide (4096 < x67)) fun x68 =>
 cond x68 (some ([], ([], (false, 8))))
  (bnd (m_fragment_copied_o a0) fun x69 =>
 bnd (app x69 a3.2.2.2.2.2) fun x70 =>
 bnd (m_fragment_copied_o x64.1) fun x71 =>
 letm ((!x6.2.1)) fun x72 =>
 cond x72 (some (x70, (x71, (true, 0))))
  (letm ((!x6.1.2.1)) fun x73 =>
 some (x70, (x71, (x73, 0)))))))
  (letm ((w64 ((a0.length : Int) + (a3.2.2.2.2.2.length : Int)))) fun x74 =>
 letm (decide (4096 < x74)) fun x75 =>
 cond x75 (some ([], ([], (false, 8))))
  (bnd (m_fragment_copied_o a0) fun x76 =>
 bnd (app x76 a3.2.2.2.2.2) fun x77 =>
 bnd (m_fragment_copied_o x64.1) fun x78 =>
 letm ((!x6.2.1)) fun x79 =>
 cond x79 (some (x77, (x78, (true, 0))))
  (letm ((!x6.1.2.1)) fun x80 =>
 some (x77, (x78, (x80, 0)))))))))
def m_coresecref16_Get (a0 : S_api_Message) (a1 : Int) : Option ((List UInt8) × Bool) :=
 bnd (m_coresecref16_All a0 a1) fun x2 =>
 letm (((x2.length : Int) == 0)) fun x3 =>
 cond x3 (some ([], false))
  (bnd (idx x2 0) fun x4 =>
 some (x4, true))
def m_coresecref01_Compare (a0 : (List UInt8)) (a1 : (List UInt8)) : Option Int :=
 loopF (R := Int) (S := Int) (fun self3 s2 =>
 letm (decide (s2 < (a0.length : Int))) fun x4 =>
 cond x4 (letm (decide (s2 < (a1.length : Int))) fun x5 =>
 cond x5 (bnd (idx a0 s2) fun x6 =>
 bnd (idx a1 s2) fun x7 =>
 letm (((UInt8.toNat x6 : Int) != (UInt8.toNat x7 : Int))) fun x8 =>
 cond x8 (bnd (idx a0 s2) fun x9 =>
 bnd (idx a1 s2) fun x10 =>
 letm (decide ((UInt8.toNat x9 : Int) < (UInt8.toNat x10 : Int))) fun x11 =>
 cond x11 (some (-1))
  (some 1))
  (letm ((w64 (s2 + 1))) fun x12 =>
 self3 x12))
  (letm (decide ((a0.length : Int) < (a1.length : Int))) fun x13 =>
 cond x13 (some (-1))
  (letm (decide ((a1.length : Int) < (a0.length : Int))) fun x14 =>
 cond x14 (some 1)
  (some 0))))
  (letm (decide ((a0.length : Int) < (a1.length : Int))) fun x15 =>
 cond x15 (some (-1))
  (letm (decide ((a1.length : Int) < (a0.length : Int))) fun x16 =>
 cond x16 (some 1)
  (some 0)))) FUEL 0
def m_coresecref26_Equal (a0 : (List UInt8)) (a1 : (List UInt8)) : Option Bool :=
 bnd (m_coresecref01_Compare a0 a1) fun x2 =>
 letm ((x2 == 0)) fun x3 =>
 cond x3 (letm (((a0.length : Int) == (a1.length : Int))) fun x4 =>
 some x4)
  (some false)
def m_coresecref26_Copy (a0 : (List UInt8)) : Option (List UInt8) :=
 bnd (app [] a0) fun x1 =>
 some x1
def m_coresecref26_Copy_o (a0 : (List UInt8)) : Option (List UInt8) :=
 bnd (app [] a0) fun x1 =>
 some x1
def m_coresecref33_Collect (a0 : (List UInt8)) (a1 : (List UInt8)) (a2 : S_api_Message) (a3 : S_api_Message) : Option ((List UInt8) × ((List UInt8) × (Bool × Int))) :=
 bnd (m_coresecref33_Agree a2 a3) fun x4 =>
 letm ((x4 != 0)) fun x5 =>
 cond x5 (some ([], ([], (false, x4))))
  (bnd (m_coresecref33_Sound a3 23) fun x6 =>
 cond x6.2.1 (bnd (m_coresecref33_position x6.1) fun x7 =>
 letm ((x7 != (a0.length : Int))) fun x8 =>
 cond x8 (some ([], ([], (false, 15))))
  (letm ((!x6.2.1)) fun x9 =>
 cond x9 (letm (decide (0 < (a0.length : Int))) fun x10 =>
 cond x10 (some ([], ([], (false, 15))))
  (bnd (m_coresecref16_Get a3 4) fun x11 =>
 letm (decide (0 < (a0.length : Int))) fun x12 =>
 cond x12 (bnd (m_coresecref26_Equal x11.1 a1) fun x13 =>
 letm ((!x13)) fun x14 =>
 cond x14 (some ([], ([], (false, 18))))
  (letm ((w64 ((a0.length : Int) + (a3.2.2.2.2.2.length : Int)))) fun x15 =>
 letm (decide (4096 < x15)) fun x16 =>
 cond x16 (some ([], ([], (false, 8))))
  (bnd (m_coresecref26_Copy_o a0) fun x17 =>
 bnd (app x17 a3.2.2.2.2.2) fun x18 =>
 bnd (m_coresecref26_Copy_o x11.1) fun x19 =>
 letm ((!x6.2.1)) fun x20 =>
 cond x20 (some (x18, (x19, (true, 0))))
  (letm ((!x6.1.2.1)) fun x21 =>
 some (x18, (x19, (x21, 0)))))))
  (letm ((w64 ((a0.length : Int) + (a3.2.2.2.2.2.length : Int)))) fun x22 =>
 letm (decide (4096 < x22)) fun x23 =>
 cond x23 (some ([], ([], (false, 8))))
  (bnd (m_coresecref26_Copy_o a0) fun x24 =>
 bnd (app x24 a3.2.2.2.2.2) fun x25 =>
 bnd (m_coresecref26_Copy_o x11.1) fun x26 =>
 letm ((!x6.2.1)) fun x27 =>
 cond x27 (some (x25, (x26, (true, 0))))
  (letm ((!x6.1.2.1)) fun x28 =>
 some (x25, (x26, (x28, 0))))))))
  (bnd (m_coresecref16_Get a3 4) fun x29 =>
 letm (decide (0 < (a0.length : Int))) fun x30 =>
 cond x30 (bnd (m_coresecref26_Equal x29.1 a1) fun x31 =>
 letm ((!x31)) fun x32 =>
 cond x32 (some ([], ([], (false, 18))))
  (letm ((w64 ((a0.length : Int) + (a3.2.2.2.2.2.length : Int)))) fun x33 =>
 letm (decide (4096 < x33)) fun x34 =>
 cond x34 (some ([], ([], (false, 8))))
  (bnd (m_coresecref26_Copy_o a0) fun x35 =>
 bnd (app x35 a3.2.2.2.2.2) fun x36 =>
 bnd (m_coresecref26_Copy_o x29.1) fun x37 =>
 letm ((!x6.2.1)) fun x38 =>
 cond x38 (some (x36, (x37, (true, 0))))
  (letm ((!x6.1.2.1)) fun x39 =>
 some (x36, (x37, (x39, 0)))))))
  (letm ((w64 ((a0.length : Int) + (a3.2.2.2.2.2.length : Int)))) fun x40 =>
 letm (decide (4096 < x40)) fun x41 =>
 cond x41 (some ([], ([], (false, 8))))
  (bnd (m_coresecref26_Copy_o a0) fun x42 =>
 bnd (app x42 a3.2.2.2.2.2) fun x43 =>
 bnd (m_coresecref26_Copy_o x29.1) fun x44 =>
 letm ((!x6.2.1)) fun x45 =>
 cond x45 (some (x43, (x44, (true, 0))))
  (letm ((!x6.1.2.1)) fun x46 =>
 some (x43, (x44, (x46, 0)))))))))
  (letm ((!x6.2.1)) fun x47 =>
 cond x47 (letm (decide (0 < (a0.length : Int))) fun x48 =>
 cond x48 (some ([], ([], (false, 15))))
  (bnd (m_coresecref16_Get a3 4) fun x49 =>
 letm (decide (0 < (a0.length : Int))) fun x50 =>
 cond x50 (bnd (m_coresecref26_Equal x49.1 a1) fun x51 =>
 letm ((!x51)) fun x52 =>
 cond x52 (some ([], ([], (false, 18))))
  (letm ((w64 ((a0.length : Int) + (a3.2.2.2.2.2.length : Int)))) fun x53 =>
 letm (decide (4096 < x53)) fun x54 =>
 cond x54 (some ([], ([], (false, 8))))
  (bnd (m_coresecref26_Copy_o a0) fun x55 =>
 bnd (app x55 a3.2.2.2.2.2) fun x56 =>
 bnd (m_coresecref26_Copy_o x49.1) fun x57 =>
 letm ((!x6.2.1)) fun x58 =>
 cond x58 (some (x56, (x57, (true, 0))))
  (letm ((!x6.1.2.1)) fun x59 =>
 some (x56, (x57, (x59, 0)))))))
  (letm ((w64 ((a0.length : Int) + (a3.2.2.2.2.2.length : Int)))) fun x60 =>
 letm (decide (4096 < x60)) fun x61 =>
 cond x61 (some ([], ([], (false, 8))))
  (bnd (m_coresecref26_Copy_o a0) fun x62 =>
 bnd (app x62 a3.2.2.2.2.2) fun x63 =>
 bnd (m_coresecref26_Copy_o x49.1) fun x64 =>
 letm ((!x6.2.1)) fun x65 =>
 cond x65 (some (x63, (x64, (true, 0))))
  (letm ((!x6.1.2.1)) fun x66 =>
 some (x63, (x64, (x66, 0))))))))
  (bnd (m_coresecref16_Get a3 4) fun x67 =>
 letm (decide (0 < (a0.length : Int))) fun x68 =>
 cond x68 (bnd (m_coresecref26_Equal x67.1 a1) fun x69 =>
 letm ((!x69)) fun x70 =>
 cond x70 (some ([], ([], (false, 18))))
  (letm ((w64 ((a0.length : Int) + (a3.2.2.2.2.2.length : Int)))) fun x71 =>
 letm (decide (4096 < x71)) fun x72 =>
 cond x72 (some ([], ([], (false, 8))))
  (bnd (m_coresecref26_Copy_o a0) fun x73 =>
 bnd (app x73 a3.2.2.2.2.2) fun x74 =>
 bnd (m_coresecref26_Copy_o x67.1) fun x75 =>
 letm ((!x6.2.1)) fun x76 =>
 cond x76 (some (x74, (x75, (true, 0))))
  (letm ((!x6.1.2.1)) fun x77 =>
 some (x74, (x75, (x77, 0)))))))
  (letm ((w64 ((a0.length : Int) + (a3.2.2.2.2.2.length : Int)))) fun x78 =>
 letm (decide (4096 < x78)) fun x79 =>
 cond x79 (some ([], ([], (false, 8))))
  (bnd (m_coresecref26_Copy_o a0) fun x80 =>
 bnd (app x80 a3.2.2.2.2.2) fun x81 =>
 bnd (m_coresecref26_Copy_o x67.1) fun x82 =>
 letm ((!x6.2.1)) fun x83 =>
 cond x83 (some (x81, (x82, (true, 0))))
  (letm ((!x6.1.2.1)) fun x84 =>
 some (x81, (x82, (x84, 0)))))))))
def m_coreseclaw33_FragmentAgrees (a0 : S_api_Message) (a1 : S_api_Message) (a2 : (List Int)) (a3 : (List UInt8)) (a4 : (List UInt8)) : Option Bool :=
 bnd (m_coresecmake2_Message a0) fun x5 =>
 letm ((!x5)) fun x6 =>
 cond x6 (bnd (m_coreseclaw33_awake ) fun x7 =>
 some x7)
  (bnd (m_coresecmake2_Message a1) fun x8 =>
 letm ((!x8)) fun x9 =>
 cond x9 (bnd (m_coreseclaw33_awake ) fun x10 =>
 some x10)
  (bnd (m_coresecmake2_All [a3, a4]) fun x11 =>
 letm ((!x11)) fun x12 =>
 cond x12 (bnd (m_coreseclaw33_awake ) fun x13 =>
 some x13)
  (bnd (m_coresecmake_New a2) fun x14 =>
 bnd (m_coresecmake_Deck_Next x14 3) fun x15 =>
 bnd (m_coresecmake2_Request x15.2) fun x16 =>
 bnd (m_coresecmake2_Block x16.2 x15.1) fun x17 =>
 bnd (m_coresecref16_Set x16.1 23 [x17.1]) fun x18 =>
 bnd (m_coresecmake2_Response x17.2) fun x19 =>
 bnd (m_coresecmake_Deck_Next x19.2 3) fun x20 =>
 bnd (m_coresecmake_Deck_Next x20.2 4) fun x21 =>
 bnd (idx [x15.1, x15.1, x15.1, x20.1] x21.1) fun x22 =>
 bnd (m_coresecmake2_Block x21.2 x22) fun x23 =>
 bnd (m_coresecref16_Set x19.1 23 [x23.1]) fun x24 =>
 bnd (m_coresecmake_Deck_Next x23.2 70) fun x25 =>
 bnd (m_coresecmake_Deck_Next x25.2 5) fun x26 =>
 bnd (idx [16, 16, 32, 64, x25.1] x26.1) fun x27 =>
 bnd (m_coresecmake_Some 9 x27) fun x28 =>
 bnd (m_coresecmake_Deck_Next x26.2 2) fun x29 =>
 letm ((toU8 x29.1)) fun x30 =>
 bnd (m_coresecref16_Set (x24.1, (x24.2.1, (x24.2.2.1, (x24.2.2.2.1, (x24.2.2.2.2.1, x28))))) 4 [[x30]]) fun x31 =>
 bnd (m_coresecmake_Deck_Next x29.2 3) fun x32 =>
 bnd (idx [16, 32, 64] x32.1) fun x33 =>
 letm ((w64 (x33 * x15.1))) fun x34 =>
 bnd (m_coresecmake_Some 3 x34) fun x35 =>
 bnd (m_coresecref16_Set x18 23 []) fun x36 =>
 bnd (rng ([a0, x18, x36].length : Int)) fun j75 =>
 loopN (R := Bool) (S := Unit) (fun _ _ =>
 bnd (m_coreseclaw33_awake ) fun x39 =>
 some x39)
  (fun k40 _ self42 =>
 bnd (idx [a0, x18, x36] (k40 : Int)) fun x43 =>
 bnd (m_coresecref16_Set x31 23 []) fun x44 =>
 bnd (rng ([a1, x31, x44].length : Int)) fun j74 =>
 loopN (R := Bool) (S := Unit) (fun _ _ =>
 self42 ())
  (fun k47 _ self49 =>
 bnd (idx [a1, x31, x44] (k47 : Int)) fun x50 =>
 bnd (m_fragment_Agree x43 x50) fun x51 =>
 bnd (m_coresecref33_Agree x43 x50) fun x52 =>
 letm ((x51 != x52)) fun x53 =>
 cond x53 (some false)
  (loopL (R := Bool) (S := Unit) (α := (List UInt8)) (fun _ _ =>
 self49 ())
  (fun x56 _ _ self59 =>
 loopL (R := Bool) (S := Unit) (α := (List UInt8)) (fun _ _ =>
 self59 ())
  (fun x62 _ _ self65 =>
 bnd (m_fragment_Collect x56 x62 x43 x50) fun x66 =>
 bnd (m_coresecref33_Collect x56 x62 x43 x50) fun x67 =>
 letm ((x66.2.2.1 != x67.2.2.1)) fun x68 =>
 cond x68 (some false)
  (letm ((x66.2.2.2 != x67.2.2.2)) fun x69 =>
 cond x69 (some false)
  (bnd (m_coresecref26_Equal x66.1 x67.1) fun x70 =>
 letm ((!x70)) fun x71 =>
 cond x71 (some false)
  (bnd (m_coresecref26_Equal x66.2.1 x67.2.1) fun x72 =>
 letm ((!x72)) fun x73 =>
 cond x73 (some false)
  (self65 ()))))) [a4, [0]] 0 ()) [a3, x35, []] 0 ())) j74 0 ()) j75 0 ())))
end
end Go.Proofs.Ytdgpkkfkloapbaa
