/-
  Models of the functions, as the evaluator computes them. No condition.
-/
import Derived.Test.YtdiidghfmpobaaaEv
namespace Go.Proofs.Ytdiidghfmpobaaa
open Go.Gk Go.RowKit
noncomputable section
set_option maxRecDepth 100000
def m_coresecmake_Few (a0 : (List Int)) : Option Bool :=
 letm (decide ((a0.length : Int) ≤ 300)) fun x1 =>
 some x1
def m_cache_keyed (a0 : (List UInt8)) : Option Bool :=
 bnd (β := Bool) (letm (decide (1 ≤ (a0.length : Int))) fun x1 =>
 cond x1 (letm (decide ((a0.length : Int) ≤ 4096)) fun x2 =>
 some x2)
  (some false)) fun v3 =>
 some v3
def m_bytes_Equal (a0 : (List UInt8)) (a1 : (List UInt8)) : Option Bool :=
 letm ((a0 == a1)) fun x2 =>
 some x2
def m_cache_find (a0 : (List S_api_Cached)) (a1 : (List UInt8)) : Option Int :=
 loopL (R := Int) (S := Unit) (α := S_api_Cached) (fun _ _ =>
 some (-1))
  (fun x4 k5 _ self7 =>
 bnd (m_bytes_Equal x4.1 a1) fun x8 =>
 cond x8 (some (k5 : Int))
  (self7 ())) a0 0 ()
def m_coap_sound (a0 : S_api_Message) : Option Bool :=
 bnd (Gk.shr a0.2.1 (UInt64.toNat 5 : Int)) fun x1 =>
 bnd (β := Bool) (letm (decide (a0.1 < 0)) fun x2 =>
 cond x2 (some true)
  (letm (decide (3 < a0.1)) fun x3 =>
 cond x3 (some true)
  (letm (decide (a0.2.1 < 0)) fun x4 =>
 cond x4 (some true)
  (letm (decide (255 < a0.2.1)) fun x5 =>
 cond x5 (some true)
  (letm ((x1 != 0)) fun x6 =>
 cond x6 (letm ((x1 != 2)) fun x7 =>
 cond x7 (letm ((x1 != 4)) fun x8 =>
 cond x8 (letm ((x1 != 5)) fun x9 =>
 some x9)
  (some false))
  (some false))
  (some false)))))) fun v10 =>
 cond v10 (some false)
  (bnd (β := Bool) (letm (decide (a0.2.2.1 < 0)) fun x11 =>
 cond x11 (some true)
  (letm (decide (65535 < a0.2.2.1)) fun x12 =>
 cond x12 (some true)
  (letm (decide (8 < (a0.2.2.2.1.length : Int))) fun x13 =>
 cond x13 (some true)
  (letm (decide (32 < (a0.2.2.2.2.1.length : Int))) fun x14 =>
 some x14)))) fun v15 =>
 cond v15 (some false)
  (loopL (R := Bool) (S := Int) (α := S_api_Option) (fun _ _ =>
 bnd (β := Bool) (letm ((a0.2.1 == 0)) fun x18 =>
 cond x18 (letm ((w64 ((a0.2.2.2.1.length : Int) + (a0.2.2.2.2.1.length : Int)))) fun x19 =>
 letm ((w64 (x19 + (a0.2.2.2.2.2.length : Int)))) fun x20 =>
 letm (decide (0 < x20)) fun x21 =>
 some x21)
  (some false)) fun v22 =>
 cond v22 (some false)
  (bnd (β := Bool) (letm ((a0.1 != 3)) fun x23 =>
 cond x23 (letm (decide ((a0.2.2.2.2.2.length : Int) ≤ 4096)) fun x24 =>
 some x24)
  (letm ((a0.2.1 == 0)) fun x25 =>
 cond x25 (letm (decide ((a0.2.2.2.2.2.length : Int) ≤ 4096)) fun x26 =>
 some x26)
  (some false))) fun v27 =>
 some v27))
  (fun x28 _ s30 self31 =>
 bnd (β := Bool) (letm (decide (x28.1 < s30)) fun x32 =>
 cond x32 (some true)
  (letm (decide (65535 < x28.1)) fun x33 =>
 cond x33 (some true)
  (letm (decide (1034 < (x28.2.length : Int))) fun x34 =>
 some x34))) fun v35 =>
 cond v35 (some false)
  (self31 x28.1)) a0.2.2.2.2.1 0 0))
def m_coap_parts (a0 : Int) : Option (UInt8 × (List UInt8)) :=
 letm (decide (a0 < 13)) fun x1 =>
 cond x1 (letm ((toU8 a0)) fun x2 =>
 some (x2, []))
  (letm (decide (a0 < 269)) fun x3 =>
 cond x3 (letm ((w64 (a0 - 13))) fun x4 =>
 letm ((toU8 x4)) fun x5 =>
 some (13, [x5]))
  (letm ((w64 (a0 - 269))) fun x6 =>
 bnd (Gk.shr x6 (UInt64.toNat 8 : Int)) fun x7 =>
 letm ((toU8 x7)) fun x8 =>
 letm ((w64 (a0 - 269))) fun x9 =>
 letm ((toU8 x9)) fun x10 =>
 some (14, [x8, x10])))
def m_coap_encode (a0 : S_api_Message) : Option (List UInt8) :=
 bnd (Gk.shl a0.1 (UInt64.toNat 4 : Int)) fun x1 =>
 letm ((ibit .or 64 x1)) fun x2 =>
 letm ((ibit .or x2 (a0.2.2.2.1.length : Int))) fun x3 =>
 letm ((toU8 x3)) fun x4 =>
 letm ((toU8 a0.2.1)) fun x5 =>
 bnd (Gk.shr a0.2.2.1 (UInt64.toNat 8 : Int)) fun x6 =>
 letm ((toU8 x6)) fun x7 =>
 letm ((toU8 a0.2.2.1)) fun x8 =>
 bnd (app [x4, x5, x7, x8] a0.2.2.2.1) fun x9 =>
 loopL (R := (List UInt8)) (S := ((List UInt8) × Int)) (α := S_api_Option) (fun _ s11 =>
 bnd (β := (List UInt8)) (letm (decide (0 < (a0.2.2.2.2.2.length : Int))) fun x12 =>
 cond x12 (bnd (app s11.1 [255]) fun x13 =>
 bnd (app x13 a0.2.2.2.2.2) fun x14 =>
 some x14)
  (some s11.1)) fun v15 =>
 some v15)
  (fun x16 _ s18 self19 =>
 letm ((w64 (x16.1 - s18.2))) fun x20 =>
 bnd (m_coap_parts x20) fun x21 =>
 bnd (m_coap_parts (x16.2.length : Int)) fun x22 =>
 bnd (shlK .u8 x21.1 (UInt64.toNat 4 : Int)) fun x23 =>
 letm ((toU8 (bits .or .u8 (UInt8.toNat x23) (UInt8.toNat x22.1)))) fun x24 =>
 bnd (app s18.1 [x24]) fun x25 =>
 bnd (app x25 x21.2) fun x26 =>
 bnd (app x26 x22.2) fun x27 =>
 bnd (app x27 x16.2) fun x28 =>
 self19 (x28, x16.1)) a0.2.2.2.2.1 0 (x9, 0)
def m_coap_Valid (a0 : S_api_Message) : Option Bool :=
 bnd (β := Bool) (bnd (m_coap_sound a0) fun x1 =>
 cond x1 (bnd (m_coap_encode a0) fun x2 =>
 letm (decide ((x2.length : Int) ≤ 4096)) fun x3 =>
 some x3)
  (some false)) fun v4 =>
 some v4
def m_cache_bare (a0 : S_api_Message) : Option Bool :=
 bnd (β := Bool) (letm ((a0.1 == 0)) fun x1 =>
 cond x1 (letm ((a0.2.2.1 == 0)) fun x2 =>
 cond x2 (letm (((a0.2.2.2.1.length : Int) == 0)) fun x3 =>
 some x3)
  (some false))
  (some false)) fun v4 =>
 some v4
def m_coap_Response (a0 : Int) : Option Bool :=
 bnd (β := Bool) (letm (decide (64 ≤ a0)) fun x1 =>
 cond x1 (letm (decide (a0 ≤ 95)) fun x2 =>
 cond x2 (some true)
  (letm (decide (128 ≤ a0)) fun x3 =>
 cond x3 (letm (decide (a0 ≤ 191)) fun x4 =>
 some x4)
  (some false)))
  (letm (decide (128 ≤ a0)) fun x5 =>
 cond x5 (letm (decide (a0 ≤ 191)) fun x6 =>
 some x6)
  (some false))) fun v7 =>
 some v7
def m_cache_Valid (a0 : (List S_api_Cached)) : Option Bool :=
 letm (decide (16 < (a0.length : Int))) fun x1 =>
 cond x1 (some false)
  (loopL (R := Bool) (S := Unit) (α := S_api_Cached) (fun _ _ =>
 some true)
  (fun x4 k5 _ self7 =>
 bnd (β := Bool) (bnd (m_cache_keyed x4.1) fun x8 =>
 letm ((!x8)) fun x9 =>
 cond x9 (some true)
  (letm (decide (x4.2.2.1 < 0)) fun x10 =>
 cond x10 (some true)
  (letm (decide (x4.2.2.2 < 0)) fun x11 =>
 cond x11 (some true)
  (bnd (Gk.cut a0 0 (k5 : Int)) fun x12 =>
 bnd (m_cache_find x12 x4.1) fun x13 =>
 letm (decide (0 ≤ x13)) fun x14 =>
 some x14)))) fun v15 =>
 cond v15 (some false)
  (bnd (β := Bool) (bnd (m_coap_Valid x4.2.1) fun x16 =>
 letm ((!x16)) fun x17 =>
 cond x17 (some true)
  (bnd (m_cache_bare x4.2.1) fun x18 =>
 letm ((!x18)) fun x19 =>
 cond x19 (some true)
  (bnd (m_coap_Response x4.2.1.2.1) fun x20 =>
 letm ((!x20)) fun x21 =>
 some x21))) fun v22 =>
 cond v22 (some false)
  (self7 ()))) a0 0 ())
def m_cache_argument (a0 : (List S_api_Cached)) (a1 : (List UInt8)) (a2 : Int) : Option Int :=
 bnd (β := Bool) (bnd (m_cache_Valid a0) fun x3 =>
 letm ((!x3)) fun x4 =>
 cond x4 (some true)
  (bnd (m_cache_keyed a1) fun x5 =>
 letm ((!x5)) fun x6 =>
 cond x6 (some true)
  (letm (decide (a2 < 0)) fun x7 =>
 cond x7 (some true)
  (letm (decide (1073741824 < a2)) fun x8 =>
 some x8)))) fun v9 =>
 cond v9 (some 1)
  (some 0)
def m_bytes_Clone (a0 : List UInt8) : Option (List UInt8) := app ([] : List UInt8) a0
def m_bytes_Clone_o (a0 : List UInt8) : Option (List UInt8) := m_bytes_Clone a0

def m_option_Get (a0 : S_api_Message) (a1 : Int) : Option ((List UInt8) × Bool) :=
 loopL (R := ((List UInt8) × Bool)) (S := Unit) (α := S_api_Option) (fun _ _ =>
 some ([], false))
  (fun x4 _ _ self7 =>
 letm ((x4.1 == a1)) fun x8 =>
 cond x8 (bnd (m_bytes_Clone x4.2) fun x9 =>
 some (x9, true))
  (self7 ())) a0.2.2.2.2.1 0 ()
def m_option_Uint (a0 : (List UInt8)) : Option (Int × Int) :=
 loopL (R := (Int × Int)) (S := Int) (α := UInt8) (fun _ s2 =>
 some (s2, 0))
  (fun x3 _ s5 self6 =>
 bnd (Gk.shl s5 (UInt64.toNat 8 : Int)) fun x7 =>
 letm ((w64 (UInt8.toNat x3 : Int))) fun x8 =>
 letm ((ibit .or x7 x8)) fun x9 =>
 letm (decide (4294967295 < x9)) fun x10 =>
 cond x10 (some (0, 8))
  (self6 x9)) a0 0 0
def m_cache_MaxAge (a0 : S_api_Message) : Option Int :=
 bnd (m_option_Get a0 14) fun x1 =>
 letm ((!x1.2)) fun x2 =>
 cond x2 (some 60)
  (letm (decide (4 < (x1.1.length : Int))) fun x3 =>
 cond x3 (some 0)
  (bnd (m_option_Uint x1.1) fun x4 =>
 some x4.1))
def m_option_All (a0 : S_api_Message) (a1 : Int) : Option (List (List UInt8)) :=
 loopL (R := (List (List UInt8))) (S := (List (List UInt8))) (α := S_api_Option) (fun _ s3 =>
 some s3)
  (fun x4 _ s6 self7 =>
 bnd (β := (List (List UInt8))) (letm ((x4.1 == a1)) fun x8 =>
 cond x8 (bnd (m_bytes_Clone x4.2) fun x9 =>
 bnd (app s6 [x9]) fun x10 =>
 some x10)
  (some s6)) fun v11 =>
 self7 v11) a0.2.2.2.2.1 0 []
def m_block_Parse (a0 : (List UInt8)) : Option (S_api_Block × Int) :=
 bnd (m_option_Uint a0) fun x1 =>
 bnd (β := Bool) (letm (decide (3 < (a0.length : Int))) fun x2 =>
 cond x2 (some true)
  (letm ((x1.2 != 0)) fun x3 =>
 cond x3 (some true)
  (letm ((ibit .and x1.1 7)) fun x4 =>
 letm ((x4 == 7)) fun x5 =>
 some x5))) fun v6 =>
 cond v6 (some ((0, (false, 0)), 4))
  (bnd (Gk.shr x1.1 (UInt64.toNat 4 : Int)) fun x7 =>
 letm ((ibit .and x1.1 8)) fun x8 =>
 letm ((x8 == 8)) fun x9 =>
 letm ((ibit .and x1.1 7)) fun x10 =>
 some ((x7, (x9, x10)), 0))
def m_cache_Storable (a0 : S_api_Message) : Option Bool :=
 bnd (β := Bool) (bnd (m_coap_Valid a0) fun x1 =>
 letm ((!x1)) fun x2 =>
 cond x2 (some true)
  (letm ((a0.2.1 != 69)) fun x3 =>
 cond x3 (letm ((a0.2.1 != 132)) fun x4 =>
 cond x4 (some true)
  (bnd (m_cache_MaxAge a0) fun x5 =>
 letm ((x5 == 0)) fun x6 =>
 some x6))
  (bnd (m_cache_MaxAge a0) fun x7 =>
 letm ((x7 == 0)) fun x8 =>
 some x8))) fun v9 =>
 cond v9 (some false)
  (bnd (m_option_Get a0 6) fun x10 =>
 cond x10.2 (some false)
  (bnd (m_option_All a0 23) fun x11 =>
 letm (((x11.length : Int) == 0)) fun x12 =>
 cond x12 (some true)
  (bnd (idx x11 0) fun x13 =>
 bnd (m_block_Parse x13) fun x14 =>
 bnd (β := Bool) (letm (((x11.length : Int) == 1)) fun x15 =>
 cond x15 (letm ((x14.2 == 0)) fun x16 =>
 cond x16 (letm ((x14.1.1 == 0)) fun x17 =>
 cond x17 (letm ((!x14.1.2.1)) fun x18 =>
 some x18)
  (some false))
  (some false))
  (some false)) fun v19 =>
 some v19)))
def m_cache_element (a0 : S_api_Cached) : Option S_api_Cached :=
 bnd (m_bytes_Clone a0.1) fun x1 =>
 bnd (m_bytes_Clone a0.2.1.2.2.2.2.2) fun x2 =>
 loopL (R := S_api_Cached) (S := (S_api_Message × (List S_api_Option))) (α := S_api_Option) (fun _ s4 =>
 some (x1, ((s4.1.1, (s4.1.2.1, (s4.1.2.2.1, (s4.1.2.2.2.1, (s4.2, s4.1.2.2.2.2.2))))), a0.2.2)))
  (fun x5 _ s7 self8 =>
 bnd (m_bytes_Clone x5.2) fun x9 =>
 bnd (app s7.2 [(x5.1, x9)]) fun x10 =>
 self8 (s7.1, x10)) a0.2.1.2.2.2.2.1 0 ((a0.2.1.1, (a0.2.1.2.1, (a0.2.1.2.2.1, ([], ([], x2))))), [])
def m_cache_all (a0 : (List S_api_Cached)) : Option (List S_api_Cached) :=
 loopL (R := (List S_api_Cached)) (S := (List S_api_Cached)) (α := S_api_Cached) (fun _ s2 =>
 some s2)
  (fun x3 _ s5 self6 =>
 bnd (m_cache_element x3) fun x7 =>
 bnd (app s5 [x7]) fun x8 =>
 self6 x8) a0 0 []
def m_cache_all_o (a0 : (List S_api_Cached)) : Option (List S_api_Cached) :=
 loopL (R := (List S_api_Cached)) (S := (List S_api_Cached)) (α := S_api_Cached) (fun _ s2 =>
 some s2)
  (fun x3 _ s5 self6 =>
 bnd (m_cache_element x3) fun x7 =>
 bnd (app s5 [x7]) fun x8 =>
 self6 x8) a0 0 []
def m_cache_oldest (a0 : (List S_api_Cached)) : Option Int :=
 loopL (R := Int) (S := Int) (α := S_api_Cached) (fun _ s2 =>
 some s2)
  (fun x3 k4 s5 self6 =>
 bnd (β := Int) (bnd (idx a0 s5) fun x7 =>
 letm (decide (x3.2.2.1 < x7.2.2.1)) fun x8 =>
 cond x8 (some (k4 : Int))
  (some s5)) fun v9 =>
 self6 v9) a0 0 0
def m_cache_Insert (a0 : (List S_api_Cached)) (a1 : (List UInt8)) (a2 : S_api_Message) (a3 : Int) : Option ((List S_api_Cached) × Int) :=
 bnd (m_cache_argument a0 a1 a3) fun x4 =>
 letm ((x4 != 0)) fun x5 =>
 cond x5 (some ([], x4))
  (bnd (m_cache_Storable a2) fun x6 =>
 letm ((!x6)) fun x7 =>
 cond x7 (some ([], 4))
  (bnd (m_cache_MaxAge a2) fun x8 =>
 bnd (m_cache_element (a1, ((0, (a2.2.1, (0, ([], a2.2.2.2.2)))), (a3, x8)))) fun x9 =>
 bnd (m_cache_all_o a0) fun x10 =>
 bnd (m_cache_find x10 a1) fun x11 =>
 letm (decide (0 ≤ x11)) fun x12 =>
 cond x12 (bnd (idx x10 x11) fun _ =>
 bnd (idx x10 (((x11 : Int)).toNat : Int)) fun _ =>
 letm ((x10.set ((x11 : Int)).toNat x9)) fun x15 =>
 some (x15, 0))
  (bnd (β := (List S_api_Cached)) (letm (decide (16 ≤ (x10.length : Int))) fun x16 =>
 cond x16 (bnd (m_cache_oldest x10) fun x17 =>
 bnd (Gk.cut x10 0 x17) fun x18 =>
 letm ((w64 (x17 + 1))) fun x19 =>
 bnd (Gk.cut x10 x19 (x10.length : Int)) fun x20 =>
 bnd (app x18 x20) fun x21 =>
 some x21)
  (some x10)) fun v22 =>
 bnd (app v22 [x9]) fun x23 =>
 some (x23, 0))))
def m_option_FromUint (a0 : Int) : Option (List UInt8) :=
 bnd (β := Bool) (letm (decide (a0 < 0)) fun x1 =>
 cond x1 (some true)
  (letm (decide (4294967295 < a0)) fun x2 =>
 some x2)) fun v3 =>
 cond v3 (some [])
  (loopF (R := (List UInt8)) (S := ((List UInt8) × Int)) (fun self5 s4 =>
 letm (decide (0 ≤ s4.2)) fun x6 =>
 cond x6 (bnd (β := (List UInt8)) (bnd (Gk.shr a0 s4.2) fun x7 =>
 letm (decide (0 < x7)) fun x8 =>
 cond x8 (bnd (Gk.shr a0 s4.2) fun x9 =>
 letm ((toU8 x9)) fun x10 =>
 bnd (app s4.1 [x10]) fun x11 =>
 some x11)
  (some s4.1)) fun v12 =>
 letm ((w64 (s4.2 - 8))) fun x13 =>
 self5 (v12, x13))
  (some s4.1)) FUEL ([], 24))
def m_option_owned (a0 : S_api_Message) (a1 : (List S_api_Option)) : Option S_api_Message :=
 bnd (m_bytes_Clone a0.2.2.2.1) fun x2 =>
 bnd (m_bytes_Clone a0.2.2.2.2.2) fun x3 =>
 loopL (R := S_api_Message) (S := (S_api_Message × (List S_api_Option))) (α := S_api_Option) (fun _ s5 =>
 some (s5.1.1, (s5.1.2.1, (s5.1.2.2.1, (s5.1.2.2.2.1, (s5.2, s5.1.2.2.2.2.2))))))
  (fun x6 _ s8 self9 =>
 bnd (m_bytes_Clone x6.2) fun x10 =>
 bnd (app s8.2 [(x6.1, x10)]) fun x11 =>
 self9 (s8.1, x11)) a1 0 ((a0.1, (a0.2.1, (a0.2.2.1, (x2, ([], x3))))), [])
def m_option_Set (a0 : S_api_Message) (a1 : Int) (a2 : (List (List UInt8))) : Option S_api_Message :=
 loopL (R := S_api_Message) (S := ((List S_api_Option) × (List S_api_Option))) (α := S_api_Option) (fun _ s4 =>
 loopL (R := S_api_Message) (S := (List S_api_Option)) (α := (List UInt8)) (fun _ s6 =>
 bnd (app s6 s4.2) fun x7 =>
 bnd (m_option_owned a0 x7) fun x8 =>
 some x8)
  (fun x9 _ s11 self12 =>
 bnd (app s11 [(a1, x9)]) fun x13 =>
 self12 x13) a2 0 s4.1)
  (fun x14 _ s16 self17 =>
 bnd (β := ((List S_api_Option) × (List S_api_Option))) (letm (decide (x14.1 < a1)) fun x18 =>
 cond x18 (bnd (app s16.1 [x14]) fun x19 =>
 some (x19, s16.2))
  (letm (decide (a1 < x14.1)) fun x20 =>
 cond x20 (bnd (app s16.2 [x14]) fun x21 =>
 some (s16.1, x21))
  (some (s16.1, s16.2)))) fun v22 =>
 self17 (v22.1, v22.2)) a0.2.2.2.2.1 0 ([], [])
def m_cache_Lookup (a0 : (List S_api_Cached)) (a1 : (List UInt8)) (a2 : Int) : Option (S_api_Message × Bool) :=
 bnd (m_cache_find a0 a1) fun x3 =>
 bnd (β := Bool) (letm (decide (x3 < 0)) fun x4 =>
 cond x4 (some true)
  (bnd (idx a0 x3) fun x5 =>
 letm (decide (a2 < x5.2.2.1)) fun x6 =>
 cond x6 (some true)
  (bnd (idx a0 x3) fun x7 =>
 letm ((w64 (a2 - x7.2.2.1))) fun x8 =>
 bnd (idx a0 x3) fun x9 =>
 letm (decide (x9.2.2.2 ≤ x8)) fun x10 =>
 some x10))) fun v11 =>
 cond v11 (some ((0, (0, (0, ([], ([], []))))), false))
  (bnd (idx a0 x3) fun x12 =>
 bnd (idx a0 x3) fun x13 =>
 bnd (idx a0 x3) fun x14 =>
 letm ((w64 (a2 - x14.2.2.1))) fun x15 =>
 letm ((w64 (x13.2.2.2 - x15))) fun x16 =>
 bnd (m_option_FromUint x16) fun x17 =>
 bnd (m_option_Set x12.2.1 14 [x17]) fun x18 =>
 some (x18, true))
def m_coreseclaw20_awake : Option Bool :=
 bnd (m_cache_Insert [] [1] (0, (69, (0, ([], ([], []))))) 0) fun x0 =>
 bnd (m_cache_Lookup x0.1 [1] 59) fun x1 =>
 bnd (m_cache_Lookup x0.1 [1] 60) fun x2 =>
 bnd (m_option_Get x1.1 14) fun x3 =>
 bnd (β := Bool) (letm ((x0.2 == 0)) fun x4 =>
 cond x4 (cond x1.2 (letm (((x3.1.length : Int) == 1)) fun x5 =>
 cond x5 (bnd (idx x3.1 0) fun x6 =>
 letm (((UInt8.toNat x6 : Int) == (UInt8.toNat 1 : Int))) fun x7 =>
 cond x7 (letm ((!x2.2)) fun x8 =>
 some x8)
  (some false))
  (some false))
  (some false))
  (some false)) fun v9 =>
 some v9
def m_coresecmake_New (a0 : (List Int)) : Option S_coresecmake_Deck :=
 some (a0, 0)
def m_coresecmake_Deck_Left (a0 : S_coresecmake_Deck) : Option (Bool × S_coresecmake_Deck) :=
 letm (decide (a0.2 < (a0.1.length : Int))) fun x1 =>
 some (x1, a0)
def m_coresecmake_Mod (a0 : Int) (a1 : Int) : Option Int :=
 bnd (Gk.rem a0 a1) fun x2 =>
 bnd (β := Int) (letm (decide (x2 < 0)) fun x3 =>
 cond x3 (letm ((w64 (x2 + a1))) fun x4 =>
 some x4)
  (some x2)) fun v5 =>
 some v5
def m_coresecmake_Deck_Next (a0 : S_coresecmake_Deck) (a1 : Int) : Option (Int × S_coresecmake_Deck) :=
 letm (decide ((a0.1.length : Int) ≤ a0.2)) fun x2 =>
 cond x2 (some (0, a0))
  (letm ((w64 (a0.2 + 1))) fun x3 =>
 letm ((w64 (x3 - 1))) fun x4 =>
 bnd (idx a0.1 x4) fun x5 =>
 bnd (m_coresecmake_Mod x5 a1) fun x6 =>
 some (x6, (a0.1, x3)))
def m_coresecmake_Deck_Bytes (a0 : S_coresecmake_Deck) (a1 : Int) : Option ((List UInt8) × S_coresecmake_Deck) :=
 letm ((w64 (a1 + 1))) fun x2 =>
 bnd (m_coresecmake_Deck_Next a0 x2) fun x3 =>
 loopF (R := ((List UInt8) × S_coresecmake_Deck)) (S := ((List UInt8) × (Int × S_coresecmake_Deck))) (fun self5 s4 =>
 letm (decide (0 < s4.2.1)) fun x6 =>
 cond x6 (bnd (m_coresecmake_Deck_Next s4.2.2 256) fun x7 =>
 letm ((toU8 x7.1)) fun x8 =>
 bnd (app s4.1 [x8]) fun x9 =>
 letm ((w64 (s4.2.1 - 1))) fun x10 =>
 self5 (x9, (x10, x7.2)))
  (some (s4.1, s4.2.2))) FUEL ([], (x3.1, x3.2))
def m_coresecref16_FromUint (a0 : Int) : Option (List UInt8) :=
 bnd (β := Bool) (letm (decide (a0 < 0)) fun x1 =>
 cond x1 (some true)
  (letm (decide (4294967295 < a0)) fun x2 =>
 some x2)) fun v3 =>
 cond v3 (some [])
  (bnd (β := (List UInt8)) (loopF (R := (List UInt8)) (S := S_api_Option) (fun self5 s4 =>
 letm (decide (0 < s4.1)) fun x6 =>
 cond x6 (letm ((toU8 s4.1)) fun x7 =>
 bnd (app [x7] s4.2) fun x8 =>
 bnd (Gk.shr s4.1 (UInt64.toNat 8 : Int)) fun x9 =>
 self5 (x9, x8))
  (some s4.2)) FUEL (a0, [])) fun v10 =>
 some v10)
def m_coresecref16_with (a0 : S_api_Message) (a1 : (List S_api_Option)) : Option S_api_Message :=
 bnd (app [] a0.2.2.2.1) fun x2 =>
 bnd (app [] a0.2.2.2.2.2) fun x3 =>
 loopL (R := S_api_Message) (S := (List S_api_Option)) (α := S_api_Option) (fun _ s5 =>
 some (a0.1, (a0.2.1, (a0.2.2.1, (x2, (s5, x3))))))
  (fun x6 _ s8 self9 =>
 bnd (app [] x6.2) fun x10 =>
 bnd (app s8 [(x6.1, x10)]) fun x11 =>
 self9 x11) a1 0 []
def m_coresecref16_Set (a0 : S_api_Message) (a1 : Int) (a2 : (List (List UInt8))) : Option S_api_Message :=
 loopL (R := S_api_Message) (S := (List S_api_Option)) (α := S_api_Option) (fun _ s4 =>
 loopL (R := S_api_Message) (S := (List S_api_Option)) (α := (List UInt8)) (fun _ s6 =>
 loopL (R := S_api_Message) (S := (List S_api_Option)) (α := S_api_Option) (fun _ s8 =>
 bnd (m_coresecref16_with a0 s8) fun x9 =>
 some x9)
  (fun x10 _ s12 self13 =>
 bnd (β := (List S_api_Option)) (letm (decide (a1 < x10.1)) fun x14 =>
 cond x14 (bnd (app s12 [x10]) fun x15 =>
 some x15)
  (some s12)) fun v16 =>
 self13 v16) a0.2.2.2.2.1 0 s6)
  (fun x17 _ s19 self20 =>
 bnd (app s19 [(a1, x17)]) fun x21 =>
 self20 x21) a2 0 s4)
  (fun x22 _ s24 self25 =>
 bnd (β := (List S_api_Option)) (letm (decide (x22.1 < a1)) fun x26 =>
 cond x26 (bnd (app s24 [x22]) fun x27 =>
 some x27)
  (some s24)) fun v28 =>
 self25 v28) a0.2.2.2.2.1 0 []
def m_coresecref18_valid (a0 : S_api_Block) : Option Bool :=
 bnd (β := Bool) (letm (decide (0 ≤ a0.1)) fun x1 =>
 cond x1 (letm (decide (a0.1 < 1048576)) fun x2 =>
 cond x2 (letm (decide (0 ≤ a0.2.2)) fun x3 =>
 cond x3 (letm (decide (a0.2.2 ≤ 6)) fun x4 =>
 some x4)
  (some false))
  (some false))
  (some false)) fun v5 =>
 some v5
def m_coresecref18_Value (a0 : S_api_Block) : Option ((List UInt8) × Int) :=
 bnd (m_coresecref18_valid a0) fun x1 =>
 letm ((!x1)) fun x2 =>
 cond x2 (some ([], 1))
  (letm ((w64 (16 * a0.1))) fun x3 =>
 letm ((w64 (x3 + a0.2.2))) fun x4 =>
 bnd (β := Int) (cond a0.2.1 (letm ((w64 (x4 + 8))) fun x5 =>
 some x5)
  (some x4)) fun v6 =>
 bnd (m_coresecref16_FromUint v6) fun x7 =>
 some (x7, 0))
def m_coresecmake_Deck_Response (a0 : S_coresecmake_Deck) : Option (S_api_Message × S_coresecmake_Deck) :=
 bnd (m_coresecmake_Deck_Next a0 3) fun x1 =>
 bnd (m_coresecmake_Deck_Next x1.2 5) fun x2 =>
 bnd (idx [69, 69, 69, 132, 68] x2.1) fun x3 =>
 bnd (m_coresecmake_Deck_Next x2.2 99) fun x4 =>
 bnd (m_coresecmake_Deck_Bytes x4.2 2) fun x5 =>
 bnd (m_coresecmake_Deck_Bytes x5.2 6) fun x6 =>
 bnd (β := (S_coresecmake_Deck × S_api_Message)) (bnd (m_coresecmake_Deck_Next x6.2 2) fun x7 =>
 letm ((x7.1 == 0)) fun x8 =>
 cond x8 (bnd (m_coresecmake_Deck_Next x7.2 5) fun x9 =>
 bnd (idx [0, 1, 5, 40, 300] x9.1) fun x10 =>
 bnd (m_coresecref16_FromUint x10) fun x11 =>
 bnd (m_coresecref16_Set (x1.1, (x3, (x4.1, (x5.1, ([], x6.1))))) 14 [x11]) fun x12 =>
 some (x9.2, x12))
  (some (x7.2, (x1.1, (x3, (x4.1, (x5.1, ([], x6.1)))))))) fun v13 =>
 bnd (β := (S_coresecmake_Deck × S_api_Message)) (bnd (m_coresecmake_Deck_Next v13.1 2) fun x14 =>
 letm ((x14.1 == 0)) fun x15 =>
 cond x15 (bnd (m_coresecmake_Deck_Next x14.2 3) fun x16 =>
 letm ((toU8 x16.1)) fun x17 =>
 bnd (m_coresecref16_Set v13.2 4 [[x17]]) fun x18 =>
 some (x16.2, x18))
  (some (x14.2, v13.2))) fun v19 =>
 bnd (β := (S_coresecmake_Deck × S_api_Message)) (bnd (m_coresecmake_Deck_Next v19.1 8) fun x20 =>
 letm ((x20.1 == 0)) fun x21 =>
 cond x21 (bnd (m_coresecref16_Set v19.2 6 [[1]]) fun x22 =>
 some (x20.2, x22))
  (letm ((x20.1 == 1)) fun x23 =>
 cond x23 (bnd (m_coresecmake_Deck_Next x20.2 2) fun x24 =>
 bnd (m_coresecmake_Deck_Next x24.2 2) fun x25 =>
 letm ((x25.1 == 0)) fun x26 =>
 bnd (m_coresecref18_Value (x24.1, (x26, 2))) fun x27 =>
 bnd (m_coresecref16_Set v19.2 23 [x27.1]) fun x28 =>
 some (x25.2, x28))
  (some (x20.2, v19.2)))) fun v29 =>
 some (v29.2, v29.1)
def m_cache_Refresh (a0 : (List S_api_Cached)) (a1 : (List UInt8)) (a2 : S_api_Message) (a3 : Int) : Option ((List S_api_Cached) × Int) :=
 bnd (m_cache_argument a0 a1 a3) fun x4 =>
 bnd (β := Bool) (letm ((x4 != 0)) fun x5 =>
 cond x5 (some true)
  (bnd (m_coap_Valid a2) fun x6 =>
 letm ((!x6)) fun x7 =>
 some x7)) fun v8 =>
 cond v8 (some ([], 1))
  (bnd (m_cache_find a0 a1) fun x9 =>
 letm ((a2.2.1 != 67)) fun x10 =>
 cond x10 (some ([], 4))
  (letm (decide (x9 < 0)) fun x11 =>
 cond x11 (some ([], 10))
  (bnd (idx a0 x9) fun x12 =>
 bnd (m_option_Get x12.2.1 4) fun x13 =>
 bnd (m_option_Get a2 4) fun x14 =>
 bnd (β := Bool) (letm ((!x13.2)) fun x15 =>
 cond x15 (some true)
  (letm ((!x14.2)) fun x16 =>
 cond x16 (some true)
  (bnd (m_bytes_Equal x13.1 x14.1) fun x17 =>
 letm ((!x17)) fun x18 =>
 some x18))) fun v19 =>
 cond v19 (some ([], 18))
  (bnd (m_cache_all_o a0) fun x20 =>
 bnd (m_cache_MaxAge a2) fun x21 =>
 bnd (idx x20 x9) fun _ =>
 bnd (idx x20 (((x9 : Int)).toNat : Int)) fun x23 =>
 letm ((x20.set ((x9 : Int)).toNat (x23.1, (x23.2.1, (a3, x23.2.2.2))))) fun x24 =>
 bnd (idx x24 x9) fun _ =>
 bnd (idx x24 (((x9 : Int)).toNat : Int)) fun x26 =>
 letm ((x24.set ((x9 : Int)).toNat (x26.1, (x26.2.1, (x26.2.2.1, x21))))) fun x27 =>
 some (x27, 0)))))
def m_coreseclaw20_CacheFresh (a0 : (List Int)) : Option Bool :=
 bnd (m_coresecmake_Few a0) fun x1 =>
 letm ((!x1)) fun x2 =>
 cond x2 (bnd (m_coreseclaw20_awake ) fun x3 =>
 some x3)
  (bnd (m_coresecmake_New a0) fun x4 =>
 bndS (ρ := Bool) (ρ' := Bool) (Y := Unit) (loopF (R := (Bool ⊕ Unit)) (S := ((List (UInt8 × S_coreseclaw20_entry)) × ((List S_api_Cached) × (Int × S_coresecmake_Deck)))) (fun self6 s5 =>
 bnd (m_coresecmake_Deck_Left s5.2.2.2) fun x7 =>
 cond x7.1 (bnd (m_coresecmake_Deck_Next x7.2 15) fun x8 =>
 letm ((w64 (s5.2.2.1 + x8.1))) fun x9 =>
 bnd (m_coresecmake_Deck_Next x8.2 20) fun x10 =>
 letm ((toU8 x10.1)) fun x11 =>
 bndS (ρ := (Bool ⊕ Unit)) (ρ' := (Bool ⊕ Unit)) (Y := ((List (UInt8 × S_coreseclaw20_entry)) × ((List S_api_Cached) × S_coresecmake_Deck))) (bnd (m_coresecmake_Deck_Next x10.2 4) fun x12 =>
 bnd (β := Bool) (letm ((x12.1 == 0)) fun x13 =>
 cond x13 (some true)
  (letm ((x12.1 == 1)) fun x14 =>
 some x14)) fun v15 =>
 cond v15 (bnd (m_coresecmake_Deck_Response x12.2) fun x16 =>
 bnd (m_cache_Insert s5.2.1 [x11] x16.1 x9) fun x17 =>
 letm ((x17.2 == 0)) fun x18 =>
 bnd (m_cache_Storable x16.1) fun x19 =>
 letm ((x18 != x19)) fun x20 =>
 cond x20 (some (.inl (.inl false)))
  (letm ((x17.2 == 0)) fun x21 =>
 cond x21 (bnd (m_cache_MaxAge x16.1) fun x22 =>
 letm ((mset s5.1 x11 (x16.1, (x9, x22)))) fun x23 =>
 some (.inr (x23, (x17.1, x16.2))))
  (some (.inr (s5.1, (s5.2.1, x16.2))))))
  (letm ((x12.1 == 2)) fun x24 =>
 cond x24 (bnd (m_coresecmake_Deck_Response x12.2) fun x25 =>
 bnd (m_cache_Refresh s5.2.1 [x11] (x25.1.1, (67, x25.1.2.2)) x9) fun x26 =>
 letm ((x26.2 == 0)) fun x27 =>
 cond x27 (letm ((mgetD ((0, (0, (0, ([], ([], []))))), (0, 0)) s5.1 x11)) fun x28 =>
 bnd (m_cache_MaxAge (x25.1.1, (67, x25.1.2.2))) fun x29 =>
 letm ((mset s5.1 x11 (x28.1, (x9, x29)))) fun x30 =>
 some (.inr (x30, (x26.1, x25.2))))
  (some (.inr (s5.1, (s5.2.1, x25.2)))))
  (bnd (m_cache_Lookup s5.2.1 [x11] x9) fun x31 =>
 letm ((!x31.2)) fun x32 =>
 cond x32 (bnd (self6 (s5.1, (s5.2.1, (x9, x12.2)))) fun r => some (.inl r))
  (letm ((mgetD ((0, (0, (0, ([], ([], []))))), (0, 0)) s5.1 x11)) fun x33 =>
 letm ((mhas s5.1 x11)) fun x34 =>
 bnd (m_cache_MaxAge x31.1) fun x35 =>
 bnd (β := Bool) (letm ((!x34)) fun x36 =>
 cond x36 (some true)
  (letm ((w64 (x33.2.1 + x33.2.2))) fun x37 =>
 letm (decide (x37 ≤ x9)) fun x38 =>
 cond x38 (some true)
  (letm ((w64 (x33.2.1 + x33.2.2))) fun x39 =>
 letm ((w64 (x39 - x9))) fun x40 =>
 letm ((x35 != x40)) fun x41 =>
 cond x41 (some true)
  (letm ((x31.1.2.2.2.2.2 != x33.1.2.2.2.2.2)) fun x42 =>
 cond x42 (some true)
  (letm ((x31.1.2.1 != x33.1.2.1)) fun x43 =>
 some x43))))) fun v44 =>
 cond v44 (some (.inl (.inl false)))
  (some (.inr (s5.1, (s5.2.1, x12.2)))))))) (fun q => q) fun v45 =>
 bnd (β := Bool) (letm (decide (16 < (v45.2.1.length : Int))) fun x46 =>
 cond x46 (some true)
  (bnd (m_cache_Valid v45.2.1) fun x47 =>
 letm ((!x47)) fun x48 =>
 some x48)) fun v49 =>
 cond v49 (some (.inl false))
  (self6 (v45.1, (v45.2.1, (x9, v45.2.2)))))
  (some (.inr ()))) FUEL ([], ([], (0, x4)))) (fun q => q) fun _ =>
 bnd (m_coreseclaw20_awake ) fun x51 =>
 some x51)
def m_coresecmake_Short (a0 : (List UInt8)) : Option Bool :=
 letm (decide ((a0.length : Int) ≤ 600)) fun x1 =>
 some x1
def m_coreseclaw20_light (a0 : (List S_api_Cached)) : Option Bool :=
 loopL (R := Bool) (S := Unit) (α := S_api_Cached) (fun _ _ =>
 letm (decide ((a0.length : Int) ≤ 20)) fun x3 =>
 some x3)
  (fun x4 _ _ self7 =>
 bnd (β := Bool) (letm (decide (20 < (x4.2.1.2.2.2.2.1.length : Int))) fun x8 =>
 cond x8 (some true)
  (bnd (m_coresecmake_Short x4.1) fun x9 =>
 letm ((!x9)) fun x10 =>
 some x10)) fun v11 =>
 cond v11 (some false)
  (self7 ())) a0 0 ()
def m_coresecref20_keyed (a0 : (List UInt8)) : Option Bool :=
 bnd (β := Bool) (letm (decide (0 < (a0.length : Int))) fun x1 =>
 cond x1 (letm (decide ((a0.length : Int) ≤ 4096)) fun x2 =>
 some x2)
  (some false)) fun v3 =>
 some v3
def m_coresecref15_extended (a0 : Int) : Option S_api_Option :=
 letm (decide (a0 < 13)) fun x1 =>
 cond x1 (some (a0, []))
  (letm (decide (a0 < 269)) fun x2 =>
 cond x2 (letm ((w64 (a0 - 13))) fun x3 =>
 letm ((toU8 x3)) fun x4 =>
 some (13, [x4]))
  (letm ((w64 (a0 - 269))) fun x5 =>
 bnd (Gk.shr x5 (UInt64.toNat 8 : Int)) fun x6 =>
 letm ((toU8 x6)) fun x7 =>
 letm ((w64 (a0 - 269))) fun x8 =>
 letm ((toU8 x8)) fun x9 =>
 some (14, [x7, x9])))
def m_coresecref15_Raw (a0 : S_api_Message) : Option (List UInt8) :=
 letm ((w64 (16 * a0.1))) fun x1 =>
 letm ((w64 (64 + x1))) fun x2 =>
 letm ((w64 (x2 + (a0.2.2.2.1.length : Int)))) fun x3 =>
 letm ((toU8 x3)) fun x4 =>
 letm ((toU8 a0.2.1)) fun x5 =>
 bnd (Gk.shr a0.2.2.1 (UInt64.toNat 8 : Int)) fun x6 =>
 letm ((toU8 x6)) fun x7 =>
 letm ((toU8 a0.2.2.1)) fun x8 =>
 bnd (app [x4, x5, x7, x8] a0.2.2.2.1) fun x9 =>
 loopL (R := (List UInt8)) (S := ((List UInt8) × Int)) (α := S_api_Option) (fun _ s11 =>
 bnd (β := (List UInt8)) (letm (decide (0 < (a0.2.2.2.2.2.length : Int))) fun x12 =>
 cond x12 (bnd (app s11.1 [255]) fun x13 =>
 bnd (app x13 a0.2.2.2.2.2) fun x14 =>
 some x14)
  (some s11.1)) fun v15 =>
 some v15)
  (fun x16 _ s18 self19 =>
 letm ((w64 (x16.1 - s18.2))) fun x20 =>
 bnd (m_coresecref15_extended x20) fun x21 =>
 bnd (m_coresecref15_extended (x16.2.length : Int)) fun x22 =>
 letm ((w64 (16 * x21.1))) fun x23 =>
 letm ((w64 (x23 + x22.1))) fun x24 =>
 letm ((toU8 x24)) fun x25 =>
 bnd (app s18.1 [x25]) fun x26 =>
 bnd (app x26 x21.2) fun x27 =>
 bnd (app x27 x22.2) fun x28 =>
 bnd (app x28 x16.2) fun x29 =>
 self19 (x29, x16.1)) a0.2.2.2.2.1 0 (x9, 0)
def m_coresecref15_Valid (a0 : S_api_Message) : Option Bool :=
 bnd (β := Bool) (letm (decide (a0.1 < 0)) fun x1 =>
 cond x1 (some true)
  (letm (decide (3 < a0.1)) fun x2 =>
 cond x2 (some true)
  (letm (decide (a0.2.1 < 0)) fun x3 =>
 cond x3 (some true)
  (letm (decide (255 < a0.2.1)) fun x4 =>
 cond x4 (some true)
  (letm (decide (a0.2.2.1 < 0)) fun x5 =>
 cond x5 (some true)
  (letm (decide (65535 < a0.2.2.1)) fun x6 =>
 cond x6 (some true)
  (letm (decide (8 < (a0.2.2.2.1.length : Int))) fun x7 =>
 cond x7 (some true)
  (letm (decide (32 < (a0.2.2.2.2.1.length : Int))) fun x8 =>
 cond x8 (some true)
  (letm (decide (4096 < (a0.2.2.2.2.2.length : Int))) fun x9 =>
 some x9))))))))) fun v10 =>
 cond v10 (some false)
  (bnd (quo a0.2.1 32) fun x11 =>
 bnd (β := Bool) (letm ((x11 != 0)) fun x12 =>
 cond x12 (letm ((x11 != 2)) fun x13 =>
 cond x13 (letm ((x11 != 4)) fun x14 =>
 cond x14 (letm ((x11 != 5)) fun x15 =>
 some x15)
  (some false))
  (some false))
  (some false)) fun v16 =>
 cond v16 (some false)
  (loopL (R := Bool) (S := Int) (α := S_api_Option) (fun _ _ =>
 bnd (β := Bool) (letm ((a0.2.1 == 0)) fun x19 =>
 cond x19 (letm ((w64 ((a0.2.2.2.1.length : Int) + (a0.2.2.2.2.1.length : Int)))) fun x20 =>
 letm ((w64 (x20 + (a0.2.2.2.2.2.length : Int)))) fun x21 =>
 letm (decide (0 < x21)) fun x22 =>
 cond x22 (some true)
  (letm ((a0.1 == 3)) fun x23 =>
 cond x23 (letm ((a0.2.1 != 0)) fun x24 =>
 some x24)
  (some false)))
  (letm ((a0.1 == 3)) fun x25 =>
 cond x25 (letm ((a0.2.1 != 0)) fun x26 =>
 some x26)
  (some false))) fun v27 =>
 cond v27 (some false)
  (bnd (m_coresecref15_Raw a0) fun x28 =>
 letm (decide ((x28.length : Int) ≤ 4096)) fun x29 =>
 some x29))
  (fun x30 _ s32 self33 =>
 bnd (β := Bool) (letm (decide (x30.1 < s32)) fun x34 =>
 cond x34 (some true)
  (letm (decide (65535 < x30.1)) fun x35 =>
 cond x35 (some true)
  (letm (decide (1034 < (x30.2.length : Int))) fun x36 =>
 some x36))) fun v37 =>
 cond v37 (some false)
  (self33 x30.1)) a0.2.2.2.2.1 0 0))
def m_coresecref15_Response (a0 : Int) : Option Bool :=
 bnd (β := Bool) (letm (decide (64 ≤ a0)) fun x1 =>
 cond x1 (letm (decide (a0 < 96)) fun x2 =>
 cond x2 (some true)
  (letm (decide (128 ≤ a0)) fun x3 =>
 cond x3 (letm (decide (a0 < 192)) fun x4 =>
 some x4)
  (some false)))
  (letm (decide (128 ≤ a0)) fun x5 =>
 cond x5 (letm (decide (a0 < 192)) fun x6 =>
 some x6)
  (some false))) fun v7 =>
 some v7
def m_coresecref20_Valid (a0 : (List S_api_Cached)) : Option Bool :=
 letm (decide (16 < (a0.length : Int))) fun x1 =>
 cond x1 (some false)
  (loopL (R := Bool) (S := Unit) (α := S_api_Cached) (fun _ _ =>
 some true)
  (fun x4 k5 _ self7 =>
 bnd (β := Bool) (bnd (m_coresecref20_keyed x4.1) fun x8 =>
 letm ((!x8)) fun x9 =>
 cond x9 (some true)
  (letm (decide (x4.2.2.1 < 0)) fun x10 =>
 cond x10 (some true)
  (letm (decide (x4.2.2.2 < 0)) fun x11 =>
 cond x11 (some true)
  (bnd (m_coresecref15_Valid x4.2.1) fun x12 =>
 letm ((!x12)) fun x13 =>
 cond x13 (some true)
  (letm ((x4.2.1.1 != 0)) fun x14 =>
 cond x14 (some true)
  (letm ((x4.2.1.2.2.1 != 0)) fun x15 =>
 cond x15 (some true)
  (letm (decide (0 < (x4.2.1.2.2.2.1.length : Int))) fun x16 =>
 cond x16 (some true)
  (bnd (m_coresecref15_Response x4.2.1.2.1) fun x17 =>
 letm ((!x17)) fun x18 =>
 some x18)))))))) fun v19 =>
 cond v19 (some false)
  (bnd (Gk.cut a0 0 (k5 : Int)) fun x20 =>
 loopL (R := Bool) (S := Unit) (α := S_api_Cached) (fun _ _ =>
 self7 ())
  (fun x23 _ _ self26 =>
 letm ((x4.1 == x23.1)) fun x27 =>
 cond x27 (some false)
  (self26 ())) x20 0 ())) a0 0 ())
def m_coresecref16_All (a0 : S_api_Message) (a1 : Int) : Option (List (List UInt8)) :=
 loopL (R := (List (List UInt8))) (S := (List (List UInt8))) (α := S_api_Option) (fun _ s3 =>
 some s3)
  (fun x4 _ s6 self7 =>
 bnd (β := (List (List UInt8))) (letm ((x4.1 == a1)) fun x8 =>
 cond x8 (bnd (app [] x4.2) fun x9 =>
 bnd (app s6 [x9]) fun x10 =>
 some x10)
  (some s6)) fun v11 =>
 self7 v11) a0.2.2.2.2.1 0 []
def m_coresecref16_Get (a0 : S_api_Message) (a1 : Int) : Option ((List UInt8) × Bool) :=
 bnd (m_coresecref16_All a0 a1) fun x2 =>
 letm (((x2.length : Int) == 0)) fun x3 =>
 cond x3 (some ([], false))
  (bnd (idx x2 0) fun x4 =>
 some (x4, true))
def m_coresecref16_Uint (a0 : (List UInt8)) : Option (Int × Int) :=
 loopL (R := (Int × Int)) (S := Int) (α := UInt8) (fun _ s2 =>
 some (s2, 0))
  (fun x3 _ s5 self6 =>
 bnd (Gk.shl s5 (UInt64.toNat 8 : Int)) fun x7 =>
 letm ((w64 (UInt8.toNat x3 : Int))) fun x8 =>
 letm ((ibit .or x7 x8)) fun x9 =>
 letm (decide (4294967295 < x9)) fun x10 =>
 cond x10 (some (0, 8))
  (self6 x9)) a0 0 0
def m_coresecref20_MaxAge (a0 : S_api_Message) : Option Int :=
 bnd (m_coresecref16_Get a0 14) fun x1 =>
 letm ((!x1.2)) fun x2 =>
 cond x2 (some 60)
  (letm (decide (4 < (x1.1.length : Int))) fun x3 =>
 cond x3 (some 0)
  (bnd (m_coresecref16_Uint x1.1) fun x4 =>
 some x4.1))
def m_coresecref18_Parse (a0 : (List UInt8)) : Option (S_api_Block × Int) :=
 letm (decide (3 < (a0.length : Int))) fun x1 =>
 cond x1 (some ((0, (false, 0)), 4))
  (bnd (m_coresecref16_Uint a0) fun x2 =>
 bnd (Gk.rem x2.1 8) fun x3 =>
 letm ((x3 == 7)) fun x4 =>
 cond x4 (some ((0, (false, 0)), 4))
  (bnd (quo x2.1 16) fun x5 =>
 bnd (quo x2.1 8) fun x6 =>
 bnd (Gk.rem x6 2) fun x7 =>
 letm ((x7 == 1)) fun x8 =>
 bnd (Gk.rem x2.1 8) fun x9 =>
 some ((x5, (x8, x9)), 0)))
def m_coresecref20_Storable (a0 : S_api_Message) : Option Bool :=
 bnd (β := Bool) (bnd (m_coresecref15_Valid a0) fun x1 =>
 letm ((!x1)) fun x2 =>
 cond x2 (some true)
  (letm ((a0.2.1 != 69)) fun x3 =>
 cond x3 (letm ((a0.2.1 != 132)) fun x4 =>
 cond x4 (some true)
  (bnd (m_coresecref20_MaxAge a0) fun x5 =>
 letm (decide (x5 < 1)) fun x6 =>
 some x6))
  (bnd (m_coresecref20_MaxAge a0) fun x7 =>
 letm (decide (x7 < 1)) fun x8 =>
 some x8))) fun v9 =>
 cond v9 (some false)
  (bnd (m_coresecref16_Get a0 6) fun x10 =>
 cond x10.2 (some false)
  (bnd (m_coresecref16_All a0 23) fun x11 =>
 letm (((x11.length : Int) == 0)) fun x12 =>
 cond x12 (some true)
  (bnd (idx x11 0) fun x13 =>
 bnd (m_coresecref18_Parse x13) fun x14 =>
 bnd (β := Bool) (letm (((x11.length : Int) == 1)) fun x15 =>
 cond x15 (letm ((x14.2 == 0)) fun x16 =>
 cond x16 (letm ((x14.1.1 == 0)) fun x17 =>
 cond x17 (letm ((!x14.1.2.1)) fun x18 =>
 some x18)
  (some false))
  (some false))
  (some false)) fun v19 =>
 some v19)))
def m_coresecref15_Copy (a0 : S_api_Message) : Option S_api_Message :=
 bnd (app [] a0.2.2.2.1) fun x1 =>
 bnd (app [] a0.2.2.2.2.2) fun x2 =>
 loopL (R := S_api_Message) (S := (List S_api_Option)) (α := S_api_Option) (fun _ s4 =>
 some (a0.1, (a0.2.1, (a0.2.2.1, (x1, (s4, x2))))))
  (fun x5 _ s7 self8 =>
 bnd (app [] x5.2) fun x9 =>
 bnd (app s7 [(x5.1, x9)]) fun x10 =>
 self8 x10) a0.2.2.2.2.1 0 []
def m_coresecref20_Copy (a0 : (List S_api_Cached)) : Option (List S_api_Cached) :=
 loopL (R := (List S_api_Cached)) (S := (List S_api_Cached)) (α := S_api_Cached) (fun _ s2 =>
 some s2)
  (fun x3 _ s5 self6 =>
 bnd (app [] x3.1) fun x7 =>
 bnd (m_coresecref15_Copy x3.2.1) fun x8 =>
 bnd (app s5 [(x7, (x8, x3.2.2))]) fun x9 =>
 self6 x9) a0 0 []
def m_coresecref20_Copy_o (a0 : (List S_api_Cached)) : Option (List S_api_Cached) :=
 loopL (R := (List S_api_Cached)) (S := (List S_api_Cached)) (α := S_api_Cached) (fun _ s2 =>
 some s2)
  (fun x3 _ s5 self6 =>
 bnd (app [] x3.1) fun x7 =>
 bnd (m_coresecref15_Copy x3.2.1) fun x8 =>
 bnd (app s5 [(x7, (x8, x3.2.2))]) fun x9 =>
 self6 x9) a0 0 []
def m_coresecref20_at (a0 : (List S_api_Cached)) (a1 : (List UInt8)) : Option Int :=
 loopL (R := Int) (S := Unit) (α := S_api_Cached) (fun _ _ =>
 some (-1))
  (fun x4 k5 _ self7 =>
 letm ((x4.1 == a1)) fun x8 =>
 cond x8 (some (k5 : Int))
  (self7 ())) a0 0 ()
def m_coresecref20_Insert (a0 : (List S_api_Cached)) (a1 : (List UInt8)) (a2 : S_api_Message) (a3 : Int) : Option ((List S_api_Cached) × Int) :=
 bnd (β := Bool) (bnd (m_coresecref20_Valid a0) fun x4 =>
 letm ((!x4)) fun x5 =>
 cond x5 (some true)
  (bnd (m_coresecref20_keyed a1) fun x6 =>
 letm ((!x6)) fun x7 =>
 cond x7 (some true)
  (letm (decide (a3 < 0)) fun x8 =>
 cond x8 (some true)
  (letm (decide (1073741824 < a3)) fun x9 =>
 some x9)))) fun v10 =>
 cond v10 (some ([], 1))
  (bnd (m_coresecref20_Storable a2) fun x11 =>
 letm ((!x11)) fun x12 =>
 cond x12 (some ([], 4))
  (bnd (m_coresecref20_Copy_o a0) fun x13 =>
 bnd (app [] a1) fun x14 =>
 bnd (m_coresecref15_Copy a2) fun x15 =>
 bnd (m_coresecref20_MaxAge a2) fun x16 =>
 bnd (m_coresecref20_at x13 a1) fun x17 =>
 letm (decide (0 ≤ x17)) fun x18 =>
 cond x18 (bnd (idx x13 x17) fun _ =>
 bnd (idx x13 (((x17 : Int)).toNat : Int)) fun _ =>
 letm ((x13.set ((x17 : Int)).toNat (x14, ((0, (x15.2.1, (0, ([], x15.2.2.2.2)))), (a3, x16))))) fun x21 =>
 some (x21, 0))
  (bnd (β := (List S_api_Cached)) (letm (decide (16 ≤ (x13.length : Int))) fun x22 =>
 cond x22 (bnd (rng (x13.length : Int)) fun j39 =>
 loopN (R := (List S_api_Cached)) (S := Int) (fun _ s24 =>
 bnd (Gk.cut x13 0 s24) fun x25 =>
 bnd (app [] x25) fun x26 =>
 letm ((w64 (s24 + 1))) fun x27 =>
 bnd (Gk.cut x13 x27 (x13.length : Int)) fun x28 =>
 bnd (app x26 x28) fun x29 =>
 some x29)
  (fun k30 s31 self32 =>
 bnd (β := Int) (bnd (idx x13 (k30 : Int)) fun _ =>
 bnd (idx x13 ((((k30 : Int) : Int)).toNat : Int)) fun x34 =>
 bnd (idx x13 s31) fun _ =>
 bnd (idx x13 (((s31 : Int)).toNat : Int)) fun x36 =>
 letm (decide (x34.2.2.1 < x36.2.2.1)) fun x37 =>
 cond x37 (some (k30 : Int))
  (some s31)) fun v38 =>
 self32 v38) j39 0 0)
  (some x13)) fun v40 =>
 bnd (app v40 [(x14, ((0, (x15.2.1, (0, ([], x15.2.2.2.2)))), (a3, x16)))]) fun x41 =>
 some (x41, 0))))
def m_coreseclaw20_store (a0 : S_coresecmake_Deck) : Option ((List S_api_Cached) × (Int × S_coresecmake_Deck)) :=
 bnd (m_coresecmake_Deck_Next a0 14) fun x1 =>
 loopF (R := ((List S_api_Cached) × (Int × S_coresecmake_Deck))) (S := ((List S_api_Cached) × (Int × (Int × S_coresecmake_Deck)))) (fun self3 s2 =>
 letm (decide (0 < s2.2.2.1)) fun x4 =>
 cond x4 (bnd (β := ((List S_api_Cached) × (Int × S_coresecmake_Deck))) (bnd (m_coresecmake_Deck_Next s2.2.2.2 30) fun x5 =>
 letm ((w64 (s2.2.1 + x5.1))) fun x6 =>
 bnd (m_coresecmake_Deck_Next x5.2 6) fun x7 =>
 letm ((toU8 x7.1)) fun x8 =>
 bnd (m_coresecmake_Deck_Response x7.2) fun x9 =>
 bnd (m_coresecref20_Insert s2.1 [x8] x9.1 x6) fun x10 =>
 letm ((x10.2 == 0)) fun x11 =>
 cond x11 (some (x10.1, (x6, x9.2)))
  (some (s2.1, (x6, x9.2)))) fun v12 =>
 letm ((w64 (s2.2.2.1 - 1))) fun x13 =>
 self3 (v12.1, (v12.2.1, (x13, v12.2.2))))
  (some (s2.1, (s2.2.1, s2.2.2.2)))) FUEL ([], (0, (x1.1, x1.2)))
def m_coreseclaw20_CacheReads (a0 : (List S_api_Cached)) (a1 : S_api_Message) (a2 : (List Int)) (a3 : Int) : Option Bool :=
 bnd (β := Bool) (bnd (m_coreseclaw20_light a0) fun x4 =>
 letm ((!x4)) fun x5 =>
 cond x5 (some true)
  (letm (decide (30 < (a1.2.2.2.2.1.length : Int))) fun x6 =>
 some x6)) fun v7 =>
 cond v7 (bnd (m_coreseclaw20_awake ) fun x8 =>
 some x8)
  (bnd (m_coresecmake_New a2) fun x9 =>
 bnd (m_coresecmake_Deck_Response x9) fun x10 =>
 bnd (m_coreseclaw20_store x10.2) fun x11 =>
 bnd (app [] x11.1) fun x12 =>
 bnd (app x12 x11.1) fun x13 =>
 bndS (ρ := Bool) (ρ' := Bool) (Y := Unit) (letm (decide (0 < (x11.1.length : Int))) fun x14 =>
 cond x14 (bnd (m_coresecref20_Copy_o x11.1) fun x15 =>
 bnd (m_coresecmake_Mod a3 (x15.length : Int)) fun x16 =>
 bnd (m_coresecmake_Mod a3 2) fun x17 =>
 bnd (idx x15 x16) fun _ =>
 bnd (idx x15 (((x16 : Int)).toNat : Int)) fun x19 =>
 letm ((x15.set ((x16 : Int)).toNat (x19.1, ((x19.2.1.1, (x19.2.1.2.1, (x17, x19.2.1.2.2.2))), x19.2.2)))) fun x20 =>
 bnd (m_cache_Valid x20) fun x21 =>
 bnd (m_coresecref20_Valid x20) fun x22 =>
 letm ((x21 != x22)) fun x23 =>
 cond x23 (some (.inl false))
  (some (.inr ())))
  (some (.inr ()))) (fun q => q) fun _ =>
 loopL (R := Bool) (S := Unit) (α := S_api_Message) (fun _ _ =>
 bnd (β := Bool) (bnd (m_cache_Valid a0) fun x27 =>
 bnd (m_coresecref20_Valid a0) fun x28 =>
 letm ((x27 == x28)) fun x29 =>
 cond x29 (bnd (m_cache_Valid x11.1) fun x30 =>
 cond x30 (bnd (m_cache_Valid x13) fun x31 =>
 bnd (m_coresecref20_Valid x13) fun x32 =>
 letm ((x31 == x32)) fun x33 =>
 cond x33 (bnd (m_coreseclaw20_awake ) fun x34 =>
 some x34)
  (some false))
  (some false))
  (some false)) fun v35 =>
 some v35)
  (fun x36 _ _ self39 =>
 bnd (β := Bool) (bnd (m_coresecref15_Valid x36) fun x40 =>
 cond x40 (bnd (m_cache_MaxAge x36) fun x41 =>
 bnd (m_coresecref20_MaxAge x36) fun x42 =>
 letm ((x41 != x42)) fun x43 =>
 cond x43 (some true)
  (bnd (m_cache_Storable x36) fun x44 =>
 bnd (m_coresecref20_Storable x36) fun x45 =>
 letm ((x44 != x45)) fun x46 =>
 some x46))
  (bnd (m_cache_Storable x36) fun x47 =>
 bnd (m_coresecref20_Storable x36) fun x48 =>
 letm ((x47 != x48)) fun x49 =>
 some x49)) fun v50 =>
 cond v50 (some false)
  (self39 ())) [x10.1, a1] 0 ())
def m_coresecref20_Lookup (a0 : (List S_api_Cached)) (a1 : (List UInt8)) (a2 : Int) : Option (S_api_Message × Bool) :=
 bnd (m_coresecref20_at a0 a1) fun x3 =>
 bnd (β := Bool) (letm (decide (x3 < 0)) fun x4 =>
 cond x4 (some true)
  (bnd (idx a0 x3) fun x5 =>
 letm (decide (a2 < x5.2.2.1)) fun x6 =>
 cond x6 (some true)
  (bnd (idx a0 x3) fun x7 =>
 letm ((w64 (a2 - x7.2.2.1))) fun x8 =>
 bnd (idx a0 x3) fun x9 =>
 letm (decide (x9.2.2.2 ≤ x8)) fun x10 =>
 some x10))) fun v11 =>
 cond v11 (some ((0, (0, (0, ([], ([], []))))), false))
  (bnd (idx a0 x3) fun x12 =>
 bnd (idx a0 x3) fun x13 =>
 bnd (idx a0 x3) fun x14 =>
 letm ((w64 (a2 - x14.2.2.1))) fun x15 =>
 letm ((w64 (x13.2.2.2 - x15))) fun x16 =>
 bnd (m_coresecref16_FromUint x16) fun x17 =>
 bnd (m_coresecref16_Set x12.2.1 14 [x17]) fun x18 =>
 some (x18, true))
def m_coresecref15_Same (a0 : S_api_Message) (a1 : S_api_Message) : Option Bool :=
 bnd (β := Bool) (letm ((a0.1 != a1.1)) fun x2 =>
 cond x2 (some true)
  (letm ((a0.2.1 != a1.2.1)) fun x3 =>
 cond x3 (some true)
  (letm ((a0.2.2.1 != a1.2.2.1)) fun x4 =>
 cond x4 (some true)
  (letm ((a0.2.2.2.1 != a1.2.2.2.1)) fun x5 =>
 cond x5 (some true)
  (letm ((a0.2.2.2.2.2 != a1.2.2.2.2.2)) fun x6 =>
 cond x6 (some true)
  (letm (((a0.2.2.2.2.1.length : Int) != (a1.2.2.2.2.1.length : Int))) fun x7 =>
 some x7)))))) fun v8 =>
 cond v8 (some false)
  (loopL (R := Bool) (S := Unit) (α := S_api_Option) (fun _ _ =>
 some true)
  (fun x11 k12 _ self14 =>
 bnd (β := Bool) (bnd (idx a1.2.2.2.2.1 (k12 : Int)) fun x15 =>
 letm ((x11.1 != x15.1)) fun x16 =>
 cond x16 (some true)
  (bnd (idx a1.2.2.2.2.1 (k12 : Int)) fun x17 =>
 letm ((x11.2 != x17.2)) fun x18 =>
 some x18)) fun v19 =>
 cond v19 (some false)
  (self14 ())) a0.2.2.2.2.1 0 ())
def m_cache_Tag (a0 : (List S_api_Cached)) (a1 : (List UInt8)) : Option ((List UInt8) × Bool) :=
 bnd (m_cache_find a0 a1) fun x2 =>
 letm (decide (x2 < 0)) fun x3 =>
 cond x3 (some ([], false))
  (bnd (idx a0 x2) fun x4 =>
 bnd (m_option_Get x4.2.1 4) fun x5 =>
 some (x5.1, x5.2))
def m_coresecref20_Tag (a0 : (List S_api_Cached)) (a1 : (List UInt8)) : Option ((List UInt8) × Bool) :=
 bnd (m_coresecref20_at a0 a1) fun x2 =>
 letm (decide (x2 < 0)) fun x3 =>
 cond x3 (some ([], false))
  (bnd (idx a0 x2) fun x4 =>
 bnd (m_coresecref16_Get x4.2.1 4) fun x5 =>
 some (x5.1, x5.2))
def m_cache_Remove (a0 : (List S_api_Cached)) (a1 : (List UInt8)) : Option (List S_api_Cached) :=
 loopL (R := (List S_api_Cached)) (S := (List S_api_Cached)) (α := S_api_Cached) (fun _ s3 =>
 some s3)
  (fun x4 _ s6 self7 =>
 bnd (β := (List S_api_Cached)) (bnd (m_bytes_Equal x4.1 a1) fun x8 =>
 cond x8 (some s6)
  (bnd (m_cache_element x4) fun x9 =>
 bnd (app s6 [x9]) fun x10 =>
 some x10)) fun v11 =>
 self7 v11) a0 0 []
def m_coresecref20_Remove (a0 : (List S_api_Cached)) (a1 : (List UInt8)) : Option (List S_api_Cached) :=
 bnd (m_coresecref20_Copy a0) fun x2 =>
 bnd (m_coresecref20_at x2 a1) fun x3 =>
 letm (decide (0 ≤ x3)) fun x4 =>
 cond x4 (bnd (Gk.cut x2 0 x3) fun x5 =>
 bnd (app [] x5) fun x6 =>
 letm ((w64 (x3 + 1))) fun x7 =>
 bnd (Gk.cut x2 x7 (x2.length : Int)) fun x8 =>
 bnd (app x6 x8) fun x9 =>
 some x9)
  (some x2)
def m_coresecref20_Same (a0 : (List S_api_Cached)) (a1 : (List S_api_Cached)) : Option Bool :=
 letm (((a0.length : Int) != (a1.length : Int))) fun x2 =>
 cond x2 (some false)
  (loopL (R := Bool) (S := Unit) (α := S_api_Cached) (fun _ _ =>
 some true)
  (fun x5 k6 _ self8 =>
 bnd (β := Bool) (bnd (idx a1 (k6 : Int)) fun x9 =>
 letm ((x5.1 != x9.1)) fun x10 =>
 cond x10 (some true)
  (bnd (idx a1 (k6 : Int)) fun x11 =>
 letm ((x5.2.2.1 != x11.2.2.1)) fun x12 =>
 cond x12 (some true)
  (bnd (idx a1 (k6 : Int)) fun x13 =>
 letm ((x5.2.2.2 != x13.2.2.2)) fun x14 =>
 cond x14 (some true)
  (bnd (idx a1 (k6 : Int)) fun x15 =>
 bnd (m_coresecref15_Same x5.2.1 x15.2.1) fun x16 =>
 letm ((!x16)) fun x17 =>
 some x17)))) fun v18 =>
 cond v18 (some false)
  (self8 ())) a0 0 ())
def m_coreseclaw20_CacheLooks (a0 : (List Int)) (a1 : (List UInt8)) (a2 : Int) : Option Bool :=
 bnd (m_coresecmake_Short a1) fun x3 =>
 letm ((!x3)) fun x4 =>
 cond x4 (bnd (m_coreseclaw20_awake ) fun x5 =>
 some x5)
  (bnd (m_coresecmake_New a0) fun x6 =>
 bnd (m_coreseclaw20_store x6) fun x7 =>
 loopL (R := Bool) (S := Unit) (α := (List UInt8)) (fun _ _ =>
 bnd (m_coreseclaw20_awake ) fun x10 =>
 some x10)
  (fun x11 _ _ self14 =>
 bnd (m_coresecmake_Mod a2 2147483648) fun x15 =>
 bnd (m_coresecmake_Mod a2 70) fun x16 =>
 letm ((w64 (x7.2.1 + x16))) fun x17 =>
 letm ((w64 (x7.2.1 - 1))) fun x18 =>
 loopL (R := Bool) (S := Unit) (α := Int) (fun _ _ =>
 bnd (m_cache_Tag x7.1 x11) fun x21 =>
 bnd (m_coresecref20_Tag x7.1 x11) fun x22 =>
 bnd (β := Bool) (letm ((x21.1 != x22.1)) fun x23 =>
 cond x23 (some true)
  (letm ((x21.2 != x22.2)) fun x24 =>
 cond x24 (some true)
  (bnd (m_cache_Remove x7.1 x11) fun x25 =>
 bnd (m_coresecref20_Remove x7.1 x11) fun x26 =>
 bnd (m_coresecref20_Same x25 x26) fun x27 =>
 letm ((!x27)) fun x28 =>
 some x28))) fun v29 =>
 cond v29 (some false)
  (self14 ()))
  (fun x30 _ _ self33 =>
 bnd (m_cache_Lookup x7.1 x11 x30) fun x34 =>
 bnd (m_coresecref20_Lookup x7.1 x11 x30) fun x35 =>
 bnd (β := Bool) (bnd (m_coresecref15_Same x34.1 x35.1) fun x36 =>
 letm ((!x36)) fun x37 =>
 cond x37 (some true)
  (letm ((x34.2 != x35.2)) fun x38 =>
 some x38)) fun v39 =>
 cond v39 (some false)
  (self33 ())) [x15, x17, x18] 0 ()) [a1, [0], [1], [2], [3], [4], [5]] 0 ())
end
end Go.Proofs.Ytdiidghfmpobaaa
