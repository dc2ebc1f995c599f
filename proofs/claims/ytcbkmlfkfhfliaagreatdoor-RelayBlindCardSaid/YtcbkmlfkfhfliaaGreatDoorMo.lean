/-
  Models of the functions, as the evaluator computes them. No condition.
-/
import Derived.Test.YtcbkmlfkfhfliaaGreatDoorEv
namespace Go.Proofs.YtcbkmlfkfhfliaaGreatDoor
open Go.Gk Go.RowKit
noncomputable section
set_option maxRecDepth 100000
def m_coresecmake2_Small (a0 : (List UInt8)) : Option Bool :=
 letm (decide ((a0.length : Int) ≤ 900)) fun x1 =>
 some x1
def m_coresecmake2_All (a0 : (List (List UInt8))) : Option Bool :=
 loopL (R := Bool) (S := Unit) (α := (List UInt8)) (fun _ _ =>
 letm (decide ((a0.length : Int) ≤ 20)) fun x3 =>
 some x3)
  (fun x4 _ _ self7 =>
 bnd (m_coresecmake2_Small x4) fun x8 =>
 letm ((!x8)) fun x9 =>
 cond x9 (some false)
  (self7 ())) a0 0 ()
def m_coresecmake2_Message (a0 : S_api_Message) : Option Bool :=
 loopL (R := Bool) (S := Unit) (α := S_api_Option) (fun _ _ =>
 bnd (β := Bool) (letm (decide ((a0.2.2.2.2.1.length : Int) ≤ 20)) fun x3 =>
 cond x3 (bnd (m_coresecmake2_Small a0.2.2.2.1) fun x4 =>
 cond x4 (bnd (m_coresecmake2_Small a0.2.2.2.2.2) fun x5 =>
 some x5)
  (some false))
  (some false)) fun v6 =>
 some v6)
  (fun x7 _ _ self10 =>
 bnd (m_coresecmake2_Small x7.2) fun x11 =>
 letm ((!x11)) fun x12 =>
 cond x12 (some false)
  (self10 ())) a0.2.2.2.2.1 0 ()
def m_coreseclaw34_light (a0 : S_api_Proxy) : Option Bool :=
 loopL (R := Bool) (S := Unit) (α := S_api_Hop) (fun _ _ =>
 loopL (R := Bool) (S := Unit) (α := S_api_Cached) (fun _ _ =>
 bnd (β := Bool) (letm (decide ((a0.2.1.length : Int) ≤ 12)) fun x5 =>
 cond x5 (letm (decide ((a0.2.2.1.length : Int) ≤ 20)) fun x6 =>
 some x6)
  (some false)) fun v7 =>
 some v7)
  (fun x8 _ _ self11 =>
 bnd (β := Bool) (bnd (m_coresecmake2_Small x8.1) fun x12 =>
 letm ((!x12)) fun x13 =>
 cond x13 (some true)
  (bnd (m_coresecmake2_Message x8.2.1) fun x14 =>
 letm ((!x14)) fun x15 =>
 some x15)) fun v16 =>
 cond v16 (some false)
  (self11 ())) a0.2.2.1 0 ())
  (fun x17 _ _ self20 =>
 bnd (m_coresecmake2_All [x17.2.1, x17.2.2.1, x17.2.2.2.1]) fun x21 =>
 letm ((!x21)) fun x22 =>
 cond x22 (some false)
  (self20 ())) a0.2.1 0 ()
def m_coap_sound (a0 : S_api_Message) : Option Bool :=
 bnd (Gk.shr a0.2.1 (UInt64.toNat 5 : Int)) fun x1 =>
 bnd (β := Bool) (letm (decide (a0.1 < 0)) fun x2 =>
 cond x2 (some true)
  (letm (decide (3 < a0.1)) fun x3 =>
 cond x3 (some true)
  (letm (decide (a0.2.1 < 0)) fun x4 =>
 cond x4 (some true)
  (letm (decide (255 < a0.2.1)) fun x5 =>
 cond x5 (some true)
  (letm ((x1 != 0)) fun x6 =>
 cond x6 (letm ((x1 != 2)) fun x7 =>
 cond x7 (letm ((x1 != 4)) fun x8 =>
 cond x8 (letm ((x1 != 5)) fun x9 =>
 some x9)
  (some false))
  (some false))
  (some false)))))) fun v10 =>
 cond v10 (some false)
  (bnd (β := Bool) (letm (decide (a0.2.2.1 < 0)) fun x11 =>
 cond x11 (some true)
  (letm (decide (65535 < a0.2.2.1)) fun x12 =>
 cond x12 (some true)
  (letm (decide (8 < (a0.2.2.2.1.length : Int))) fun x13 =>
 cond x13 (some true)
  (letm (decide (32 < (a0.2.2.2.2.1.length : Int))) fun x14 =>
 some x14)))) fun v15 =>
 cond v15 (some false)
  (loopL (R := Bool) (S := Int) (α := S_api_Option) (fun _ _ =>
 bnd (β := Bool) (letm ((a0.2.1 == 0)) fun x18 =>
 cond x18 (letm ((w64 ((a0.2.2.2.1.length : Int) + (a0.2.2.2.2.1.length : Int)))) fun x19 =>
 letm ((w64 (x19 + (a0.2.2.2.2.2.length : Int)))) fun x20 =>
 letm (decide (0 < x20)) fun x21 =>
 some x21)
  (some false)) fun v22 =>
 cond v22 (some false)
  (bnd (β := Bool) (letm ((a0.1 != 3)) fun x23 =>
 cond x23 (letm (decide ((a0.2.2.2.2.2.length : Int) ≤ 4096)) fun x24 =>
 some x24)
  (letm ((a0.2.1 == 0)) fun x25 =>
 cond x25 (letm (decide ((a0.2.2.2.2.2.length : Int) ≤ 4096)) fun x26 =>
 some x26)
  (some false))) fun v27 =>
 some v27))
  (fun x28 _ s30 self31 =>
 bnd (β := Bool) (letm (decide (x28.1 < s30)) fun x32 =>
 cond x32 (some true)
  (letm (decide (65535 < x28.1)) fun x33 =>
 cond x33 (some true)
  (letm (decide (1034 < (x28.2.length : Int))) fun x34 =>
 some x34))) fun v35 =>
 cond v35 (some false)
  (self31 x28.1)) a0.2.2.2.2.1 0 0))
def m_coap_parts (a0 : Int) : Option (UInt8 × (List UInt8)) :=
 letm (decide (a0 < 13)) fun x1 =>
 cond x1 (letm ((toU8 a0)) fun x2 =>
 some (x2, []))
  (letm (decide (a0 < 269)) fun x3 =>
 cond x3 (letm ((w64 (a0 - 13))) fun x4 =>
 letm ((toU8 x4)) fun x5 =>
 some (13, [x5]))
  (letm ((w64 (a0 - 269))) fun x6 =>
 bnd (Gk.shr x6 (UInt64.toNat 8 : Int)) fun x7 =>
 letm ((toU8 x7)) fun x8 =>
 letm ((w64 (a0 - 269))) fun x9 =>
 letm ((toU8 x9)) fun x10 =>
 some (14, [x8, x10])))
def m_coap_encode (a0 : S_api_Message) : Option (List UInt8) :=
 bnd (Gk.shl a0.1 (UInt64.toNat 4 : Int)) fun x1 =>
 letm ((ibit .or 64 x1)) fun x2 =>
 letm ((ibit .or x2 (a0.2.2.2.1.length : Int))) fun x3 =>
 letm ((toU8 x3)) fun x4 =>
 letm ((toU8 a0.2.1)) fun x5 =>
 bnd (Gk.shr a0.2.2.1 (UInt64.toNat 8 : Int)) fun x6 =>
 letm ((toU8 x6)) fun x7 =>
 letm ((toU8 a0.2.2.1)) fun x8 =>
 bnd (app [x4, x5, x7, x8] a0.2.2.2.1) fun x9 =>
 loopL (R := (List UInt8)) (S := ((List UInt8) × Int)) (α := S_api_Option) (fun _ s11 =>
 bnd (β := (List UInt8)) (letm (decide (0 < (a0.2.2.2.2.2.length : Int))) fun x12 =>
 cond x12 (bnd (app s11.1 [255]) fun x13 =>
 bnd (app x13 a0.2.2.2.2.2) fun x14 =>
 some x14)
  (some s11.1)) fun v15 =>
 some v15)
  (fun x16 _ s18 self19 =>
 letm ((w64 (x16.1 - s18.2))) fun x20 =>
 bnd (m_coap_parts x20) fun x21 =>
 bnd (m_coap_parts (x16.2.length : Int)) fun x22 =>
 bnd (shlK .u8 x21.1 (UInt64.toNat 4 : Int)) fun x23 =>
 letm ((toU8 (bits .or .u8 (UInt8.toNat x23) (UInt8.toNat x22.1)))) fun x24 =>
 bnd (app s18.1 [x24]) fun x25 =>
 bnd (app x25 x21.2) fun x26 =>
 bnd (app x26 x22.2) fun x27 =>
 bnd (app x27 x16.2) fun x28 =>
 self19 (x28, x16.1)) a0.2.2.2.2.1 0 (x9, 0)
def m_coap_Encode (a0 : S_api_Message) : Option ((List UInt8) × Int) :=
 bnd (m_coap_sound a0) fun x1 =>
 letm ((!x1)) fun x2 =>
 cond x2 (some ([], 1))
  (bnd (m_coap_encode a0) fun x3 =>
 letm (decide (4096 < (x3.length : Int))) fun x4 =>
 cond x4 (some ([], 1))
  (some (x3, 0)))
def m_cache_keyed (a0 : (List UInt8)) : Option Bool :=
 bnd (β := Bool) (letm (decide (1 ≤ (a0.length : Int))) fun x1 =>
 cond x1 (letm (decide ((a0.length : Int) ≤ 4096)) fun x2 =>
 some x2)
  (some false)) fun v3 =>
 some v3
def m_bytes_Equal (a0 : (List UInt8)) (a1 : (List UInt8)) : Option Bool :=
 letm ((a0 == a1)) fun x2 =>
 some x2
def m_cache_find (a0 : (List S_api_Cached)) (a1 : (List UInt8)) : Option Int :=
 loopL (R := Int) (S := Unit) (α := S_api_Cached) (fun _ _ =>
 some (-1))
  (fun x4 k5 _ self7 =>
 bnd (m_bytes_Equal x4.1 a1) fun x8 =>
 cond x8 (some (k5 : Int))
  (self7 ())) a0 0 ()
def m_coap_Valid (a0 : S_api_Message) : Option Bool :=
 bnd (β := Bool) (bnd (m_coap_sound a0) fun x1 =>
 cond x1 (bnd (m_coap_encode a0) fun x2 =>
 letm (decide ((x2.length : Int) ≤ 4096)) fun x3 =>
 some x3)
  (some false)) fun v4 =>
 some v4
def m_cache_bare (a0 : S_api_Message) : Option Bool :=
 bnd (β := Bool) (letm ((a0.1 == 0)) fun x1 =>
 cond x1 (letm ((a0.2.2.1 == 0)) fun x2 =>
 cond x2 (letm (((a0.2.2.2.1.length : Int) == 0)) fun x3 =>
 some x3)
  (some false))
  (some false)) fun v4 =>
 some v4
def m_coap_Response (a0 : Int) : Option Bool :=
 bnd (β := Bool) (letm (decide (64 ≤ a0)) fun x1 =>
 cond x1 (letm (decide (a0 ≤ 95)) fun x2 =>
 cond x2 (some true)
  (letm (decide (128 ≤ a0)) fun x3 =>
 cond x3 (letm (decide (a0 ≤ 191)) fun x4 =>
 some x4)
  (some false)))
  (letm (decide (128 ≤ a0)) fun x5 =>
 cond x5 (letm (decide (a0 ≤ 191)) fun x6 =>
 some x6)
  (some false))) fun v7 =>
 some v7
def m_cache_Valid (a0 : (List S_api_Cached)) : Option Bool :=
 letm (decide (16 < (a0.length : Int))) fun x1 =>
 cond x1 (some false)
  (loopL (R := Bool) (S := Unit) (α := S_api_Cached) (fun _ _ =>
 some true)
  (fun x4 k5 _ self7 =>
 bnd (β := Bool) (bnd (m_cache_keyed x4.1) fun x8 =>
 letm ((!x8)) fun x9 =>
 cond x9 (some true)
  (letm (decide (x4.2.2.1 < 0)) fun x10 =>
 cond x10 (some true)
  (letm (decide (x4.2.2.2 < 0)) fun x11 =>
 cond x11 (some true)
  (bnd (Gk.cut a0 0 (k5 : Int)) fun x12 =>
 bnd (m_cache_find x12 x4.1) fun x13 =>
 letm (decide (0 ≤ x13)) fun x14 =>
 some x14)))) fun v15 =>
 cond v15 (some false)
  (bnd (β := Bool) (bnd (m_coap_Valid x4.2.1) fun x16 =>
 letm ((!x16)) fun x17 =>
 cond x17 (some true)
  (bnd (m_cache_bare x4.2.1) fun x18 =>
 letm ((!x18)) fun x19 =>
 cond x19 (some true)
  (bnd (m_coap_Response x4.2.1.2.1) fun x20 =>
 letm ((!x20)) fun x21 =>
 some x21))) fun v22 =>
 cond v22 (some false)
  (self7 ()))) a0 0 ())
def m_relay_find (a0 : (List S_api_Hop)) (a1 : (List UInt8)) : Option Int :=
 loopL (R := Int) (S := Unit) (α := S_api_Hop) (fun _ _ =>
 some (-1))
  (fun x4 k5 _ self7 =>
 letm ((x4.2.2.1 == a1)) fun x8 =>
 cond x8 (some (k5 : Int))
  (self7 ())) a0 0 ()
def m_relay_Valid (a0 : S_api_Proxy) : Option Bool :=
 bnd (β := Bool) (letm (decide (a0.1 < 0)) fun x1 =>
 cond x1 (some true)
  (letm (decide (65535 < a0.1)) fun x2 =>
 cond x2 (some true)
  (letm (decide (8 < (a0.2.1.length : Int))) fun x3 =>
 cond x3 (some true)
  (letm (decide (a0.2.2.2 < (-1))) fun x4 =>
 cond x4 (some true)
  (letm (decide (6 < a0.2.2.2)) fun x5 =>
 cond x5 (some true)
  (bnd (m_cache_Valid a0.2.2.1) fun x6 =>
 letm ((!x6)) fun x7 =>
 some x7)))))) fun v8 =>
 cond v8 (some false)
  (loopL (R := Bool) (S := Unit) (α := S_api_Hop) (fun _ _ =>
 some true)
  (fun x11 k12 _ self14 =>
 bnd (β := Bool) (letm (decide (x11.1 < 0)) fun x15 =>
 cond x15 (some true)
  (letm (decide (65536 < x11.1)) fun x16 =>
 cond x16 (some true)
  (letm (decide (8 < (x11.2.1.length : Int))) fun x17 =>
 cond x17 (some true)
  (letm (((x11.2.2.1.length : Int) != 2)) fun x18 =>
 cond x18 (some true)
  (bnd (Gk.cut a0.2.1 0 (k12 : Int)) fun x19 =>
 bnd (m_relay_find x19 x11.2.2.1) fun x20 =>
 letm (decide (0 ≤ x20)) fun x21 =>
 some x21))))) fun v22 =>
 cond v22 (some false)
  (self14 ())) a0.2.1 0 ())
def m_relay_time (a0 : Int) : Option Bool :=
 bnd (β := Bool) (letm (decide (0 ≤ a0)) fun x1 =>
 cond x1 (letm (decide (a0 ≤ 1073741824)) fun x2 =>
 some x2)
  (some false)) fun v3 =>
 some v3
def m_relay_copied (a0 : (List UInt8)) : Option (List UInt8) :=
 bnd (app [] a0) fun x1 =>
 some x1
def m_relay_message (a0 : S_api_Message) : Option S_api_Message :=
 bnd (m_relay_copied a0.2.2.2.1) fun x1 =>
 bnd (m_relay_copied a0.2.2.2.2.2) fun x2 =>
 loopL (R := S_api_Message) (S := (S_api_Message × (List S_api_Option))) (α := S_api_Option) (fun _ s4 =>
 some (s4.1.1, (s4.1.2.1, (s4.1.2.2.1, (s4.1.2.2.2.1, (s4.2, s4.1.2.2.2.2.2))))))
  (fun x5 _ s7 self8 =>
 bnd (m_relay_copied x5.2) fun x9 =>
 bnd (app s7.2 [(x5.1, x9)]) fun x10 =>
 self8 (s7.1, x10)) a0.2.2.2.2.1 0 ((a0.1, (a0.2.1, (a0.2.2.1, (x1, ([], x2))))), [])
def m_relay_cloned (a0 : S_api_Proxy) : Option S_api_Proxy :=
 loopL (R := S_api_Proxy) (S := (S_api_Proxy × (List S_api_Hop))) (α := S_api_Hop) (fun _ s2 =>
 loopL (R := S_api_Proxy) (S := (S_api_Proxy × (List S_api_Cached))) (α := S_api_Cached) (fun _ s4 =>
 some (s4.1.1, (s2.2, (s4.2, s4.1.2.2.2))))
  (fun x5 _ s7 self8 =>
 bnd (m_relay_copied x5.1) fun x9 =>
 bnd (m_relay_message x5.2.1) fun x10 =>
 bnd (app s7.2 [(x9, (x10, x5.2.2))]) fun x11 =>
 self8 (s7.1, x11)) a0.2.2.1 0 (s2.1, []))
  (fun x12 _ s14 self15 =>
 bnd (m_relay_copied x12.2.1) fun x16 =>
 bnd (m_relay_copied x12.2.2.1) fun x17 =>
 bnd (m_relay_copied x12.2.2.2.1) fun x18 =>
 bnd (app s14.2 [(x12.1, (x16, (x17, (x18, x12.2.2.2.2))))]) fun x19 =>
 self15 (s14.1, x19)) a0.2.1 0 ((a0.1, ([], ([], a0.2.2.2))), [])
def m_relay_cloned_o (a0 : S_api_Proxy) : Option (S_api_Proxy × (List S_api_Hop)) :=
 loopL (R := (S_api_Proxy × (List S_api_Hop))) (S := (S_api_Proxy × (List S_api_Hop))) (α := S_api_Hop) (fun _ s2 =>
 loopL (R := (S_api_Proxy × (List S_api_Hop))) (S := (S_api_Proxy × (List S_api_Cached))) (α := S_api_Cached) (fun _ s4 =>
 some ((s4.1.1, (s4.1.2.1, (s4.2, s4.1.2.2.2))), s2.2))
  (fun x5 _ s7 self8 =>
 bnd (m_relay_copied x5.1) fun x9 =>
 bnd (m_relay_message x5.2.1) fun x10 =>
 bnd (app s7.2 [(x9, (x10, x5.2.2))]) fun x11 =>
 self8 (s7.1, x11)) a0.2.2.1 0 (s2.1, []))
  (fun x12 _ s14 self15 =>
 bnd (m_relay_copied x12.2.1) fun x16 =>
 bnd (m_relay_copied x12.2.2.1) fun x17 =>
 bnd (m_relay_copied x12.2.2.2.1) fun x18 =>
 bnd (app s14.2 [(x12.1, (x16, (x17, (x18, x12.2.2.2.2))))]) fun x19 =>
 self15 (s14.1, x19)) a0.2.1 0 ((a0.1, ([], ([], a0.2.2.2))), [])
def m_bytes_Clone (a0 : List UInt8) : Option (List UInt8) := app ([] : List UInt8) a0
def m_bytes_Clone_o (a0 : List UInt8) : Option (List UInt8) := m_bytes_Clone a0

def m_option_Get (a0 : S_api_Message) (a1 : Int) : Option ((List UInt8) × Bool) :=
 loopL (R := ((List UInt8) × Bool)) (S := Unit) (α := S_api_Option) (fun _ _ =>
 some ([], false))
  (fun x4 _ _ self7 =>
 letm ((x4.1 == a1)) fun x8 =>
 cond x8 (bnd (m_bytes_Clone x4.2) fun x9 =>
 some (x9, true))
  (self7 ())) a0.2.2.2.2.1 0 ()
def m_relay_has (a0 : S_api_Message) (a1 : Int) : Option Bool :=
 bnd (m_option_Get a0 a1) fun x2 =>
 some x2.2
def m_relay_Protected (a0 : S_api_Message) : Option Bool :=
 bnd (m_relay_has a0 9) fun x1 =>
 some x1
def m_option_in (a0 : Int) : Option Bool :=
 bnd (β := Bool) (letm (decide (0 ≤ a0)) fun x1 =>
 cond x1 (letm (decide (a0 ≤ 65535)) fun x2 =>
 some x2)
  (some false)) fun v3 =>
 some v3
def m_option_NoCacheKey (a0 : Int) : Option Bool :=
 bnd (β := Bool) (bnd (m_option_in a0) fun x1 =>
 cond x1 (letm ((ibit .and a0 30)) fun x2 =>
 letm ((x2 == 28)) fun x3 =>
 some x3)
  (some false)) fun v4 =>
 some v4
def m_cbor_Uint (a0 : UInt64) : Option Go.Gk.Tr :=
 some (Tr.mk 0 a0 [] [])
def m_cbor_Int (a0 : Int) : Option Go.Gk.Tr :=
 letm (decide (a0 < 0)) fun x1 =>
 cond x1 (letm ((w64 ((-1) - a0))) fun x2 =>
 letm ((toU64 x2)) fun x3 =>
 some (Tr.mk 1 x3 [] []))
  (letm ((toU64 a0)) fun x4 =>
 bnd (m_cbor_Uint x4) fun x5 =>
 some x5)
def m_slices_Clone_byte_byte (a0 : List UInt8) : Option (List UInt8) := app ([] : List UInt8) a0
def m_slices_Clone_byte_byte_o (a0 : List UInt8) : Option (List UInt8) := m_slices_Clone_byte_byte a0

def m_cbor_Bytes (a0 : (List UInt8)) : Option Go.Gk.Tr :=
 bnd (m_slices_Clone_byte_byte a0) fun x1 =>
 some (Tr.mk 2 0 x1 [])
def b_cbor_copied (m_cbor_copied : (Go.Gk.Tr) → Option Go.Gk.Tr) (a0 : Go.Gk.Tr) : Option Go.Gk.Tr :=
 bnd (m_bytes_Clone a0.b) fun x1 =>
 bnd (mkl (a0.l.length : Int) (Tr.mk 0 0 [] [])) fun x2 =>
 loopL (R := Go.Gk.Tr) (S := (List Go.Gk.Tr)) (α := Go.Gk.Tr) (fun _ s4 =>
 bnd (β := Go.Gk.Tr) (letm (((s4.length : Int) == 0)) fun x5 =>
 cond x5 (some (Tr.mk a0.k a0.n x1 []))
  (some (Tr.mk a0.k a0.n x1 s4))) fun v6 =>
 some v6)
  (fun x7 k8 s9 self10 =>
 bnd (m_cbor_copied x7) fun x11 =>
 bnd (idx s9 (k8 : Int)) fun _ =>
 bnd (idx s9 ((((k8 : Int) : Int)).toNat : Int)) fun _ =>
 letm ((s9.set (((k8 : Int) : Int)).toNat x11)) fun x14 =>
 self10 x14) a0.l 0 x2
def n_cbor_copied (n : Nat) : (Go.Gk.Tr) → Option Go.Gk.Tr := Nat.rec (motive := fun _ => (Go.Gk.Tr) → Option Go.Gk.Tr) (fun _ => none) (fun _ ih => b_cbor_copied ih) n
def m_cbor_copied (a0 : Go.Gk.Tr) : Option Go.Gk.Tr := n_cbor_copied 40 a0

def m_cbor_Array (a0 : (List Go.Gk.Tr)) : Option Go.Gk.Tr :=
 loopL (R := Go.Gk.Tr) (S := (Go.Gk.Tr × (List Go.Gk.Tr))) (α := Go.Gk.Tr) (fun _ s2 =>
 some (Tr.mk s2.1.k s2.1.n s2.1.b s2.2))
  (fun x3 _ s5 self6 =>
 bnd (m_cbor_copied x3) fun x7 =>
 bnd (app s5.2 [x7]) fun x8 =>
 self6 (s5.1, x8)) a0 0 ((Tr.mk 4 0 [] []), [])
def m_unicode_utf8_Valid (_a0 : List UInt8) : Option (Bool) := none

def m_cbor_plain (a0 : Go.Gk.Tr) : Option (Bool × Bool) :=
 bnd (β := Bool) (letm ((a0.k == 0)) fun x1 =>
 cond x1 (some true)
  (letm ((a0.k == 1)) fun x2 =>
 some x2)) fun v3 =>
 cond v3 (bnd (β := (Bool × Bool)) (letm (((a0.b.length : Int) == 0)) fun x4 =>
 cond x4 (letm (((a0.l.length : Int) == 0)) fun x5 =>
 some (x5, true))
  (some (false, true))) fun v6 =>
 some (v6.1, v6.2))
  (letm ((a0.k == 2)) fun x7 =>
 cond x7 (bnd (β := (Bool × Bool)) (letm (((UInt64.toNat a0.n : Int) == (UInt64.toNat 0 : Int))) fun x8 =>
 cond x8 (letm (((a0.l.length : Int) == 0)) fun x9 =>
 some (x9, true))
  (some (false, true))) fun v10 =>
 some (v10.1, v10.2))
  (letm ((a0.k == 3)) fun x11 =>
 cond x11 (bnd (β := (Bool × Bool)) (letm (((UInt64.toNat a0.n : Int) == (UInt64.toNat 0 : Int))) fun x12 =>
 cond x12 (letm (((a0.l.length : Int) == 0)) fun x13 =>
 cond x13 (bnd (m_unicode_utf8_Valid a0.b) fun x14 =>
 some (x14, true))
  (some (false, true)))
  (some (false, true))) fun v15 =>
 some (v15.1, v15.2))
  (letm ((a0.k == 7)) fun x16 =>
 cond x16 (bnd (β := (Bool × Bool)) (letm (((a0.b.length : Int) == 0)) fun x17 =>
 cond x17 (letm (((a0.l.length : Int) == 0)) fun x18 =>
 cond x18 (letm (decide ((UInt64.toNat a0.n : Int) < (UInt64.toNat 24 : Int))) fun x19 =>
 cond x19 (some (true, true))
  (letm (decide ((UInt64.toNat 32 : Int) ≤ (UInt64.toNat a0.n : Int))) fun x20 =>
 cond x20 (letm (decide ((UInt64.toNat a0.n : Int) < (UInt64.toNat 256 : Int))) fun x21 =>
 some (x21, true))
  (some (false, true))))
  (some (false, true)))
  (some (false, true))) fun v22 =>
 some (v22.1, v22.2))
  (letm ((a0.k == 8)) fun x23 =>
 cond x23 (none)
  (some (false, false))))))
def m_cbor_float (_a0 : UInt64) : Option (List UInt8) := none

def m_cbor_major (a0 : Go.Gk.Tr) : Option (UInt8 × UInt64) :=
 bnd (β := Bool) (letm ((a0.k == 2)) fun x1 =>
 cond x1 (some true)
  (letm ((a0.k == 3)) fun x2 =>
 some x2)) fun v3 =>
 cond v3 (letm ((toU8 a0.k)) fun x4 =>
 letm ((toU64 (a0.b.length : Int))) fun x5 =>
 some (x4, x5))
  (letm ((a0.k == 4)) fun x6 =>
 cond x6 (letm ((toU64 (a0.l.length : Int))) fun x7 =>
 some (4, x7))
  (letm ((a0.k == 5)) fun x8 =>
 cond x8 (bnd (quo (a0.l.length : Int) 2) fun x9 =>
 letm ((toU64 x9)) fun x10 =>
 some (5, x10))
  (letm ((toU8 a0.k)) fun x11 =>
 some (x11, a0.n))))
def m_cbor_head (a0 : UInt8) (a1 : UInt64) : Option (List UInt8) :=
 bnd (shlK .u8 a0 (UInt64.toNat 5 : Int)) fun x2 =>
 letm (decide ((UInt64.toNat a1 : Int) < (UInt64.toNat 24 : Int))) fun x3 =>
 cond x3 (letm ((toU8 (UInt64.toNat a1 : Int))) fun x4 =>
 letm ((toU8 (bits .or .u8 (UInt8.toNat x2) (UInt8.toNat x4)))) fun x5 =>
 some [x5])
  (letm (decide ((UInt64.toNat a1 : Int) < (UInt64.toNat 256 : Int))) fun x6 =>
 cond x6 (letm ((toU8 (bits .or .u8 (UInt8.toNat x2) (UInt8.toNat 24)))) fun x7 =>
 letm ((toU8 (UInt64.toNat a1 : Int))) fun x8 =>
 some [x7, x8])
  (letm (decide ((UInt64.toNat a1 : Int) < (UInt64.toNat 65536 : Int))) fun x9 =>
 cond x9 (letm ((toU8 (bits .or .u8 (UInt8.toNat x2) (UInt8.toNat 25)))) fun x10 =>
 bnd ((shrK .u64 (a1 : UInt64) (UInt64.toNat 8 : Int) : Option UInt64)) fun (x11 : UInt64) =>
 letm ((toU8 (UInt64.toNat x11 : Int))) fun x12 =>
 letm ((toU8 (UInt64.toNat a1 : Int))) fun x13 =>
 some [x10, x12, x13])
  (letm (decide ((UInt64.toNat a1 : Int) < (UInt64.toNat 4294967296 : Int))) fun x14 =>
 cond x14 (letm ((toU8 (bits .or .u8 (UInt8.toNat x2) (UInt8.toNat 26)))) fun x15 =>
 bnd ((shrK .u64 (a1 : UInt64) (UInt64.toNat 24 : Int) : Option UInt64)) fun (x16 : UInt64) =>
 letm ((toU8 (UInt64.toNat x16 : Int))) fun x17 =>
 bnd ((shrK .u64 (a1 : UInt64) (UInt64.toNat 16 : Int) : Option UInt64)) fun (x18 : UInt64) =>
 letm ((toU8 (UInt64.toNat x18 : Int))) fun x19 =>
 bnd ((shrK .u64 (a1 : UInt64) (UInt64.toNat 8 : Int) : Option UInt64)) fun (x20 : UInt64) =>
 letm ((toU8 (UInt64.toNat x20 : Int))) fun x21 =>
 letm ((toU8 (UInt64.toNat a1 : Int))) fun x22 =>
 some [x15, x17, x19, x21, x22])
  (letm ((toU8 (bits .or .u8 (UInt8.toNat x2) (UInt8.toNat 27)))) fun x23 =>
 loopF (R := (List UInt8)) (S := ((List UInt8) × Int)) (fun self25 s24 =>
 letm (decide (0 ≤ s24.2)) fun x26 =>
 cond x26 (bnd ((shrK .u64 (a1 : UInt64) s24.2 : Option UInt64)) fun (x27 : UInt64) =>
 letm ((toU8 (UInt64.toNat x27 : Int))) fun x28 =>
 bnd (app s24.1 [x28]) fun x29 =>
 letm ((w64 (s24.2 - 8))) fun x30 =>
 self25 (x29, x30))
  (some s24.1)) FUEL ([x23], 56)))))
def m_cbor_checker_spend (a0 : S_cbor_checker) (a1 : Go.Gk.Tr) : Option (Bool × S_cbor_checker) :=
 bnd (β := S_cbor_checker) (letm ((a1.k == 8)) fun x2 =>
 cond x2 (bnd (m_cbor_float a1.n) fun x3 =>
 letm ((w64 (a0.2 + (x3.length : Int)))) fun x4 =>
 some (a0.1, x4))
  (letm ((a1.k == 7)) fun x5 =>
 cond x5 (letm ((w64 (a0.2 + 1))) fun x6 =>
 letm (decide ((UInt64.toNat 24 : Int) ≤ (UInt64.toNat a1.n : Int))) fun x7 =>
 cond x7 (letm ((w64 (x6 + 1))) fun x8 =>
 some (a0.1, x8))
  (some (a0.1, x6)))
  (bnd (m_cbor_major a1) fun x9 =>
 bnd (m_cbor_head x9.1 x9.2) fun x10 =>
 letm ((w64 ((x10.length : Int) + (a1.b.length : Int)))) fun x11 =>
 letm ((w64 (a0.2 + x11))) fun x12 =>
 some (a0.1, x12)))) fun v13 =>
 letm (decide (v13.2 ≤ 4096)) fun x14 =>
 some (x14, v13)
def b_cbor_add_o (m_cbor_add_o : ((List UInt8)) → (Go.Gk.Tr) → Option (List UInt8)) (a0 : (List UInt8)) (a1 : Go.Gk.Tr) : Option (List UInt8) :=
 letm ((a1.k == 8)) fun x2 =>
 cond x2 (bnd (m_cbor_float a1.n) fun x3 =>
 bnd (app a0 x3) fun x4 =>
 some x4)
  (bnd (β := Bool) (letm ((a1.k == 7)) fun x5 =>
 cond x5 (letm (decide ((UInt64.toNat 24 : Int) ≤ (UInt64.toNat a1.n : Int))) fun x6 =>
 some x6)
  (some false)) fun v7 =>
 cond v7 (letm ((toU8 (UInt64.toNat a1.n : Int))) fun x8 =>
 bnd (app a0 [248, x8]) fun x9 =>
 some x9)
  (bnd (m_cbor_major a1) fun x10 =>
 bnd (m_cbor_head x10.1 x10.2) fun x11 =>
 bnd (app a0 x11) fun x12 =>
 bnd (app x12 a1.b) fun x13 =>
 loopL (R := (List UInt8)) (S := (List UInt8)) (α := Go.Gk.Tr) (fun _ s15 =>
 some s15)
  (fun x16 _ s18 self19 =>
 bnd (m_cbor_add_o s18 x16) fun x20 =>
 self19 x20) a1.l 0 x13))
def n_cbor_add_o (n : Nat) : ((List UInt8)) → (Go.Gk.Tr) → Option (List UInt8) := Nat.rec (motive := fun _ => ((List UInt8)) → (Go.Gk.Tr) → Option (List UInt8)) (fun _ _ => none) (fun _ ih => b_cbor_add_o ih) n
def m_cbor_add_o (a0 : (List UInt8)) (a1 : Go.Gk.Tr) : Option (List UInt8) := n_cbor_add_o 40 a0 a1

def m_cbor_add (a0 : (List UInt8)) (a1 : Go.Gk.Tr) : Option (List UInt8) :=
 letm ((a1.k == 8)) fun x2 =>
 cond x2 (bnd (m_cbor_float a1.n) fun x3 =>
 bnd (app a0 x3) fun x4 =>
 some x4)
  (bnd (β := Bool) (letm ((a1.k == 7)) fun x5 =>
 cond x5 (letm (decide ((UInt64.toNat 24 : Int) ≤ (UInt64.toNat a1.n : Int))) fun x6 =>
 some x6)
  (some false)) fun v7 =>
 cond v7 (letm ((toU8 (UInt64.toNat a1.n : Int))) fun x8 =>
 bnd (app a0 [248, x8]) fun x9 =>
 some x9)
  (bnd (m_cbor_major a1) fun x10 =>
 bnd (m_cbor_head x10.1 x10.2) fun x11 =>
 bnd (app a0 x11) fun x12 =>
 bnd (app x12 a1.b) fun x13 =>
 loopL (R := (List UInt8)) (S := (List UInt8)) (α := Go.Gk.Tr) (fun _ s15 =>
 some s15)
  (fun x16 _ s18 self19 =>
 bnd (m_cbor_add_o s18 x16) fun x20 =>
 self19 x20) a1.l 0 x13))
def m_bytes_Compare (_a0 : List UInt8) (_a1 : List UInt8) : Option (Int) := none

def m_cbor_ascending (a0 : (List Go.Gk.Tr)) : Option Bool :=
 loopF (R := Bool) (S := Int) (fun self2 s1 =>
 letm (decide (s1 < (a0.length : Int))) fun x3 =>
 cond x3 (letm ((w64 (s1 - 2))) fun x4 =>
 bnd (idx a0 x4) fun x5 =>
 bnd (m_cbor_add [] x5) fun x6 =>
 bnd (idx a0 s1) fun x7 =>
 bnd (m_cbor_add [] x7) fun x8 =>
 bnd (m_bytes_Compare x6 x8) fun x9 =>
 letm (decide (0 ≤ x9)) fun x10 =>
 cond x10 (some false)
  (letm ((w64 (s1 + 2))) fun x11 =>
 self2 x11))
  (some true)) FUEL 2
def b_cbor_checker_item (m_cbor_checker_item : (S_cbor_checker) → (Go.Gk.Tr) → (Int) → Option (Bool × S_cbor_checker)) (a0 : S_cbor_checker) (a1 : Go.Gk.Tr) (a2 : Int) : Option (Bool × S_cbor_checker) :=
 letm ((w64 (a0.1 + 1))) fun x3 =>
 bnd (β := Bool) (letm (decide (256 < x3)) fun x4 =>
 cond x4 (some true)
  (letm (decide (4096 < (a1.b.length : Int))) fun x5 =>
 cond x5 (some true)
  (letm (decide (256 < (a1.l.length : Int))) fun x6 =>
 some x6))) fun v7 =>
 cond v7 (some (false, (x3, a0.2)))
  (bnd (m_cbor_plain a1) fun x8 =>
 cond x8.2 (bnd (β := (Bool × S_cbor_checker)) (cond x8.1 (bnd (m_cbor_checker_spend (x3, a0.2) a1) fun x9 =>
 some (x9.1, x9.2))
  (some (false, (x3, a0.2)))) fun v10 =>
 some (v10.1, v10.2))
  (bnd (β := Bool) (letm (decide (a1.k < 4)) fun x11 =>
 cond x11 (some true)
  (letm (decide (6 < a1.k)) fun x12 =>
 cond x12 (some true)
  (letm (decide (8 ≤ a2)) fun x13 =>
 cond x13 (some true)
  (letm (decide (0 < (a1.b.length : Int))) fun x14 =>
 some x14)))) fun v15 =>
 cond v15 (some (false, (x3, a0.2)))
  (bnd (β := Bool) (letm ((a1.k == 6)) fun x16 =>
 cond x16 (letm (((a1.l.length : Int) != 1)) fun x17 =>
 cond x17 (some true)
  (letm ((a1.k != 6)) fun x18 =>
 cond x18 (letm (((UInt64.toNat a1.n : Int) != (UInt64.toNat 0 : Int))) fun x19 =>
 cond x19 (some true)
  (letm ((a1.k == 5)) fun x20 =>
 cond x20 (bnd (Gk.rem (a1.l.length : Int) 2) fun x21 =>
 letm ((x21 == 1)) fun x22 =>
 some x22)
  (some false)))
  (letm ((a1.k == 5)) fun x23 =>
 cond x23 (bnd (Gk.rem (a1.l.length : Int) 2) fun x24 =>
 letm ((x24 == 1)) fun x25 =>
 some x25)
  (some false))))
  (letm ((a1.k != 6)) fun x26 =>
 cond x26 (letm (((UInt64.toNat a1.n : Int) != (UInt64.toNat 0 : Int))) fun x27 =>
 cond x27 (some true)
  (letm ((a1.k == 5)) fun x28 =>
 cond x28 (bnd (Gk.rem (a1.l.length : Int) 2) fun x29 =>
 letm ((x29 == 1)) fun x30 =>
 some x30)
  (some false)))
  (letm ((a1.k == 5)) fun x31 =>
 cond x31 (bnd (Gk.rem (a1.l.length : Int) 2) fun x32 =>
 letm ((x32 == 1)) fun x33 =>
 some x33)
  (some false)))) fun v34 =>
 cond v34 (some (false, (x3, a0.2)))
  (bnd (m_cbor_checker_spend (x3, a0.2) a1) fun x35 =>
 letm ((!x35.1)) fun x36 =>
 cond x36 (some (false, x35.2))
  (loopL (R := (Bool × S_cbor_checker)) (S := S_cbor_checker) (α := Go.Gk.Tr) (fun _ s38 =>
 bnd (β := Bool) (letm ((a1.k != 5)) fun x39 =>
 cond x39 (some true)
  (bnd (m_cbor_ascending a1.l) fun x40 =>
 some x40)) fun v41 =>
 some (v41, s38))
  (fun x42 _ s44 self45 =>
 letm ((w64 (a2 + 1))) fun x46 =>
 bnd (m_cbor_checker_item s44 x42 x46) fun x47 =>
 letm ((!x47.1)) fun x48 =>
 cond x48 (some (false, x47.2))
  (self45 x47.2)) a1.l 0 x35.2)))))
def n_cbor_checker_item (n : Nat) : (S_cbor_checker) → (Go.Gk.Tr) → (Int) → Option (Bool × S_cbor_checker) := Nat.rec (motive := fun _ => (S_cbor_checker) → (Go.Gk.Tr) → (Int) → Option (Bool × S_cbor_checker)) (fun _ _ _ => none) (fun _ ih => b_cbor_checker_item ih) n
def m_cbor_checker_item (a0 : S_cbor_checker) (a1 : Go.Gk.Tr) (a2 : Int) : Option (Bool × S_cbor_checker) := n_cbor_checker_item 40 a0 a1 a2

def m_cbor_Valid (a0 : Go.Gk.Tr) : Option Bool :=
 bnd (m_cbor_checker_item (0, 0) a0 0) fun x1 =>
 some x1.1
def m_cbor_Encode (a0 : Go.Gk.Tr) : Option ((List UInt8) × Int) :=
 bnd (m_cbor_Valid a0) fun x1 =>
 letm ((!x1)) fun x2 =>
 cond x2 (some ([], 1))
  (bnd (m_cbor_add [] a0) fun x3 =>
 some (x3, 0))
def m_option_CacheKey (a0 : S_api_Message) : Option (List UInt8) :=
 loopL (R := (List UInt8)) (S := (Go.Gk.Tr × (List Go.Gk.Tr))) (α := S_api_Option) (fun _ s2 =>
 bnd (m_cbor_Int a0.2.1) fun x3 =>
 bnd (β := (List Go.Gk.Tr)) (letm ((a0.2.1 == 5)) fun x4 =>
 cond x4 (bnd (m_cbor_Bytes a0.2.2.2.2.2) fun x5 =>
 bnd (app [x3, (Tr.mk s2.1.k s2.1.n s2.1.b s2.2)] [x5]) fun x6 =>
 some x6)
  (some [x3, (Tr.mk s2.1.k s2.1.n s2.1.b s2.2)])) fun v7 =>
 bnd (m_cbor_Array v7) fun x8 =>
 bnd (m_cbor_Encode x8) fun x9 =>
 some x9.1)
  (fun x10 _ s12 self13 =>
 bnd (β := (Go.Gk.Tr × (List Go.Gk.Tr))) (bnd (β := Bool) (bnd (m_option_NoCacheKey x10.1) fun x14 =>
 letm ((!x14)) fun x15 =>
 cond x15 (letm ((x10.1 != 4)) fun x16 =>
 cond x16 (letm ((x10.1 != 6)) fun x17 =>
 some x17)
  (some false))
  (some false)) fun v18 =>
 cond v18 (bnd (m_cbor_Int x10.1) fun x19 =>
 bnd (m_cbor_Bytes x10.2) fun x20 =>
 bnd (m_cbor_Array [x19, x20]) fun x21 =>
 bnd (app s12.2 [x21]) fun x22 =>
 some (s12.1, x22))
  (some (s12.1, s12.2))) fun v23 =>
 self13 (v23.1, v23.2)) a0.2.2.2.2.1 0 ((Tr.mk 4 0 [] []), [])
def m_option_FromUint (a0 : Int) : Option (List UInt8) :=
 bnd (β := Bool) (letm (decide (a0 < 0)) fun x1 =>
 cond x1 (some true)
  (letm (decide (4294967295 < a0)) fun x2 =>
 some x2)) fun v3 =>
 cond v3 (some [])
  (loopF (R := (List UInt8)) (S := ((List UInt8) × Int)) (fun self5 s4 =>
 letm (decide (0 ≤ s4.2)) fun x6 =>
 cond x6 (bnd (β := (List UInt8)) (bnd (Gk.shr a0 s4.2) fun x7 =>
 letm (decide (0 < x7)) fun x8 =>
 cond x8 (bnd (Gk.shr a0 s4.2) fun x9 =>
 letm ((toU8 x9)) fun x10 =>
 bnd (app s4.1 [x10]) fun x11 =>
 some x11)
  (some s4.1)) fun v12 =>
 letm ((w64 (s4.2 - 8))) fun x13 =>
 self5 (v12, x13))
  (some s4.1)) FUEL ([], 24))
def m_option_owned (a0 : S_api_Message) (a1 : (List S_api_Option)) : Option S_api_Message :=
 bnd (m_bytes_Clone a0.2.2.2.1) fun x2 =>
 bnd (m_bytes_Clone a0.2.2.2.2.2) fun x3 =>
 loopL (R := S_api_Message) (S := (S_api_Message × (List S_api_Option))) (α := S_api_Option) (fun _ s5 =>
 some (s5.1.1, (s5.1.2.1, (s5.1.2.2.1, (s5.1.2.2.2.1, (s5.2, s5.1.2.2.2.2.2))))))
  (fun x6 _ s8 self9 =>
 bnd (m_bytes_Clone x6.2) fun x10 =>
 bnd (app s8.2 [(x6.1, x10)]) fun x11 =>
 self9 (s8.1, x11)) a1 0 ((a0.1, (a0.2.1, (a0.2.2.1, (x2, ([], x3))))), [])
def m_option_Set (a0 : S_api_Message) (a1 : Int) (a2 : (List (List UInt8))) : Option S_api_Message :=
 loopL (R := S_api_Message) (S := ((List S_api_Option) × (List S_api_Option))) (α := S_api_Option) (fun _ s4 =>
 loopL (R := S_api_Message) (S := (List S_api_Option)) (α := (List UInt8)) (fun _ s6 =>
 bnd (app s6 s4.2) fun x7 =>
 bnd (m_option_owned a0 x7) fun x8 =>
 some x8)
  (fun x9 _ s11 self12 =>
 bnd (app s11 [(a1, x9)]) fun x13 =>
 self12 x13) a2 0 s4.1)
  (fun x14 _ s16 self17 =>
 bnd (β := ((List S_api_Option) × (List S_api_Option))) (letm (decide (x14.1 < a1)) fun x18 =>
 cond x18 (bnd (app s16.1 [x14]) fun x19 =>
 some (x19, s16.2))
  (letm (decide (a1 < x14.1)) fun x20 =>
 cond x20 (bnd (app s16.2 [x14]) fun x21 =>
 some (s16.1, x21))
  (some (s16.1, s16.2)))) fun v22 =>
 self17 (v22.1, v22.2)) a0.2.2.2.2.1 0 ([], [])
def m_cache_Lookup (a0 : (List S_api_Cached)) (a1 : (List UInt8)) (a2 : Int) : Option (S_api_Message × Bool) :=
 bnd (m_cache_find a0 a1) fun x3 =>
 bnd (β := Bool) (letm (decide (x3 < 0)) fun x4 =>
 cond x4 (some true)
  (bnd (idx a0 x3) fun x5 =>
 letm (decide (a2 < x5.2.2.1)) fun x6 =>
 cond x6 (some true)
  (bnd (idx a0 x3) fun x7 =>
 letm ((w64 (a2 - x7.2.2.1))) fun x8 =>
 bnd (idx a0 x3) fun x9 =>
 letm (decide (x9.2.2.2 ≤ x8)) fun x10 =>
 some x10))) fun v11 =>
 cond v11 (some ((0, (0, (0, ([], ([], []))))), false))
  (bnd (idx a0 x3) fun x12 =>
 bnd (idx a0 x3) fun x13 =>
 bnd (idx a0 x3) fun x14 =>
 letm ((w64 (a2 - x14.2.2.1))) fun x15 =>
 letm ((w64 (x13.2.2.2 - x15))) fun x16 =>
 bnd (m_option_FromUint x16) fun x17 =>
 bnd (m_option_Set x12.2.1 14 [x17]) fun x18 =>
 some (x18, true))
def m_relay_Forward_1 (a0 : (Option Int)) : Option (List UInt8) :=
 bnd (a0) fun x1 =>
 bnd (Gk.shr x1 (UInt64.toNat 8 : Int)) fun x2 =>
 letm ((toU8 x2)) fun x3 =>
 bnd (a0) fun x4 =>
 letm ((toU8 x4)) fun x5 =>
 some [x3, x5]
def m_relay_Forward_1_o (a0 : (Option Int)) : Option (List UInt8) :=
 bnd (a0) fun x1 =>
 bnd (Gk.shr x1 (UInt64.toNat 8 : Int)) fun x2 =>
 letm ((toU8 x2)) fun x3 =>
 bnd (a0) fun x4 =>
 letm ((toU8 x4)) fun x5 =>
 some [x3, x5]
def m_fragment_numbered (a0 : Int) : Option Bool :=
 bnd (β := Bool) (letm ((a0 == 27)) fun x1 =>
 cond x1 (some true)
  (letm ((a0 == 23)) fun x2 =>
 some x2)) fun v3 =>
 some v3
def m_option_All (a0 : S_api_Message) (a1 : Int) : Option (List (List UInt8)) :=
 loopL (R := (List (List UInt8))) (S := (List (List UInt8))) (α := S_api_Option) (fun _ s3 =>
 some s3)
  (fun x4 _ s6 self7 =>
 bnd (β := (List (List UInt8))) (letm ((x4.1 == a1)) fun x8 =>
 cond x8 (bnd (m_bytes_Clone x4.2) fun x9 =>
 bnd (app s6 [x9]) fun x10 =>
 some x10)
  (some s6)) fun v11 =>
 self7 v11) a0.2.2.2.2.1 0 []
def m_block_sound (a0 : S_api_Block) : Option Bool :=
 bnd (β := Bool) (letm (decide (0 ≤ a0.1)) fun x1 =>
 cond x1 (letm (decide (a0.1 ≤ 1048575)) fun x2 =>
 cond x2 (letm (decide (0 ≤ a0.2.2)) fun x3 =>
 cond x3 (letm (decide (a0.2.2 ≤ 6)) fun x4 =>
 some x4)
  (some false))
  (some false))
  (some false)) fun v5 =>
 some v5
def m_block_length (a0 : Int) : Option Int :=
 bnd (Gk.shl 16 a0) fun x1 =>
 some x1
def m_block_Cut (a0 : (List UInt8)) (a1 : Int) (a2 : Int) : Option ((List UInt8) × (Bool × Int)) :=
 bnd (m_block_sound (a1, (false, a2))) fun x3 =>
 letm ((!x3)) fun x4 =>
 cond x4 (some ([], (false, 1)))
  (bnd (m_block_length a2) fun x5 =>
 letm ((w64 (a1 * x5))) fun x6 =>
 bnd (β := Bool) (letm (decide ((a0.length : Int) ≤ x6)) fun x7 =>
 cond x7 (letm ((w64 (x6 + (a0.length : Int)))) fun x8 =>
 letm (decide (0 < x8)) fun x9 =>
 some x9)
  (some false)) fun v10 =>
 cond v10 (some ([], (false, 10)))
  (bnd (m_block_length a2) fun x11 =>
 letm ((w64 (x6 + x11))) fun x12 =>
 letm ((min (a0.length : Int) x12)) fun x13 =>
 bnd (Gk.cut a0 x6 x13) fun x14 =>
 bnd (m_bytes_Clone x14) fun x15 =>
 letm (decide (x13 < (a0.length : Int))) fun x16 =>
 some (x15, (x16, 0))))
def m_block_Value (a0 : S_api_Block) : Option ((List UInt8) × Int) :=
 bnd (m_block_sound a0) fun x1 =>
 letm ((!x1)) fun x2 =>
 cond x2 (some ([], 1))
  (bnd (Gk.shl a0.1 (UInt64.toNat 4 : Int)) fun x3 =>
 letm ((ibit .or x3 a0.2.2)) fun x4 =>
 bnd (β := Int) (cond a0.2.1 (letm ((ibit .or x4 8)) fun x5 =>
 some x5)
  (some x4)) fun v6 =>
 bnd (m_option_FromUint v6) fun x7 =>
 some (x7, 0))
def m_fragment_copied (a0 : (List UInt8)) : Option (List UInt8) :=
 bnd (app [] a0) fun x1 =>
 some x1
def m_fragment_message (a0 : S_api_Message) : Option S_api_Message :=
 bnd (m_fragment_copied a0.2.2.2.1) fun x1 =>
 bnd (m_fragment_copied a0.2.2.2.2.2) fun x2 =>
 loopL (R := S_api_Message) (S := (S_api_Message × (List S_api_Option))) (α := S_api_Option) (fun _ s4 =>
 some (s4.1.1, (s4.1.2.1, (s4.1.2.2.1, (s4.1.2.2.2.1, (s4.2, s4.1.2.2.2.2.2))))))
  (fun x5 _ s7 self8 =>
 bnd (m_fragment_copied x5.2) fun x9 =>
 bnd (app s7.2 [(x5.1, x9)]) fun x10 =>
 self8 (s7.1, x10)) a0.2.2.2.2.1 0 ((a0.1, (a0.2.1, (a0.2.2.1, (x1, ([], x2))))), [])
def m_fragment_Cut (a0 : S_api_Message) (a1 : Int) (a2 : Int) (a3 : Int) : Option (S_api_Message × Int) :=
 bnd (m_fragment_numbered a1) fun x4 =>
 letm ((!x4)) fun x5 =>
 cond x5 (some ((0, (0, (0, ([], ([], []))))), 1))
  (bnd (m_option_All a0 a1) fun x6 =>
 letm (decide (0 < (x6.length : Int))) fun x7 =>
 cond x7 (some ((0, (0, (0, ([], ([], []))))), 7))
  (bnd (m_block_Cut a0.2.2.2.2.2 a2 a3) fun x8 =>
 letm ((x8.2.2 != 0)) fun x9 =>
 cond x9 (some ((0, (0, (0, ([], ([], []))))), x8.2.2))
  (bnd (m_block_Value (a2, (x8.2.1, a3))) fun x10 =>
 letm ((x10.2 != 0)) fun x11 =>
 cond x11 (some ((0, (0, (0, ([], ([], []))))), x10.2))
  (bnd (m_option_Set a0 a1 [x10.1]) fun x12 =>
 bnd (m_fragment_message x12) fun x13 =>
 bnd (m_fragment_copied x8.1) fun x14 =>
 some ((x13.1, (x13.2.1, (x13.2.2.1, (x13.2.2.2.1, (x13.2.2.2.2.1, x14))))), 0)))))
def m_relay_Forward (a0 : S_api_Proxy) (a1 : Int) (a2 : S_api_Message) (a3 : Int) : Option (S_api_Proxy × ((List S_api_Message) × ((List S_relay_Sent) × Int))) :=
 bnd (m_coap_Encode a2) fun x4 =>
 bnd (β := Bool) (bnd (m_relay_Valid a0) fun x5 =>
 letm ((!x5)) fun x6 =>
 cond x6 (some true)
  (letm (decide (a1 < 0)) fun x7 =>
 cond x7 (some true)
  (letm (decide (65536 < a1)) fun x8 =>
 cond x8 (some true)
  (bnd (m_relay_time a3) fun x9 =>
 letm ((!x9)) fun x10 =>
 cond x10 (some true)
  (letm ((x4.2 != 0)) fun x11 =>
 cond x11 (some true)
  (letm (decide (a2.2.1 < 1)) fun x12 =>
 cond x12 (some true)
  (letm (decide (31 < a2.2.1)) fun x13 =>
 some x13))))))) fun v14 =>
 cond v14 (some ((0, ([], ([], 0))), ([], ([], 1))))
  (bnd (m_relay_cloned_o a0) fun x15 =>
 bnd (β := (List UInt8)) (bnd (m_relay_Protected a2) fun x16 =>
 letm ((!x16)) fun x17 =>
 cond x17 (bnd (m_option_CacheKey a2) fun x18 =>
 some x18)
  (some [])) fun v19 =>
 bndS (ρ := (S_api_Proxy × ((List S_api_Message) × ((List S_relay_Sent) × Int)))) (ρ' := (S_api_Proxy × ((List S_api_Message) × ((List S_relay_Sent) × Int)))) (Y := S_api_Proxy) (bnd (β := Bool) (bnd (m_relay_Protected a2) fun x20 =>
 letm ((!x20)) fun x21 =>
 cond x21 (letm ((a2.2.1 == 1)) fun x22 =>
 cond x22 (bnd (m_relay_has a2 6) fun x23 =>
 letm ((!x23)) fun x24 =>
 some x24)
  (letm ((a2.2.1 == 5)) fun x25 =>
 cond x25 (bnd (m_relay_has a2 6) fun x26 =>
 letm ((!x26)) fun x27 =>
 some x27)
  (some false)))
  (some false)) fun v28 =>
 cond v28 (bnd (m_cache_Lookup a0.2.2.1 v19 a3) fun x29 =>
 cond x29.2 (bnd (m_relay_message x29.1) fun x30 =>
 bnd (m_relay_copied a2.2.2.2.1) fun x31 =>
 some (.inl ((x15.1.1, (x15.2, x15.1.2.2)), ([], ([(a1, (a2.1, (x30.2.1, (a2.2.2.1, (x31, x30.2.2.2.2)))))], 0)))))
  (some (.inr ((w64 0), ([], ([], (w64 0)))))))
  (some (.inr ((w64 0), ([], ([], (w64 0))))))) (fun q => q) fun v32 =>
 letm (decide (8 ≤ (a0.2.1.length : Int))) fun x33 =>
 cond x33 (bnd (m_relay_copied a2.2.2.2.1) fun x34 =>
 some ((x15.1.1, (x15.2, x15.1.2.2)), ([], ([(a1, (a2.1, (163, (a2.2.2.1, (x34, ([], []))))))], 0))))
  (bnd (β := Int) (loopF (R := Int) (S := Int) (fun self36 s35 =>
 bnd (m_relay_Forward_1_o (some s35)) fun x37 =>
 bnd (m_relay_find a0.2.1 x37) fun x38 =>
 letm (decide (0 ≤ x38)) fun x39 =>
 cond x39 (letm ((w64 (s35 + 1))) fun x40 =>
 bnd (Gk.rem x40 65536) fun x41 =>
 self36 x41)
  (some s35)) FUEL a0.1) fun v42 =>
 bnd (m_relay_copied a2.2.2.2.1) fun x43 =>
 bnd (m_relay_Forward_1_o (some v42)) fun x44 =>
 bnd (m_relay_has a2 6) fun x45 =>
 bnd (app x15.2 [(a1, (x43, (x44, (v19, x45))))]) fun x46 =>
 letm ((w64 (v42 + 1))) fun x47 =>
 bnd (Gk.rem x47 65536) fun x48 =>
 bnd (m_relay_message a2) fun x49 =>
 bnd (m_relay_Forward_1_o (some v42)) fun x50 =>
 bnd (β := Bool) (letm ((a0.2.2.2 == (-1))) fun x51 =>
 cond x51 (some true)
  (bnd (m_relay_has a2 27) fun x52 =>
 cond x52 (some true)
  (letm ((toU64 a0.2.2.2)) fun x53 =>
 bnd (Gk.shl 16 (UInt64.toNat x53 : Int)) fun x54 =>
 letm (decide ((a2.2.2.2.2.2.length : Int) ≤ x54)) fun x55 =>
 some x55))) fun v56 =>
 cond v56 (some ((x48, (x46, x15.1.2.2)), ([(1, (x49.2.1, (v42, (x50, x49.2.2.2.2))))], ([], 0))))
  (loopF (R := (S_api_Proxy × ((List S_api_Message) × ((List S_relay_Sent) × Int)))) (S := ((List S_api_Message) × (Int × S_api_Proxy))) (fun self58 s57 =>
 bnd (m_fragment_Cut (1, (x49.2.1, (v42, (x50, x49.2.2.2.2)))) 27 s57.2.1 a0.2.2.2) fun x59 =>
 letm ((x59.2 != 0)) fun x60 =>
 cond x60 (some ((x48, (x46, x15.1.2.2)), (s57.1, ([], 0))))
  (letm ((w64 (v42 + s57.2.1))) fun x61 =>
 bnd (Gk.rem x61 65536) fun x62 =>
 bnd (app s57.1 [(x59.1.1, (x59.1.2.1, (x62, x59.1.2.2.2)))]) fun x63 =>
 letm ((w64 (s57.2.1 + 1))) fun x64 =>
 self58 (x63, (x64, s57.2.2)))) FUEL ([], (0, v32)))))
def m_coreseclaw34_awake : Option Bool :=
 bnd (m_relay_Forward (0, ([], ([], (-1)))) 3 (0, (1, (0, ([1], ([], []))))) 0) fun x0 =>
 bnd (β := Bool) (letm ((x0.2.2.2 == 0)) fun x1 =>
 cond x1 (letm (((x0.2.1.length : Int) == 1)) fun x2 =>
 cond x2 (letm (((x0.2.2.1.length : Int) == 0)) fun x3 =>
 cond x3 (bnd (idx x0.2.1 0) fun x4 =>
 letm (((x4.2.2.2.1.length : Int) == 2)) fun x5 =>
 cond x5 (letm (((x0.1.2.1.length : Int) == 1)) fun x6 =>
 cond x6 (letm ((x0.1.1 == 1)) fun x7 =>
 some x7)
  (some false))
  (some false))
  (some false))
  (some false))
  (some false)) fun v8 =>
 some v8
def m_coresecmake_New (a0 : (List Int)) : Option S_coresecmake_Deck :=
 some (a0, 0)
def m_coresecmake_Mod (a0 : Int) (a1 : Int) : Option Int :=
 bnd (Gk.rem a0 a1) fun x2 =>
 bnd (β := Int) (letm (decide (x2 < 0)) fun x3 =>
 cond x3 (letm ((w64 (x2 + a1))) fun x4 =>
 some x4)
  (some x2)) fun v5 =>
 some v5
def m_coresecmake_Deck_Next (a0 : S_coresecmake_Deck) (a1 : Int) : Option (Int × S_coresecmake_Deck) :=
 letm (decide ((a0.1.length : Int) ≤ a0.2)) fun x2 =>
 cond x2 (some (0, a0))
  (letm ((w64 (a0.2 + 1))) fun x3 =>
 letm ((w64 (x3 - 1))) fun x4 =>
 bnd (idx a0.1 x4) fun x5 =>
 bnd (m_coresecmake_Mod x5 a1) fun x6 =>
 some (x6, (a0.1, x3)))
def m_coresecmake_Deck_Bytes (a0 : S_coresecmake_Deck) (a1 : Int) : Option ((List UInt8) × S_coresecmake_Deck) :=
 letm ((w64 (a1 + 1))) fun x2 =>
 bnd (m_coresecmake_Deck_Next a0 x2) fun x3 =>
 loopF (R := ((List UInt8) × S_coresecmake_Deck)) (S := ((List UInt8) × (Int × S_coresecmake_Deck))) (fun self5 s4 =>
 letm (decide (0 < s4.2.1)) fun x6 =>
 cond x6 (bnd (m_coresecmake_Deck_Next s4.2.2 256) fun x7 =>
 letm ((toU8 x7.1)) fun x8 =>
 bnd (app s4.1 [x8]) fun x9 =>
 letm ((w64 (s4.2.1 - 1))) fun x10 =>
 self5 (x9, (x10, x7.2)))
  (some (s4.1, s4.2.2))) FUEL ([], (x3.1, x3.2))
def m_coresecmake_Some (a0 : Int) (a1 : Int) : Option (List UInt8) :=
 bnd (rng a1) fun j17 =>
 loopN (R := (List UInt8)) (S := (List UInt8)) (fun _ s3 =>
 some s3)
  (fun k4 s5 self6 =>
 letm ((toU64 a0)) fun x7 =>
 bnd (Gk.rem (k4 : Int) 8) fun x8 =>
 letm ((toU64 x8)) fun x9 =>
 letm ((8 * x9)) fun x10 =>
 bnd ((shrK .u64 (x7 : UInt64) (UInt64.toNat x10 : Int) : Option UInt64)) fun (x11 : UInt64) =>
 letm ((toU8 (UInt64.toNat x11 : Int))) fun x12 =>
 bnd (quo (k4 : Int) 8) fun x13 =>
 letm ((toU8 x13)) fun x14 =>
 letm ((x12 + x14)) fun x15 =>
 bnd (app s5 [x15]) fun x16 =>
 self6 x16) j17 0 []
def m_coresecref16_with (a0 : S_api_Message) (a1 : (List S_api_Option)) : Option S_api_Message :=
 bnd (app [] a0.2.2.2.1) fun x2 =>
 bnd (app [] a0.2.2.2.2.2) fun x3 =>
 loopL (R := S_api_Message) (S := (List S_api_Option)) (α := S_api_Option) (fun _ s5 =>
 some (a0.1, (a0.2.1, (a0.2.2.1, (x2, (s5, x3))))))
  (fun x6 _ s8 self9 =>
 bnd (app [] x6.2) fun x10 =>
 bnd (app s8 [(x6.1, x10)]) fun x11 =>
 self9 x11) a1 0 []
def m_coresecref16_Set (a0 : S_api_Message) (a1 : Int) (a2 : (List (List UInt8))) : Option S_api_Message :=
 loopL (R := S_api_Message) (S := (List S_api_Option)) (α := S_api_Option) (fun _ s4 =>
 loopL (R := S_api_Message) (S := (List S_api_Option)) (α := (List UInt8)) (fun _ s6 =>
 loopL (R := S_api_Message) (S := (List S_api_Option)) (α := S_api_Option) (fun _ s8 =>
 bnd (m_coresecref16_with a0 s8) fun x9 =>
 some x9)
  (fun x10 _ s12 self13 =>
 bnd (β := (List S_api_Option)) (letm (decide (a1 < x10.1)) fun x14 =>
 cond x14 (bnd (app s12 [x10]) fun x15 =>
 some x15)
  (some s12)) fun v16 =>
 self13 v16) a0.2.2.2.2.1 0 s6)
  (fun x17 _ s19 self20 =>
 bnd (app s19 [(a1, x17)]) fun x21 =>
 self20 x21) a2 0 s4)
  (fun x22 _ s24 self25 =>
 bnd (β := (List S_api_Option)) (letm (decide (x22.1 < a1)) fun x26 =>
 cond x26 (bnd (app s24 [x22]) fun x27 =>
 some x27)
  (some s24)) fun v28 =>
 self25 v28) a0.2.2.2.2.1 0 []
def m_coreseclaw34_request (a0 : S_coresecmake_Deck) : Option (S_api_Message × S_coresecmake_Deck) :=
 bnd (m_coresecmake_Deck_Next a0 2) fun x1 =>
 bnd (m_coresecmake_Deck_Next x1.2 6) fun x2 =>
 bnd (idx [1, 1, 1, 2, 5, 3] x2.1) fun x3 =>
 bnd (m_coresecmake_Deck_Next x2.2 65536) fun x4 =>
 bnd (m_coresecmake_Deck_Bytes x4.2 2) fun x5 =>
 bnd (m_coresecmake_Deck_Next x5.2 3) fun x6 =>
 bnd (idx [0, 3, 40] x6.1) fun x7 =>
 bnd (m_coresecmake_Some 5 x7) fun x8 =>
 bnd (m_coresecmake_Deck_Next x6.2 2) fun x9 =>
 letm ((w64 (97 + x9.1))) fun x10 =>
 letm ((toU8 x10)) fun x11 =>
 bnd (m_coresecref16_Set (x1.1, (x3, (x4.1, (x5.1, ([], x8))))) 11 [[x11]]) fun x12 =>
 bnd (β := (S_coresecmake_Deck × S_api_Message)) (bnd (m_coresecmake_Deck_Next x9.2 4) fun x13 =>
 letm ((x13.1 == 0)) fun x14 =>
 cond x14 (bnd (m_coresecmake_Deck_Next x13.2 9) fun x15 =>
 letm ((toU8 x15.1)) fun x16 =>
 bnd (m_coresecref16_Set x12 9 [[9, x16]]) fun x17 =>
 some (x15.2, x17))
  (letm ((x13.1 == 1)) fun x18 =>
 cond x18 (bnd (m_coresecref16_Set x12 6 [[]]) fun x19 =>
 some (x13.2, x19))
  (some (x13.2, x12)))) fun v20 =>
 some (v20.2, v20.1)
def m_coresecref15_extended (a0 : Int) : Option S_api_Option :=
 letm (decide (a0 < 13)) fun x1 =>
 cond x1 (some (a0, []))
  (letm (decide (a0 < 269)) fun x2 =>
 cond x2 (letm ((w64 (a0 - 13))) fun x3 =>
 letm ((toU8 x3)) fun x4 =>
 some (13, [x4]))
  (letm ((w64 (a0 - 269))) fun x5 =>
 bnd (Gk.shr x5 (UInt64.toNat 8 : Int)) fun x6 =>
 letm ((toU8 x6)) fun x7 =>
 letm ((w64 (a0 - 269))) fun x8 =>
 letm ((toU8 x8)) fun x9 =>
 some (14, [x7, x9])))
def m_coresecref15_Raw (a0 : S_api_Message) : Option (List UInt8) :=
 letm ((w64 (16 * a0.1))) fun x1 =>
 letm ((w64 (64 + x1))) fun x2 =>
 letm ((w64 (x2 + (a0.2.2.2.1.length : Int)))) fun x3 =>
 letm ((toU8 x3)) fun x4 =>
 letm ((toU8 a0.2.1)) fun x5 =>
 bnd (Gk.shr a0.2.2.1 (UInt64.toNat 8 : Int)) fun x6 =>
 letm ((toU8 x6)) fun x7 =>
 letm ((toU8 a0.2.2.1)) fun x8 =>
 bnd (app [x4, x5, x7, x8] a0.2.2.2.1) fun x9 =>
 loopL (R := (List UInt8)) (S := ((List UInt8) × Int)) (α := S_api_Option) (fun _ s11 =>
 bnd (β := (List UInt8)) (letm (decide (0 < (a0.2.2.2.2.2.length : Int))) fun x12 =>
 cond x12 (bnd (app s11.1 [255]) fun x13 =>
 bnd (app x13 a0.2.2.2.2.2) fun x14 =>
 some x14)
  (some s11.1)) fun v15 =>
 some v15)
  (fun x16 _ s18 self19 =>
 letm ((w64 (x16.1 - s18.2))) fun x20 =>
 bnd (m_coresecref15_extended x20) fun x21 =>
 bnd (m_coresecref15_extended (x16.2.length : Int)) fun x22 =>
 letm ((w64 (16 * x21.1))) fun x23 =>
 letm ((w64 (x23 + x22.1))) fun x24 =>
 letm ((toU8 x24)) fun x25 =>
 bnd (app s18.1 [x25]) fun x26 =>
 bnd (app x26 x21.2) fun x27 =>
 bnd (app x27 x22.2) fun x28 =>
 bnd (app x28 x16.2) fun x29 =>
 self19 (x29, x16.1)) a0.2.2.2.2.1 0 (x9, 0)
def m_coresecref15_Valid (a0 : S_api_Message) : Option Bool :=
 bnd (β := Bool) (letm (decide (a0.1 < 0)) fun x1 =>
 cond x1 (some true)
  (letm (decide (3 < a0.1)) fun x2 =>
 cond x2 (some true)
  (letm (decide (a0.2.1 < 0)) fun x3 =>
 cond x3 (some true)
  (letm (decide (255 < a0.2.1)) fun x4 =>
 cond x4 (some true)
  (letm (decide (a0.2.2.1 < 0)) fun x5 =>
 cond x5 (some true)
  (letm (decide (65535 < a0.2.2.1)) fun x6 =>
 cond x6 (some true)
  (letm (decide (8 < (a0.2.2.2.1.length : Int))) fun x7 =>
 cond x7 (some true)
  (letm (decide (32 < (a0.2.2.2.2.1.length : Int))) fun x8 =>
 cond x8 (some true)
  (letm (decide (4096 < (a0.2.2.2.2.2.length : Int))) fun x9 =>
 some x9))))))))) fun v10 =>
 cond v10 (some false)
  (bnd (quo a0.2.1 32) fun x11 =>
 bnd (β := Bool) (letm ((x11 != 0)) fun x12 =>
 cond x12 (letm ((x11 != 2)) fun x13 =>
 cond x13 (letm ((x11 != 4)) fun x14 =>
 cond x14 (letm ((x11 != 5)) fun x15 =>
 some x15)
  (some false))
  (some false))
  (some false)) fun v16 =>
 cond v16 (some false)
  (loopL (R := Bool) (S := Int) (α := S_api_Option) (fun _ _ =>
 bnd (β := Bool) (letm ((a0.2.1 == 0)) fun x19 =>
 cond x19 (letm ((w64 ((a0.2.2.2.1.length : Int) + (a0.2.2.2.2.1.length : Int)))) fun x20 =>
 letm ((w64 (x20 + (a0.2.2.2.2.2.length : Int)))) fun x21 =>
 letm (decide (0 < x21)) fun x22 =>
 cond x22 (some true)
  (letm ((a0.1 == 3)) fun x23 =>
 cond x23 (letm ((a0.2.1 != 0)) fun x24 =>
 some x24)
  (some false)))
  (letm ((a0.1 == 3)) fun x25 =>
 cond x25 (letm ((a0.2.1 != 0)) fun x26 =>
 some x26)
  (some false))) fun v27 =>
 cond v27 (some false)
  (bnd (m_coresecref15_Raw a0) fun x28 =>
 letm (decide ((x28.length : Int) ≤ 4096)) fun x29 =>
 some x29))
  (fun x30 _ s32 self33 =>
 bnd (β := Bool) (letm (decide (x30.1 < s32)) fun x34 =>
 cond x34 (some true)
  (letm (decide (65535 < x30.1)) fun x35 =>
 cond x35 (some true)
  (letm (decide (1034 < (x30.2.length : Int))) fun x36 =>
 some x36))) fun v37 =>
 cond v37 (some false)
  (self33 x30.1)) a0.2.2.2.2.1 0 0))
def m_coresecref15_Encode (a0 : S_api_Message) : Option ((List UInt8) × Int) :=
 bnd (m_coresecref15_Valid a0) fun x1 =>
 letm ((!x1)) fun x2 =>
 cond x2 (some ([], 1))
  (bnd (m_coresecref15_Raw a0) fun x3 =>
 some (x3, 0))
def m_coresecref20_keyed (a0 : (List UInt8)) : Option Bool :=
 bnd (β := Bool) (letm (decide (0 < (a0.length : Int))) fun x1 =>
 cond x1 (letm (decide ((a0.length : Int) ≤ 4096)) fun x2 =>
 some x2)
  (some false)) fun v3 =>
 some v3
def m_coresecref15_Response (a0 : Int) : Option Bool :=
 bnd (β := Bool) (letm (decide (64 ≤ a0)) fun x1 =>
 cond x1 (letm (decide (a0 < 96)) fun x2 =>
 cond x2 (some true)
  (letm (decide (128 ≤ a0)) fun x3 =>
 cond x3 (letm (decide (a0 < 192)) fun x4 =>
 some x4)
  (some false)))
  (letm (decide (128 ≤ a0)) fun x5 =>
 cond x5 (letm (decide (a0 < 192)) fun x6 =>
 some x6)
  (some false))) fun v7 =>
 some v7
def m_coresecref20_Valid (a0 : (List S_api_Cached)) : Option Bool :=
 letm (decide (16 < (a0.length : Int))) fun x1 =>
 cond x1 (some false)
  (loopL (R := Bool) (S := Unit) (α := S_api_Cached) (fun _ _ =>
 some true)
  (fun x4 k5 _ self7 =>
 bnd (β := Bool) (bnd (m_coresecref20_keyed x4.1) fun x8 =>
 letm ((!x8)) fun x9 =>
 cond x9 (some true)
  (letm (decide (x4.2.2.1 < 0)) fun x10 =>
 cond x10 (some true)
  (letm (decide (x4.2.2.2 < 0)) fun x11 =>
 cond x11 (some true)
  (bnd (m_coresecref15_Valid x4.2.1) fun x12 =>
 letm ((!x12)) fun x13 =>
 cond x13 (some true)
  (letm ((x4.2.1.1 != 0)) fun x14 =>
 cond x14 (some true)
  (letm ((x4.2.1.2.2.1 != 0)) fun x15 =>
 cond x15 (some true)
  (letm (decide (0 < (x4.2.1.2.2.2.1.length : Int))) fun x16 =>
 cond x16 (some true)
  (bnd (m_coresecref15_Response x4.2.1.2.1) fun x17 =>
 letm ((!x17)) fun x18 =>
 some x18)))))))) fun v19 =>
 cond v19 (some false)
  (bnd (Gk.cut a0 0 (k5 : Int)) fun x20 =>
 loopL (R := Bool) (S := Unit) (α := S_api_Cached) (fun _ _ =>
 self7 ())
  (fun x23 _ _ self26 =>
 letm ((x4.1 == x23.1)) fun x27 =>
 cond x27 (some false)
  (self26 ())) x20 0 ())) a0 0 ())
def m_coresecref01_Compare (a0 : (List UInt8)) (a1 : (List UInt8)) : Option Int :=
 loopF (R := Int) (S := Int) (fun self3 s2 =>
 bnd (β := Bool) (letm (decide (s2 < (a0.length : Int))) fun x4 =>
 cond x4 (letm (decide (s2 < (a1.length : Int))) fun x5 =>
 some x5)
  (some false)) fun v6 =>
 cond v6 (bnd (idx a0 s2) fun x7 =>
 bnd (idx a1 s2) fun x8 =>
 letm (((UInt8.toNat x7 : Int) != (UInt8.toNat x8 : Int))) fun x9 =>
 cond x9 (bnd (idx a0 s2) fun x10 =>
 bnd (idx a1 s2) fun x11 =>
 letm (decide ((UInt8.toNat x10 : Int) < (UInt8.toNat x11 : Int))) fun x12 =>
 cond x12 (some (-1))
  (some 1))
  (letm ((w64 (s2 + 1))) fun x13 =>
 self3 x13))
  (letm (decide ((a0.length : Int) < (a1.length : Int))) fun x14 =>
 cond x14 (some (-1))
  (letm (decide ((a1.length : Int) < (a0.length : Int))) fun x15 =>
 cond x15 (some 1)
  (some 0)))) FUEL 0
def m_coresecref26_Equal (a0 : (List UInt8)) (a1 : (List UInt8)) : Option Bool :=
 bnd (β := Bool) (bnd (m_coresecref01_Compare a0 a1) fun x2 =>
 letm ((x2 == 0)) fun x3 =>
 cond x3 (letm (((a0.length : Int) == (a1.length : Int))) fun x4 =>
 some x4)
  (some false)) fun v5 =>
 some v5
def m_coresecref34_Valid (a0 : S_api_Proxy) : Option Bool :=
 bnd (β := Bool) (letm (decide (a0.1 < 0)) fun x1 =>
 cond x1 (some true)
  (letm (decide (65535 < a0.1)) fun x2 =>
 cond x2 (some true)
  (letm (decide (8 < (a0.2.1.length : Int))) fun x3 =>
 cond x3 (some true)
  (bnd (m_coresecref20_Valid a0.2.2.1) fun x4 =>
 letm ((!x4)) fun x5 =>
 cond x5 (some true)
  (letm (decide (a0.2.2.2 < (-1))) fun x6 =>
 cond x6 (some true)
  (letm (decide (6 < a0.2.2.2)) fun x7 =>
 some x7)))))) fun v8 =>
 cond v8 (some false)
  (loopL (R := Bool) (S := Unit) (α := S_api_Hop) (fun _ _ =>
 some true)
  (fun x11 k12 _ self14 =>
 bnd (β := Bool) (letm (decide (x11.1 < 0)) fun x15 =>
 cond x15 (some true)
  (letm (decide (65536 < x11.1)) fun x16 =>
 cond x16 (some true)
  (letm (decide (8 < (x11.2.1.length : Int))) fun x17 =>
 cond x17 (some true)
  (letm (((x11.2.2.1.length : Int) != 2)) fun x18 =>
 some x18)))) fun v19 =>
 cond v19 (some false)
  (loopF (R := Bool) (S := Int) (fun self21 s20 =>
 letm (decide (s20 < (k12 : Int))) fun x22 =>
 cond x22 (bnd (idx a0.2.1 s20) fun x23 =>
 bnd (m_coresecref26_Equal x23.2.2.1 x11.2.2.1) fun x24 =>
 cond x24 (some false)
  (letm ((w64 (s20 + 1))) fun x25 =>
 self21 x25))
  (self14 ())) FUEL 0)) a0.2.1 0 ())
def m_coresecref16_All (a0 : S_api_Message) (a1 : Int) : Option (List (List UInt8)) :=
 loopL (R := (List (List UInt8))) (S := (List (List UInt8))) (α := S_api_Option) (fun _ s3 =>
 some s3)
  (fun x4 _ s6 self7 =>
 bnd (β := (List (List UInt8))) (letm ((x4.1 == a1)) fun x8 =>
 cond x8 (bnd (app [] x4.2) fun x9 =>
 bnd (app s6 [x9]) fun x10 =>
 some x10)
  (some s6)) fun v11 =>
 self7 v11) a0.2.2.2.2.1 0 []
def m_coresecref16_Get (a0 : S_api_Message) (a1 : Int) : Option ((List UInt8) × Bool) :=
 bnd (m_coresecref16_All a0 a1) fun x2 =>
 letm (((x2.length : Int) == 0)) fun x3 =>
 cond x3 (some ([], false))
  (bnd (idx x2 0) fun x4 =>
 some (x4, true))
def m_coresecref34_Protected (a0 : S_api_Message) : Option Bool :=
 bnd (m_coresecref16_Get a0 9) fun x1 =>
 some x1.2
def m_coresecref16_in (a0 : Int) : Option Bool :=
 bnd (β := Bool) (letm (decide (0 ≤ a0)) fun x1 =>
 cond x1 (letm (decide (a0 ≤ 65535)) fun x2 =>
 some x2)
  (some false)) fun v3 =>
 some v3
def m_coresecref16_NoCacheKey (a0 : Int) : Option Bool :=
 bnd (β := Bool) (bnd (m_coresecref16_in a0) fun x1 =>
 cond x1 (letm ((ibit .and a0 30)) fun x2 =>
 letm ((x2 == 28)) fun x3 =>
 some x3)
  (some false)) fun v4 =>
 some v4
def m_coresecref01_Int (a0 : Int) : Option Go.Gk.Tr :=
 letm (decide (a0 < 0)) fun x1 =>
 cond x1 (letm ((w64 ((-1) - a0))) fun x2 =>
 letm ((toU64 x2)) fun x3 =>
 some (Tr.mk 1 x3 [] []))
  (letm ((toU64 a0)) fun x4 =>
 some (Tr.mk 0 x4 [] []))
def m_coresecref01_Bytes (a0 : (List UInt8)) : Option Go.Gk.Tr :=
 bnd (app [] a0) fun x1 =>
 some (Tr.mk 2 0 x1 [])
def m_coresecref01_IsNaN (a0 : UInt64) : Option Bool :=
 bnd (β := Bool) (bnd ((shrK .u64 (a0 : UInt64) (UInt64.toNat 52 : Int) : Option UInt64)) fun (x1 : UInt64) =>
 letm ((bitK .and .u64 (x1 : UInt64) (2047 : UInt64) : UInt64)) fun x2 =>
 letm (((UInt64.toNat x2 : Int) == (UInt64.toNat 2047 : Int))) fun x3 =>
 cond x3 (letm ((bitK .and .u64 (a0 : UInt64) (4503599627370495 : UInt64) : UInt64)) fun x4 =>
 letm (((UInt64.toNat x4 : Int) != (UInt64.toNat 0 : Int))) fun x5 =>
 some x5)
  (some false)) fun v6 =>
 some v6
def m_coresecref01_Head (a0 : Int) (a1 : UInt64) : Option (List UInt8) :=
 letm ((w64 (32 * a0))) fun x2 =>
 letm ((w64 (x2 + 24))) fun x3 =>
 letm ((toU8 x3)) fun x4 =>
 bndS (ρ := (List UInt8)) (ρ' := (List UInt8)) (Y := ((List UInt8) × Int)) (letm (decide ((UInt64.toNat a1 : Int) < (UInt64.toNat 24 : Int))) fun x5 =>
 cond x5 (letm ((w64 (32 * a0))) fun x6 =>
 letm ((toU8 x6)) fun x7 =>
 letm ((toU8 (UInt64.toNat a1 : Int))) fun x8 =>
 letm ((x7 + x8)) fun x9 =>
 some (.inl [x9]))
  (letm (decide ((UInt64.toNat a1 : Int) < (UInt64.toNat 256 : Int))) fun x10 =>
 cond x10 (some (.inr ([x4], 1)))
  (letm (decide ((UInt64.toNat a1 : Int) < (UInt64.toNat 65536 : Int))) fun x11 =>
 cond x11 (bnd (idx [x4] 0) fun _ =>
 bnd (idx [x4] (((0 : Int)).toNat : Int)) fun x13 =>
 letm ((x13 + 1)) fun x14 =>
 bnd (idx [x4] 0) fun _ =>
 bnd (idx [x4] (((0 : Int)).toNat : Int)) fun _ =>
 letm ([x14]) fun x17 =>
 some (.inr (x17, 2)))
  (letm (decide ((UInt64.toNat a1 : Int) < (UInt64.toNat 4294967296 : Int))) fun x18 =>
 cond x18 (bnd (idx [x4] 0) fun _ =>
 bnd (idx [x4] (((0 : Int)).toNat : Int)) fun x20 =>
 letm ((x20 + 2)) fun x21 =>
 bnd (idx [x4] 0) fun _ =>
 bnd (idx [x4] (((0 : Int)).toNat : Int)) fun _ =>
 letm ([x21]) fun x24 =>
 some (.inr (x24, 4)))
  (bnd (idx [x4] 0) fun _ =>
 bnd (idx [x4] (((0 : Int)).toNat : Int)) fun x26 =>
 letm ((x26 + 3)) fun x27 =>
 bnd (idx [x4] 0) fun _ =>
 bnd (idx [x4] (((0 : Int)).toNat : Int)) fun _ =>
 letm ([x27]) fun x30 =>
 some (.inr (x30, 8))))))) (fun q => q) fun v31 =>
 letm ((w64 (v31.2 - 1))) fun x32 =>
 loopF (R := (List UInt8)) (S := ((List UInt8) × Int)) (fun self34 s33 =>
 letm (decide (0 ≤ s33.2)) fun x35 =>
 cond x35 (letm ((toU64 s33.2)) fun x36 =>
 letm ((8 * x36)) fun x37 =>
 bnd ((shrK .u64 (a1 : UInt64) (UInt64.toNat x37 : Int) : Option UInt64)) fun (x38 : UInt64) =>
 letm ((toU8 (UInt64.toNat x38 : Int))) fun x39 =>
 bnd (app s33.1 [x39]) fun x40 =>
 letm ((w64 (s33.2 - 1))) fun x41 =>
 self34 (x40, x41))
  (some s33.1)) FUEL (v31.1, x32)
def m_coresecref01_Head_o (a0 : Int) (a1 : UInt64) : Option (List UInt8) :=
 letm ((w64 (32 * a0))) fun x2 =>
 letm ((w64 (x2 + 24))) fun x3 =>
 letm ((toU8 x3)) fun x4 =>
 bndS (ρ := (List UInt8)) (ρ' := (List UInt8)) (Y := ((List UInt8) × Int)) (letm (decide ((UInt64.toNat a1 : Int) < (UInt64.toNat 24 : Int))) fun x5 =>
 cond x5 (letm ((w64 (32 * a0))) fun x6 =>
 letm ((toU8 x6)) fun x7 =>
 letm ((toU8 (UInt64.toNat a1 : Int))) fun x8 =>
 letm ((x7 + x8)) fun x9 =>
 some (.inl [x9]))
  (letm (decide ((UInt64.toNat a1 : Int) < (UInt64.toNat 256 : Int))) fun x10 =>
 cond x10 (some (.inr ([x4], 1)))
  (letm (decide ((UInt64.toNat a1 : Int) < (UInt64.toNat 65536 : Int))) fun x11 =>
 cond x11 (bnd (idx [x4] 0) fun _ =>
 bnd (idx [x4] (((0 : Int)).toNat : Int)) fun x13 =>
 letm ((x13 + 1)) fun x14 =>
 bnd (idx [x4] 0) fun _ =>
 bnd (idx [x4] (((0 : Int)).toNat : Int)) fun _ =>
 letm ([x14]) fun x17 =>
 some (.inr (x17, 2)))
  (letm (decide ((UInt64.toNat a1 : Int) < (UInt64.toNat 4294967296 : Int))) fun x18 =>
 cond x18 (bnd (idx [x4] 0) fun _ =>
 bnd (idx [x4] (((0 : Int)).toNat : Int)) fun x20 =>
 letm ((x20 + 2)) fun x21 =>
 bnd (idx [x4] 0) fun _ =>
 bnd (idx [x4] (((0 : Int)).toNat : Int)) fun _ =>
 letm ([x21]) fun x24 =>
 some (.inr (x24, 4)))
  (bnd (idx [x4] 0) fun _ =>
 bnd (idx [x4] (((0 : Int)).toNat : Int)) fun x26 =>
 letm ((x26 + 3)) fun x27 =>
 bnd (idx [x4] 0) fun _ =>
 bnd (idx [x4] (((0 : Int)).toNat : Int)) fun _ =>
 letm ([x27]) fun x30 =>
 some (.inr (x30, 8))))))) (fun q => q) fun v31 =>
 letm ((w64 (v31.2 - 1))) fun x32 =>
 loopF (R := (List UInt8)) (S := ((List UInt8) × Int)) (fun self34 s33 =>
 letm (decide (0 ≤ s33.2)) fun x35 =>
 cond x35 (letm ((toU64 s33.2)) fun x36 =>
 letm ((8 * x36)) fun x37 =>
 bnd ((shrK .u64 (a1 : UInt64) (UInt64.toNat x37 : Int) : Option UInt64)) fun (x38 : UInt64) =>
 letm ((toU8 (UInt64.toNat x38 : Int))) fun x39 =>
 bnd (app s33.1 [x39]) fun x40 =>
 letm ((w64 (s33.2 - 1))) fun x41 =>
 self34 (x40, x41))
  (some s33.1)) FUEL (v31.1, x32)
def m_coresecref01_Narrow (a0 : UInt64) (a1 : Int) (a2 : Int) : Option (UInt64 × Bool) :=
 bnd ((shrK .u64 (a0 : UInt64) (UInt64.toNat 63 : Int) : Option UInt64)) fun (x3 : UInt64) =>
 letm ((w64 (a1 + a2))) fun x4 =>
 letm ((toU64 x4)) fun x5 =>
 bnd ((shlK .u64 (x3 : UInt64) (UInt64.toNat x5 : Int) : Option UInt64)) fun (x6 : UInt64) =>
 bnd ((shrK .u64 (a0 : UInt64) (UInt64.toNat 52 : Int) : Option UInt64)) fun (x7 : UInt64) =>
 letm ((bitK .and .u64 (x7 : UInt64) (2047 : UInt64) : UInt64)) fun x8 =>
 letm ((w64 (UInt64.toNat x8 : Int))) fun x9 =>
 letm ((bitK .and .u64 (a0 : UInt64) (4503599627370495 : UInt64) : UInt64)) fun x10 =>
 letm ((toU64 a1)) fun x11 =>
 bnd (Gk.shl 1 (UInt64.toNat x11 : Int)) fun x12 =>
 letm ((w64 (x12 - 1))) fun x13 =>
 letm ((w64 (a1 - 1))) fun x14 =>
 letm ((toU64 x14)) fun x15 =>
 bnd (Gk.shl 1 (UInt64.toNat x15 : Int)) fun x16 =>
 letm ((w64 (x16 - 1))) fun x17 =>
 letm ((x9 == 2047)) fun x18 =>
 cond x18 (letm ((toU64 x13)) fun x19 =>
 letm ((toU64 a2)) fun x20 =>
 bnd ((shlK .u64 (x19 : UInt64) (UInt64.toNat x20 : Int) : Option UInt64)) fun (x21 : UInt64) =>
 letm ((bitK .or .u64 (x6 : UInt64) (x21 : UInt64) : UInt64)) fun x22 =>
 letm (((UInt64.toNat x10 : Int) == (UInt64.toNat 0 : Int))) fun x23 =>
 some (x22, x23))
  (letm ((x9 == 0)) fun x24 =>
 cond x24 (letm (((UInt64.toNat x10 : Int) == (UInt64.toNat 0 : Int))) fun x25 =>
 some (x6, x25))
  (letm ((w64 (x9 - 1023))) fun x26 =>
 letm ((w64 (x26 + x17))) fun x27 =>
 letm (decide (x13 ≤ x27)) fun x28 =>
 cond x28 (some (0, false))
  (letm (decide (0 < x27)) fun x29 =>
 cond x29 (letm ((toU64 x27)) fun x30 =>
 letm ((toU64 a2)) fun x31 =>
 bnd ((shlK .u64 (x30 : UInt64) (UInt64.toNat x31 : Int) : Option UInt64)) fun (x32 : UInt64) =>
 letm ((bitK .or .u64 (x6 : UInt64) (x32 : UInt64) : UInt64)) fun x33 =>
 letm ((w64 (52 - a2))) fun x34 =>
 letm ((toU64 x34)) fun x35 =>
 bnd ((shrK .u64 (x10 : UInt64) (UInt64.toNat x35 : Int) : Option UInt64)) fun (x36 : UInt64) =>
 letm ((bitK .or .u64 (x33 : UInt64) (x36 : UInt64) : UInt64)) fun x37 =>
 letm ((w64 (52 - a2))) fun x38 =>
 letm ((toU64 x38)) fun x39 =>
 bnd ((shlK .u64 (1 : UInt64) (UInt64.toNat x39 : Int) : Option UInt64)) fun (x40 : UInt64) =>
 letm ((x40 - 1)) fun x41 =>
 letm ((bitK .and .u64 (x10 : UInt64) (x41 : UInt64) : UInt64)) fun x42 =>
 letm (((UInt64.toNat x42 : Int) == (UInt64.toNat 0 : Int))) fun x43 =>
 some (x37, x43))
  (letm ((bitK .or .u64 (x10 : UInt64) (4503599627370496 : UInt64) : UInt64)) fun x44 =>
 letm ((w64 (53 - a2))) fun x45 =>
 letm ((w64 (x45 - x27))) fun x46 =>
 letm (decide (52 < x46)) fun x47 =>
 cond x47 (some (0, false))
  (letm ((toU64 x46)) fun x48 =>
 bnd ((shrK .u64 (x44 : UInt64) (UInt64.toNat x48 : Int) : Option UInt64)) fun (x49 : UInt64) =>
 letm ((bitK .or .u64 (x6 : UInt64) (x49 : UInt64) : UInt64)) fun x50 =>
 letm ((toU64 x46)) fun x51 =>
 bnd ((shlK .u64 (1 : UInt64) (UInt64.toNat x51 : Int) : Option UInt64)) fun (x52 : UInt64) =>
 letm ((x52 - 1)) fun x53 =>
 letm ((bitK .and .u64 (x44 : UInt64) (x53 : UInt64) : UInt64)) fun x54 =>
 letm (((UInt64.toNat x54 : Int) == (UInt64.toNat 0 : Int))) fun x55 =>
 some (x50, x55))))))
def m_coresecref01_float (a0 : UInt64) : Option (List UInt8) :=
 bnd (m_coresecref01_IsNaN a0) fun x1 =>
 cond x1 (some [249, 126, 0])
  (bnd (m_coresecref01_Narrow a0 5 10) fun x2 =>
 cond x2.2 (bnd ((shrK .u64 (x2.1 : UInt64) (UInt64.toNat 8 : Int) : Option UInt64)) fun (x3 : UInt64) =>
 letm ((toU8 (UInt64.toNat x3 : Int))) fun x4 =>
 letm ((toU8 (UInt64.toNat x2.1 : Int))) fun x5 =>
 some [249, x4, x5])
  (bnd (m_coresecref01_Narrow a0 8 23) fun x6 =>
 cond x6.2 (bnd ((shrK .u64 (x6.1 : UInt64) (UInt64.toNat 24 : Int) : Option UInt64)) fun (x7 : UInt64) =>
 letm ((toU8 (UInt64.toNat x7 : Int))) fun x8 =>
 bnd ((shrK .u64 (x6.1 : UInt64) (UInt64.toNat 16 : Int) : Option UInt64)) fun (x9 : UInt64) =>
 letm ((toU8 (UInt64.toNat x9 : Int))) fun x10 =>
 bnd ((shrK .u64 (x6.1 : UInt64) (UInt64.toNat 8 : Int) : Option UInt64)) fun (x11 : UInt64) =>
 letm ((toU8 (UInt64.toNat x11 : Int))) fun x12 =>
 letm ((toU8 (UInt64.toNat x6.1 : Int))) fun x13 =>
 some [250, x8, x10, x12, x13])
  (loopF (R := (List UInt8)) (S := ((List UInt8) × Int)) (fun self15 s14 =>
 letm (decide (0 ≤ s14.2)) fun x16 =>
 cond x16 (letm ((toU64 s14.2)) fun x17 =>
 letm ((8 * x17)) fun x18 =>
 bnd ((shrK .u64 (a0 : UInt64) (UInt64.toNat x18 : Int) : Option UInt64)) fun (x19 : UInt64) =>
 letm ((toU8 (UInt64.toNat x19 : Int))) fun x20 =>
 bnd (app s14.1 [x20]) fun x21 =>
 letm ((w64 (s14.2 - 1))) fun x22 =>
 self15 (x21, x22))
  (some s14.1)) FUEL ([251], 7))))
def b_coresecref01_Raw (m_coresecref01_Raw : (Go.Gk.Tr) → Option (List UInt8)) (a0 : Go.Gk.Tr) : Option (List UInt8) :=
 bndS (ρ := (List UInt8)) (ρ' := (List UInt8)) (Y := (List UInt8)) (bnd (β := Bool) (letm ((a0.k == 0)) fun x1 =>
 cond x1 (some true)
  (letm ((a0.k == 1)) fun x2 =>
 some x2)) fun v3 =>
 cond v3 (bnd (m_coresecref01_Head_o a0.k a0.n) fun x4 =>
 some (.inl x4))
  (bnd (β := Bool) (letm ((a0.k == 2)) fun x5 =>
 cond x5 (some true)
  (letm ((a0.k == 3)) fun x6 =>
 some x6)) fun v7 =>
 cond v7 (letm ((toU64 (a0.b.length : Int))) fun x8 =>
 bnd (m_coresecref01_Head_o a0.k x8) fun x9 =>
 bnd (app x9 a0.b) fun x10 =>
 some (.inl x10))
  (letm ((a0.k == 4)) fun x11 =>
 cond x11 (letm ((toU64 (a0.l.length : Int))) fun x12 =>
 bnd (m_coresecref01_Head_o 4 x12) fun x13 =>
 some (.inr x13))
  (letm ((a0.k == 5)) fun x14 =>
 cond x14 (bnd (quo (a0.l.length : Int) 2) fun x15 =>
 letm ((toU64 x15)) fun x16 =>
 bnd (m_coresecref01_Head_o 5 x16) fun x17 =>
 some (.inr x17))
  (letm ((a0.k == 6)) fun x18 =>
 cond x18 (bnd (m_coresecref01_Head_o 6 a0.n) fun x19 =>
 some (.inr x19))
  (letm ((a0.k == 7)) fun x20 =>
 cond x20 (letm (decide ((UInt64.toNat a0.n : Int) < (UInt64.toNat 24 : Int))) fun x21 =>
 cond x21 (letm ((224 + a0.n)) fun x22 =>
 letm ((toU8 (UInt64.toNat x22 : Int))) fun x23 =>
 some (.inl [x23]))
  (letm ((toU8 (UInt64.toNat a0.n : Int))) fun x24 =>
 some (.inl [248, x24])))
  (bnd (m_coresecref01_float a0.n) fun x25 =>
 some (.inl x25)))))))) (fun q => q) fun v26 =>
 loopL (R := (List UInt8)) (S := (List UInt8)) (α := Go.Gk.Tr) (fun _ s28 =>
 some s28)
  (fun x29 _ s31 self32 =>
 bnd (m_coresecref01_Raw x29) fun x33 =>
 bnd (app s31 x33) fun x34 =>
 self32 x34) a0.l 0 v26
def n_coresecref01_Raw (n : Nat) : (Go.Gk.Tr) → Option (List UInt8) := Nat.rec (motive := fun _ => (Go.Gk.Tr) → Option (List UInt8)) (fun _ => none) (fun _ ih => b_coresecref01_Raw ih) n
def m_coresecref01_Raw (a0 : Go.Gk.Tr) : Option (List UInt8) := n_coresecref01_Raw 40 a0

def b_coresecref01_left (m_coresecref01_left : (Go.Gk.Tr) → (Int) → (Int) → Option Int) (a0 : Go.Gk.Tr) (a1 : Int) (a2 : Int) : Option Int :=
 letm (decide (a1 < 1)) fun x3 =>
 cond x3 (some (-1))
  (letm ((w64 (a1 - 1))) fun x4 =>
 bnd (β := Bool) (letm ((a0.k == 4)) fun x5 =>
 cond x5 (some true)
  (letm ((a0.k == 5)) fun x6 =>
 cond x6 (some true)
  (letm ((a0.k == 6)) fun x7 =>
 some x7))) fun v8 =>
 bnd (β := Bool) (letm ((a0.k == 2)) fun x9 =>
 cond x9 (some true)
  (letm ((a0.k == 3)) fun x10 =>
 some x10)) fun v11 =>
 bnd (β := Bool) (bnd (β := Bool) (letm (decide (a0.k < 0)) fun x12 =>
 cond x12 (some true)
  (letm (decide (8 < a0.k)) fun x13 =>
 some x13)) fun v14 =>
 cond v14 (some true)
  (bnd (β := Bool) (letm (decide (0 < (a0.b.length : Int))) fun x15 =>
 cond x15 (letm ((!v11)) fun x16 =>
 some x16)
  (some false)) fun v17 =>
 cond v17 (some true)
  (bnd (β := Bool) (letm (decide (0 < (a0.l.length : Int))) fun x18 =>
 cond x18 (letm ((!v8)) fun x19 =>
 some x19)
  (some false)) fun v20 =>
 cond v20 (some true)
  (letm (((UInt64.toNat a0.n : Int) != (UInt64.toNat 0 : Int))) fun x21 =>
 cond x21 (cond v11 (some true)
  (letm ((a0.k == 4)) fun x22 =>
 cond x22 (some true)
  (letm ((a0.k == 5)) fun x23 =>
 some x23)))
  (some false))))) fun v24 =>
 cond v24 (some (-1))
  (bnd (β := Bool) (letm (decide (4096 < (a0.b.length : Int))) fun x25 =>
 cond x25 (some true)
  (letm ((a0.k == 3)) fun x26 =>
 cond x26 (bnd (m_unicode_utf8_Valid a0.b) fun x27 =>
 letm ((!x27)) fun x28 =>
 some x28)
  (some false))) fun v29 =>
 cond v29 (some (-1))
  (bnd (β := Bool) (bnd (β := Bool) (letm ((a0.k == 7)) fun x30 =>
 cond x30 (letm (decide ((UInt64.toNat 255 : Int) < (UInt64.toNat a0.n : Int))) fun x31 =>
 cond x31 (some true)
  (letm (decide ((UInt64.toNat 23 : Int) < (UInt64.toNat a0.n : Int))) fun x32 =>
 cond x32 (letm (decide ((UInt64.toNat a0.n : Int) < (UInt64.toNat 32 : Int))) fun x33 =>
 some x33)
  (some false)))
  (some false)) fun v34 =>
 cond v34 (some true)
  (letm ((a0.k == 8)) fun x35 =>
 cond x35 (bnd (m_coresecref01_IsNaN a0.n) fun x36 =>
 cond x36 (letm (((UInt64.toNat a0.n : Int) != (UInt64.toNat 9221120237041090560 : Int))) fun x37 =>
 some x37)
  (some false))
  (some false))) fun v38 =>
 cond v38 (some (-1))
  (bnd (β := Bool) (bnd (β := Bool) (cond v8 (letm (decide (8 ≤ a2)) fun x39 =>
 some x39)
  (some false)) fun v40 =>
 cond v40 (some true)
  (bnd (β := Bool) (letm ((a0.k == 6)) fun x41 =>
 cond x41 (letm (((a0.l.length : Int) != 1)) fun x42 =>
 some x42)
  (some false)) fun v43 =>
 cond v43 (some true)
  (bnd (β := Bool) (letm ((a0.k == 5)) fun x44 =>
 cond x44 (bnd (Gk.rem (a0.l.length : Int) 2) fun x45 =>
 letm ((x45 != 0)) fun x46 =>
 some x46)
  (some false)) fun v47 =>
 cond v47 (some true)
  (letm (decide (x4 < (a0.l.length : Int))) fun x48 =>
 some x48)))) fun v49 =>
 cond v49 (some (-1))
  (bndS (ρ := Int) (ρ' := Int) (Y := Int) (loopL (R := (Int ⊕ Int)) (S := Int) (α := Go.Gk.Tr) (fun _ s51 =>
 some (.inr s51))
  (fun x52 _ s54 self55 =>
 letm ((w64 (a2 + 1))) fun x56 =>
 bnd (m_coresecref01_left x52 s54 x56) fun x57 =>
 letm (decide (x57 < 0)) fun x58 =>
 cond x58 (some (.inl (-1)))
  (self55 x57)) a0.l 0 x4) (fun q => q) fun v59 =>
 loopF (R := Int) (S := Int) (fun self61 s60 =>
 bnd (β := Bool) (letm ((a0.k == 5)) fun x62 =>
 cond x62 (letm (decide (s60 < (a0.l.length : Int))) fun x63 =>
 some x63)
  (some false)) fun v64 =>
 cond v64 (letm ((w64 (s60 - 2))) fun x65 =>
 bnd (idx a0.l x65) fun x66 =>
 bnd (m_coresecref01_Raw x66) fun x67 =>
 bnd (idx a0.l s60) fun x68 =>
 bnd (m_coresecref01_Raw x68) fun x69 =>
 bnd (m_coresecref01_Compare x67 x69) fun x70 =>
 letm (decide (0 ≤ x70)) fun x71 =>
 cond x71 (some (-1))
  (letm ((w64 (s60 + 2))) fun x72 =>
 self61 x72))
  (some v59)) FUEL 2)))))
def n_coresecref01_left (n : Nat) : (Go.Gk.Tr) → (Int) → (Int) → Option Int := Nat.rec (motive := fun _ => (Go.Gk.Tr) → (Int) → (Int) → Option Int) (fun _ _ _ => none) (fun _ ih => b_coresecref01_left ih) n
def m_coresecref01_left (a0 : Go.Gk.Tr) (a1 : Int) (a2 : Int) : Option Int := n_coresecref01_left 40 a0 a1 a2

def m_coresecref01_Valid (a0 : Go.Gk.Tr) : Option Bool :=
 bnd (β := Bool) (bnd (m_coresecref01_left a0 256 0) fun x1 =>
 letm (decide (0 ≤ x1)) fun x2 =>
 cond x2 (bnd (m_coresecref01_Raw a0) fun x3 =>
 letm (decide ((x3.length : Int) ≤ 4096)) fun x4 =>
 some x4)
  (some false)) fun v5 =>
 some v5
def m_coresecref01_Encode (a0 : Go.Gk.Tr) : Option ((List UInt8) × Int) :=
 bnd (m_coresecref01_Valid a0) fun x1 =>
 letm ((!x1)) fun x2 =>
 cond x2 (some ([], 1))
  (bnd (m_coresecref01_Raw a0) fun x3 =>
 some (x3, 0))
def m_coresecref16_CacheKey (a0 : S_api_Message) : Option (List UInt8) :=
 loopL (R := (List UInt8)) (S := (List Go.Gk.Tr)) (α := S_api_Option) (fun _ s2 =>
 bnd (m_coresecref01_Int a0.2.1) fun x3 =>
 bnd (β := (List Go.Gk.Tr)) (letm ((a0.2.1 == 5)) fun x4 =>
 cond x4 (bnd (m_coresecref01_Bytes a0.2.2.2.2.2) fun x5 =>
 bnd (app [x3, (Tr.mk 4 0 [] s2)] [x5]) fun x6 =>
 some x6)
  (some [x3, (Tr.mk 4 0 [] s2)])) fun v7 =>
 bnd (m_coresecref01_Encode (Tr.mk 4 0 [] v7)) fun x8 =>
 letm ((x8.2 != 0)) fun x9 =>
 cond x9 (some [])
  (some x8.1))
  (fun x10 _ s12 self13 =>
 bnd (β := (List Go.Gk.Tr)) (bnd (β := Bool) (bnd (m_coresecref16_NoCacheKey x10.1) fun x14 =>
 letm ((!x14)) fun x15 =>
 cond x15 (letm ((x10.1 != 4)) fun x16 =>
 cond x16 (letm ((x10.1 != 6)) fun x17 =>
 some x17)
  (some false))
  (some false)) fun v18 =>
 cond v18 (bnd (m_coresecref01_Int x10.1) fun x19 =>
 bnd (m_coresecref01_Bytes x10.2) fun x20 =>
 bnd (app s12 [(Tr.mk 4 0 [] [x19, x20])]) fun x21 =>
 some x21)
  (some s12)) fun v22 =>
 self13 v22) a0.2.2.2.2.1 0 []
def m_coresecref20_at (a0 : (List S_api_Cached)) (a1 : (List UInt8)) : Option Int :=
 loopL (R := Int) (S := Unit) (α := S_api_Cached) (fun _ _ =>
 some (-1))
  (fun x4 k5 _ self7 =>
 letm ((x4.1 == a1)) fun x8 =>
 cond x8 (some (k5 : Int))
  (self7 ())) a0 0 ()
def m_coresecref16_FromUint (a0 : Int) : Option (List UInt8) :=
 bnd (β := Bool) (letm (decide (a0 < 0)) fun x1 =>
 cond x1 (some true)
  (letm (decide (4294967295 < a0)) fun x2 =>
 some x2)) fun v3 =>
 cond v3 (some [])
  (bnd (β := (List UInt8)) (loopF (R := (List UInt8)) (S := S_api_Option) (fun self5 s4 =>
 letm (decide (0 < s4.1)) fun x6 =>
 cond x6 (letm ((toU8 s4.1)) fun x7 =>
 bnd (app [x7] s4.2) fun x8 =>
 bnd (Gk.shr s4.1 (UInt64.toNat 8 : Int)) fun x9 =>
 self5 (x9, x8))
  (some s4.2)) FUEL (a0, [])) fun v10 =>
 some v10)
def m_coresecref20_Lookup (a0 : (List S_api_Cached)) (a1 : (List UInt8)) (a2 : Int) : Option (S_api_Message × Bool) :=
 bnd (m_coresecref20_at a0 a1) fun x3 =>
 bnd (β := Bool) (letm (decide (x3 < 0)) fun x4 =>
 cond x4 (some true)
  (bnd (idx a0 x3) fun x5 =>
 letm (decide (a2 < x5.2.2.1)) fun x6 =>
 cond x6 (some true)
  (bnd (idx a0 x3) fun x7 =>
 letm ((w64 (a2 - x7.2.2.1))) fun x8 =>
 bnd (idx a0 x3) fun x9 =>
 letm (decide (x9.2.2.2 ≤ x8)) fun x10 =>
 some x10))) fun v11 =>
 cond v11 (some ((0, (0, (0, ([], ([], []))))), false))
  (bnd (idx a0 x3) fun x12 =>
 bnd (idx a0 x3) fun x13 =>
 bnd (idx a0 x3) fun x14 =>
 letm ((w64 (a2 - x14.2.2.1))) fun x15 =>
 letm ((w64 (x13.2.2.2 - x15))) fun x16 =>
 bnd (m_coresecref16_FromUint x16) fun x17 =>
 bnd (m_coresecref16_Set x12.2.1 14 [x17]) fun x18 =>
 some (x18, true))
def m_coresecref26_Copy (a0 : (List UInt8)) : Option (List UInt8) :=
 bnd (app [] a0) fun x1 =>
 some x1
def m_coresecref34_Copy (a0 : S_api_Proxy) : Option S_api_Proxy :=
 bnd (app [] a0.2.1) fun x1 =>
 bnd (app [] a0.2.2.1) fun x2 =>
 some (a0.1, (x1, (x2, a0.2.2.2)))
def m_coresecref34_Copy_o (a0 : S_api_Proxy) : Option (S_api_Proxy × (List S_api_Hop)) :=
 bnd (app [] a0.2.1) fun x1 =>
 bnd (app [] a0.2.2.1) fun x2 =>
 some ((a0.1, ([], (x2, a0.2.2.2))), x1)
def m_coresecref34_free (a0 : S_api_Proxy) (a1 : Int) : Option Int :=
 loopF (R := Int) (S := Int) (fun self3 s2 =>
 loopL (R := Int) (S := Bool) (α := S_api_Hop) (fun _ s5 =>
 letm ((!s5)) fun x6 =>
 cond x6 (some s2)
  (letm ((w64 (s2 + 1))) fun x7 =>
 bnd (Gk.rem x7 65536) fun x8 =>
 self3 x8))
  (fun x9 _ s11 self12 =>
 cond s11 (self12 true)
  (bnd (idx x9.2.2.1 0) fun x13 =>
 letm ((w64 (UInt8.toNat x13 : Int))) fun x14 =>
 letm ((w64 (x14 * 256))) fun x15 =>
 bnd (idx x9.2.2.1 1) fun x16 =>
 letm ((w64 (UInt8.toNat x16 : Int))) fun x17 =>
 letm ((w64 (x15 + x17))) fun x18 =>
 letm ((x18 == s2)) fun x19 =>
 self12 x19)) a0.2.1 0 false) FUEL a1
def m_coresecref15_Copy (a0 : S_api_Message) : Option S_api_Message :=
 bnd (app [] a0.2.2.2.1) fun x1 =>
 bnd (app [] a0.2.2.2.2.2) fun x2 =>
 loopL (R := S_api_Message) (S := (List S_api_Option)) (α := S_api_Option) (fun _ s4 =>
 some (a0.1, (a0.2.1, (a0.2.2.1, (x1, (s4, x2))))))
  (fun x5 _ s7 self8 =>
 bnd (app [] x5.2) fun x9 =>
 bnd (app s7 [(x5.1, x9)]) fun x10 =>
 self8 x10) a0.2.2.2.2.1 0 []
def m_coresecref16_Uint (a0 : (List UInt8)) : Option S_cbor_checker :=
 loopL (R := S_cbor_checker) (S := Int) (α := UInt8) (fun _ s2 =>
 some (s2, 0))
  (fun x3 _ s5 self6 =>
 bnd (Gk.shl s5 (UInt64.toNat 8 : Int)) fun x7 =>
 letm ((w64 (UInt8.toNat x3 : Int))) fun x8 =>
 letm ((ibit .or x7 x8)) fun x9 =>
 letm (decide (4294967295 < x9)) fun x10 =>
 cond x10 (some (0, 8))
  (self6 x9)) a0 0 0
def m_coresecref18_Parse (a0 : (List UInt8)) : Option (S_api_Block × Int) :=
 letm (decide (3 < (a0.length : Int))) fun x1 =>
 cond x1 (some ((0, (false, 0)), 4))
  (bnd (m_coresecref16_Uint a0) fun x2 =>
 bnd (Gk.rem x2.1 8) fun x3 =>
 letm ((x3 == 7)) fun x4 =>
 cond x4 (some ((0, (false, 0)), 4))
  (bnd (quo x2.1 16) fun x5 =>
 bnd (quo x2.1 8) fun x6 =>
 bnd (Gk.rem x6 2) fun x7 =>
 letm ((x7 == 1)) fun x8 =>
 bnd (Gk.rem x2.1 8) fun x9 =>
 some ((x5, (x8, x9)), 0)))
def m_coresecref33_Sound (a0 : S_api_Message) (a1 : Int) : Option (S_api_Block × (Bool × Bool)) :=
 bnd (m_coresecref16_All a0 a1) fun x2 =>
 letm (((x2.length : Int) == 0)) fun x3 =>
 cond x3 (some ((0, (false, 0)), (false, false)))
  (bnd (idx x2 0) fun x4 =>
 bnd (m_coresecref18_Parse x4) fun x5 =>
 bnd (β := Bool) (letm ((x5.2 != 0)) fun x6 =>
 cond x6 (some true)
  (letm (decide (1 < (x2.length : Int))) fun x7 =>
 some x7)) fun v8 =>
 cond v8 (some ((0, (false, 0)), (true, false)))
  (some (x5.1, (true, true))))
def m_coresecref18_length (a0 : Int) : Option Int :=
 letm ((toU64 a0)) fun x1 =>
 bnd (Gk.shl 16 (UInt64.toNat x1 : Int)) fun x2 =>
 some x2
def m_coresecref18_Blocks (a0 : Int) (a1 : Int) : Option Int :=
 bnd (β := Bool) (letm (decide (a0 < 0)) fun x2 =>
 cond x2 (some true)
  (letm (decide (1073741824 < a0)) fun x3 =>
 cond x3 (some true)
  (letm (decide (a1 < 0)) fun x4 =>
 cond x4 (some true)
  (letm (decide (6 < a1)) fun x5 =>
 some x5)))) fun v6 =>
 cond v6 (some 0)
  (bnd (m_coresecref18_length a1) fun x7 =>
 letm ((w64 (a0 + x7))) fun x8 =>
 letm ((w64 (x8 - 1))) fun x9 =>
 bnd (m_coresecref18_length a1) fun x10 =>
 bnd (quo x9 x10) fun x11 =>
 letm ((max 1 x11)) fun x12 =>
 some x12)
def m_coresecref18_valid (a0 : S_api_Block) : Option Bool :=
 bnd (β := Bool) (letm (decide (0 ≤ a0.1)) fun x1 =>
 cond x1 (letm (decide (a0.1 < 1048576)) fun x2 =>
 cond x2 (letm (decide (0 ≤ a0.2.2)) fun x3 =>
 cond x3 (letm (decide (a0.2.2 ≤ 6)) fun x4 =>
 some x4)
  (some false))
  (some false))
  (some false)) fun v5 =>
 some v5
def m_coresecref18_Cut (a0 : (List UInt8)) (a1 : Int) (a2 : Int) : Option ((List UInt8) × (Bool × Int)) :=
 bnd (m_coresecref18_valid (a1, (false, a2))) fun x3 =>
 letm ((!x3)) fun x4 =>
 cond x4 (some ([], (false, 1)))
  (bnd (m_coresecref18_length a2) fun x5 =>
 letm ((w64 (a1 * x5))) fun x6 =>
 bnd (β := Bool) (letm (decide ((a0.length : Int) ≤ x6)) fun x7 =>
 cond x7 (letm ((w64 (x6 + (a0.length : Int)))) fun x8 =>
 letm (decide (0 < x8)) fun x9 =>
 some x9)
  (some false)) fun v10 =>
 cond v10 (some ([], (false, 10)))
  (bnd (m_coresecref18_length a2) fun x11 =>
 letm ((w64 (x6 + x11))) fun x12 =>
 letm ((min (a0.length : Int) x12)) fun x13 =>
 bnd (Gk.cut a0 x6 x13) fun x14 =>
 bnd (app [] x14) fun x15 =>
 letm (decide (x13 < (a0.length : Int))) fun x16 =>
 some (x15, (x16, 0))))
def m_coresecref18_Value (a0 : S_api_Block) : Option ((List UInt8) × Int) :=
 bnd (m_coresecref18_valid a0) fun x1 =>
 letm ((!x1)) fun x2 =>
 cond x2 (some ([], 1))
  (letm ((w64 (16 * a0.1))) fun x3 =>
 letm ((w64 (x3 + a0.2.2))) fun x4 =>
 bnd (β := Int) (cond a0.2.1 (letm ((w64 (x4 + 8))) fun x5 =>
 some x5)
  (some x4)) fun v6 =>
 bnd (m_coresecref16_FromUint v6) fun x7 =>
 some (x7, 0))
def m_coresecref33_Cut (a0 : S_api_Message) (a1 : Int) (a2 : Int) (a3 : Int) : Option (S_api_Message × Int) :=
 bnd (β := Bool) (letm ((a1 != 27)) fun x4 =>
 cond x4 (letm ((a1 != 23)) fun x5 =>
 some x5)
  (some false)) fun v6 =>
 cond v6 (some ((0, (0, (0, ([], ([], []))))), 1))
  (bnd (m_coresecref33_Sound a0 a1) fun x7 =>
 cond x7.2.1 (some ((0, (0, (0, ([], ([], []))))), 7))
  (bnd (m_coresecref18_Cut a0.2.2.2.2.2 a2 a3) fun x8 =>
 letm ((x8.2.2 != 0)) fun x9 =>
 cond x9 (some ((0, (0, (0, ([], ([], []))))), x8.2.2))
  (bnd (m_coresecref18_Value (a2, (x8.2.1, a3))) fun x10 =>
 bnd (m_coresecref16_Set a0 a1 [x10.1]) fun x11 =>
 some ((x11.1, (x11.2.1, (x11.2.2.1, (x11.2.2.2.1, (x11.2.2.2.2.1, x8.1))))), 0))))
def m_coresecref34_Forward (a0 : S_api_Proxy) (a1 : Int) (a2 : S_api_Message) (a3 : Int) : Option (S_api_Proxy × ((List S_api_Message) × ((List S_relay_Sent) × Int))) :=
 bnd (m_coresecref15_Encode a2) fun x4 =>
 bnd (β := Bool) (bnd (m_coresecref34_Valid a0) fun x5 =>
 letm ((!x5)) fun x6 =>
 cond x6 (some true)
  (letm (decide (a1 < 0)) fun x7 =>
 cond x7 (some true)
  (letm (decide (65536 < a1)) fun x8 =>
 cond x8 (some true)
  (letm (decide (a3 < 0)) fun x9 =>
 cond x9 (some true)
  (letm (decide (1073741824 < a3)) fun x10 =>
 cond x10 (some true)
  (letm ((x4.2 != 0)) fun x11 =>
 cond x11 (some true)
  (letm (decide (a2.2.1 < 1)) fun x12 =>
 cond x12 (some true)
  (letm (decide (31 < a2.2.1)) fun x13 =>
 some x13)))))))) fun v14 =>
 cond v14 (some ((0, ([], ([], 0))), ([], ([], 1))))
  (bnd (m_coresecref16_Get a2 6) fun x15 =>
 bndS (ρ := (S_api_Proxy × ((List S_api_Message) × ((List S_relay_Sent) × Int)))) (ρ' := (S_api_Proxy × ((List S_api_Message) × ((List S_relay_Sent) × Int)))) (Y := S_api_Proxy) (bnd (β := Bool) (bnd (m_coresecref34_Protected a2) fun x16 =>
 letm ((!x16)) fun x17 =>
 cond x17 (letm ((a2.2.1 == 1)) fun x18 =>
 cond x18 (letm ((!x15.2)) fun x19 =>
 some x19)
  (letm ((a2.2.1 == 5)) fun x20 =>
 cond x20 (letm ((!x15.2)) fun x21 =>
 some x21)
  (some false)))
  (some false)) fun v22 =>
 cond v22 (bnd (m_coresecref16_CacheKey a2) fun x23 =>
 bnd (m_coresecref20_Lookup a0.2.2.1 x23 a3) fun x24 =>
 cond x24.2 (bnd (m_coresecref26_Copy a2.2.2.2.1) fun x25 =>
 bnd (m_coresecref34_Copy_o a0) fun x26 =>
 some (.inl ((x26.1.1, (x26.2, x26.1.2.2)), ([], ([(a1, (a2.1, (x24.1.2.1, (a2.2.2.1, (x25, x24.1.2.2.2.2)))))], 0)))))
  (some (.inr ((w64 0), ([], ([], (w64 0)))))))
  (some (.inr ((w64 0), ([], ([], (w64 0))))))) (fun q => q) fun _ =>
 letm (((a0.2.1.length : Int) == 8)) fun x28 =>
 cond x28 (bnd (m_coresecref34_Copy_o a0) fun x29 =>
 bnd (m_coresecref26_Copy a2.2.2.2.1) fun x30 =>
 some ((x29.1.1, (x29.2, x29.1.2.2)), ([], ([(a1, (a2.1, (163, (a2.2.2.1, (x30, ([], []))))))], 0))))
  (bnd (m_coresecref34_free a0 a0.1) fun x31 =>
 bnd (quo x31 256) fun x32 =>
 letm ((toU8 x32)) fun x33 =>
 bnd (Gk.rem x31 256) fun x34 =>
 letm ((toU8 x34)) fun x35 =>
 bnd (m_coresecref26_Copy a2.2.2.2.1) fun x36 =>
 bnd (β := S_api_Hop) (bnd (m_coresecref34_Protected a2) fun x37 =>
 letm ((!x37)) fun x38 =>
 cond x38 (bnd (m_coresecref16_CacheKey a2) fun x39 =>
 some (a1, (x36, ([x33, x35], (x39, x15.2)))))
  (some (a1, (x36, ([x33, x35], ([], x15.2)))))) fun v40 =>
 bnd (m_coresecref34_Copy_o a0) fun x41 =>
 bnd (app x41.2 [v40]) fun x42 =>
 letm ((w64 (x31 + 1))) fun x43 =>
 bnd (Gk.rem x43 65536) fun x44 =>
 bnd (m_coresecref15_Copy a2) fun x45 =>
 bnd (m_coresecref26_Copy [x33, x35]) fun x46 =>
 bnd (m_coresecref33_Sound a2 27) fun x47 =>
 bnd (β := Bool) (letm ((a0.2.2.2 == (-1))) fun x48 =>
 cond x48 (some true)
  (cond x47.2.1 (some true)
  (letm ((toU64 a0.2.2.2)) fun x49 =>
 bnd (Gk.shl 16 (UInt64.toNat x49 : Int)) fun x50 =>
 letm (decide ((a2.2.2.2.2.2.length : Int) ≤ x50)) fun x51 =>
 some x51))) fun v52 =>
 cond v52 (some ((x44, (x42, x41.1.2.2)), ([(1, (x45.2.1, (x31, (x46, x45.2.2.2.2))))], ([], 0))))
  (loopF (R := (S_api_Proxy × ((List S_api_Message) × ((List S_relay_Sent) × Int)))) (S := ((List S_api_Message) × Int)) (fun self54 s53 =>
 bnd (m_coresecref18_Blocks (a2.2.2.2.2.2.length : Int) a0.2.2.2) fun x55 =>
 letm (decide (s53.2 < x55)) fun x56 =>
 cond x56 (bnd (m_coresecref33_Cut (1, (x45.2.1, (x31, (x46, x45.2.2.2.2)))) 27 s53.2 a0.2.2.2) fun x57 =>
 letm ((w64 (x31 + s53.2))) fun x58 =>
 bnd (Gk.rem x58 65536) fun x59 =>
 bnd (app s53.1 [(x57.1.1, (x57.1.2.1, (x59, x57.1.2.2.2)))]) fun x60 =>
 letm ((w64 (s53.2 + 1))) fun x61 =>
 self54 (x60, x61))
  (some ((x44, (x42, x41.1.2.2)), (s53.1, ([], 0))))) FUEL ([], 0))))
def m_coresecmake_Deck_Response (a0 : S_coresecmake_Deck) : Option (S_api_Message × S_coresecmake_Deck) :=
 bnd (m_coresecmake_Deck_Next a0 3) fun x1 =>
 bnd (m_coresecmake_Deck_Next x1.2 5) fun x2 =>
 bnd (idx [69, 69, 69, 132, 68] x2.1) fun x3 =>
 bnd (m_coresecmake_Deck_Next x2.2 99) fun x4 =>
 bnd (m_coresecmake_Deck_Bytes x4.2 2) fun x5 =>
 bnd (m_coresecmake_Deck_Bytes x5.2 6) fun x6 =>
 bnd (β := (S_coresecmake_Deck × S_api_Message)) (bnd (m_coresecmake_Deck_Next x6.2 2) fun x7 =>
 letm ((x7.1 == 0)) fun x8 =>
 cond x8 (bnd (m_coresecmake_Deck_Next x7.2 5) fun x9 =>
 bnd (idx [0, 1, 5, 40, 300] x9.1) fun x10 =>
 bnd (m_coresecref16_FromUint x10) fun x11 =>
 bnd (m_coresecref16_Set (x1.1, (x3, (x4.1, (x5.1, ([], x6.1))))) 14 [x11]) fun x12 =>
 some (x9.2, x12))
  (some (x7.2, (x1.1, (x3, (x4.1, (x5.1, ([], x6.1)))))))) fun v13 =>
 bnd (β := (S_coresecmake_Deck × S_api_Message)) (bnd (m_coresecmake_Deck_Next v13.1 2) fun x14 =>
 letm ((x14.1 == 0)) fun x15 =>
 cond x15 (bnd (m_coresecmake_Deck_Next x14.2 3) fun x16 =>
 letm ((toU8 x16.1)) fun x17 =>
 bnd (m_coresecref16_Set v13.2 4 [[x17]]) fun x18 =>
 some (x16.2, x18))
  (some (x14.2, v13.2))) fun v19 =>
 bnd (β := (S_coresecmake_Deck × S_api_Message)) (bnd (m_coresecmake_Deck_Next v19.1 8) fun x20 =>
 letm ((x20.1 == 0)) fun x21 =>
 cond x21 (bnd (m_coresecref16_Set v19.2 6 [[1]]) fun x22 =>
 some (x20.2, x22))
  (letm ((x20.1 == 1)) fun x23 =>
 cond x23 (bnd (m_coresecmake_Deck_Next x20.2 2) fun x24 =>
 bnd (m_coresecmake_Deck_Next x24.2 2) fun x25 =>
 letm ((x25.1 == 0)) fun x26 =>
 bnd (m_coresecref18_Value (x24.1, (x26, 2))) fun x27 =>
 bnd (m_coresecref16_Set v19.2 23 [x27.1]) fun x28 =>
 some (x25.2, x28))
  (some (x20.2, v19.2)))) fun v29 =>
 some (v29.2, v29.1)
def m_coreseclaw34_answer (a0 : S_coresecmake_Deck) (a1 : S_api_Proxy) : Option (S_api_Message × S_coresecmake_Deck) :=
 bnd (m_coresecmake_Deck_Response a0) fun x2 =>
 bnd (β := (S_coresecmake_Deck × S_api_Message)) (bnd (m_coresecmake_Deck_Next x2.2 4) fun x3 =>
 letm ((x3.1 == 0)) fun x4 =>
 cond x4 (bnd (m_coresecref16_Set x2.1 9 [[]]) fun x5 =>
 some (x3.2, x5))
  (some (x3.2, x2.1))) fun v6 =>
 bnd (m_coresecmake_Deck_Bytes v6.1 2) fun x7 =>
 bnd (β := (S_coresecmake_Deck × S_api_Message)) (letm (decide (0 < (a1.2.1.length : Int))) fun x8 =>
 cond x8 (bnd (m_coresecmake_Deck_Next x7.2 (a1.2.1.length : Int)) fun x9 =>
 bnd (idx a1.2.1 x9.1) fun x10 =>
 bnd (app [] x10.2.2.1) fun x11 =>
 some (x9.2, (v6.2.1, (v6.2.2.1, (v6.2.2.2.1, (x11, v6.2.2.2.2.2))))))
  (some (x7.2, (v6.2.1, (v6.2.2.1, (v6.2.2.2.1, (x7.1, v6.2.2.2.2.2))))))) fun v12 =>
 some (v12.2, v12.1)
def m_coresecref20_MaxAge (a0 : S_api_Message) : Option Int :=
 bnd (m_coresecref16_Get a0 14) fun x1 =>
 letm ((!x1.2)) fun x2 =>
 cond x2 (some 60)
  (letm (decide (4 < (x1.1.length : Int))) fun x3 =>
 cond x3 (some 0)
  (bnd (m_coresecref16_Uint x1.1) fun x4 =>
 some x4.1))
def m_coresecref20_Storable (a0 : S_api_Message) : Option Bool :=
 bnd (β := Bool) (bnd (m_coresecref15_Valid a0) fun x1 =>
 letm ((!x1)) fun x2 =>
 cond x2 (some true)
  (letm ((a0.2.1 != 69)) fun x3 =>
 cond x3 (letm ((a0.2.1 != 132)) fun x4 =>
 cond x4 (some true)
  (bnd (m_coresecref20_MaxAge a0) fun x5 =>
 letm (decide (x5 < 1)) fun x6 =>
 some x6))
  (bnd (m_coresecref20_MaxAge a0) fun x7 =>
 letm (decide (x7 < 1)) fun x8 =>
 some x8))) fun v9 =>
 cond v9 (some false)
  (bnd (m_coresecref16_Get a0 6) fun x10 =>
 cond x10.2 (some false)
  (bnd (m_coresecref16_All a0 23) fun x11 =>
 letm (((x11.length : Int) == 0)) fun x12 =>
 cond x12 (some true)
  (bnd (idx x11 0) fun x13 =>
 bnd (m_coresecref18_Parse x13) fun x14 =>
 bnd (β := Bool) (letm (((x11.length : Int) == 1)) fun x15 =>
 cond x15 (letm ((x14.2 == 0)) fun x16 =>
 cond x16 (letm ((x14.1.1 == 0)) fun x17 =>
 cond x17 (letm ((!x14.1.2.1)) fun x18 =>
 some x18)
  (some false))
  (some false))
  (some false)) fun v19 =>
 some v19)))
def m_coresecref20_Copy (a0 : (List S_api_Cached)) : Option (List S_api_Cached) :=
 loopL (R := (List S_api_Cached)) (S := (List S_api_Cached)) (α := S_api_Cached) (fun _ s2 =>
 some s2)
  (fun x3 _ s5 self6 =>
 bnd (app [] x3.1) fun x7 =>
 bnd (m_coresecref15_Copy x3.2.1) fun x8 =>
 bnd (app s5 [(x7, (x8, x3.2.2))]) fun x9 =>
 self6 x9) a0 0 []
def m_coresecref20_Copy_o (a0 : (List S_api_Cached)) : Option (List S_api_Cached) :=
 loopL (R := (List S_api_Cached)) (S := (List S_api_Cached)) (α := S_api_Cached) (fun _ s2 =>
 some s2)
  (fun x3 _ s5 self6 =>
 bnd (app [] x3.1) fun x7 =>
 bnd (m_coresecref15_Copy x3.2.1) fun x8 =>
 bnd (app s5 [(x7, (x8, x3.2.2))]) fun x9 =>
 self6 x9) a0 0 []
def m_coresecref20_Insert (a0 : (List S_api_Cached)) (a1 : (List UInt8)) (a2 : S_api_Message) (a3 : Int) : Option ((List S_api_Cached) × Int) :=
 bnd (β := Bool) (bnd (m_coresecref20_Valid a0) fun x4 =>
 letm ((!x4)) fun x5 =>
 cond x5 (some true)
  (bnd (m_coresecref20_keyed a1) fun x6 =>
 letm ((!x6)) fun x7 =>
 cond x7 (some true)
  (letm (decide (a3 < 0)) fun x8 =>
 cond x8 (some true)
  (letm (decide (1073741824 < a3)) fun x9 =>
 some x9)))) fun v10 =>
 cond v10 (some ([], 1))
  (bnd (m_coresecref20_Storable a2) fun x11 =>
 letm ((!x11)) fun x12 =>
 cond x12 (some ([], 4))
  (bnd (m_coresecref20_Copy_o a0) fun x13 =>
 bnd (app [] a1) fun x14 =>
 bnd (m_coresecref15_Copy a2) fun x15 =>
 bnd (m_coresecref20_MaxAge a2) fun x16 =>
 bnd (m_coresecref20_at x13 a1) fun x17 =>
 letm (decide (0 ≤ x17)) fun x18 =>
 cond x18 (bnd (idx x13 x17) fun _ =>
 bnd (idx x13 (((x17 : Int)).toNat : Int)) fun _ =>
 letm ((x13.set ((x17 : Int)).toNat (x14, ((0, (x15.2.1, (0, ([], x15.2.2.2.2)))), (a3, x16))))) fun x21 =>
 some (x21, 0))
  (bnd (β := (List S_api_Cached)) (letm (decide (16 ≤ (x13.length : Int))) fun x22 =>
 cond x22 (bnd (rng (x13.length : Int)) fun j39 =>
 loopN (R := (List S_api_Cached)) (S := Int) (fun _ s24 =>
 bnd (Gk.cut x13 0 s24) fun x25 =>
 bnd (app [] x25) fun x26 =>
 letm ((w64 (s24 + 1))) fun x27 =>
 bnd (Gk.cut x13 x27 (x13.length : Int)) fun x28 =>
 bnd (app x26 x28) fun x29 =>
 some x29)
  (fun k30 s31 self32 =>
 bnd (β := Int) (bnd (idx x13 (k30 : Int)) fun _ =>
 bnd (idx x13 ((((k30 : Int) : Int)).toNat : Int)) fun x34 =>
 bnd (idx x13 s31) fun _ =>
 bnd (idx x13 (((s31 : Int)).toNat : Int)) fun x36 =>
 letm (decide (x34.2.2.1 < x36.2.2.1)) fun x37 =>
 cond x37 (some (k30 : Int))
  (some s31)) fun v38 =>
 self32 v38) j39 0 0)
  (some x13)) fun v40 =>
 bnd (app v40 [(x14, ((0, (x15.2.1, (0, ([], x15.2.2.2.2)))), (a3, x16)))]) fun x41 =>
 some (x41, 0))))
def m_coresecref34_Return (a0 : S_api_Proxy) (a1 : S_api_Message) (a2 : Int) : Option (S_api_Proxy × ((List S_relay_Sent) × Int)) :=
 bnd (m_coresecref15_Encode a1) fun x3 =>
 bnd (β := Bool) (bnd (m_coresecref34_Valid a0) fun x4 =>
 letm ((!x4)) fun x5 =>
 cond x5 (some true)
  (letm (decide (a2 < 0)) fun x6 =>
 cond x6 (some true)
  (letm (decide (1073741824 < a2)) fun x7 =>
 cond x7 (some true)
  (letm ((x3.2 != 0)) fun x8 =>
 cond x8 (some true)
  (letm (decide (a1.2.1 < 64)) fun x9 =>
 some x9))))) fun v10 =>
 cond v10 (some ((0, ([], ([], 0))), ([], 1)))
  (loopL (R := (S_api_Proxy × ((List S_relay_Sent) × Int))) (S := Int) (α := S_api_Hop) (fun _ s12 =>
 letm (decide (s12 < 0)) fun x13 =>
 cond x13 (some ((0, ([], ([], 0))), ([], 10)))
  (bnd (m_coresecref34_Copy a0) fun x14 =>
 bnd (idx a0.2.1 s12) fun x15 =>
 letm ((a1.2.1 == 95)) fun x16 =>
 cond x16 (some (x14, ([], 0)))
  (bnd (m_coresecref15_Copy a1) fun x17 =>
 bnd (m_coresecref26_Copy x15.2.1) fun x18 =>
 bnd (β := S_api_Proxy) (bnd (m_coresecref16_Get a1 6) fun x19 =>
 bnd (β := Bool) (letm ((!x15.2.2.2.2)) fun x20 =>
 cond x20 (some true)
  (letm ((!x19.2)) fun x21 =>
 some x21)) fun v22 =>
 cond v22 (bnd (Gk.cut a0.2.1 0 s12) fun x23 =>
 bnd (app [] x23) fun x24 =>
 letm ((w64 (s12 + 1))) fun x25 =>
 bnd (Gk.cut a0.2.1 x25 (a0.2.1.length : Int)) fun x26 =>
 bnd (app x24 x26) fun x27 =>
 some (x14.1, (x27, x14.2.2)))
  (some x14)) fun v28 =>
 bnd (β := S_api_Proxy) (bnd (β := Bool) (letm (decide (0 < (x15.2.2.2.1.length : Int))) fun x29 =>
 cond x29 (bnd (m_coresecref34_Protected a1) fun x30 =>
 letm ((!x30)) fun x31 =>
 cond x31 (bnd (m_coresecref20_Storable a1) fun x32 =>
 some x32)
  (some false))
  (some false)) fun v33 =>
 cond v33 (bnd (m_coresecref20_Insert a0.2.2.1 x15.2.2.2.1 a1 a2) fun x34 =>
 letm ((x34.2 == 0)) fun x35 =>
 cond x35 (some (v28.1, (v28.2.1, (x34.1, v28.2.2.2))))
  (some v28))
  (some v28)) fun v36 =>
 some (v36, ([(x15.1, (1, (x17.2.1, (x17.2.2.1, (x18, x17.2.2.2.2)))))], 0)))))
  (fun x37 k38 s39 self40 =>
 bnd (β := Int) (bnd (m_coresecref26_Equal x37.2.2.1 a1.2.2.2.1) fun x41 =>
 cond x41 (some (k38 : Int))
  (some s39)) fun v42 =>
 self40 v42) a0.2.1 0 (-1))
def m_coreseclaw34_worked (a0 : S_coresecmake_Deck) : Option (S_api_Proxy × (Int × S_coresecmake_Deck)) :=
 bnd (m_coresecmake_Deck_Next a0 3) fun x1 =>
 bnd (idx [0, 65534, 9] x1.1) fun x2 =>
 bnd (m_coresecmake_Deck_Next x1.2 4) fun x3 =>
 letm ((w64 (x3.1 - 1))) fun x4 =>
 bnd (m_coresecmake_Deck_Next x3.2 14) fun x5 =>
 loopF (R := (S_api_Proxy × (Int × S_coresecmake_Deck))) (S := (Int × (Int × (S_coresecmake_Deck × S_api_Proxy)))) (fun self7 s6 =>
 letm (decide (0 < s6.2.1)) fun x8 =>
 cond x8 (bnd (β := (Int × (S_coresecmake_Deck × S_api_Proxy))) (bnd (m_coresecmake_Deck_Next s6.2.2.1 30) fun x9 =>
 letm ((w64 (s6.1 + x9.1))) fun x10 =>
 bnd (β := (Bool × S_coresecmake_Deck)) (bnd (m_coresecmake_Deck_Next x9.2 2) fun x11 =>
 letm ((x11.1 == 0)) fun x12 =>
 cond x12 (some (true, x11.2))
  (letm (((s6.2.2.2.2.1.length : Int) == 0)) fun x13 =>
 some (x13, x11.2))) fun v14 =>
 cond v14.1 (bnd (m_coresecmake_Deck_Next v14.2 4) fun x15 =>
 bnd (m_coreseclaw34_request x15.2) fun x16 =>
 bnd (m_coresecref34_Forward s6.2.2.2 x15.1 x16.1 x10) fun x17 =>
 some (x10, (x16.2, x17.1)))
  (bnd (m_coreseclaw34_answer v14.2 s6.2.2.2) fun x18 =>
 bnd (m_coresecref34_Return s6.2.2.2 x18.1 x10) fun x19 =>
 some (x10, (x18.2, x19.1)))) fun v20 =>
 letm ((w64 (s6.2.1 - 1))) fun x21 =>
 self7 (v20.1, (x21, (v20.2.1, v20.2.2))))
  (some (s6.2.2.2, (s6.1, s6.2.2.1)))) FUEL (1, (x5.1, (x5.2, (x2, ([], ([], x4))))))
def m_relay_Drop (a0 : S_api_Proxy) (a1 : Int) : Option S_api_Proxy :=
 bnd (m_relay_cloned a0) fun x2 =>
 bnd (m_relay_cloned a0) fun x3 =>
 loopL (R := S_api_Proxy) (S := (S_api_Proxy × (List S_api_Hop))) (α := S_api_Hop) (fun _ s5 =>
 some (s5.1.1, (s5.2, s5.1.2.2)))
  (fun x6 _ s8 self9 =>
 bnd (β := (S_api_Proxy × (List S_api_Hop))) (letm ((x6.1 != a1)) fun x10 =>
 cond x10 (bnd (app s8.2 [x6]) fun x11 =>
 some (s8.1, x11))
  (some (s8.1, s8.2))) fun v12 =>
 self9 (v12.1, v12.2)) x3.2.1 0 ((x2.1, ([], x2.2.2)), [])
def m_coresecref34_Drop (a0 : S_api_Proxy) (a1 : Int) : Option S_api_Proxy :=
 bnd (m_coresecref34_Copy a0) fun x2 =>
 loopL (R := S_api_Proxy) (S := (S_api_Proxy × (List S_api_Hop))) (α := S_api_Hop) (fun _ s4 =>
 some (s4.1.1, (s4.2, s4.1.2.2)))
  (fun x5 _ s7 self8 =>
 bnd (β := (S_api_Proxy × (List S_api_Hop))) (letm ((x5.1 != a1)) fun x9 =>
 cond x9 (bnd (app s7.2 [x5]) fun x10 =>
 some (s7.1, x10))
  (some (s7.1, s7.2))) fun v11 =>
 self8 (v11.1, v11.2)) a0.2.1 0 ((x2.1, ([], x2.2.2)), [])
def m_coresecref15_Same (a0 : S_api_Message) (a1 : S_api_Message) : Option Bool :=
 bnd (β := Bool) (letm ((a0.1 != a1.1)) fun x2 =>
 cond x2 (some true)
  (letm ((a0.2.1 != a1.2.1)) fun x3 =>
 cond x3 (some true)
  (letm ((a0.2.2.1 != a1.2.2.1)) fun x4 =>
 cond x4 (some true)
  (letm ((a0.2.2.2.1 != a1.2.2.2.1)) fun x5 =>
 cond x5 (some true)
  (letm ((a0.2.2.2.2.2 != a1.2.2.2.2.2)) fun x6 =>
 cond x6 (some true)
  (letm (((a0.2.2.2.2.1.length : Int) != (a1.2.2.2.2.1.length : Int))) fun x7 =>
 some x7)))))) fun v8 =>
 cond v8 (some false)
  (loopL (R := Bool) (S := Unit) (α := S_api_Option) (fun _ _ =>
 some true)
  (fun x11 k12 _ self14 =>
 bnd (β := Bool) (bnd (idx a1.2.2.2.2.1 (k12 : Int)) fun x15 =>
 letm ((x11.1 != x15.1)) fun x16 =>
 cond x16 (some true)
  (bnd (idx a1.2.2.2.2.1 (k12 : Int)) fun x17 =>
 letm ((x11.2 != x17.2)) fun x18 =>
 some x18)) fun v19 =>
 cond v19 (some false)
  (self14 ())) a0.2.2.2.2.1 0 ())
def m_coresecref20_Same (a0 : (List S_api_Cached)) (a1 : (List S_api_Cached)) : Option Bool :=
 letm (((a0.length : Int) != (a1.length : Int))) fun x2 =>
 cond x2 (some false)
  (loopL (R := Bool) (S := Unit) (α := S_api_Cached) (fun _ _ =>
 some true)
  (fun x5 k6 _ self8 =>
 bnd (β := Bool) (bnd (idx a1 (k6 : Int)) fun x9 =>
 letm ((x5.1 != x9.1)) fun x10 =>
 cond x10 (some true)
  (bnd (idx a1 (k6 : Int)) fun x11 =>
 letm ((x5.2.2.1 != x11.2.2.1)) fun x12 =>
 cond x12 (some true)
  (bnd (idx a1 (k6 : Int)) fun x13 =>
 letm ((x5.2.2.2 != x13.2.2.2)) fun x14 =>
 cond x14 (some true)
  (bnd (idx a1 (k6 : Int)) fun x15 =>
 bnd (m_coresecref15_Same x5.2.1 x15.2.1) fun x16 =>
 letm ((!x16)) fun x17 =>
 some x17)))) fun v18 =>
 cond v18 (some false)
  (self8 ())) a0 0 ())
def m_coresecref34_Same (a0 : S_api_Proxy) (a1 : S_api_Proxy) : Option Bool :=
 bnd (β := Bool) (letm ((a0.1 != a1.1)) fun x2 =>
 cond x2 (some true)
  (letm (((a0.2.1.length : Int) != (a1.2.1.length : Int))) fun x3 =>
 cond x3 (some true)
  (bnd (m_coresecref20_Same a0.2.2.1 a1.2.2.1) fun x4 =>
 letm ((!x4)) fun x5 =>
 cond x5 (some true)
  (letm ((a0.2.2.2 != a1.2.2.2)) fun x6 =>
 some x6)))) fun v7 =>
 cond v7 (some false)
  (loopL (R := Bool) (S := Unit) (α := S_api_Hop) (fun _ _ =>
 some true)
  (fun x10 k11 _ self13 =>
 bnd (idx a1.2.1 (k11 : Int)) fun x14 =>
 bnd (β := Bool) (letm ((x10.1 != x14.1)) fun x15 =>
 cond x15 (some true)
  (bnd (m_coresecref26_Equal x10.2.1 x14.2.1) fun x16 =>
 letm ((!x16)) fun x17 =>
 cond x17 (some true)
  (bnd (m_coresecref26_Equal x10.2.2.1 x14.2.2.1) fun x18 =>
 letm ((!x18)) fun x19 =>
 cond x19 (some true)
  (bnd (m_coresecref26_Equal x10.2.2.2.1 x14.2.2.2.1) fun x20 =>
 letm ((!x20)) fun x21 =>
 cond x21 (some true)
  (letm ((x10.2.2.2.2 != x14.2.2.2.2)) fun x22 =>
 some x22))))) fun v23 =>
 cond v23 (some false)
  (self13 ())) a0.2.1 0 ())
def m_coreseclaw34_sameList (a0 : (List S_api_Message)) (a1 : (List S_api_Message)) : Option Bool :=
 letm (((a0.length : Int) != (a1.length : Int))) fun x2 =>
 cond x2 (some false)
  (bnd (rng (a0.length : Int)) fun j12 =>
 loopN (R := Bool) (S := Unit) (fun _ _ =>
 some true)
  (fun k5 _ self7 =>
 bnd (idx a0 (k5 : Int)) fun x8 =>
 bnd (idx a1 (k5 : Int)) fun x9 =>
 bnd (m_coresecref15_Same x8 x9) fun x10 =>
 letm ((!x10)) fun x11 =>
 cond x11 (some false)
  (self7 ())) j12 0 ())
def m_coreseclaw34_sameSent (a0 : (List S_relay_Sent)) (a1 : (List S_relay_Sent)) : Option Bool :=
 letm (((a0.length : Int) != (a1.length : Int))) fun x2 =>
 cond x2 (some false)
  (bnd (rng (a0.length : Int)) fun j16 =>
 loopN (R := Bool) (S := Unit) (fun _ _ =>
 some true)
  (fun k5 _ self7 =>
 bnd (β := Bool) (bnd (idx a0 (k5 : Int)) fun x8 =>
 bnd (idx a1 (k5 : Int)) fun x9 =>
 letm ((x8.1 != x9.1)) fun x10 =>
 cond x10 (some true)
  (bnd (idx a0 (k5 : Int)) fun x11 =>
 bnd (idx a1 (k5 : Int)) fun x12 =>
 bnd (m_coresecref15_Same x11.2 x12.2) fun x13 =>
 letm ((!x13)) fun x14 =>
 some x14)) fun v15 =>
 cond v15 (some false)
  (self7 ())) j16 0 ())
def m_coreseclaw34_RelayForwards (a0 : S_api_Proxy) (a1 : S_api_Message) (a2 : (List Int)) (a3 : Int) (a4 : Int) : Option Bool :=
 bnd (β := Bool) (bnd (m_coreseclaw34_light a0) fun x5 =>
 letm ((!x5)) fun x6 =>
 cond x6 (some true)
  (bnd (m_coresecmake2_Message a1) fun x7 =>
 letm ((!x7)) fun x8 =>
 some x8)) fun v9 =>
 cond v9 (bnd (m_coreseclaw34_awake ) fun x10 =>
 some x10)
  (bnd (m_coresecmake_New a2) fun x11 =>
 bnd (m_coreseclaw34_worked x11) fun x12 =>
 loopL (R := Bool) (S := S_coresecmake_Deck) (α := S_api_Proxy) (fun _ _ =>
 bnd (m_coreseclaw34_awake ) fun x15 =>
 some x15)
  (fun x16 _ s18 self19 =>
 bnd (β := Bool) (bnd (m_relay_Valid x16) fun x20 =>
 bnd (m_coresecref34_Valid x16) fun x21 =>
 letm ((x20 != x21)) fun x22 =>
 cond x22 (some true)
  (bnd (m_relay_Protected a1) fun x23 =>
 bnd (m_coresecref34_Protected a1) fun x24 =>
 letm ((x23 != x24)) fun x25 =>
 cond x25 (some true)
  (bnd (m_coresecmake_Mod a3 4) fun x26 =>
 bnd (m_relay_Drop x16 x26) fun x27 =>
 bnd (m_coresecmake_Mod a3 4) fun x28 =>
 bnd (m_coresecref34_Drop x16 x28) fun x29 =>
 bnd (m_coresecref34_Same x27 x29) fun x30 =>
 letm ((!x30)) fun x31 =>
 some x31))) fun v32 =>
 cond v32 (some false)
  (bnd (m_coreseclaw34_request s18) fun x33 =>
 bnd (rng ([x33.1, a1].length : Int)) fun j61 =>
 loopN (R := Bool) (S := Unit) (fun _ _ =>
 self19 x33.2)
  (fun k36 _ self38 =>
 bnd (idx [x33.1, a1] (k36 : Int)) fun x39 =>
 bnd (m_coresecmake_Mod a3 4) fun x40 =>
 loopL (R := Bool) (S := Unit) (α := (List Int)) (fun _ _ =>
 self38 ())
  (fun x43 _ _ self46 =>
 bnd (idx x43 0) fun x47 =>
 bnd (idx x43 1) fun x48 =>
 bnd (m_relay_Forward x16 x47 x39 x48) fun x49 =>
 bnd (idx x43 0) fun x50 =>
 bnd (idx x43 1) fun x51 =>
 bnd (m_coresecref34_Forward x16 x50 x39 x51) fun x52 =>
 bnd (β := Bool) (letm ((x49.2.2.2 != x52.2.2.2)) fun x53 =>
 cond x53 (some true)
  (bnd (m_coresecref34_Same x49.1 x52.1) fun x54 =>
 letm ((!x54)) fun x55 =>
 cond x55 (some true)
  (bnd (m_coreseclaw34_sameList x49.2.1 x52.2.1) fun x56 =>
 letm ((!x56)) fun x57 =>
 cond x57 (some true)
  (bnd (m_coreseclaw34_sameSent x49.2.2.1 x52.2.2.1) fun x58 =>
 letm ((!x58)) fun x59 =>
 some x59)))) fun v60 =>
 cond v60 (some false)
  (self46 ())) [[a3, a4], [x40, x12.2.1]] 0 ()) j61 0 ())) [x12.1, a0] 0 x12.2.2)
def m_option_Uint (a0 : (List UInt8)) : Option S_cbor_checker :=
 loopL (R := S_cbor_checker) (S := Int) (α := UInt8) (fun _ s2 =>
 some (s2, 0))
  (fun x3 _ s5 self6 =>
 bnd (Gk.shl s5 (UInt64.toNat 8 : Int)) fun x7 =>
 letm ((w64 (UInt8.toNat x3 : Int))) fun x8 =>
 letm ((ibit .or x7 x8)) fun x9 =>
 letm (decide (4294967295 < x9)) fun x10 =>
 cond x10 (some (0, 8))
  (self6 x9)) a0 0 0
def m_cache_MaxAge (a0 : S_api_Message) : Option Int :=
 bnd (m_option_Get a0 14) fun x1 =>
 letm ((!x1.2)) fun x2 =>
 cond x2 (some 60)
  (letm (decide (4 < (x1.1.length : Int))) fun x3 =>
 cond x3 (some 0)
  (bnd (m_option_Uint x1.1) fun x4 =>
 some x4.1))
def m_block_Parse (a0 : (List UInt8)) : Option (S_api_Block × Int) :=
 bnd (m_option_Uint a0) fun x1 =>
 bnd (β := Bool) (letm (decide (3 < (a0.length : Int))) fun x2 =>
 cond x2 (some true)
  (letm ((x1.2 != 0)) fun x3 =>
 cond x3 (some true)
  (letm ((ibit .and x1.1 7)) fun x4 =>
 letm ((x4 == 7)) fun x5 =>
 some x5))) fun v6 =>
 cond v6 (some ((0, (false, 0)), 4))
  (bnd (Gk.shr x1.1 (UInt64.toNat 4 : Int)) fun x7 =>
 letm ((ibit .and x1.1 8)) fun x8 =>
 letm ((x8 == 8)) fun x9 =>
 letm ((ibit .and x1.1 7)) fun x10 =>
 some ((x7, (x9, x10)), 0))
def m_cache_Storable (a0 : S_api_Message) : Option Bool :=
 bnd (β := Bool) (bnd (m_coap_Valid a0) fun x1 =>
 letm ((!x1)) fun x2 =>
 cond x2 (some true)
  (letm ((a0.2.1 != 69)) fun x3 =>
 cond x3 (letm ((a0.2.1 != 132)) fun x4 =>
 cond x4 (some true)
  (bnd (m_cache_MaxAge a0) fun x5 =>
 letm ((x5 == 0)) fun x6 =>
 some x6))
  (bnd (m_cache_MaxAge a0) fun x7 =>
 letm ((x7 == 0)) fun x8 =>
 some x8))) fun v9 =>
 cond v9 (some false)
  (bnd (m_option_Get a0 6) fun x10 =>
 cond x10.2 (some false)
  (bnd (m_option_All a0 23) fun x11 =>
 letm (((x11.length : Int) == 0)) fun x12 =>
 cond x12 (some true)
  (bnd (idx x11 0) fun x13 =>
 bnd (m_block_Parse x13) fun x14 =>
 bnd (β := Bool) (letm (((x11.length : Int) == 1)) fun x15 =>
 cond x15 (letm ((x14.2 == 0)) fun x16 =>
 cond x16 (letm ((x14.1.1 == 0)) fun x17 =>
 cond x17 (letm ((!x14.1.2.1)) fun x18 =>
 some x18)
  (some false))
  (some false))
  (some false)) fun v19 =>
 some v19)))
def m_cache_argument (a0 : (List S_api_Cached)) (a1 : (List UInt8)) (a2 : Int) : Option Int :=
 bnd (β := Bool) (bnd (m_cache_Valid a0) fun x3 =>
 letm ((!x3)) fun x4 =>
 cond x4 (some true)
  (bnd (m_cache_keyed a1) fun x5 =>
 letm ((!x5)) fun x6 =>
 cond x6 (some true)
  (letm (decide (a2 < 0)) fun x7 =>
 cond x7 (some true)
  (letm (decide (1073741824 < a2)) fun x8 =>
 some x8)))) fun v9 =>
 cond v9 (some 1)
  (some 0)
def m_cache_element (a0 : S_api_Cached) : Option S_api_Cached :=
 bnd (m_bytes_Clone a0.1) fun x1 =>
 bnd (m_bytes_Clone a0.2.1.2.2.2.2.2) fun x2 =>
 loopL (R := S_api_Cached) (S := (S_api_Message × (List S_api_Option))) (α := S_api_Option) (fun _ s4 =>
 some (x1, ((s4.1.1, (s4.1.2.1, (s4.1.2.2.1, (s4.1.2.2.2.1, (s4.2, s4.1.2.2.2.2.2))))), a0.2.2)))
  (fun x5 _ s7 self8 =>
 bnd (m_bytes_Clone x5.2) fun x9 =>
 bnd (app s7.2 [(x5.1, x9)]) fun x10 =>
 self8 (s7.1, x10)) a0.2.1.2.2.2.2.1 0 ((a0.2.1.1, (a0.2.1.2.1, (a0.2.1.2.2.1, ([], ([], x2))))), [])
def m_cache_all (a0 : (List S_api_Cached)) : Option (List S_api_Cached) :=
 loopL (R := (List S_api_Cached)) (S := (List S_api_Cached)) (α := S_api_Cached) (fun _ s2 =>
 some s2)
  (fun x3 _ s5 self6 =>
 bnd (m_cache_element x3) fun x7 =>
 bnd (app s5 [x7]) fun x8 =>
 self6 x8) a0 0 []
def m_cache_all_o (a0 : (List S_api_Cached)) : Option (List S_api_Cached) :=
 loopL (R := (List S_api_Cached)) (S := (List S_api_Cached)) (α := S_api_Cached) (fun _ s2 =>
 some s2)
  (fun x3 _ s5 self6 =>
 bnd (m_cache_element x3) fun x7 =>
 bnd (app s5 [x7]) fun x8 =>
 self6 x8) a0 0 []
def m_cache_oldest (a0 : (List S_api_Cached)) : Option Int :=
 loopL (R := Int) (S := Int) (α := S_api_Cached) (fun _ s2 =>
 some s2)
  (fun x3 k4 s5 self6 =>
 bnd (β := Int) (bnd (idx a0 s5) fun x7 =>
 letm (decide (x3.2.2.1 < x7.2.2.1)) fun x8 =>
 cond x8 (some (k4 : Int))
  (some s5)) fun v9 =>
 self6 v9) a0 0 0
def m_cache_Insert (a0 : (List S_api_Cached)) (a1 : (List UInt8)) (a2 : S_api_Message) (a3 : Int) : Option ((List S_api_Cached) × Int) :=
 bnd (m_cache_argument a0 a1 a3) fun x4 =>
 letm ((x4 != 0)) fun x5 =>
 cond x5 (some ([], x4))
  (bnd (m_cache_Storable a2) fun x6 =>
 letm ((!x6)) fun x7 =>
 cond x7 (some ([], 4))
  (bnd (m_cache_MaxAge a2) fun x8 =>
 bnd (m_cache_element (a1, ((0, (a2.2.1, (0, ([], a2.2.2.2.2)))), (a3, x8)))) fun x9 =>
 bnd (m_cache_all_o a0) fun x10 =>
 bnd (m_cache_find x10 a1) fun x11 =>
 letm (decide (0 ≤ x11)) fun x12 =>
 cond x12 (bnd (idx x10 x11) fun _ =>
 bnd (idx x10 (((x11 : Int)).toNat : Int)) fun _ =>
 letm ((x10.set ((x11 : Int)).toNat x9)) fun x15 =>
 some (x15, 0))
  (bnd (β := (List S_api_Cached)) (letm (decide (16 ≤ (x10.length : Int))) fun x16 =>
 cond x16 (bnd (m_cache_oldest x10) fun x17 =>
 bnd (Gk.cut x10 0 x17) fun x18 =>
 letm ((w64 (x17 + 1))) fun x19 =>
 bnd (Gk.cut x10 x19 (x10.length : Int)) fun x20 =>
 bnd (app x18 x20) fun x21 =>
 some x21)
  (some x10)) fun v22 =>
 bnd (app v22 [x9]) fun x23 =>
 some (x23, 0))))
def m_relay_Return (a0 : S_api_Proxy) (a1 : S_api_Message) (a2 : Int) : Option (S_api_Proxy × ((List S_relay_Sent) × Int)) :=
 bnd (m_coap_Encode a1) fun x3 =>
 bnd (β := Bool) (bnd (m_relay_Valid a0) fun x4 =>
 letm ((!x4)) fun x5 =>
 cond x5 (some true)
  (bnd (m_relay_time a2) fun x6 =>
 letm ((!x6)) fun x7 =>
 cond x7 (some true)
  (letm ((x3.2 != 0)) fun x8 =>
 cond x8 (some true)
  (letm (decide (a1.2.1 < 64)) fun x9 =>
 some x9)))) fun v10 =>
 cond v10 (some ((0, ([], ([], 0))), ([], 1)))
  (bnd (m_relay_find a0.2.1 a1.2.2.2.1) fun x11 =>
 letm (decide (x11 < 0)) fun x12 =>
 cond x12 (some ((0, ([], ([], 0))), ([], 10)))
  (bnd (m_relay_cloned_o a0) fun x13 =>
 letm ((a1.2.1 == 95)) fun x14 =>
 cond x14 (some ((x13.1.1, (x13.2, x13.1.2.2)), ([], 0)))
  (bnd (idx a0.2.1 x11) fun x15 =>
 bnd (m_relay_message a1) fun x16 =>
 bnd (m_relay_copied x15.2.1) fun x17 =>
 bnd (β := (S_api_Proxy × (List S_api_Hop))) (bnd (β := Bool) (letm ((!x15.2.2.2.2)) fun x18 =>
 cond x18 (some true)
  (bnd (m_relay_has a1 6) fun x19 =>
 letm ((!x19)) fun x20 =>
 some x20)) fun v21 =>
 cond v21 (bnd (Gk.cut x13.2 0 x11) fun x22 =>
 letm ((w64 (x11 + 1))) fun x23 =>
 bnd (Gk.cut x13.2 x23 (x13.2.length : Int)) fun x24 =>
 bnd (app x22 x24) fun x25 =>
 some (x13.1, x25))
  (some (x13.1, x13.2))) fun v26 =>
 bnd (β := (S_api_Proxy × (List S_api_Hop))) (bnd (β := Bool) (letm (decide (0 < (x15.2.2.2.1.length : Int))) fun x27 =>
 cond x27 (bnd (m_relay_Protected a1) fun x28 =>
 letm ((!x28)) fun x29 =>
 cond x29 (bnd (m_cache_Storable a1) fun x30 =>
 some x30)
  (some false))
  (some false)) fun v31 =>
 cond v31 (bnd (m_cache_Insert v26.1.2.2.1 x15.2.2.2.1 a1 a2) fun x32 =>
 letm ((x32.2 == 0)) fun x33 =>
 cond x33 (some ((v26.1.1, (v26.1.2.1, (x32.1, v26.1.2.2.2))), v26.2))
  (some (v26.1, v26.2)))
  (some (v26.1, v26.2))) fun v34 =>
 some ((v34.1.1, (v34.2, v34.1.2.2)), ([(x15.1, (1, (x16.2.1, (x16.2.2.1, (x17, x16.2.2.2.2)))))], 0)))))
def m_coreseclaw34_RelayReturns (a0 : S_api_Proxy) (a1 : S_api_Message) (a2 : (List Int)) (a3 : Int) : Option Bool :=
 bnd (β := Bool) (bnd (m_coreseclaw34_light a0) fun x4 =>
 letm ((!x4)) fun x5 =>
 cond x5 (some true)
  (bnd (m_coresecmake2_Message a1) fun x6 =>
 letm ((!x6)) fun x7 =>
 some x7)) fun v8 =>
 cond v8 (bnd (m_coreseclaw34_awake ) fun x9 =>
 some x9)
  (bnd (m_coresecmake_New a2) fun x10 =>
 bnd (m_coreseclaw34_worked x10) fun x11 =>
 loopL (R := Bool) (S := S_coresecmake_Deck) (α := S_api_Proxy) (fun _ _ =>
 bnd (m_coreseclaw34_awake ) fun x14 =>
 some x14)
  (fun x15 _ s17 self18 =>
 bnd (m_coreseclaw34_answer s17 x11.1) fun x19 =>
 bnd (m_coreseclaw34_answer x19.2 x11.1) fun x20 =>
 bnd (rng ([x19.1, x20.1, a1].length : Int)) fun j41 =>
 loopN (R := Bool) (S := Unit) (fun _ _ =>
 self18 x20.2)
  (fun k23 _ self25 =>
 bnd (idx [x19.1, x20.1, a1] (k23 : Int)) fun x26 =>
 loopL (R := Bool) (S := Unit) (α := Int) (fun _ _ =>
 self25 ())
  (fun x29 _ _ self32 =>
 bnd (m_relay_Return x15 x26 x29) fun x33 =>
 bnd (m_coresecref34_Return x15 x26 x29) fun x34 =>
 bnd (β := Bool) (letm ((x33.2.2 != x34.2.2)) fun x35 =>
 cond x35 (some true)
  (bnd (m_coresecref34_Same x33.1 x34.1) fun x36 =>
 letm ((!x36)) fun x37 =>
 cond x37 (some true)
  (bnd (m_coreseclaw34_sameSent x33.2.1 x34.2.1) fun x38 =>
 letm ((!x38)) fun x39 =>
 some x39))) fun v40 =>
 cond v40 (some false)
  (self32 ())) [a3, x11.2.1] 0 ()) j41 0 ()) [x11.1, a0] 0 x11.2.2)
def m_coreseclaw34_RelayBlind (a0 : (List Int)) (a1 : Int) : Option Bool :=
 bnd (m_coresecmake_New a0) fun x2 =>
 bnd (m_coreseclaw34_worked x2) fun x3 =>
 bnd (m_coresecref34_Valid x3.1) fun x4 =>
 letm ((!x4)) fun x5 =>
 cond x5 (bnd (m_coreseclaw34_awake ) fun x6 =>
 some x6)
  (bnd (m_coresecmake_Mod a1 3) fun x7 =>
 letm ((w64 (x7 - 1))) fun x8 =>
 bnd (m_coreseclaw34_request x3.2.2) fun x9 =>
 bnd (m_coresecref16_Set x9.1 9 [[9, 1]]) fun x10 =>
 bnd (m_relay_Forward (x3.1.1, (x3.1.2.1, (x3.1.2.2.1, x8))) 1 x10 x3.2.1) fun x11 =>
 letm ((x11.2.2.2 != 0)) fun x12 =>
 cond x12 (some false)
  (letm (decide (0 < (x11.2.2.1.length : Int))) fun x13 =>
 cond x13 (bnd (β := Bool) (letm (((x11.2.1.length : Int) == 0)) fun x14 =>
 cond x14 (letm (((x11.2.2.1.length : Int) == 1)) fun x15 =>
 cond x15 (bnd (idx x11.2.2.1 0) fun x16 =>
 letm ((x16.2.2.1 == 163)) fun x17 =>
 cond x17 (letm (((x3.1.2.1.length : Int) == 8)) fun x18 =>
 some x18)
  (some false))
  (some false))
  (some false)) fun v19 =>
 some v19)
  (letm (((x11.2.1.length : Int) == 0)) fun x20 =>
 cond x20 (some false)
  (loopL (R := Bool) (S := (List UInt8)) (α := S_api_Message) (fun _ s22 =>
 bnd (m_coresecmake_Deck_Response x9.2) fun x23 =>
 bnd (m_coresecref16_Set x23.1 9 [[]]) fun x24 =>
 bnd (idx x11.2.1 0) fun x25 =>
 bnd (m_relay_Return x11.1 (x24.1, (x24.2.1, (x24.2.2.1, (x25.2.2.2.1, x24.2.2.2.2)))) x3.2.1) fun x26 =>
 bnd (β := Bool) (letm ((x26.2.2 == 0)) fun x27 =>
 cond x27 (bnd (m_coresecref26_Equal s22 x10.2.2.2.2.2) fun x28 =>
 cond x28 (letm (((x26.1.2.2.1.length : Int) == (x3.1.2.2.1.length : Int))) fun x29 =>
 cond x29 (bnd (m_coreseclaw34_awake ) fun x30 =>
 some x30)
  (some false))
  (some false))
  (some false)) fun v31 =>
 some v31)
  (fun x32 _ s34 self35 =>
 bnd (app s34 x32.2.2.2.2.2) fun x36 =>
 self35 x36) x11.2.1 0 []))))
end
end Go.Proofs.YtcbkmlfkfhfliaaGreatDoor
