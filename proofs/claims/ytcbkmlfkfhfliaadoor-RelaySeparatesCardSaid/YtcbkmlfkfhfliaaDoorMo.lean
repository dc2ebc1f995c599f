/-
  Models of the functions, as the evaluator computes them. No condition.
-/
import Derived.Test.YtcbkmlfkfhfliaaDoorEv
namespace Go.Proofs.YtcbkmlfkfhfliaaDoor
open Go.Gk Go.RowKit
noncomputable section
set_option maxRecDepth 100000
def m_coresecmake_New (a0 : (List Int)) : Option S_coresecmake_Deck :=
 some (a0, 0)
def m_coresecmake_Mod (a0 : Int) (a1 : Int) : Option Int :=
 bnd (Gk.rem a0 a1) fun x2 =>
 bnd (β := Int) (letm (decide (x2 < 0)) fun x3 =>
 cond x3 (letm ((w64 (x2 + a1))) fun x4 =>
 some x4)
  (some x2)) fun v5 =>
 some v5
def m_coresecmake_Deck_Next (a0 : S_coresecmake_Deck) (a1 : Int) : Option (Int × S_coresecmake_Deck) :=
 letm (decide ((a0.1.length : Int) ≤ a0.2)) fun x2 =>
 cond x2 (some (0, a0))
  (letm ((w64 (a0.2 + 1))) fun x3 =>
 letm ((w64 (x3 - 1))) fun x4 =>
 bnd (idx a0.1 x4) fun x5 =>
 bnd (m_coresecmake_Mod x5 a1) fun x6 =>
 some (x6, (a0.1, x3)))
def m_coresecref16_with (a0 : S_api_Message) (a1 : (List S_api_Option)) : Option S_api_Message :=
 bnd (app [] a0.2.2.2.1) fun x2 =>
 bnd (app [] a0.2.2.2.2.2) fun x3 =>
 loopL (R := S_api_Message) (S := (List S_api_Option)) (α := S_api_Option) (fun _ s5 =>
 some (a0.1, (a0.2.1, (a0.2.2.1, (x2, (s5, x3))))))
  (fun x6 _ s8 self9 =>
 bnd (app [] x6.2) fun x10 =>
 bnd (app s8 [(x6.1, x10)]) fun x11 =>
 self9 x11) a1 0 []
def m_coresecref16_Set (a0 : S_api_Message) (a1 : Int) (a2 : (List (List UInt8))) : Option S_api_Message :=
 loopL (R := S_api_Message) (S := (List S_api_Option)) (α := S_api_Option) (fun _ s4 =>
 loopL (R := S_api_Message) (S := (List S_api_Option)) (α := (List UInt8)) (fun _ s6 =>
 loopL (R := S_api_Message) (S := (List S_api_Option)) (α := S_api_Option) (fun _ s8 =>
 bnd (m_coresecref16_with a0 s8) fun x9 =>
 some x9)
  (fun x10 _ s12 self13 =>
 bnd (β := (List S_api_Option)) (letm (decide (a1 < x10.1)) fun x14 =>
 cond x14 (bnd (app s12 [x10]) fun x15 =>
 some x15)
  (some s12)) fun v16 =>
 self13 v16) a0.2.2.2.2.1 0 s6)
  (fun x17 _ s19 self20 =>
 bnd (app s19 [(a1, x17)]) fun x21 =>
 self20 x21) a2 0 s4)
  (fun x22 _ s24 self25 =>
 bnd (β := (List S_api_Option)) (letm (decide (x22.1 < a1)) fun x26 =>
 cond x26 (bnd (app s24 [x22]) fun x27 =>
 some x27)
  (some s24)) fun v28 =>
 self25 v28) a0.2.2.2.2.1 0 []
def m_coap_sound (a0 : S_api_Message) : Option Bool :=
 bnd (Gk.shr a0.2.1 (UInt64.toNat 5 : Int)) fun x1 =>
 bnd (β := Bool) (letm (decide (a0.1 < 0)) fun x2 =>
 cond x2 (some true)
  (letm (decide (3 < a0.1)) fun x3 =>
 cond x3 (some true)
  (letm (decide (a0.2.1 < 0)) fun x4 =>
 cond x4 (some true)
  (letm (decide (255 < a0.2.1)) fun x5 =>
 cond x5 (some true)
  (letm ((x1 != 0)) fun x6 =>
 cond x6 (letm ((x1 != 2)) fun x7 =>
 cond x7 (letm ((x1 != 4)) fun x8 =>
 cond x8 (letm ((x1 != 5)) fun x9 =>
 some x9)
  (some false))
  (some false))
  (some false)))))) fun v10 =>
 cond v10 (some false)
  (bnd (β := Bool) (letm (decide (a0.2.2.1 < 0)) fun x11 =>
 cond x11 (some true)
  (letm (decide (65535 < a0.2.2.1)) fun x12 =>
 cond x12 (some true)
  (letm (decide (8 < (a0.2.2.2.1.length : Int))) fun x13 =>
 cond x13 (some true)
  (letm (decide (32 < (a0.2.2.2.2.1.length : Int))) fun x14 =>
 some x14)))) fun v15 =>
 cond v15 (some false)
  (loopL (R := Bool) (S := Int) (α := S_api_Option) (fun _ _ =>
 bnd (β := Bool) (letm ((a0.2.1 == 0)) fun x18 =>
 cond x18 (letm ((w64 ((a0.2.2.2.1.length : Int) + (a0.2.2.2.2.1.length : Int)))) fun x19 =>
 letm ((w64 (x19 + (a0.2.2.2.2.2.length : Int)))) fun x20 =>
 letm (decide (0 < x20)) fun x21 =>
 some x21)
  (some false)) fun v22 =>
 cond v22 (some false)
  (bnd (β := Bool) (letm ((a0.1 != 3)) fun x23 =>
 cond x23 (letm (decide ((a0.2.2.2.2.2.length : Int) ≤ 4096)) fun x24 =>
 some x24)
  (letm ((a0.2.1 == 0)) fun x25 =>
 cond x25 (letm (decide ((a0.2.2.2.2.2.length : Int) ≤ 4096)) fun x26 =>
 some x26)
  (some false))) fun v27 =>
 some v27))
  (fun x28 _ s30 self31 =>
 bnd (β := Bool) (letm (decide (x28.1 < s30)) fun x32 =>
 cond x32 (some true)
  (letm (decide (65535 < x28.1)) fun x33 =>
 cond x33 (some true)
  (letm (decide (1034 < (x28.2.length : Int))) fun x34 =>
 some x34))) fun v35 =>
 cond v35 (some false)
  (self31 x28.1)) a0.2.2.2.2.1 0 0))
def m_coap_parts (a0 : Int) : Option (UInt8 × (List UInt8)) :=
 letm (decide (a0 < 13)) fun x1 =>
 cond x1 (letm ((toU8 a0)) fun x2 =>
 some (x2, []))
  (letm (decide (a0 < 269)) fun x3 =>
 cond x3 (letm ((w64 (a0 - 13))) fun x4 =>
 letm ((toU8 x4)) fun x5 =>
 some (13, [x5]))
  (letm ((w64 (a0 - 269))) fun x6 =>
 bnd (Gk.shr x6 (UInt64.toNat 8 : Int)) fun x7 =>
 letm ((toU8 x7)) fun x8 =>
 letm ((w64 (a0 - 269))) fun x9 =>
 letm ((toU8 x9)) fun x10 =>
 some (14, [x8, x10])))
def m_coap_encode (a0 : S_api_Message) : Option (List UInt8) :=
 bnd (Gk.shl a0.1 (UInt64.toNat 4 : Int)) fun x1 =>
 letm ((ibit .or 64 x1)) fun x2 =>
 letm ((ibit .or x2 (a0.2.2.2.1.length : Int))) fun x3 =>
 letm ((toU8 x3)) fun x4 =>
 letm ((toU8 a0.2.1)) fun x5 =>
 bnd (Gk.shr a0.2.2.1 (UInt64.toNat 8 : Int)) fun x6 =>
 letm ((toU8 x6)) fun x7 =>
 letm ((toU8 a0.2.2.1)) fun x8 =>
 bnd (app [x4, x5, x7, x8] a0.2.2.2.1) fun x9 =>
 loopL (R := (List UInt8)) (S := ((List UInt8) × Int)) (α := S_api_Option) (fun _ s11 =>
 bnd (β := (List UInt8)) (letm (decide (0 < (a0.2.2.2.2.2.length : Int))) fun x12 =>
 cond x12 (bnd (app s11.1 [255]) fun x13 =>
 bnd (app x13 a0.2.2.2.2.2) fun x14 =>
 some x14)
  (some s11.1)) fun v15 =>
 some v15)
  (fun x16 _ s18 self19 =>
 letm ((w64 (x16.1 - s18.2))) fun x20 =>
 bnd (m_coap_parts x20) fun x21 =>
 bnd (m_coap_parts (x16.2.length : Int)) fun x22 =>
 bnd (shlK .u8 x21.1 (UInt64.toNat 4 : Int)) fun x23 =>
 letm ((toU8 (bits .or .u8 (UInt8.toNat x23) (UInt8.toNat x22.1)))) fun x24 =>
 bnd (app s18.1 [x24]) fun x25 =>
 bnd (app x25 x21.2) fun x26 =>
 bnd (app x26 x22.2) fun x27 =>
 bnd (app x27 x16.2) fun x28 =>
 self19 (x28, x16.1)) a0.2.2.2.2.1 0 (x9, 0)
def m_coap_Encode (a0 : S_api_Message) : Option ((List UInt8) × Int) :=
 bnd (m_coap_sound a0) fun x1 =>
 letm ((!x1)) fun x2 =>
 cond x2 (some ([], 1))
  (bnd (m_coap_encode a0) fun x3 =>
 letm (decide (4096 < (x3.length : Int))) fun x4 =>
 cond x4 (some ([], 1))
  (some (x3, 0)))
def m_cache_keyed (a0 : (List UInt8)) : Option Bool :=
 bnd (β := Bool) (letm (decide (1 ≤ (a0.length : Int))) fun x1 =>
 cond x1 (letm (decide ((a0.length : Int) ≤ 4096)) fun x2 =>
 some x2)
  (some false)) fun v3 =>
 some v3
def m_bytes_Equal (a0 : (List UInt8)) (a1 : (List UInt8)) : Option Bool :=
 letm ((a0 == a1)) fun x2 =>
 some x2
def m_cache_find (a0 : (List S_api_Cached)) (a1 : (List UInt8)) : Option Int :=
 loopL (R := Int) (S := Unit) (α := S_api_Cached) (fun _ _ =>
 some (-1))
  (fun x4 k5 _ self7 =>
 bnd (m_bytes_Equal x4.1 a1) fun x8 =>
 cond x8 (some (k5 : Int))
  (self7 ())) a0 0 ()
def m_coap_Valid (a0 : S_api_Message) : Option Bool :=
 bnd (β := Bool) (bnd (m_coap_sound a0) fun x1 =>
 cond x1 (bnd (m_coap_encode a0) fun x2 =>
 letm (decide ((x2.length : Int) ≤ 4096)) fun x3 =>
 some x3)
  (some false)) fun v4 =>
 some v4
def m_cache_bare (a0 : S_api_Message) : Option Bool :=
 bnd (β := Bool) (letm ((a0.1 == 0)) fun x1 =>
 cond x1 (letm ((a0.2.2.1 == 0)) fun x2 =>
 cond x2 (letm (((a0.2.2.2.1.length : Int) == 0)) fun x3 =>
 some x3)
  (some false))
  (some false)) fun v4 =>
 some v4
def m_coap_Response (a0 : Int) : Option Bool :=
 bnd (β := Bool) (letm (decide (64 ≤ a0)) fun x1 =>
 cond x1 (letm (decide (a0 ≤ 95)) fun x2 =>
 cond x2 (some true)
  (letm (decide (128 ≤ a0)) fun x3 =>
 cond x3 (letm (decide (a0 ≤ 191)) fun x4 =>
 some x4)
  (some false)))
  (letm (decide (128 ≤ a0)) fun x5 =>
 cond x5 (letm (decide (a0 ≤ 191)) fun x6 =>
 some x6)
  (some false))) fun v7 =>
 some v7
def m_cache_Valid (a0 : (List S_api_Cached)) : Option Bool :=
 letm (decide (16 < (a0.length : Int))) fun x1 =>
 cond x1 (some false)
  (loopL (R := Bool) (S := Unit) (α := S_api_Cached) (fun _ _ =>
 some true)
  (fun x4 k5 _ self7 =>
 bnd (β := Bool) (bnd (m_cache_keyed x4.1) fun x8 =>
 letm ((!x8)) fun x9 =>
 cond x9 (some true)
  (letm (decide (x4.2.2.1 < 0)) fun x10 =>
 cond x10 (some true)
  (letm (decide (x4.2.2.2 < 0)) fun x11 =>
 cond x11 (some true)
  (bnd (Gk.cut a0 0 (k5 : Int)) fun x12 =>
 bnd (m_cache_find x12 x4.1) fun x13 =>
 letm (decide (0 ≤ x13)) fun x14 =>
 some x14)))) fun v15 =>
 cond v15 (some false)
  (bnd (β := Bool) (bnd (m_coap_Valid x4.2.1) fun x16 =>
 letm ((!x16)) fun x17 =>
 cond x17 (some true)
  (bnd (m_cache_bare x4.2.1) fun x18 =>
 letm ((!x18)) fun x19 =>
 cond x19 (some true)
  (bnd (m_coap_Response x4.2.1.2.1) fun x20 =>
 letm ((!x20)) fun x21 =>
 some x21))) fun v22 =>
 cond v22 (some false)
  (self7 ()))) a0 0 ())
def m_relay_find (a0 : (List S_api_Hop)) (a1 : (List UInt8)) : Option Int :=
 loopL (R := Int) (S := Unit) (α := S_api_Hop) (fun _ _ =>
 some (-1))
  (fun x4 k5 _ self7 =>
 letm ((x4.2.2.1 == a1)) fun x8 =>
 cond x8 (some (k5 : Int))
  (self7 ())) a0 0 ()
def m_relay_Valid (a0 : S_api_Proxy) : Option Bool :=
 bnd (β := Bool) (letm (decide (a0.1 < 0)) fun x1 =>
 cond x1 (some true)
  (letm (decide (65535 < a0.1)) fun x2 =>
 cond x2 (some true)
  (letm (decide (8 < (a0.2.1.length : Int))) fun x3 =>
 cond x3 (some true)
  (letm (decide (a0.2.2.2 < (-1))) fun x4 =>
 cond x4 (some true)
  (letm (decide (6 < a0.2.2.2)) fun x5 =>
 cond x5 (some true)
  (bnd (m_cache_Valid a0.2.2.1) fun x6 =>
 letm ((!x6)) fun x7 =>
 some x7)))))) fun v8 =>
 cond v8 (some false)
  (loopL (R := Bool) (S := Unit) (α := S_api_Hop) (fun _ _ =>
 some true)
  (fun x11 k12 _ self14 =>
 bnd (β := Bool) (letm (decide (x11.1 < 0)) fun x15 =>
 cond x15 (some true)
  (letm (decide (65536 < x11.1)) fun x16 =>
 cond x16 (some true)
  (letm (decide (8 < (x11.2.1.length : Int))) fun x17 =>
 cond x17 (some true)
  (letm (((x11.2.2.1.length : Int) != 2)) fun x18 =>
 cond x18 (some true)
  (bnd (Gk.cut a0.2.1 0 (k12 : Int)) fun x19 =>
 bnd (m_relay_find x19 x11.2.2.1) fun x20 =>
 letm (decide (0 ≤ x20)) fun x21 =>
 some x21))))) fun v22 =>
 cond v22 (some false)
  (self14 ())) a0.2.1 0 ())
def m_relay_time (a0 : Int) : Option Bool :=
 bnd (β := Bool) (letm (decide (0 ≤ a0)) fun x1 =>
 cond x1 (letm (decide (a0 ≤ 1073741824)) fun x2 =>
 some x2)
  (some false)) fun v3 =>
 some v3
def m_relay_copied (a0 : (List UInt8)) : Option (List UInt8) :=
 bnd (app [] a0) fun x1 =>
 some x1
def m_relay_message (a0 : S_api_Message) : Option S_api_Message :=
 bnd (m_relay_copied a0.2.2.2.1) fun x1 =>
 bnd (m_relay_copied a0.2.2.2.2.2) fun x2 =>
 loopL (R := S_api_Message) (S := (S_api_Message × (List S_api_Option))) (α := S_api_Option) (fun _ s4 =>
 some (s4.1.1, (s4.1.2.1, (s4.1.2.2.1, (s4.1.2.2.2.1, (s4.2, s4.1.2.2.2.2.2))))))
  (fun x5 _ s7 self8 =>
 bnd (m_relay_copied x5.2) fun x9 =>
 bnd (app s7.2 [(x5.1, x9)]) fun x10 =>
 self8 (s7.1, x10)) a0.2.2.2.2.1 0 ((a0.1, (a0.2.1, (a0.2.2.1, (x1, ([], x2))))), [])
def m_relay_cloned (a0 : S_api_Proxy) : Option S_api_Proxy :=
 loopL (R := S_api_Proxy) (S := (S_api_Proxy × (List S_api_Hop))) (α := S_api_Hop) (fun _ s2 =>
 loopL (R := S_api_Proxy) (S := (S_api_Proxy × (List S_api_Cached))) (α := S_api_Cached) (fun _ s4 =>
 some (s4.1.1, (s2.2, (s4.2, s4.1.2.2.2))))
  (fun x5 _ s7 self8 =>
 bnd (m_relay_copied x5.1) fun x9 =>
 bnd (m_relay_message x5.2.1) fun x10 =>
 bnd (app s7.2 [(x9, (x10, x5.2.2))]) fun x11 =>
 self8 (s7.1, x11)) a0.2.2.1 0 (s2.1, []))
  (fun x12 _ s14 self15 =>
 bnd (m_relay_copied x12.2.1) fun x16 =>
 bnd (m_relay_copied x12.2.2.1) fun x17 =>
 bnd (m_relay_copied x12.2.2.2.1) fun x18 =>
 bnd (app s14.2 [(x12.1, (x16, (x17, (x18, x12.2.2.2.2))))]) fun x19 =>
 self15 (s14.1, x19)) a0.2.1 0 ((a0.1, ([], ([], a0.2.2.2))), [])
def m_relay_cloned_o (a0 : S_api_Proxy) : Option (S_api_Proxy × (List S_api_Hop)) :=
 loopL (R := (S_api_Proxy × (List S_api_Hop))) (S := (S_api_Proxy × (List S_api_Hop))) (α := S_api_Hop) (fun _ s2 =>
 loopL (R := (S_api_Proxy × (List S_api_Hop))) (S := (S_api_Proxy × (List S_api_Cached))) (α := S_api_Cached) (fun _ s4 =>
 some ((s4.1.1, (s4.1.2.1, (s4.2, s4.1.2.2.2))), s2.2))
  (fun x5 _ s7 self8 =>
 bnd (m_relay_copied x5.1) fun x9 =>
 bnd (m_relay_message x5.2.1) fun x10 =>
 bnd (app s7.2 [(x9, (x10, x5.2.2))]) fun x11 =>
 self8 (s7.1, x11)) a0.2.2.1 0 (s2.1, []))
  (fun x12 _ s14 self15 =>
 bnd (m_relay_copied x12.2.1) fun x16 =>
 bnd (m_relay_copied x12.2.2.1) fun x17 =>
 bnd (m_relay_copied x12.2.2.2.1) fun x18 =>
 bnd (app s14.2 [(x12.1, (x16, (x17, (x18, x12.2.2.2.2))))]) fun x19 =>
 self15 (s14.1, x19)) a0.2.1 0 ((a0.1, ([], ([], a0.2.2.2))), [])
def m_bytes_Clone (a0 : List UInt8) : Option (List UInt8) := app ([] : List UInt8) a0
def m_bytes_Clone_o (a0 : List UInt8) : Option (List UInt8) := m_bytes_Clone a0

def m_option_Get (a0 : S_api_Message) (a1 : Int) : Option ((List UInt8) × Bool) :=
 loopL (R := ((List UInt8) × Bool)) (S := Unit) (α := S_api_Option) (fun _ _ =>
 some ([], false))
  (fun x4 _ _ self7 =>
 letm ((x4.1 == a1)) fun x8 =>
 cond x8 (bnd (m_bytes_Clone x4.2) fun x9 =>
 some (x9, true))
  (self7 ())) a0.2.2.2.2.1 0 ()
def m_relay_has (a0 : S_api_Message) (a1 : Int) : Option Bool :=
 bnd (m_option_Get a0 a1) fun x2 =>
 some x2.2
def m_relay_Protected (a0 : S_api_Message) : Option Bool :=
 bnd (m_relay_has a0 9) fun x1 =>
 some x1
def m_option_CacheKey (_a0 : S_api_Message) : Option (List UInt8) := none

def m_cache_Lookup (_a0 : List S_api_Cached) (_a1 : List UInt8) (_a2 : Int) : Option (S_api_Message × Bool) := none

def m_relay_Forward_1 (a0 : (Option Int)) : Option (List UInt8) :=
 bnd (a0) fun x1 =>
 bnd (Gk.shr x1 (UInt64.toNat 8 : Int)) fun x2 =>
 letm ((toU8 x2)) fun x3 =>
 bnd (a0) fun x4 =>
 letm ((toU8 x4)) fun x5 =>
 some [x3, x5]
def m_relay_Forward_1_o (a0 : (Option Int)) : Option (List UInt8) :=
 bnd (a0) fun x1 =>
 bnd (Gk.shr x1 (UInt64.toNat 8 : Int)) fun x2 =>
 letm ((toU8 x2)) fun x3 =>
 bnd (a0) fun x4 =>
 letm ((toU8 x4)) fun x5 =>
 some [x3, x5]
def m_fragment_Cut (_a0 : S_api_Message) (_a1 : Int) (_a2 : Int) (_a3 : Int) : Option (S_api_Message × Int) := none

def m_relay_Forward (a0 : S_api_Proxy) (a1 : Int) (a2 : S_api_Message) (a3 : Int) : Option (S_api_Proxy × ((List S_api_Message) × ((List S_relay_Sent) × Int))) :=
 bnd (m_coap_Encode a2) fun x4 =>
 bnd (β := Bool) (bnd (m_relay_Valid a0) fun x5 =>
 letm ((!x5)) fun x6 =>
 cond x6 (some true)
  (letm (decide (a1 < 0)) fun x7 =>
 cond x7 (some true)
  (letm (decide (65536 < a1)) fun x8 =>
 cond x8 (some true)
  (bnd (m_relay_time a3) fun x9 =>
 letm ((!x9)) fun x10 =>
 cond x10 (some true)
  (letm ((x4.2 != 0)) fun x11 =>
 cond x11 (some true)
  (letm (decide (a2.2.1 < 1)) fun x12 =>
 cond x12 (some true)
  (letm (decide (31 < a2.2.1)) fun x13 =>
 some x13))))))) fun v14 =>
 cond v14 (some ((0, ([], ([], 0))), ([], ([], 1))))
  (bnd (m_relay_cloned_o a0) fun x15 =>
 bnd (β := (List UInt8)) (bnd (m_relay_Protected a2) fun x16 =>
 letm ((!x16)) fun x17 =>
 cond x17 (bnd (m_option_CacheKey a2) fun x18 =>
 some x18)
  (some [])) fun v19 =>
 bndS (ρ := (S_api_Proxy × ((List S_api_Message) × ((List S_relay_Sent) × Int)))) (ρ' := (S_api_Proxy × ((List S_api_Message) × ((List S_relay_Sent) × Int)))) (Y := S_api_Proxy) (bnd (β := Bool) (bnd (m_relay_Protected a2) fun x20 =>
 letm ((!x20)) fun x21 =>
 cond x21 (letm ((a2.2.1 == 1)) fun x22 =>
 cond x22 (bnd (m_relay_has a2 6) fun x23 =>
 letm ((!x23)) fun x24 =>
 some x24)
  (letm ((a2.2.1 == 5)) fun x25 =>
 cond x25 (bnd (m_relay_has a2 6) fun x26 =>
 letm ((!x26)) fun x27 =>
 some x27)
  (some false)))
  (some false)) fun v28 =>
 cond v28 (bnd (m_cache_Lookup a0.2.2.1 v19 a3) fun x29 =>
 cond x29.2 (bnd (m_relay_message x29.1) fun x30 =>
 bnd (m_relay_copied a2.2.2.2.1) fun x31 =>
 some (.inl ((x15.1.1, (x15.2, x15.1.2.2)), ([], ([(a1, (a2.1, (x30.2.1, (a2.2.2.1, (x31, x30.2.2.2.2)))))], 0)))))
  (some (.inr ((w64 0), ([], ([], (w64 0)))))))
  (some (.inr ((w64 0), ([], ([], (w64 0))))))) (fun q => q) fun v32 =>
 letm (decide (8 ≤ (a0.2.1.length : Int))) fun x33 =>
 cond x33 (bnd (m_relay_copied a2.2.2.2.1) fun x34 =>
 some ((x15.1.1, (x15.2, x15.1.2.2)), ([], ([(a1, (a2.1, (163, (a2.2.2.1, (x34, ([], []))))))], 0))))
  (bnd (β := Int) (loopF (R := Int) (S := Int) (fun self36 s35 =>
 bnd (m_relay_Forward_1_o (some s35)) fun x37 =>
 bnd (m_relay_find a0.2.1 x37) fun x38 =>
 letm (decide (0 ≤ x38)) fun x39 =>
 cond x39 (letm ((w64 (s35 + 1))) fun x40 =>
 bnd (Gk.rem x40 65536) fun x41 =>
 self36 x41)
  (some s35)) FUEL a0.1) fun v42 =>
 bnd (m_relay_copied a2.2.2.2.1) fun x43 =>
 bnd (m_relay_Forward_1_o (some v42)) fun x44 =>
 bnd (m_relay_has a2 6) fun x45 =>
 bnd (app x15.2 [(a1, (x43, (x44, (v19, x45))))]) fun x46 =>
 letm ((w64 (v42 + 1))) fun x47 =>
 bnd (Gk.rem x47 65536) fun x48 =>
 bnd (m_relay_message a2) fun x49 =>
 bnd (m_relay_Forward_1_o (some v42)) fun x50 =>
 bnd (β := Bool) (letm ((a0.2.2.2 == (-1))) fun x51 =>
 cond x51 (some true)
  (bnd (m_relay_has a2 27) fun x52 =>
 cond x52 (some true)
  (letm ((toU64 a0.2.2.2)) fun x53 =>
 bnd (Gk.shl 16 (UInt64.toNat x53 : Int)) fun x54 =>
 letm (decide ((a2.2.2.2.2.2.length : Int) ≤ x54)) fun x55 =>
 some x55))) fun v56 =>
 cond v56 (some ((x48, (x46, x15.1.2.2)), ([(1, (x49.2.1, (v42, (x50, x49.2.2.2.2))))], ([], 0))))
  (loopF (R := (S_api_Proxy × ((List S_api_Message) × ((List S_relay_Sent) × Int)))) (S := ((List S_api_Message) × (Int × S_api_Proxy))) (fun self58 s57 =>
 bnd (m_fragment_Cut (1, (x49.2.1, (v42, (x50, x49.2.2.2.2)))) 27 s57.2.1 a0.2.2.2) fun x59 =>
 letm ((x59.2 != 0)) fun x60 =>
 cond x60 (some ((x48, (x46, x15.1.2.2)), (s57.1, ([], 0))))
  (letm ((w64 (v42 + s57.2.1))) fun x61 =>
 bnd (Gk.rem x61 65536) fun x62 =>
 bnd (app s57.1 [(x59.1.1, (x59.1.2.1, (x62, x59.1.2.2.2)))]) fun x63 =>
 letm ((w64 (s57.2.1 + 1))) fun x64 =>
 self58 (x63, (x64, s57.2.2)))) FUEL ([], (0, v32)))))
def m_coresecmake_Deck_Bytes (a0 : S_coresecmake_Deck) (a1 : Int) : Option ((List UInt8) × S_coresecmake_Deck) :=
 letm ((w64 (a1 + 1))) fun x2 =>
 bnd (m_coresecmake_Deck_Next a0 x2) fun x3 =>
 loopF (R := ((List UInt8) × S_coresecmake_Deck)) (S := ((List UInt8) × (Int × S_coresecmake_Deck))) (fun self5 s4 =>
 letm (decide (0 < s4.2.1)) fun x6 =>
 cond x6 (bnd (m_coresecmake_Deck_Next s4.2.2 256) fun x7 =>
 letm ((toU8 x7.1)) fun x8 =>
 bnd (app s4.1 [x8]) fun x9 =>
 letm ((w64 (s4.2.1 - 1))) fun x10 =>
 self5 (x9, (x10, x7.2)))
  (some (s4.1, s4.2.2))) FUEL ([], (x3.1, x3.2))
def m_coresecref16_All (a0 : S_api_Message) (a1 : Int) : Option (List (List UInt8)) :=
 loopL (R := (List (List UInt8))) (S := (List (List UInt8))) (α := S_api_Option) (fun _ s3 =>
 some s3)
  (fun x4 _ s6 self7 =>
 bnd (β := (List (List UInt8))) (letm ((x4.1 == a1)) fun x8 =>
 cond x8 (bnd (app [] x4.2) fun x9 =>
 bnd (app s6 [x9]) fun x10 =>
 some x10)
  (some s6)) fun v11 =>
 self7 v11) a0.2.2.2.2.1 0 []
def m_coresecref16_All_o (a0 : S_api_Message) (a1 : Int) : Option (List (List UInt8)) :=
 loopL (R := (List (List UInt8))) (S := (List (List UInt8))) (α := S_api_Option) (fun _ s3 =>
 some s3)
  (fun x4 _ s6 self7 =>
 bnd (β := (List (List UInt8))) (letm ((x4.1 == a1)) fun x8 =>
 cond x8 (bnd (app [] x4.2) fun x9 =>
 bnd (app s6 [x9]) fun x10 =>
 some x10)
  (some s6)) fun v11 =>
 self7 v11) a0.2.2.2.2.1 0 []
def m_coresecmake2_dressed (a0 : S_coresecmake_Deck) (a1 : S_api_Message) : Option (S_api_Message × S_coresecmake_Deck) :=
 bnd (m_coresecmake_Deck_Next a0 6) fun x2 =>
 loopF (R := (S_api_Message × S_coresecmake_Deck)) (S := (Int × (S_coresecmake_Deck × S_api_Message))) (fun self4 s3 =>
 letm (decide (0 < s3.1)) fun x5 =>
 cond x5 (bnd (m_coresecmake_Deck_Next s3.2.1 19) fun x6 =>
 bnd (idx [1, 3, 4, 6, 7, 11, 12, 14, 15, 16, 17, 23, 27, 39, 60, 252, 258, 292, 300] x6.1) fun x7 =>
 bnd (m_coresecref16_All_o s3.2.2 x7) fun x8 =>
 bnd (m_coresecmake_Deck_Bytes x6.2 4) fun x9 =>
 bnd (app x8 [x9.1]) fun x10 =>
 bnd (m_coresecref16_Set s3.2.2 x7 x10) fun x11 =>
 letm ((w64 (s3.1 - 1))) fun x12 =>
 self4 (x12, (x9.2, x11)))
  (some (s3.2.2, s3.2.1))) FUEL (x2.1, (x2.2, a1))
def m_coresecmake2_Response (a0 : S_coresecmake_Deck) : Option (S_api_Message × S_coresecmake_Deck) :=
 bnd (m_coresecmake_Deck_Next a0 3) fun x1 =>
 bnd (m_coresecmake_Deck_Next x1.2 7) fun x2 =>
 bnd (idx [69, 68, 65, 132, 129, 160, 95] x2.1) fun x3 =>
 bnd (m_coresecmake_Deck_Next x2.2 65536) fun x4 =>
 bnd (m_coresecmake_Deck_Bytes x4.2 4) fun x5 =>
 bnd (m_coresecmake_Deck_Bytes x5.2 20) fun x6 =>
 bnd (m_coresecmake2_dressed x6.2 (x1.1, (x3, (x4.1, (x5.1, ([], x6.1)))))) fun x7 =>
 some (x7.1, x7.2)
def m_cache_Storable (_a0 : S_api_Message) : Option (Bool) := none

def m_cache_Insert (_a0 : List S_api_Cached) (_a1 : List UInt8) (_a2 : S_api_Message) (_a3 : Int) : Option (List S_api_Cached × Int) := none

def m_relay_Return (a0 : S_api_Proxy) (a1 : S_api_Message) (a2 : Int) : Option (S_api_Proxy × ((List S_relay_Sent) × Int)) :=
 bnd (m_coap_Encode a1) fun x3 =>
 bnd (β := Bool) (bnd (m_relay_Valid a0) fun x4 =>
 letm ((!x4)) fun x5 =>
 cond x5 (some true)
  (bnd (m_relay_time a2) fun x6 =>
 letm ((!x6)) fun x7 =>
 cond x7 (some true)
  (letm ((x3.2 != 0)) fun x8 =>
 cond x8 (some true)
  (letm (decide (a1.2.1 < 64)) fun x9 =>
 some x9)))) fun v10 =>
 cond v10 (some ((0, ([], ([], 0))), ([], 1)))
  (bnd (m_relay_find a0.2.1 a1.2.2.2.1) fun x11 =>
 letm (decide (x11 < 0)) fun x12 =>
 cond x12 (some ((0, ([], ([], 0))), ([], 10)))
  (bnd (m_relay_cloned_o a0) fun x13 =>
 letm ((a1.2.1 == 95)) fun x14 =>
 cond x14 (some ((x13.1.1, (x13.2, x13.1.2.2)), ([], 0)))
  (bnd (idx a0.2.1 x11) fun x15 =>
 bnd (m_relay_message a1) fun x16 =>
 bnd (m_relay_copied x15.2.1) fun x17 =>
 bnd (β := (S_api_Proxy × (List S_api_Hop))) (bnd (β := Bool) (letm ((!x15.2.2.2.2)) fun x18 =>
 cond x18 (some true)
  (bnd (m_relay_has a1 6) fun x19 =>
 letm ((!x19)) fun x20 =>
 some x20)) fun v21 =>
 cond v21 (bnd (Gk.cut x13.2 0 x11) fun x22 =>
 letm ((w64 (x11 + 1))) fun x23 =>
 bnd (Gk.cut x13.2 x23 (x13.2.length : Int)) fun x24 =>
 bnd (app x22 x24) fun x25 =>
 some (x13.1, x25))
  (some (x13.1, x13.2))) fun v26 =>
 bnd (β := (S_api_Proxy × (List S_api_Hop))) (bnd (β := Bool) (letm (decide (0 < (x15.2.2.2.1.length : Int))) fun x27 =>
 cond x27 (bnd (m_relay_Protected a1) fun x28 =>
 letm ((!x28)) fun x29 =>
 cond x29 (bnd (m_cache_Storable a1) fun x30 =>
 some x30)
  (some false))
  (some false)) fun v31 =>
 cond v31 (bnd (m_cache_Insert v26.1.2.2.1 x15.2.2.2.1 a1 a2) fun x32 =>
 letm ((x32.2 == 0)) fun x33 =>
 cond x33 (some ((v26.1.1, (v26.1.2.1, (x32.1, v26.1.2.2.2))), v26.2))
  (some (v26.1, v26.2)))
  (some (v26.1, v26.2))) fun v34 =>
 some ((v34.1.1, (v34.2, v34.1.2.2)), ([(x15.1, (1, (x16.2.1, (x16.2.2.1, (x17, x16.2.2.2.2)))))], 0)))))
def m_coresecref01_Compare (a0 : (List UInt8)) (a1 : (List UInt8)) : Option Int :=
 loopF (R := Int) (S := Int) (fun self3 s2 =>
 bnd (β := Bool) (letm (decide (s2 < (a0.length : Int))) fun x4 =>
 cond x4 (letm (decide (s2 < (a1.length : Int))) fun x5 =>
 some x5)
  (some false)) fun v6 =>
 cond v6 (bnd (idx a0 s2) fun x7 =>
 bnd (idx a1 s2) fun x8 =>
 letm (((UInt8.toNat x7 : Int) != (UInt8.toNat x8 : Int))) fun x9 =>
 cond x9 (bnd (idx a0 s2) fun x10 =>
 bnd (idx a1 s2) fun x11 =>
 letm (decide ((UInt8.toNat x10 : Int) < (UInt8.toNat x11 : Int))) fun x12 =>
 cond x12 (some (-1))
  (some 1))
  (letm ((w64 (s2 + 1))) fun x13 =>
 self3 x13))
  (letm (decide ((a0.length : Int) < (a1.length : Int))) fun x14 =>
 cond x14 (some (-1))
  (letm (decide ((a1.length : Int) < (a0.length : Int))) fun x15 =>
 cond x15 (some 1)
  (some 0)))) FUEL 0
def m_coresecref26_Equal (a0 : (List UInt8)) (a1 : (List UInt8)) : Option Bool :=
 bnd (β := Bool) (bnd (m_coresecref01_Compare a0 a1) fun x2 =>
 letm ((x2 == 0)) fun x3 =>
 cond x3 (letm (((a0.length : Int) == (a1.length : Int))) fun x4 =>
 some x4)
  (some false)) fun v5 =>
 some v5
def m_coresecref15_Same (a0 : S_api_Message) (a1 : S_api_Message) : Option Bool :=
 bnd (β := Bool) (letm ((a0.1 != a1.1)) fun x2 =>
 cond x2 (some true)
  (letm ((a0.2.1 != a1.2.1)) fun x3 =>
 cond x3 (some true)
  (letm ((a0.2.2.1 != a1.2.2.1)) fun x4 =>
 cond x4 (some true)
  (letm ((a0.2.2.2.1 != a1.2.2.2.1)) fun x5 =>
 cond x5 (some true)
  (letm ((a0.2.2.2.2.2 != a1.2.2.2.2.2)) fun x6 =>
 cond x6 (some true)
  (letm (((a0.2.2.2.2.1.length : Int) != (a1.2.2.2.2.1.length : Int))) fun x7 =>
 some x7)))))) fun v8 =>
 cond v8 (some false)
  (loopL (R := Bool) (S := Unit) (α := S_api_Option) (fun _ _ =>
 some true)
  (fun x11 k12 _ self14 =>
 bnd (β := Bool) (bnd (idx a1.2.2.2.2.1 (k12 : Int)) fun x15 =>
 letm ((x11.1 != x15.1)) fun x16 =>
 cond x16 (some true)
  (bnd (idx a1.2.2.2.2.1 (k12 : Int)) fun x17 =>
 letm ((x11.2 != x17.2)) fun x18 =>
 some x18)) fun v19 =>
 cond v19 (some false)
  (self14 ())) a0.2.2.2.2.1 0 ())
def m_coreseclaw34_RelaySeparates (a0 : (List Int)) (a1 : Int) : Option Bool :=
 bnd (m_coresecmake_New a0) fun x2 =>
 bnd (m_coresecmake_Deck_Next x2 6) fun x3 =>
 letm ((w64 (2 + x3.1))) fun x4 =>
 loopF (R := Bool) (S := ((List (List UInt8)) × ((List (List UInt8)) × (Int × (S_api_Proxy × S_coresecmake_Deck))))) (fun self6 s5 =>
 letm (decide (s5.2.2.1 < x4)) fun x7 =>
 cond x7 (bnd (m_coresecmake_Deck_Next s5.2.2.2.2 2) fun x8 =>
 letm ((toU8 x8.1)) fun x9 =>
 letm ((toU8 s5.2.2.1)) fun x10 =>
 bnd (m_coresecref16_Set (0, (2, (0, ([x9], ([], []))))) 9 [[9, x10]]) fun x11 =>
 bnd (m_relay_Forward s5.2.2.2.1 s5.2.2.1 x11 1) fun x12 =>
 bnd (β := Bool) (letm ((x12.2.2.2 != 0)) fun x13 =>
 cond x13 (some true)
  (letm (((x12.2.1.length : Int) != 1)) fun x14 =>
 some x14)) fun v15 =>
 cond v15 (some false)
  (bnd (idx x12.2.1 0) fun x16 =>
 bnd (app s5.1 [x16.2.2.2.1]) fun x17 =>
 bnd (app s5.2.1 [[x9]]) fun x18 =>
 letm ((w64 (s5.2.2.1 + 1))) fun x19 =>
 self6 (x17, (x18, (x19, (x12.1, x8.2))))))
  (bnd (m_coresecmake_Mod a1 x4) fun x20 =>
 bnd (m_coresecmake2_Response s5.2.2.2.2) fun x21 =>
 bnd (idx s5.1 x20) fun _ =>
 bnd (idx s5.1 (((x20 : Int)).toNat : Int)) fun x23 =>
 bnd (β := S_api_Message) (letm ((x21.1.2.1 == 95)) fun x24 =>
 cond x24 (some (x21.1.1, (69, (x21.1.2.2.1, (x23, x21.1.2.2.2.2)))))
  (some (x21.1.1, (x21.1.2.1, (x21.1.2.2.1, (x23, x21.1.2.2.2.2)))))) fun v25 =>
 bnd (m_relay_Return s5.2.2.2.1 v25 2) fun x26 =>
 bnd (β := Bool) (letm ((x26.2.2 != 0)) fun x27 =>
 cond x27 (some true)
  (letm (((x26.2.1.length : Int) != 1)) fun x28 =>
 cond x28 (some true)
  (bnd (idx x26.2.1 0) fun x29 =>
 letm ((x29.1 != x20)) fun x30 =>
 cond x30 (some true)
  (bnd (idx x26.2.1 0) fun x31 =>
 bnd (idx s5.2.1 x20) fun _ =>
 bnd (idx s5.2.1 (((x20 : Int)).toNat : Int)) fun x33 =>
 bnd (m_coresecref26_Equal x31.2.2.2.2.1 x33) fun x34 =>
 letm ((!x34)) fun x35 =>
 cond x35 (some true)
  (letm ((w64 (x4 - 1))) fun x36 =>
 letm (((x26.1.2.1.length : Int) != x36)) fun x37 =>
 some x37))))) fun v38 =>
 cond v38 (some false)
  (bnd (idx x26.2.1 0) fun x39 =>
 bnd (m_coresecref15_Same (v25.1, (x39.2.2.1, (x39.2.2.2.1, (v25.2.2.2.1, x39.2.2.2.2.2)))) v25) fun x40 =>
 some x40))) FUEL ([], ([], (0, ((65533, ([], ([], (-1)))), x3.2))))
end
end Go.Proofs.YtcbkmlfkfhfliaaDoor
