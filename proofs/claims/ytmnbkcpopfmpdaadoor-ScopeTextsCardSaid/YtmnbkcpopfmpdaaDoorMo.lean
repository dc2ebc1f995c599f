/-
  Models of the functions, as the evaluator computes them. No condition.
-/
import Derived.Test.YtmnbkcpopfmpdaaDoorEv
import Derived.Test.YtmnbkcpopfmpdaaDoorShelf
namespace Go.Proofs.YtmnbkcpopfmpdaaDoor
open Go.Gk Go.RowKit
noncomputable section
set_option maxRecDepth 100000
def m_coreseclaw39_light (a0 : (List S_api_Permit)) : Option Bool :=
 loopL (R := Bool) (S := Unit) (α := S_api_Permit) (fun _ _ =>
 letm (decide ((a0.length : Int) ≤ 20)) fun x3 =>
 some x3)
  (fun x4 _ _ self7 =>
 letm (decide (300 < (x4.1.length : Int))) fun x8 =>
 cond x8 (some false)
  (self7 ())) a0 0 ()
def m_strings_Split (a0 a1 : List UInt8) : Option (List (List UInt8)) := bif Nat.blt 0 a1.length && Nat.blt a0.length 4294967281 then some (Lib.split a0 a1) else none

def m_strings_IndexByte (a0 : List UInt8) (a1 : UInt8) : Option Int := some (Lib.indexByte a0 a1)

def m_strings_HasSuffix (a0 a1 : List UInt8) : Option Bool := bif Nat.ble a0.length 9223372036854775807 then some (Lib.hasSuffix a0 a1) else none

def wrOk (c : UInt8) : Bool := decide (33 ≤ c.toNat ∧ c.toNat ≤ 126 ∧ c.toNat ≠ 44 ∧ c.toNat ≠ 59 ∧ c.toNat ≠ 42)
def wrHead (l : List UInt8) : Bool := match l with | [] => true | c :: _ => Nat.beq c.toNat 47
def m_scope_written (a0 : List UInt8) : Option Bool := some (Nat.ble a0.length 64 && (wrHead a0 && a0.all wrOk))

def m_scope_parse (a0 : (List UInt8)) : Option (S_api_Permit × Bool) :=
 bndS (ρ := (S_api_Permit × Bool)) (ρ' := (S_api_Permit × Bool)) (Y := ((List UInt8) × (S_api_Permit × S_api_Permit))) (loopF (R := ((S_api_Permit × Bool) ⊕ ((List UInt8) × (S_api_Permit × S_api_Permit)))) (S := ((List UInt8) × (Int × (S_api_Permit × S_api_Permit)))) (fun self2 s1 =>
 bnd (β := Bool) (letm (decide (0 < (s1.1.length : Int))) fun x3 =>
 cond x3 (bnd (idx s1.1 0) fun x4 =>
 letm (((UInt8.toNat x4 : Int) != (UInt8.toNat 58 : Int))) fun x5 =>
 some x5)
  (some false)) fun v6 =>
 cond v6 (bnd (idx s1.1 0) fun x7 =>
 bnd (m_strings_IndexByte [71, 80, 85, 68, 70, 65, 73] x7) fun x8 =>
 letm (decide (x8 ≤ s1.2.1)) fun x9 =>
 cond x9 (some (.inl (s1.2.2.2, false)))
  (letm ((toU64 x8)) fun x10 =>
 bnd (Gk.shl 1 (UInt64.toNat x10 : Int)) fun x11 =>
 letm ((ibit .or s1.2.2.2.2.2 x11)) fun x12 =>
 bnd (Gk.cut s1.1 1 (s1.1.length : Int)) fun x13 =>
 self2 (x13, (x8, (s1.2.2.1, (s1.2.2.2.1, (s1.2.2.2.2.1, x12)))))))
  (some (.inr (s1.1, (s1.2.2.1, s1.2.2.2))))) FUEL (a0, ((-1), (([], (false, 0)), ([], (false, 0)))))) (fun q => q) fun v14 =>
 bnd (β := Bool) (letm (((v14.1.length : Int) == 0)) fun x15 =>
 cond x15 (some true)
  (letm ((v14.2.2.2.2 == 0)) fun x16 =>
 some x16)) fun v17 =>
 cond v17 (some (v14.2.2, false))
  (bnd (Gk.cut v14.1 1 (v14.1.length : Int)) fun x18 =>
 bnd (β := S_api_Permit) (bnd (m_strings_HasSuffix x18 [47, 42]) fun x19 =>
 cond x19 (letm ((w64 ((x18.length : Int) - 2))) fun x20 =>
 bnd (Gk.cut x18 0 x20) fun x21 =>
 some (x21, (true, v14.2.2.2.2)))
  (some (x18, v14.2.2.2))) fun v22 =>
 bnd (m_scope_written v22.1) fun x23 =>
 some (v22, x23))
def m_scope_Parse (a0 : (List UInt8)) : Option ((List S_api_Permit) × Int) :=
 letm ((a0 == [])) fun x1 =>
 cond x1 (some ([], 0))
  (bnd (m_strings_Split a0 [44, 32]) fun x2 =>
 loopL (R := ((List S_api_Permit) × Int)) (S := (List S_api_Permit)) (α := (List UInt8)) (fun _ s4 =>
 letm (decide (8 < (s4.length : Int))) fun x5 =>
 cond x5 (some ([], 8))
  (some (s4, 0)))
  (fun x6 _ s8 self9 =>
 bnd (m_scope_parse x6) fun x10 =>
 letm ((!x10.2)) fun x11 =>
 cond x11 (some ([], 17))
  (bnd (app s8 [x10.1]) fun x12 =>
 self9 x12)) x2 0 [])
def m_scope_Valid (a0 : (List S_api_Permit)) : Option Bool :=
 letm (decide (8 < (a0.length : Int))) fun x1 =>
 cond x1 (some false)
  (loopL (R := Bool) (S := Unit) (α := S_api_Permit) (fun _ _ =>
 some true)
  (fun x4 _ _ self7 =>
 bnd (β := Bool) (bnd (m_scope_written x4.1) fun x8 =>
 letm ((!x8)) fun x9 =>
 cond x9 (some true)
  (letm (decide (x4.2.2 < 1)) fun x10 =>
 cond x10 (some true)
  (letm (decide (127 < x4.2.2)) fun x11 =>
 some x11))) fun v12 =>
 cond v12 (some false)
  (self7 ())) a0 0 ())
def m_strings_HasPrefix (a0 a1 : List UInt8) : Option Bool := some (Lib.hasPrefix a0 a1)

def m_scope_below (a0 : (List UInt8)) (a1 : (List UInt8)) : Option Bool :=
 bnd (app a1 [47]) fun x2 =>
 bnd (m_strings_HasPrefix a0 x2) fun x3 =>
 some x3
def m_scope_covers (a0 : S_api_Permit) (a1 : (List UInt8)) : Option Bool :=
 bnd (β := Bool) (letm ((a1 == a0.1)) fun x2 =>
 cond x2 (some true)
  (cond a0.2.1 (bnd (m_scope_below a1 a0.1) fun x3 =>
 some x3)
  (some false))) fun v4 =>
 some v4
def m_scope_Permits (a0 : (List S_api_Permit)) (a1 : (List UInt8)) (a2 : Int) : Option Bool :=
 bnd (β := Bool) (letm (decide (a2 < 1)) fun x3 =>
 cond x3 (some true)
  (letm (decide (7 < a2)) fun x4 =>
 cond x4 (some true)
  (bnd (m_scope_Valid a0) fun x5 =>
 letm ((!x5)) fun x6 =>
 some x6))) fun v7 =>
 cond v7 (some false)
  (loopL (R := Bool) (S := Unit) (α := S_api_Permit) (fun _ _ =>
 some false)
  (fun x10 _ _ self13 =>
 bnd (β := Bool) (letm ((w64 (a2 - 1))) fun x14 =>
 letm ((toU64 x14)) fun x15 =>
 bnd (Gk.shr x10.2.2 (UInt64.toNat x15 : Int)) fun x16 =>
 letm ((ibit .and x16 1)) fun x17 =>
 letm ((x17 == 1)) fun x18 =>
 cond x18 (bnd (m_scope_covers x10 a1) fun x19 =>
 some x19)
  (some false)) fun v20 =>
 cond v20 (some true)
  (self13 ())) a0 0 ())
def m_strings_Join (a0 : List (List UInt8)) (a1 : List UInt8) : Option (List UInt8) := bif Nat.ble (Lib.join a0 a1).length 140737488355328 && Nat.ble a0.length 140737488355328 then some (Lib.join a0 a1) else none

def m_scope_Print (a0 : (List S_api_Permit)) : Option (List UInt8) :=
 bnd (m_scope_Valid a0) fun x1 =>
 letm ((!x1)) fun x2 =>
 cond x2 (some [])
  (bnd (β := (List (List UInt8))) (loopL (R := (List (List UInt8))) (S := (List (List UInt8))) (α := S_api_Permit) (fun _ s4 =>
 some s4)
  (fun x5 _ s7 self8 =>
 bnd (β := (List (List UInt8))) (bnd (β := (List UInt8)) (loopF (R := (List UInt8)) (S := ((List UInt8) × Int)) (fun self10 s9 =>
 letm (decide (s9.2 < 7)) fun x11 =>
 cond x11 (bnd (β := (List UInt8)) (letm ((toU64 s9.2)) fun x12 =>
 bnd (Gk.shr x5.2.2 (UInt64.toNat x12 : Int)) fun x13 =>
 letm ((ibit .and x13 1)) fun x14 =>
 letm ((x14 == 1)) fun x15 =>
 cond x15 (letm ((w64 (s9.2 + 1))) fun x16 =>
 bnd (Gk.cut [71, 80, 85, 68, 70, 65, 73] s9.2 x16) fun x17 =>
 bnd (app s9.1 x17) fun x18 =>
 some x18)
  (some s9.1)) fun v19 =>
 letm ((w64 (s9.2 + 1))) fun x20 =>
 self10 (v19, x20))
  (some s9.1)) FUEL ([], 0)) fun v21 =>
 bnd (app [58] x5.1) fun x22 =>
 bnd (app v21 x22) fun x23 =>
 bnd (β := (List UInt8)) (cond x5.2.1 (bnd (app x23 [47, 42]) fun x24 =>
 some x24)
  (some x23)) fun v25 =>
 bnd (app s7 [v25]) fun x26 =>
 some x26) fun v27 =>
 self8 v27) a0 0 []) fun v28 =>
 bnd (m_strings_Join v28 [44, 32]) fun x29 =>
 some x29)
def m_coreseclaw39_awake : Option Bool :=
 bnd (m_scope_Parse [71, 80, 58, 47, 97, 47, 42, 44, 32, 71, 58, 47, 98]) fun x0 =>
 bnd (β := Bool) (letm ((x0.2 == 0)) fun x1 =>
 cond x1 (letm (((x0.1.length : Int) == 2)) fun x2 =>
 cond x2 (bnd (m_scope_Permits x0.1 [47, 97, 47, 98] 2) fun x3 =>
 cond x3 (bnd (m_scope_Permits x0.1 [47, 97, 98] 1) fun x4 =>
 letm ((!x4)) fun x5 =>
 cond x5 (bnd (m_scope_Print x0.1) fun x6 =>
 letm ((x6 == [71, 80, 58, 47, 97, 47, 42, 44, 32, 71, 58, 47, 98])) fun x7 =>
 some x7)
  (some false))
  (some false))
  (some false))
  (some false)) fun v8 =>
 some v8
def m_coresecmake_New (a0 : (List Int)) : Option S_coresecmake_Deck :=
 some (a0, 0)
def m_coresecmake_Mod (a0 : Int) (a1 : Int) : Option Int :=
 bnd (Gk.rem a0 a1) fun x2 =>
 bnd (β := Int) (letm (decide (x2 < 0)) fun x3 =>
 cond x3 (letm ((w64 (x2 + a1))) fun x4 =>
 some x4)
  (some x2)) fun v5 =>
 some v5
def m_coresecmake_Deck_Next (a0 : S_coresecmake_Deck) (a1 : Int) : Option (Int × S_coresecmake_Deck) :=
 letm (decide ((a0.1.length : Int) ≤ a0.2)) fun x2 =>
 cond x2 (some (0, a0))
  (letm ((w64 (a0.2 + 1))) fun x3 =>
 letm ((w64 (x3 - 1))) fun x4 =>
 bnd (idx a0.1 x4) fun x5 =>
 bnd (m_coresecmake_Mod x5 a1) fun x6 =>
 some (x6, (a0.1, x3)))
def m_coresecmake2_Path (a0 : S_coresecmake_Deck) : Option ((List UInt8) × S_coresecmake_Deck) :=
 bnd (m_coresecmake_Deck_Next a0 9) fun x1 =>
 bnd (idx [[], [47], [47, 97], [47, 98], [47, 97, 47, 98], [47, 97, 47, 98, 47, 99], [47, 97, 98], [47, 97, 47], [47, 98, 47, 97]] x1.1) fun x2 =>
 some (x2, x1.2)
def m_coresecmake2_Scope (a0 : S_coresecmake_Deck) : Option ((List S_api_Permit) × S_coresecmake_Deck) :=
 bnd (m_coresecmake_Deck_Next a0 5) fun x1 =>
 loopF (R := ((List S_api_Permit) × S_coresecmake_Deck)) (S := ((List S_api_Permit) × (Int × S_coresecmake_Deck))) (fun self3 s2 =>
 letm (decide (0 < s2.2.1)) fun x4 =>
 cond x4 (bnd (m_coresecmake2_Path s2.2.2) fun x5 =>
 bnd (m_coresecmake_Deck_Next x5.2 2) fun x6 =>
 letm ((x6.1 == 0)) fun x7 =>
 bnd (m_coresecmake_Deck_Next x6.2 3) fun x8 =>
 bnd (idx [3, 7, 127] x8.1) fun x9 =>
 bnd (m_coresecmake_Deck_Next x8.2 x9) fun x10 =>
 letm ((w64 (1 + x10.1))) fun x11 =>
 bnd (app s2.1 [(x5.1, (x7, x11))]) fun x12 =>
 letm ((w64 (s2.2.1 - 1))) fun x13 =>
 self3 (x12, (x13, x10.2)))
  (some (s2.1, s2.2.2))) FUEL ([], (x1.1, x1.2))
def m_coresecref39_Written (a0 : (List UInt8)) : Option Bool :=
 bnd (β := Bool) (letm (decide (64 < (a0.length : Int))) fun x1 =>
 cond x1 (some true)
  (letm (decide (0 < (a0.length : Int))) fun x2 =>
 cond x2 (bnd (idx a0 0) fun x3 =>
 letm (((UInt8.toNat x3 : Int) != (UInt8.toNat 47 : Int))) fun x4 =>
 some x4)
  (some false))) fun v5 =>
 cond v5 (some false)
  (loopF (R := Bool) (S := Int) (fun self7 s6 =>
 letm (decide (s6 < (a0.length : Int))) fun x8 =>
 cond x8 (bnd (β := Bool) (bnd (idx a0 s6) fun x9 =>
 letm (decide ((UInt8.toNat x9 : Int) < (UInt8.toNat 33 : Int))) fun x10 =>
 cond x10 (some true)
  (bnd (idx a0 s6) fun x11 =>
 letm (decide ((UInt8.toNat 126 : Int) < (UInt8.toNat x11 : Int))) fun x12 =>
 cond x12 (some true)
  (bnd (idx a0 s6) fun x13 =>
 letm (((UInt8.toNat x13 : Int) == (UInt8.toNat 44 : Int))) fun x14 =>
 cond x14 (some true)
  (bnd (idx a0 s6) fun x15 =>
 letm (((UInt8.toNat x15 : Int) == (UInt8.toNat 59 : Int))) fun x16 =>
 cond x16 (some true)
  (bnd (idx a0 s6) fun x17 =>
 letm (((UInt8.toNat x17 : Int) == (UInt8.toNat 42 : Int))) fun x18 =>
 some x18))))) fun v19 =>
 cond v19 (some false)
  (letm ((w64 (s6 + 1))) fun x20 =>
 self7 x20))
  (some true)) FUEL 0)
def m_coresecref39_fine (a0 : S_api_Permit) : Option Bool :=
 bnd (β := Bool) (bnd (m_coresecref39_Written a0.1) fun x1 =>
 cond x1 (letm (decide (1 ≤ a0.2.2)) fun x2 =>
 cond x2 (letm (decide (a0.2.2 ≤ 127)) fun x3 =>
 some x3)
  (some false))
  (some false)) fun v4 =>
 some v4
def m_coresecref39_Valid (a0 : (List S_api_Permit)) : Option Bool :=
 loopL (R := Bool) (S := Unit) (α := S_api_Permit) (fun _ _ =>
 letm (decide ((a0.length : Int) ≤ 8)) fun x3 =>
 some x3)
  (fun x4 _ _ self7 =>
 bnd (m_coresecref39_fine x4) fun x8 =>
 letm ((!x8)) fun x9 =>
 cond x9 (some false)
  (self7 ())) a0 0 ()
def m_coreseclaw39_paths (a0 : (List UInt8)) : Option (List (List UInt8)) :=
 some [[], [47], [47, 97], [47, 98], [47, 97, 47, 98], [47, 97, 47, 98, 47, 99], [47, 97, 47, 98, 47, 99, 47, 100], [47, 97, 98], [47, 97, 47], [47, 97, 47, 47], [47, 47], [47, 98, 47, 97], [47, 98, 47, 97, 47, 120], [97], [47, 122, 122], a0]
def m_coresecref39_bit (a0 : S_api_Permit) (a1 : Int) : Option Bool :=
 letm ((w64 (a1 - 1))) fun x2 =>
 letm ((toU64 x2)) fun x3 =>
 bnd (Gk.shr a0.2.2 (UInt64.toNat x3 : Int)) fun x4 =>
 letm ((ibit .and x4 1)) fun x5 =>
 letm ((x5 == 1)) fun x6 =>
 some x6
def m_coresecref39_under (a0 : (List UInt8)) (a1 : (List UInt8)) : Option Bool :=
 bnd (β := Bool) (letm (decide ((a1.length : Int) < (a0.length : Int))) fun x2 =>
 cond x2 (bnd (Gk.cut a0 0 (a1.length : Int)) fun x3 =>
 letm ((x3 == a1)) fun x4 =>
 cond x4 (bnd (idx a0 (a1.length : Int)) fun x5 =>
 letm (((UInt8.toNat x5 : Int) == (UInt8.toNat 47 : Int))) fun x6 =>
 some x6)
  (some false))
  (some false)) fun v7 =>
 some v7
def m_coresecref39_Permits (a0 : (List S_api_Permit)) (a1 : (List UInt8)) (a2 : Int) : Option Bool :=
 bnd (β := Bool) (bnd (m_coresecref39_Valid a0) fun x3 =>
 letm ((!x3)) fun x4 =>
 cond x4 (some true)
  (letm (decide (a2 < 1)) fun x5 =>
 cond x5 (some true)
  (letm (decide (7 < a2)) fun x6 =>
 some x6))) fun v7 =>
 cond v7 (some false)
  (loopL (R := Bool) (S := Unit) (α := S_api_Permit) (fun _ _ =>
 some false)
  (fun x10 _ _ self13 =>
 bnd (β := Bool) (bnd (m_coresecref39_bit x10 a2) fun x14 =>
 cond x14 (letm ((x10.1 == a1)) fun x15 =>
 cond x15 (some true)
  (cond x10.2.1 (bnd (m_coresecref39_under a1 x10.1) fun x16 =>
 some x16)
  (some false)))
  (some false)) fun v17 =>
 cond v17 (some true)
  (self13 ())) a0 0 ())
def m_coreseclaw39_ScopePermits (a0 : (List S_api_Permit)) (a1 : (List Int)) (a2 : (List UInt8)) (a3 : Int) : Option Bool :=
 bnd (β := Bool) (bnd (m_coreseclaw39_light a0) fun x4 =>
 letm ((!x4)) fun x5 =>
 cond x5 (some true)
  (letm (decide (300 < (a2.length : Int))) fun x6 =>
 some x6)) fun v7 =>
 cond v7 (bnd (m_coreseclaw39_awake ) fun x8 =>
 some x8)
  (bnd (m_coresecmake_New a1) fun x9 =>
 bnd (m_coresecmake2_Scope x9) fun x10 =>
 loopL (R := Bool) (S := Unit) (α := (List S_api_Permit)) (fun _ _ =>
 bnd (m_coreseclaw39_awake ) fun x13 =>
 some x13)
  (fun x14 _ _ self17 =>
 bnd (m_scope_Valid x14) fun x18 =>
 bnd (m_coresecref39_Valid x14) fun x19 =>
 letm ((x18 != x19)) fun x20 =>
 cond x20 (some false)
  (bnd (m_coreseclaw39_paths a2) fun x21 =>
 loopL (R := Bool) (S := Unit) (α := (List UInt8)) (fun _ _ =>
 self17 ())
  (fun x24 _ _ self27 =>
 bnd (m_coresecmake_Mod a3 7) fun x28 =>
 letm ((w64 (1 + x28))) fun x29 =>
 loopL (R := Bool) (S := Unit) (α := Int) (fun _ _ =>
 self27 ())
  (fun x32 _ _ self35 =>
 bnd (m_scope_Permits x14 x24 x32) fun x36 =>
 bnd (m_coresecref39_Permits x14 x24 x32) fun x37 =>
 letm ((x36 != x37)) fun x38 =>
 cond x38 (some false)
  (self35 ())) [a3, x29, 0, 8] 0 ()) x21 0 ())) [a0, x10.1] 0 ())
def m_coresecref39_Print (a0 : (List S_api_Permit)) : Option (List UInt8) :=
 bnd (m_coresecref39_Valid a0) fun x1 =>
 letm ((!x1)) fun x2 =>
 cond x2 (some [])
  (loopL (R := (List UInt8)) (S := (List UInt8)) (α := S_api_Permit) (fun _ s4 =>
 some s4)
  (fun x5 k6 s7 self8 =>
 bnd (β := (List UInt8)) (bnd (β := (List UInt8)) (letm (decide (0 < (k6 : Int))) fun x9 =>
 cond x9 (bnd (app s7 [44, 32]) fun x10 =>
 some x10)
  (some s7)) fun v11 =>
 loopF (R := (List UInt8)) (S := ((List UInt8) × Int)) (fun self13 s12 =>
 letm (decide (s12.2 ≤ 7)) fun x14 =>
 cond x14 (bnd (β := (List UInt8)) (bnd (m_coresecref39_bit x5 s12.2) fun x15 =>
 cond x15 (letm ((w64 (s12.2 - 1))) fun x16 =>
 bnd (Gk.cut [71, 80, 85, 68, 70, 65, 73] x16 s12.2) fun x17 =>
 bnd (app s12.1 x17) fun x18 =>
 some x18)
  (some s12.1)) fun v19 =>
 letm ((w64 (s12.2 + 1))) fun x20 =>
 self13 (v19, x20))
  (bnd (app [58] x5.1) fun x21 =>
 bnd (app s12.1 x21) fun x22 =>
 cond x5.2.1 (bnd (app x22 [47, 42]) fun x23 =>
 some x23)
  (some x22))) FUEL (v11, 1)) fun v24 =>
 self8 v24) a0 0 [])
def m_coresecmake_Spoilt (a0 : (List UInt8)) (a1 : Int) (a2 : Int) : Option (List UInt8) :=
 bnd (app [] a0) fun x3 =>
 letm (((x3.length : Int) == 0)) fun x4 =>
 cond x4 (letm ((toU8 a2)) fun x5 =>
 some [x5])
  (bnd (m_coresecmake_Mod a1 (x3.length : Int)) fun x6 =>
 bnd (quo a2 256) fun x7 =>
 bnd (m_coresecmake_Mod x7 4) fun x8 =>
 letm ((x8 == 0)) fun x9 =>
 cond x9 (letm ((toU8 a2)) fun x10 =>
 bnd (idx x3 x6) fun _ =>
 bnd (idx x3 (((x6 : Int)).toNat : Int)) fun _ =>
 letm ((x3.set ((x6 : Int)).toNat x10)) fun x13 =>
 some x13)
  (letm ((x8 == 1)) fun x14 =>
 cond x14 (bnd (Gk.cut x3 0 x6) fun x15 =>
 letm ((w64 (x6 + 1))) fun x16 =>
 bnd (Gk.cut x3 x16 (x3.length : Int)) fun x17 =>
 bnd (app x15 x17) fun x18 =>
 some x18)
  (letm ((x8 == 2)) fun x19 =>
 cond x19 (bnd (Gk.cut x3 0 x6) fun x20 =>
 bnd (app [] x20) fun x21 =>
 letm ((toU8 a2)) fun x22 =>
 bnd (app x21 [x22]) fun x23 =>
 bnd (Gk.cut x3 x6 (x3.length : Int)) fun x24 =>
 bnd (app x23 x24) fun x25 =>
 some x25)
  (bnd (Gk.cut x3 0 x6) fun x26 =>
 some x26))))
def m_coresecref39_permit (a0 : (List UInt8)) : Option (S_api_Permit × Bool) :=
 loopF (R := (S_api_Permit × Bool)) (S := (Int × (Int × S_api_Permit))) (fun self2 s1 =>
 letm (decide (s1.2.1 ≤ 7)) fun x3 =>
 cond x3 (bnd (β := (Int × S_api_Permit)) (bnd (β := Bool) (letm (decide (s1.1 < (a0.length : Int))) fun x4 =>
 cond x4 (bnd (idx a0 s1.1) fun x5 =>
 letm ((w64 (s1.2.1 - 1))) fun x6 =>
 bnd (idx [71, 80, 85, 68, 70, 65, 73] x6) fun x7 =>
 letm (((UInt8.toNat x5 : Int) == (UInt8.toNat x7 : Int))) fun x8 =>
 some x8)
  (some false)) fun v9 =>
 cond v9 (letm ((w64 (s1.2.1 - 1))) fun x10 =>
 letm ((toU64 x10)) fun x11 =>
 bnd (Gk.shl 1 (UInt64.toNat x11 : Int)) fun x12 =>
 letm ((w64 (s1.2.2.2.2 + x12))) fun x13 =>
 letm ((w64 (s1.1 + 1))) fun x14 =>
 some (x14, (s1.2.2.1, (s1.2.2.2.1, x13))))
  (some (s1.1, s1.2.2))) fun v15 =>
 letm ((w64 (s1.2.1 + 1))) fun x16 =>
 self2 (v15.1, (x16, v15.2)))
  (bnd (β := Bool) (letm ((s1.2.2.2.2 == 0)) fun x17 =>
 cond x17 (some true)
  (letm (decide ((a0.length : Int) ≤ s1.1)) fun x18 =>
 cond x18 (some true)
  (bnd (idx a0 s1.1) fun x19 =>
 letm (((UInt8.toNat x19 : Int) != (UInt8.toNat 58 : Int))) fun x20 =>
 some x20))) fun v21 =>
 cond v21 (some (([], (false, 0)), false))
  (letm ((w64 (s1.1 + 1))) fun x22 =>
 bnd (Gk.cut a0 x22 (a0.length : Int)) fun x23 =>
 bnd (β := ((List UInt8) × S_api_Permit)) (bnd (β := Bool) (letm (decide (2 ≤ (x23.length : Int))) fun x24 =>
 cond x24 (letm ((w64 ((x23.length : Int) - 2))) fun x25 =>
 bnd (Gk.cut x23 x25 (x23.length : Int)) fun x26 =>
 letm ((x26 == [47, 42])) fun x27 =>
 some x27)
  (some false)) fun v28 =>
 cond v28 (letm ((w64 ((x23.length : Int) - 2))) fun x29 =>
 bnd (Gk.cut x23 0 x29) fun x30 =>
 some (x30, (s1.2.2.1, (true, s1.2.2.2.2))))
  (some (x23, s1.2.2))) fun v31 =>
 bnd (m_coresecref39_Written v31.1) fun x32 =>
 some ((v31.1, v31.2.2), x32)))) FUEL (0, (1, ([], (false, 0))))
def m_coresecref39_Parse (a0 : (List UInt8)) : Option ((List S_api_Permit) × Int) :=
 letm ((a0 == [])) fun x1 =>
 cond x1 (some ([], 0))
  (loopF (R := ((List S_api_Permit) × Int)) (S := ((List S_api_Permit) × (Int × Int))) (fun self3 s2 =>
 letm (decide (s2.2.2 ≤ (a0.length : Int))) fun x4 =>
 cond x4 (bndS (ρ := ((List S_api_Permit) × Int)) (ρ' := ((List S_api_Permit) × Int)) (Y := ((List S_api_Permit) × (Int × Int))) (bnd (β := Bool) (letm (decide (s2.2.2 < (a0.length : Int))) fun x5 =>
 cond x5 (letm ((w64 (s2.2.2 + 1))) fun x6 =>
 letm (decide ((a0.length : Int) ≤ x6)) fun x7 =>
 cond x7 (some true)
  (letm ((w64 (s2.2.2 + 2))) fun x8 =>
 bnd (Gk.cut a0 s2.2.2 x8) fun x9 =>
 letm ((x9 != [44, 32])) fun x10 =>
 some x10))
  (some false)) fun v11 =>
 cond v11 (some (.inr (s2.1, (s2.2.1, s2.2.2))))
  (bnd (Gk.cut a0 s2.2.1 s2.2.2) fun x12 =>
 bnd (m_coresecref39_permit x12) fun x13 =>
 letm ((!x13.2)) fun x14 =>
 cond x14 (some (.inl ([], 17)))
  (bnd (app s2.1 [x13.1]) fun x15 =>
 letm ((w64 (s2.2.2 + 2))) fun x16 =>
 letm ((w64 (s2.2.2 + 1))) fun x17 =>
 some (.inr (x15, (x16, x17)))))) (fun q => q) fun v18 =>
 letm ((w64 (v18.2.2 + 1))) fun x19 =>
 self3 (v18.1, (v18.2.1, x19)))
  (letm (decide (8 < (s2.1.length : Int))) fun x20 =>
 cond x20 (some ([], 8))
  (some (s2.1, 0)))) FUEL ([], (0, 0)))
def m_coresecref39_Same (a0 : (List S_api_Permit)) (a1 : (List S_api_Permit)) : Option Bool :=
 letm (((a0.length : Int) != (a1.length : Int))) fun x2 =>
 cond x2 (some false)
  (bnd (rng (a0.length : Int)) fun j11 =>
 loopN (R := Bool) (S := Unit) (fun _ _ =>
 some true)
  (fun k5 _ self7 =>
 bnd (idx a0 (k5 : Int)) fun x8 =>
 bnd (idx a1 (k5 : Int)) fun x9 =>
 letm ((!(eqS (.pr .str (.pr .bool (.int .i64))) x8 x9))) fun x10 =>
 cond x10 (some false)
  (self7 ())) j11 0 ())
def m_coreseclaw39_ScopeTexts (a0 : (List S_api_Permit)) (a1 : (List Int)) (a2 : (List UInt8)) (a3 : Int) (a4 : Int) : Option Bool :=
 bnd (β := Bool) (bnd (m_coreseclaw39_light a0) fun x5 =>
 letm ((!x5)) fun x6 =>
 cond x6 (some true)
  (letm (decide (900 < (a2.length : Int))) fun x7 =>
 some x7)) fun v8 =>
 cond v8 (bnd (m_coreseclaw39_awake ) fun x9 =>
 some x9)
  (bnd (m_coresecmake_New a1) fun x10 =>
 bnd (m_coresecmake2_Scope x10) fun x11 =>
 bnd (m_coresecref39_Print x11.1) fun x12 =>
 loopL (R := Bool) (S := Unit) (α := (List S_api_Permit)) (fun _ _ =>
 bnd (app [] x12) fun x15 =>
 bnd (m_coresecmake_Spoilt x15 a3 a4) fun x16 =>
 bnd (app x12 [44, 32]) fun x17 =>
 bnd (app x17 x12) fun x18 =>
 bnd (app x12 [44, 32]) fun x19 =>
 loopL (R := Bool) (S := Unit) (α := (List UInt8)) (fun _ _ =>
 bnd (m_scope_Parse x12) fun x22 =>
 bnd (β := Bool) (letm ((x22.2 == 0)) fun x23 =>
 cond x23 (bnd (m_coresecref39_Same x22.1 x11.1) fun x24 =>
 cond x24 (bnd (m_coreseclaw39_awake ) fun x25 =>
 some x25)
  (some false))
  (some false)) fun v26 =>
 some v26)
  (fun x27 _ _ self30 =>
 bnd (m_scope_Parse x27) fun x31 =>
 bnd (m_coresecref39_Parse x27) fun x32 =>
 bnd (β := Bool) (letm ((x31.2 != x32.2)) fun x33 =>
 cond x33 (some true)
  (bnd (m_coresecref39_Same x31.1 x32.1) fun x34 =>
 letm ((!x34)) fun x35 =>
 some x35)) fun v36 =>
 cond v36 (some false)
  (self30 ())) [a2, x12, x16, x18, x19, [71, 58, 47, 97, 44, 80, 58, 47, 98], [80, 71, 58, 47, 97], [71, 58, 47, 97, 47, 42, 42], [58, 47, 97], [71, 58, 97]] 0 ())
  (fun x37 _ _ self40 =>
 bnd (m_scope_Print x37) fun x41 =>
 bnd (m_coresecref39_Print x37) fun x42 =>
 letm ((x41 != x42)) fun x43 =>
 cond x43 (some false)
  (self40 ())) [a0, x11.1] 0 ())
end
end Go.Proofs.YtmnbkcpopfmpdaaDoor
