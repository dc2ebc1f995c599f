/-
  Models of the functions, as the evaluator computes them. No condition.
-/
import Derived.Test.YtmnbkcpopfmpdaaDoorEv
import Derived.Test.YtmnbkcpopfmpdaaDoorShelf
namespace Go.Proofs.YtmnbkcpopfmpdaaDoor
open Go.Gk Go.RowKit
noncomputable section
set_option maxRecDepth 100000
def m_strings_Split (a0 a1 : List UInt8) : Option (List (List UInt8)) := bif Nat.blt 0 a1.length && Nat.blt a0.length 4294967281 then some (Lib.split a0 a1) else none

def m_strings_IndexByte (a0 : List UInt8) (a1 : UInt8) : Option Int := some (Lib.indexByte a0 a1)

def m_strings_HasSuffix (a0 a1 : List UInt8) : Option Bool := bif Nat.ble a0.length 9223372036854775807 then some (Lib.hasSuffix a0 a1) else none

def wrOk (c : UInt8) : Bool := decide (33 ≤ c.toNat ∧ c.toNat ≤ 126 ∧ c.toNat ≠ 44 ∧ c.toNat ≠ 59 ∧ c.toNat ≠ 42)
def wrHead (l : List UInt8) : Bool := match l with | [] => true | c :: _ => Nat.beq c.toNat 47
def m_scope_written (a0 : List UInt8) : Option Bool := some (Nat.ble a0.length 64 && (wrHead a0 && a0.all wrOk))

def m_scope_parse (a0 : (List UInt8)) : Option (S_api_Permit × Bool) :=
 bndS (ρ := (S_api_Permit × Bool)) (ρ' := (S_api_Permit × Bool)) (Y := ((List UInt8) × (S_api_Permit × S_api_Permit))) (loopF (R := ((S_api_Permit × Bool) ⊕ ((List UInt8) × (S_api_Permit × S_api_Permit)))) (S := ((List UInt8) × (Int × (S_api_Permit × S_api_Permit)))) (fun self2 s1 =>
 bnd (β := Bool) (letm (decide (0 < (s1.1.length : Int))) fun x3 =>
 cond x3 (bnd (idx s1.1 0) fun x4 =>
 letm (((UInt8.toNat x4 : Int) != (UInt8.toNat 58 : Int))) fun x5 =>
 some x5)
  (some false)) fun v6 =>
 cond v6 (bnd (idx s1.1 0) fun x7 =>
 bnd (m_strings_IndexByte [71, 80, 85, 68, 70, 65, 73] x7) fun x8 =>
 letm (decide (x8 ≤ s1.2.1)) fun x9 =>
 cond x9 (some (.inl (s1.2.2.2, false)))
  (letm ((toU64 x8)) fun x10 =>
 bnd (Gk.shl 1 (UInt64.toNat x10 : Int)) fun x11 =>
 letm ((ibit .or s1.2.2.2.2.2 x11)) fun x12 =>
 bnd (Gk.cut s1.1 1 (s1.1.length : Int)) fun x13 =>
 self2 (x13, (x8, (s1.2.2.1, (s1.2.2.2.1, (s1.2.2.2.2.1, x12)))))))
  (some (.inr (s1.1, (s1.2.2.1, s1.2.2.2))))) FUEL (a0, ((-1), (([], (false, 0)), ([], (false, 0)))))) (fun q => q) fun v14 =>
 bnd (β := Bool) (letm (((v14.1.length : Int) == 0)) fun x15 =>
 cond x15 (some true)
  (letm ((v14.2.2.2.2 == 0)) fun x16 =>
 some x16)) fun v17 =>
 cond v17 (some (v14.2.2, false))
  (bnd (Gk.cut v14.1 1 (v14.1.length : Int)) fun x18 =>
 bnd (β := S_api_Permit) (bnd (m_strings_HasSuffix x18 [47, 42]) fun x19 =>
 cond x19 (letm ((w64 ((x18.length : Int) - 2))) fun x20 =>
 bnd (Gk.cut x18 0 x20) fun x21 =>
 some (x21, (true, v14.2.2.2.2)))
  (some (x18, v14.2.2.2))) fun v22 =>
 bnd (m_scope_written v22.1) fun x23 =>
 some (v22, x23))
def m_scope_Parse (a0 : (List UInt8)) : Option ((List S_api_Permit) × Int) :=
 letm ((a0 == [])) fun x1 =>
 cond x1 (some ([], 0))
  (bnd (m_strings_Split a0 [44, 32]) fun x2 =>
 loopL (R := ((List S_api_Permit) × Int)) (S := (List S_api_Permit)) (α := (List UInt8)) (fun _ s4 =>
 letm (decide (8 < (s4.length : Int))) fun x5 =>
 cond x5 (some ([], 8))
  (some (s4, 0)))
  (fun x6 _ s8 self9 =>
 bnd (m_scope_parse x6) fun x10 =>
 letm ((!x10.2)) fun x11 =>
 cond x11 (some ([], 17))
  (bnd (app s8 [x10.1]) fun x12 =>
 self9 x12)) x2 0 [])
def m_scope_Valid (a0 : (List S_api_Permit)) : Option Bool :=
 letm (decide (8 < (a0.length : Int))) fun x1 =>
 cond x1 (some false)
  (loopL (R := Bool) (S := Unit) (α := S_api_Permit) (fun _ _ =>
 some true)
  (fun x4 _ _ self7 =>
 bnd (β := Bool) (bnd (m_scope_written x4.1) fun x8 =>
 letm ((!x8)) fun x9 =>
 cond x9 (some true)
  (letm (decide (x4.2.2 < 1)) fun x10 =>
 cond x10 (some true)
  (letm (decide (127 < x4.2.2)) fun x11 =>
 some x11))) fun v12 =>
 cond v12 (some false)
  (self7 ())) a0 0 ())
def m_strings_HasPrefix (a0 a1 : List UInt8) : Option Bool := some (Lib.hasPrefix a0 a1)

def m_scope_below (a0 : (List UInt8)) (a1 : (List UInt8)) : Option Bool :=
 bnd (app a1 [47]) fun x2 =>
 bnd (m_strings_HasPrefix a0 x2) fun x3 =>
 some x3
def m_scope_covers (a0 : S_api_Permit) (a1 : (List UInt8)) : Option Bool :=
 bnd (β := Bool) (letm ((a1 == a0.1)) fun x2 =>
 cond x2 (some true)
  (cond a0.2.1 (bnd (m_scope_below a1 a0.1) fun x3 =>
 some x3)
  (some false))) fun v4 =>
 some v4
def m_scope_Permits (a0 : (List S_api_Permit)) (a1 : (List UInt8)) (a2 : Int) : Option Bool :=
 bnd (β := Bool) (letm (decide (a2 < 1)) fun x3 =>
 cond x3 (some true)
  (letm (decide (7 < a2)) fun x4 =>
 cond x4 (some true)
  (bnd (m_scope_Valid a0) fun x5 =>
 letm ((!x5)) fun x6 =>
 some x6))) fun v7 =>
 cond v7 (some false)
  (loopL (R := Bool) (S := Unit) (α := S_api_Permit) (fun _ _ =>
 some false)
  (fun x10 _ _ self13 =>
 bnd (β := Bool) (letm ((w64 (a2 - 1))) fun x14 =>
 letm ((toU64 x14)) fun x15 =>
 bnd (Gk.shr x10.2.2 (UInt64.toNat x15 : Int)) fun x16 =>
 letm ((ibit .and x16 1)) fun x17 =>
 letm ((x17 == 1)) fun x18 =>
 cond x18 (bnd (m_scope_covers x10 a1) fun x19 =>
 some x19)
  (some false)) fun v20 =>
 cond v20 (some true)
  (self13 ())) a0 0 ())
def m_strings_Join (a0 : List (List UInt8)) (a1 : List UInt8) : Option (List UInt8) := bif Nat.ble (Lib.join a0 a1).length 140737488355328 && Nat.ble a0.length 140737488355328 then some (Lib.join a0 a1) else none

def m_scope_Print (a0 : (List S_api_Permit)) : Option (List UInt8) :=
 bnd (m_scope_Valid a0) fun x1 =>
 letm ((!x1)) fun x2 =>
 cond x2 (some [])
  (bnd (β := (List (List UInt8))) (loopL (R := (List (List UInt8))) (S := (List (List UInt8))) (α := S_api_Permit) (fun _ s4 =>
 some s4)
  (fun x5 _ s7 self8 =>
 bnd (β := (List (List UInt8))) (bnd (β := (List UInt8)) (loopF (R := (List UInt8)) (S := ((List UInt8) × Int)) (fun self10 s9 =>
 letm (decide (s9.2 < 7)) fun x11 =>
 cond x11 (bnd (β := (List UInt8)) (letm ((toU64 s9.2)) fun x12 =>
 bnd (Gk.shr x5.2.2 (UInt64.toNat x12 : Int)) fun x13 =>
 letm ((ibit .and x13 1)) fun x14 =>
 letm ((x14 == 1)) fun x15 =>
 cond x15 (letm ((w64 (s9.2 + 1))) fun x16 =>
 bnd (Gk.cut [71, 80, 85, 68, 70, 65, 73] s9.2 x16) fun x17 =>
 bnd (app s9.1 x17) fun x18 =>
 some x18)
  (some s9.1)) fun v19 =>
 letm ((w64 (s9.2 + 1))) fun x20 =>
 self10 (v19, x20))
  (some s9.1)) FUEL ([], 0)) fun v21 =>
 bnd (app [58] x5.1) fun x22 =>
 bnd (app v21 x22) fun x23 =>
 bnd (β := (List UInt8)) (cond x5.2.1 (bnd (app x23 [47, 42]) fun x24 =>
 some x24)
  (some x23)) fun v25 =>
 bnd (app s7 [v25]) fun x26 =>
 some x26) fun v27 =>
 self8 v27) a0 0 []) fun v28 =>
 bnd (m_strings_Join v28 [44, 32]) fun x29 =>
 some x29)
def m_coreseclaw39_awake : Option Bool :=
 bnd (m_scope_Parse [71, 80, 58, 47, 97, 47, 42, 44, 32, 71, 58, 47, 98]) fun x0 =>
 bnd (β := Bool) (letm ((x0.2 == 0)) fun x1 =>
 cond x1 (letm (((x0.1.length : Int) == 2)) fun x2 =>
 cond x2 (bnd (m_scope_Permits x0.1 [47, 97, 47, 98] 2) fun x3 =>
 cond x3 (bnd (m_scope_Permits x0.1 [47, 97, 98] 1) fun x4 =>
 letm ((!x4)) fun x5 =>
 cond x5 (bnd (m_scope_Print x0.1) fun x6 =>
 letm ((x6 == [71, 80, 58, 47, 97, 47, 42, 44, 32, 71, 58, 47, 98])) fun x7 =>
 some x7)
  (some false))
  (some false))
  (some false))
  (some false)) fun v8 =>
 some v8
def m_coresecmake_New (a0 : (List Int)) : Option S_coresecmake_Deck :=
 some (a0, 0)
def m_coresecmake_Mod (a0 : Int) (a1 : Int) : Option Int :=
 bnd (Gk.rem a0 a1) fun x2 =>
 bnd (β := Int) (letm (decide (x2 < 0)) fun x3 =>
 cond x3 (letm ((w64 (x2 + a1))) fun x4 =>
 some x4)
  (some x2)) fun v5 =>
 some v5
def m_coresecmake_Deck_Next (a0 : S_coresecmake_Deck) (a1 : Int) : Option (Int × S_coresecmake_Deck) :=
 letm (decide ((a0.1.length : Int) ≤ a0.2)) fun x2 =>
 cond x2 (some (0, a0))
  (letm ((w64 (a0.2 + 1))) fun x3 =>
 letm ((w64 (x3 - 1))) fun x4 =>
 bnd (idx a0.1 x4) fun x5 =>
 bnd (m_coresecmake_Mod x5 a1) fun x6 =>
 some (x6, (a0.1, x3)))
def m_coresecmake2_Path (a0 : S_coresecmake_Deck) : Option ((List UInt8) × S_coresecmake_Deck) :=
 bnd (m_coresecmake_Deck_Next a0 9) fun x1 =>
 bnd (idx [[], [47], [47, 97], [47, 98], [47, 97, 47, 98], [47, 97, 47, 98, 47, 99], [47, 97, 98], [47, 97, 47], [47, 98, 47, 97]] x1.1) fun x2 =>
 some (x2, x1.2)
def m_coresecmake2_Scope (a0 : S_coresecmake_Deck) : Option ((List S_api_Permit) × S_coresecmake_Deck) :=
 bnd (m_coresecmake_Deck_Next a0 5) fun x1 =>
 loopF (R := ((List S_api_Permit) × S_coresecmake_Deck)) (S := ((List S_api_Permit) × (Int × S_coresecmake_Deck))) (fun self3 s2 =>
 letm (decide (0 < s2.2.1)) fun x4 =>
 cond x4 (bnd (m_coresecmake2_Path s2.2.2) fun x5 =>
 bnd (m_coresecmake_Deck_Next x5.2 2) fun x6 =>
 letm ((x6.1 == 0)) fun x7 =>
 bnd (m_coresecmake_Deck_Next x6.2 3) fun x8 =>
 bnd (idx [3, 7, 127] x8.1) fun x9 =>
 bnd (m_coresecmake_Deck_Next x8.2 x9) fun x10 =>
 letm ((w64 (1 + x10.1))) fun x11 =>
 bnd (app s2.1 [(x5.1, (x7, x11))]) fun x12 =>
 letm ((w64 (s2.2.1 - 1))) fun x13 =>
 self3 (x12, (x13, x10.2)))
  (some (s2.1, s2.2.2))) FUEL ([], (x1.1, x1.2))
def m_scope_includes (a0 : S_api_Permit) (a1 : S_api_Permit) : Option Bool :=
 cond a1.2.1 (bnd (β := Bool) (cond a0.2.1 (letm ((a0.1 == a1.1)) fun x2 =>
 cond x2 (some true)
  (bnd (m_scope_below a1.1 a0.1) fun x3 =>
 some x3))
  (some false)) fun v4 =>
 some v4)
  (bnd (m_scope_covers a0 a1.1) fun x5 =>
 some x5)
def m_scope_Within (a0 : (List S_api_Permit)) (a1 : (List S_api_Permit)) : Option Bool :=
 bnd (β := Bool) (bnd (m_scope_Valid a0) fun x2 =>
 letm ((!x2)) fun x3 =>
 cond x3 (some true)
  (bnd (m_scope_Valid a1) fun x4 =>
 letm ((!x4)) fun x5 =>
 some x5)) fun v6 =>
 cond v6 (some false)
  (loopL (R := Bool) (S := Unit) (α := S_api_Permit) (fun _ _ =>
 some true)
  (fun x9 _ _ self12 =>
 loopL (R := Bool) (S := Int) (α := S_api_Permit) (fun _ s14 =>
 letm ((s14 != 0)) fun x15 =>
 cond x15 (some false)
  (self12 ()))
  (fun x16 _ s18 self19 =>
 bnd (β := Int) (bnd (m_scope_includes x16 x9) fun x20 =>
 cond x20 (letm ((ibit .andNot s18 x16.2.2)) fun x21 =>
 some x21)
  (some s18)) fun v22 =>
 self19 v22) a1 0 x9.2.2) a0 0 ())
def m_scope_compare (a0 : S_api_Permit) (a1 : S_api_Permit) : Option Int :=
 letm ((strLt a0.1 a1.1)) fun x2 =>
 cond x2 (some (-1))
  (letm ((!((strLt a0.1 a1.1) || (a0.1 == a1.1)))) fun x3 =>
 cond x3 (some 1)
  (letm ((a0.2.1 == a1.2.1)) fun x4 =>
 cond x4 (some 0)
  (cond a1.2.1 (some (-1))
  (some 1))))
def m_scope_normal_1 (a0 : Int) (a1 : Int) (a2 : (Option (List S_api_Permit))) : Option Bool :=
 bnd (a2) fun x3 =>
 bnd (idx x3 a0) fun x4 =>
 bnd (a2) fun x5 =>
 bnd (idx x5 a1) fun x6 =>
 bnd (m_scope_compare x4 x6) fun x7 =>
 letm (decide (x7 < 0)) fun x8 =>
 some x8
def lt_sort (a b : S_api_Permit) : Bool := match m_scope_compare a b with
  | some c => decide (c < 0)
  | none => false
def rel_sort (xs ys : List S_api_Permit) : Prop := SrtOf lt_sort xs ys
theorem st_cons (a b : UInt8) (x y : List UInt8) : strLt (a :: x) (b :: y) = (decide (a.toNat < b.toNat) || (decide (a.toNat = b.toNat) && strLt x y)) := by
  show (decide (a < b) || (a == b && strLt x y)) = _
  have e1 : decide (a < b) = decide (a.toNat < b.toNat) := decide_eq_decide.2 UInt8.lt_iff_toNat_lt
  have e2 : (a == b) = decide (a.toNat = b.toNat) := by rw [Bool.eq_iff_iff, beq_iff_eq, decide_eq_true_eq]; exact ⟨fun h => by rw [h], fun h => UInt8.toNat_inj.1 h⟩
  rw [e1, e2]
theorem st_irr : ∀ a : List UInt8, strLt a a = false
  | [] => rfl
  | c :: a => by rw [st_cons, st_irr a]; simp
theorem st_tri : ∀ a b : List UInt8, strLt a b = false → strLt b a = false → a = b
  | [], [], _, _ => rfl
  | [], _ :: _, h, _ => by cases h
  | _ :: _, [], _, h => by cases h
  | a :: x, b :: y, h1, h2 => by
    rw [st_cons] at h1 h2
    simp only [Bool.or_eq_false_iff, Bool.and_eq_false_iff, decide_eq_false_iff_not] at h1 h2
    have e : a.toNat = b.toNat := by omega
    have h3 : strLt x y = false := by
      rcases h1.2 with h | h
      · exact absurd e h
      · exact h
    have h4 : strLt y x = false := by
      rcases h2.2 with h | h
      · exact absurd e.symm h
      · exact h
    rw [UInt8.toNat_inj.1 e, st_tri x y h3 h4]
theorem st_trans : ∀ a b c : List UInt8, strLt a b = true → strLt b c = true → strLt a c = true
  | [], [], _, h, _ => by cases h
  | _ :: _, [], _, h, _ => by cases h
  | _, _ :: _, [], _, h => by cases h
  | [], _ :: _, _ :: _, _, _ => rfl
  | a :: x, b :: y, c :: z, h1, h2 => by
    rw [st_cons] at h1 h2 ⊢
    simp only [Bool.or_eq_true, Bool.and_eq_true, decide_eq_true_eq] at h1 h2 ⊢
    rcases h1 with h1 | ⟨h1, h3⟩
    · rcases h2 with h2 | ⟨h2, h4⟩
      · exact .inl (by omega)
      · exact .inl (by omega)
    · rcases h2 with h2 | ⟨h2, h4⟩
      · exact .inl (by omega)
      · exact .inr ⟨by omega, st_trans x y z h3 h4⟩
theorem cmp_val (a b : S_api_Permit) : m_scope_compare a b = some (bif strLt a.1 b.1 then -1 else bif !(a.1 == b.1) then 1 else bif (a.2.1 == b.2.1) then 0 else bif b.2.1 then -1 else 1) := by
  unfold m_scope_compare letm
  cases strLt a.1 b.1 with
  | true => rfl
  | false =>
    cases (a.1 == b.1) with
    | false => rfl
    | true =>
      cases (a.2.1 == b.2.1) with
      | true => rfl
      | false => cases b.2.1 <;> rfl
theorem lt_val (a b : S_api_Permit) : lt_sort a b = (strLt a.1 b.1 || ((a.1 == b.1) && (!a.2.1 && b.2.1))) := by
  unfold lt_sort
  rw [cmp_val]
  cases strLt a.1 b.1 <;> cases (a.1 == b.1) <;> cases a.2.1 <;> cases b.2.1 <;> rfl
theorem swo_sort : Sort.SWO lt_sort := by
  refine ⟨fun x => ?_, fun x y z h1 h2 => ?_, fun x y z h1 h2 => ?_⟩
  · rw [lt_val, st_irr]; cases x.2.1 <;> simp
  · rw [lt_val] at h1 h2 ⊢
    simp only [Bool.or_eq_true, Bool.and_eq_true, Bool.not_eq_true', beq_iff_eq] at h1 h2 ⊢
    rcases h1 with h1 | ⟨h1, h3, h5⟩
    · rcases h2 with h2 | ⟨h2, _⟩
      · exact .inl (st_trans _ _ _ h1 h2)
      · rw [h2] at h1; exact .inl h1
    · rcases h2 with h2 | ⟨_, h4, _⟩
      · rw [← h1] at h2; exact .inl h2
      · rw [h5] at h4; cases h4
  · rw [lt_val] at h1 h2 ⊢
    simp only [Bool.or_eq_false_iff, Bool.and_eq_false_iff, Bool.not_eq_false', beq_eq_false_iff_ne] at h1 h2 ⊢
    obtain ⟨a1, a2⟩ := h1
    obtain ⟨b1, b2⟩ := h2
    have hle : strLt x.1 z.1 = false := by
      cases h : strLt x.1 z.1 with
      | false => rfl
      | true =>
        cases hyx : strLt y.1 x.1 with
        | true => rw [st_trans _ _ _ hyx h] at b1; cases b1
        | false => rw [st_tri _ _ a1 hyx, b1] at h; cases h
    refine ⟨hle, ?_⟩
    by_cases e : x.1 = z.1
    · right
      have hxy : x.1 = y.1 := by
        refine st_tri _ _ a1 ?_
        rw [e]
        cases h : strLt y.1 z.1 with
        | false => rfl
        | true => rw [h] at b1; cases b1
      rcases a2 with h | h | h
      · exact absurd hxy h
      · exact .inl h
      · rcases b2 with h' | h' | h'
        · exact absurd (hxy.symm.trans e) h'
        · rw [h] at h'; cases h'
        · exact .inr h'
    · exact .inl e

def m_scope_normal (a0 : (List S_api_Permit)) : Option (List S_api_Permit) :=
 bnd (app [] a0) fun x1 =>
 cond (Nat.ble (List.length x1) 4294967296) (anyS (rel_sort x1) fun v2 =>
 loopL (R := (List S_api_Permit)) (S := (List S_api_Permit)) (α := S_api_Permit) (fun _ s4 =>
 bnd (rng (s4.length : Int)) fun j29 =>
 loopN (R := (List S_api_Permit)) (S := (List S_api_Permit)) (fun _ s6 =>
 some s6)
  (fun k7 s8 self9 =>
 bnd (β := (List S_api_Permit)) (bnd (idx s4 (k7 : Int)) fun _ =>
 bnd (idx s4 ((((k7 : Int) : Int)).toNat : Int)) fun x11 =>
 bnd (rng (s4.length : Int)) fun j27 =>
 loopN (R := (List S_api_Permit)) (S := S_api_Permit) (fun _ s13 =>
 letm ((s13.2.2 != 0)) fun x14 =>
 cond x14 (bnd (app s8 [s13]) fun x15 =>
 some x15)
  (some s8))
  (fun k16 s17 self18 =>
 bnd (β := S_api_Permit) (bnd (idx s4 (k16 : Int)) fun _ =>
 bnd (idx s4 ((((k16 : Int) : Int)).toNat : Int)) fun x20 =>
 bnd (β := Bool) (bnd (m_scope_compare s17 x20) fun x21 =>
 letm ((x21 != 0)) fun x22 =>
 cond x22 (bnd (m_scope_includes x20 s17) fun x23 =>
 some x23)
  (some false)) fun v24 =>
 cond v24 (letm ((ibit .andNot s17.2.2 x20.2.2)) fun x25 =>
 some (s17.1, (s17.2.1, x25)))
  (some s17)) fun v26 =>
 self18 v26) j27 0 x11) fun v28 =>
 self9 v28) j29 0 [])
  (fun x30 _ s32 self33 =>
 bnd (β := (List S_api_Permit)) (bnd (β := Bool) (letm (decide (0 < (s32.length : Int))) fun x34 =>
 cond x34 (letm ((w64 ((s32.length : Int) - 1))) fun x35 =>
 bnd (idx s32 x35) fun _ =>
 bnd (idx s32 (((x35 : Int)).toNat : Int)) fun x37 =>
 bnd (m_scope_compare x37 x30) fun x38 =>
 letm ((x38 == 0)) fun x39 =>
 some x39)
  (some false)) fun v40 =>
 cond v40 (letm ((w64 ((s32.length : Int) - 1))) fun x41 =>
 bnd (idx s32 x41) fun _ =>
 bnd (idx s32 (((x41 : Int)).toNat : Int)) fun x43 =>
 letm ((ibit .or x43.2.2 x30.2.2)) fun x44 =>
 bnd (idx s32 x41) fun _ =>
 bnd (idx s32 (((x41 : Int)).toNat : Int)) fun x46 =>
 letm ((s32.set ((x41 : Int)).toNat (x46.1, (x46.2.1, x44)))) fun x47 =>
 some x47)
  (bnd (app s32 [x30]) fun x48 =>
 some x48)) fun v49 =>
 self33 v49) v2 0 []) none
def m_scope_Normal (a0 : (List S_api_Permit)) : Option (List S_api_Permit) :=
 bnd (m_scope_Valid a0) fun x1 =>
 letm ((!x1)) fun x2 =>
 cond x2 (some [])
  (bnd (m_scope_normal a0) fun x3 =>
 some x3)
def m_coresecref39_Same (a0 : (List S_api_Permit)) (a1 : (List S_api_Permit)) : Option Bool :=
 letm (((a0.length : Int) != (a1.length : Int))) fun x2 =>
 cond x2 (some false)
  (bnd (rng (a0.length : Int)) fun j11 =>
 loopN (R := Bool) (S := Unit) (fun _ _ =>
 some true)
  (fun k5 _ self7 =>
 bnd (idx a0 (k5 : Int)) fun x8 =>
 bnd (idx a1 (k5 : Int)) fun x9 =>
 letm ((!(eqS (.pr .str (.pr .bool (.int .i64))) x8 x9))) fun x10 =>
 cond x10 (some false)
  (self7 ())) j11 0 ())
def m_coreseclaw39_paths (a0 : (List UInt8)) : Option (List (List UInt8)) :=
 some [[], [47], [47, 97], [47, 98], [47, 97, 47, 98], [47, 97, 47, 98, 47, 99], [47, 97, 47, 98, 47, 99, 47, 100], [47, 97, 98], [47, 97, 47], [47, 97, 47, 47], [47, 47], [47, 98, 47, 97], [47, 98, 47, 97, 47, 120], [97], [47, 122, 122], a0]
def m_coreseclaw39_ScopeOrder (a0 : (List Int)) (a1 : (List Int)) (a2 : (List Int)) (a3 : (List UInt8)) : Option Bool :=
 letm (decide (300 < (a3.length : Int))) fun x4 =>
 cond x4 (bnd (m_coreseclaw39_awake ) fun x5 =>
 some x5)
  (bnd (m_coresecmake_New a0) fun x6 =>
 bnd (m_coresecmake2_Scope x6) fun x7 =>
 bnd (m_coresecmake_New a1) fun x8 =>
 bnd (m_coresecmake2_Scope x8) fun x9 =>
 bnd (m_coresecmake_New a2) fun x10 =>
 bnd (m_coresecmake2_Scope x10) fun x11 =>
 bnd (m_scope_Within x7.1 x9.1) fun x12 =>
 bnd (m_scope_Within x9.1 x7.1) fun x13 =>
 bnd (m_scope_Within x9.1 x11.1) fun x14 =>
 bnd (m_scope_Within x7.1 x11.1) fun x15 =>
 bnd (β := Bool) (bnd (m_scope_Within x7.1 x7.1) fun x16 =>
 letm ((!x16)) fun x17 =>
 cond x17 (some true)
  (cond x12 (cond x14 (letm ((!x15)) fun x18 =>
 cond x18 (some true)
  (cond x12 (bnd (m_scope_Normal x7.1) fun x19 =>
 bnd (m_scope_Normal x9.1) fun x20 =>
 bnd (m_coresecref39_Same x19 x20) fun x21 =>
 letm ((x13 != x21)) fun x22 =>
 some x22)
  (some false)))
  (cond x12 (bnd (m_scope_Normal x7.1) fun x23 =>
 bnd (m_scope_Normal x9.1) fun x24 =>
 bnd (m_coresecref39_Same x23 x24) fun x25 =>
 letm ((x13 != x25)) fun x26 =>
 some x26)
  (some false)))
  (cond x12 (bnd (m_scope_Normal x7.1) fun x27 =>
 bnd (m_scope_Normal x9.1) fun x28 =>
 bnd (m_coresecref39_Same x27 x28) fun x29 =>
 letm ((x13 != x29)) fun x30 =>
 some x30)
  (some false)))) fun v31 =>
 cond v31 (some false)
  (bndS (ρ := Bool) (ρ' := Bool) (Y := Bool) (bnd (m_coreseclaw39_paths a3) fun x32 =>
 loopL (R := (Bool ⊕ Bool)) (S := Bool) (α := (List UInt8)) (fun _ s34 =>
 some (.inr s34))
  (fun x35 _ s37 self38 =>
 bndS (ρ := (Bool ⊕ Bool)) (ρ' := (Bool ⊕ Bool)) (Y := Bool) (loopF (R := ((Bool ⊕ Bool) ⊕ Bool)) (S := (Bool × Int)) (fun self40 s39 =>
 letm (decide (s39.2 ≤ 7)) fun x41 =>
 cond x41 (bnd (m_scope_Permits x7.1 x35 s39.2) fun x42 =>
 bnd (m_scope_Permits x9.1 x35 s39.2) fun x43 =>
 bnd (β := Bool) (cond x12 (cond x42 (letm ((!x43)) fun x44 =>
 some x44)
  (some false))
  (some false)) fun v45 =>
 cond v45 (some (.inl (.inl false)))
  (cond s39.1 (letm ((w64 (s39.2 + 1))) fun x46 =>
 self40 (true, x46))
  (cond x42 (letm ((!x43)) fun x47 =>
 letm ((w64 (s39.2 + 1))) fun x48 =>
 self40 (x47, x48))
  (letm ((w64 (s39.2 + 1))) fun x49 =>
 self40 (false, x49)))))
  (some (.inr s39.1))) FUEL (s37, 1)) (fun q => q) fun v50 =>
 self38 v50) x32 0 false) (fun q => q) fun v51 =>
 bnd (β := Bool) (letm ((!v51)) fun x52 =>
 cond x52 (some true)
  (letm ((!x12)) fun x53 =>
 some x53)) fun v54 =>
 some v54))
def m_scope_limited (a0 : (List S_api_Permit)) : Option ((List S_api_Permit) × Int) :=
 bnd (m_scope_normal a0) fun x1 =>
 letm (decide (8 < (x1.length : Int))) fun x2 =>
 cond x2 (some ([], 8))
  (some (x1, 0))
def m_scope_Meet (a0 : (List S_api_Permit)) (a1 : (List S_api_Permit)) : Option ((List S_api_Permit) × Int) :=
 bnd (β := Bool) (bnd (m_scope_Valid a0) fun x2 =>
 letm ((!x2)) fun x3 =>
 cond x3 (some true)
  (bnd (m_scope_Valid a1) fun x4 =>
 letm ((!x4)) fun x5 =>
 some x5)) fun v6 =>
 cond v6 (some ([], 1))
  (loopL (R := ((List S_api_Permit) × Int)) (S := (List S_api_Permit)) (α := S_api_Permit) (fun _ s8 =>
 bnd (m_scope_limited s8) fun x9 =>
 some (x9.1, x9.2))
  (fun x10 _ s12 self13 =>
 loopL (R := ((List S_api_Permit) × Int)) (S := (List S_api_Permit)) (α := S_api_Permit) (fun _ s15 =>
 self13 s15)
  (fun x16 _ s18 self19 =>
 bnd (β := (List S_api_Permit)) (bndS (ρ := (List S_api_Permit)) (ρ' := (List S_api_Permit)) (Y := S_api_Permit) (bnd (m_scope_includes x16 x10) fun x20 =>
 letm ((!x20)) fun x21 =>
 cond x21 (bnd (m_scope_includes x10 x16) fun x22 =>
 letm ((!x22)) fun x23 =>
 cond x23 (some (.inl s18))
  (some (.inr x16)))
  (some (.inr x10))) (fun q => q) fun v24 =>
 letm ((ibit .and x10.2.2 x16.2.2)) fun x25 =>
 letm ((x25 != 0)) fun x26 =>
 cond x26 (bnd (app s18 [(v24.1, (v24.2.1, x25))]) fun x27 =>
 some x27)
  (some s18)) fun v28 =>
 self19 v28) a1 0 s12) a0 0 [])
def m_scope_Join (a0 : (List S_api_Permit)) (a1 : (List S_api_Permit)) : Option ((List S_api_Permit) × Int) :=
 bnd (β := Bool) (bnd (m_scope_Valid a0) fun x2 =>
 letm ((!x2)) fun x3 =>
 cond x3 (some true)
  (bnd (m_scope_Valid a1) fun x4 =>
 letm ((!x4)) fun x5 =>
 some x5)) fun v6 =>
 cond v6 (some ([], 1))
  (bnd (app [] a0) fun x7 =>
 bnd (app x7 a1) fun x8 =>
 bnd (m_scope_limited x8) fun x9 =>
 some (x9.1, x9.2))
def m_coreseclaw39_ScopeLattice (a0 : (List Int)) (a1 : (List Int)) (a2 : (List Int)) (a3 : (List UInt8)) : Option Bool :=
 letm (decide (300 < (a3.length : Int))) fun x4 =>
 cond x4 (bnd (m_coreseclaw39_awake ) fun x5 =>
 some x5)
  (bnd (m_coresecmake_New a0) fun x6 =>
 bnd (m_coresecmake2_Scope x6) fun x7 =>
 bnd (m_coresecmake_New a1) fun x8 =>
 bnd (m_coresecmake2_Scope x8) fun x9 =>
 bnd (m_coresecmake_New a2) fun x10 =>
 bnd (m_coresecmake2_Scope x10) fun x11 =>
 bnd (m_scope_Meet x7.1 x9.1) fun x12 =>
 bnd (m_scope_Join x7.1 x9.1) fun x13 =>
 bnd (β := Bool) (letm ((x12.2 != 0)) fun x14 =>
 cond x14 (letm ((x12.2 != 8)) fun x15 =>
 cond x15 (some true)
  (letm ((x13.2 != 0)) fun x16 =>
 cond x16 (letm ((x13.2 != 8)) fun x17 =>
 some x17)
  (some false)))
  (letm ((x13.2 != 0)) fun x18 =>
 cond x18 (letm ((x13.2 != 8)) fun x19 =>
 some x19)
  (some false))) fun v20 =>
 cond v20 (some false)
  (bnd (m_scope_Normal x7.1) fun x21 =>
 bndS (ρ := Bool) (ρ' := Bool) (Y := Unit) (bnd (m_coreseclaw39_paths a3) fun x22 =>
 loopL (R := (Bool ⊕ Unit)) (S := Unit) (α := (List UInt8)) (fun _ _ =>
 some (.inr ()))
  (fun x25 _ _ self28 =>
 bndS (ρ := (Bool ⊕ Unit)) (ρ' := (Bool ⊕ Unit)) (Y := Unit) (loopF (R := ((Bool ⊕ Unit) ⊕ Unit)) (S := Int) (fun self30 s29 =>
 letm (decide (s29 ≤ 7)) fun x31 =>
 cond x31 (bnd (m_scope_Permits x7.1 x25 s29) fun x32 =>
 bnd (m_scope_Permits x9.1 x25 s29) fun x33 =>
 bnd (β := Bool) (letm ((x12.2 == 0)) fun x34 =>
 cond x34 (bnd (m_scope_Permits x12.1 x25 s29) fun x35 =>
 cond x32 (letm ((x35 != x33)) fun x36 =>
 cond x36 (some true)
  (letm ((x13.2 == 0)) fun x37 =>
 cond x37 (bnd (m_scope_Permits x13.1 x25 s29) fun x38 =>
 cond x32 (letm ((x38 != true)) fun x39 =>
 cond x39 (some true)
  (bnd (m_scope_Permits x21 x25 s29) fun x40 =>
 letm ((x40 != x32)) fun x41 =>
 some x41))
  (letm ((x38 != x33)) fun x42 =>
 cond x42 (some true)
  (bnd (m_scope_Permits x21 x25 s29) fun x43 =>
 letm ((x43 != x32)) fun x44 =>
 some x44)))
  (bnd (m_scope_Permits x21 x25 s29) fun x45 =>
 letm ((x45 != x32)) fun x46 =>
 some x46)))
  (letm ((x35 != false)) fun x47 =>
 cond x47 (some true)
  (letm ((x13.2 == 0)) fun x48 =>
 cond x48 (bnd (m_scope_Permits x13.1 x25 s29) fun x49 =>
 cond x32 (letm ((x49 != true)) fun x50 =>
 cond x50 (some true)
  (bnd (m_scope_Permits x21 x25 s29) fun x51 =>
 letm ((x51 != x32)) fun x52 =>
 some x52))
  (letm ((x49 != x33)) fun x53 =>
 cond x53 (some true)
  (bnd (m_scope_Permits x21 x25 s29) fun x54 =>
 letm ((x54 != x32)) fun x55 =>
 some x55)))
  (bnd (m_scope_Permits x21 x25 s29) fun x56 =>
 letm ((x56 != x32)) fun x57 =>
 some x57))))
  (letm ((x13.2 == 0)) fun x58 =>
 cond x58 (bnd (m_scope_Permits x13.1 x25 s29) fun x59 =>
 cond x32 (letm ((x59 != true)) fun x60 =>
 cond x60 (some true)
  (bnd (m_scope_Permits x21 x25 s29) fun x61 =>
 letm ((x61 != x32)) fun x62 =>
 some x62))
  (letm ((x59 != x33)) fun x63 =>
 cond x63 (some true)
  (bnd (m_scope_Permits x21 x25 s29) fun x64 =>
 letm ((x64 != x32)) fun x65 =>
 some x65)))
  (bnd (m_scope_Permits x21 x25 s29) fun x66 =>
 letm ((x66 != x32)) fun x67 =>
 some x67))) fun v68 =>
 cond v68 (some (.inl (.inl false)))
  (letm ((w64 (s29 + 1))) fun x69 =>
 self30 x69))
  (some (.inr ()))) FUEL 1) (fun q => q) fun _ =>
 self28 ()) x22 0 ()) (fun q => q) fun _ =>
 bnd (β := Bool) (letm ((x12.2 == 0)) fun x72 =>
 cond x72 (bnd (m_scope_Within x12.1 x7.1) fun x73 =>
 letm ((!x73)) fun x74 =>
 cond x74 (some true)
  (bnd (m_scope_Within x12.1 x9.1) fun x75 =>
 letm ((!x75)) fun x76 =>
 cond x76 (some true)
  (bnd (m_scope_Within x11.1 x7.1) fun x77 =>
 cond x77 (bnd (m_scope_Within x11.1 x9.1) fun x78 =>
 bnd (m_scope_Within x11.1 x12.1) fun x79 =>
 letm ((x78 != x79)) fun x80 =>
 some x80)
  (some false))))
  (some false)) fun v81 =>
 cond v81 (some false)
  (bnd (β := Bool) (letm ((x13.2 == 0)) fun x82 =>
 cond x82 (bnd (m_scope_Within x7.1 x13.1) fun x83 =>
 letm ((!x83)) fun x84 =>
 cond x84 (some true)
  (bnd (m_scope_Within x9.1 x13.1) fun x85 =>
 letm ((!x85)) fun x86 =>
 cond x86 (some true)
  (bnd (m_scope_Within x7.1 x11.1) fun x87 =>
 cond x87 (bnd (m_scope_Within x9.1 x11.1) fun x88 =>
 bnd (m_scope_Within x13.1 x11.1) fun x89 =>
 letm ((x88 != x89)) fun x90 =>
 some x90)
  (some false))))
  (some false)) fun v91 =>
 cond v91 (some false)
  (bnd (β := Bool) (bnd (m_scope_Normal x21) fun x92 =>
 bnd (m_coresecref39_Same x92 x21) fun x93 =>
 cond x93 (bnd (m_coreseclaw39_awake ) fun x94 =>
 some x94)
  (some false)) fun v95 =>
 some v95))))
def m_coreseclaw39_light (a0 : (List S_api_Permit)) : Option Bool :=
 loopL (R := Bool) (S := Unit) (α := S_api_Permit) (fun _ _ =>
 letm (decide ((a0.length : Int) ≤ 20)) fun x3 =>
 some x3)
  (fun x4 _ _ self7 =>
 letm (decide (300 < (x4.1.length : Int))) fun x8 =>
 cond x8 (some false)
  (self7 ())) a0 0 ()
def m_coresecref39_Written (a0 : (List UInt8)) : Option Bool :=
 bnd (β := Bool) (letm (decide (64 < (a0.length : Int))) fun x1 =>
 cond x1 (some true)
  (letm (decide (0 < (a0.length : Int))) fun x2 =>
 cond x2 (bnd (idx a0 0) fun x3 =>
 letm (((UInt8.toNat x3 : Int) != (UInt8.toNat 47 : Int))) fun x4 =>
 some x4)
  (some false))) fun v5 =>
 cond v5 (some false)
  (loopF (R := Bool) (S := Int) (fun self7 s6 =>
 letm (decide (s6 < (a0.length : Int))) fun x8 =>
 cond x8 (bnd (β := Bool) (bnd (idx a0 s6) fun x9 =>
 letm (decide ((UInt8.toNat x9 : Int) < (UInt8.toNat 33 : Int))) fun x10 =>
 cond x10 (some true)
  (bnd (idx a0 s6) fun x11 =>
 letm (decide ((UInt8.toNat 126 : Int) < (UInt8.toNat x11 : Int))) fun x12 =>
 cond x12 (some true)
  (bnd (idx a0 s6) fun x13 =>
 letm (((UInt8.toNat x13 : Int) == (UInt8.toNat 44 : Int))) fun x14 =>
 cond x14 (some true)
  (bnd (idx a0 s6) fun x15 =>
 letm (((UInt8.toNat x15 : Int) == (UInt8.toNat 59 : Int))) fun x16 =>
 cond x16 (some true)
  (bnd (idx a0 s6) fun x17 =>
 letm (((UInt8.toNat x17 : Int) == (UInt8.toNat 42 : Int))) fun x18 =>
 some x18))))) fun v19 =>
 cond v19 (some false)
  (letm ((w64 (s6 + 1))) fun x20 =>
 self7 x20))
  (some true)) FUEL 0)
def m_coresecref39_fine (a0 : S_api_Permit) : Option Bool :=
 bnd (β := Bool) (bnd (m_coresecref39_Written a0.1) fun x1 =>
 cond x1 (letm (decide (1 ≤ a0.2.2)) fun x2 =>
 cond x2 (letm (decide (a0.2.2 ≤ 127)) fun x3 =>
 some x3)
  (some false))
  (some false)) fun v4 =>
 some v4
def m_coresecref39_Valid (a0 : (List S_api_Permit)) : Option Bool :=
 loopL (R := Bool) (S := Unit) (α := S_api_Permit) (fun _ _ =>
 letm (decide ((a0.length : Int) ≤ 8)) fun x3 =>
 some x3)
  (fun x4 _ _ self7 =>
 bnd (m_coresecref39_fine x4) fun x8 =>
 letm ((!x8)) fun x9 =>
 cond x9 (some false)
  (self7 ())) a0 0 ()
def m_coresecref39_bit (a0 : S_api_Permit) (a1 : Int) : Option Bool :=
 letm ((w64 (a1 - 1))) fun x2 =>
 letm ((toU64 x2)) fun x3 =>
 bnd (Gk.shr a0.2.2 (UInt64.toNat x3 : Int)) fun x4 =>
 letm ((ibit .and x4 1)) fun x5 =>
 letm ((x5 == 1)) fun x6 =>
 some x6
def m_coresecref39_under (a0 : (List UInt8)) (a1 : (List UInt8)) : Option Bool :=
 bnd (β := Bool) (letm (decide ((a1.length : Int) < (a0.length : Int))) fun x2 =>
 cond x2 (bnd (Gk.cut a0 0 (a1.length : Int)) fun x3 =>
 letm ((x3 == a1)) fun x4 =>
 cond x4 (bnd (idx a0 (a1.length : Int)) fun x5 =>
 letm (((UInt8.toNat x5 : Int) == (UInt8.toNat 47 : Int))) fun x6 =>
 some x6)
  (some false))
  (some false)) fun v7 =>
 some v7
def m_coresecref39_before (a0 : S_api_Permit) (a1 : S_api_Permit) : Option Bool :=
 bnd (β := Bool) (letm ((strLt a0.1 a1.1)) fun x2 =>
 cond x2 (some true)
  (letm ((a0.1 == a1.1)) fun x3 =>
 cond x3 (letm ((!a0.2.1)) fun x4 =>
 cond x4 (some a1.2.1)
  (some false))
  (some false))) fun v5 =>
 some v5
def m_coresecref39_normal (a0 : (List S_api_Permit)) : Option (List S_api_Permit) :=
 loopL (R := (List S_api_Permit)) (S := (List S_api_Permit)) (α := S_api_Permit) (fun _ s2 =>
 some s2)
  (fun x3 _ s5 self6 =>
 bnd (β := (List S_api_Permit)) (loopF (R := (List S_api_Permit)) (S := (Int × S_api_Permit)) (fun self8 s7 =>
 letm (decide (s7.1 ≤ 7)) fun x9 =>
 cond x9 (bnd (β := S_api_Permit) (loopL (R := S_api_Permit) (S := (Bool × Bool)) (α := S_api_Permit) (fun _ s11 =>
 bnd (β := Bool) (cond s11.1 (letm ((!s11.2)) fun x12 =>
 some x12)
  (some false)) fun v13 =>
 cond v13 (letm ((w64 (s7.1 - 1))) fun x14 =>
 letm ((toU64 x14)) fun x15 =>
 bnd (Gk.shl 1 (UInt64.toNat x15 : Int)) fun x16 =>
 letm ((w64 (s7.2.2.2 + x16))) fun x17 =>
 some (s7.2.1, (s7.2.2.1, x17)))
  (some s7.2))
  (fun x18 _ s20 self21 =>
 bnd (β := (Bool × Bool)) (bnd (m_coresecref39_bit x18 s7.1) fun x22 =>
 letm ((!x22)) fun x23 =>
 cond x23 (some (s20.1, s20.2))
  (bnd (β := Bool) (cond s20.1 (some true)
  (letm ((x18.1 == x3.1)) fun x24 =>
 cond x24 (letm ((x18.2.1 == x3.2.1)) fun x25 =>
 some x25)
  (some false))) fun v26 =>
 cond s20.2 (some (v26, true))
  (cond x18.2.1 (bnd (m_coresecref39_under x3.1 x18.1) fun x27 =>
 cond x27 (some (v26, true))
  (letm ((x18.1 == x3.1)) fun x28 =>
 cond x28 (letm ((!x3.2.1)) fun x29 =>
 some (v26, x29))
  (some (v26, false))))
  (some (v26, false))))) fun v30 =>
 self21 (v30.1, v30.2)) a0 0 (false, false)) fun v31 =>
 letm ((w64 (s7.1 + 1))) fun x32 =>
 self8 (x32, v31))
  (letm ((s7.2.2.2 == 0)) fun x33 =>
 cond x33 (some s5)
  (bnd (β := Int) (loopF (R := Int) (S := Int) (fun self35 s34 =>
 bnd (β := Bool) (letm (decide (s34 < (s5.length : Int))) fun x36 =>
 cond x36 (bnd (idx s5 s34) fun _ =>
 bnd (idx s5 (((s34 : Int)).toNat : Int)) fun x38 =>
 bnd (m_coresecref39_before x38 s7.2) fun x39 =>
 some x39)
  (some false)) fun v40 =>
 cond v40 (letm ((w64 (s34 + 1))) fun x41 =>
 self35 x41)
  (some s34)) FUEL 0) fun v42 =>
 bnd (β := Bool) (letm (decide (v42 < (s5.length : Int))) fun x43 =>
 cond x43 (bnd (idx s5 v42) fun _ =>
 bnd (idx s5 (((v42 : Int)).toNat : Int)) fun x45 =>
 letm ((eqS (.pr .str (.pr .bool (.int .i64))) x45 s7.2)) fun x46 =>
 some x46)
  (some false)) fun v47 =>
 cond v47 (some s5)
  (bnd (Gk.cut s5 v42 (s5.length : Int)) fun x48 =>
 bnd (app [] x48) fun x49 =>
 bnd (Gk.cut s5 0 v42) fun x50 =>
 bnd (app x50 [s7.2]) fun x51 =>
 bnd (app x51 x49) fun x52 =>
 some x52)))) FUEL (1, (x3.1, (x3.2.1, 0)))) fun v53 =>
 self6 v53) a0 0 []
def m_coresecref39_Normal (a0 : (List S_api_Permit)) : Option (List S_api_Permit) :=
 bnd (m_coresecref39_Valid a0) fun x1 =>
 letm ((!x1)) fun x2 =>
 cond x2 (some [])
  (bnd (m_coresecref39_normal a0) fun x3 =>
 some x3)
def m_coresecref39_both (a0 : S_api_Permit) (a1 : S_api_Permit) : Option (S_api_Permit × Bool) :=
 letm ((ibit .and a0.2.2 a1.2.2)) fun x2 =>
 letm ((x2 == 0)) fun x3 =>
 cond x3 (some (([], (false, 0)), false))
  (letm ((a0.1 == a1.1)) fun x4 =>
 cond x4 (bnd (β := (Bool × S_api_Permit)) (cond a0.2.1 (some (true, (a0.1, (a1.2.1, x2))))
  (some (true, (a0.1, (false, x2))))) fun v5 =>
 some (v5.2, v5.1))
  (bnd (β := Bool) (cond a1.2.1 (bnd (m_coresecref39_under a0.1 a1.1) fun x6 =>
 some x6)
  (some false)) fun v7 =>
 cond v7 (some ((a0.1, (a0.2.1, x2)), true))
  (bnd (β := Bool) (cond a0.2.1 (bnd (m_coresecref39_under a1.1 a0.1) fun x8 =>
 some x8)
  (some false)) fun v9 =>
 cond v9 (some ((a1.1, (a1.2.1, x2)), true))
  (some (([], (false, 0)), false)))))
def m_coresecref39_limited (a0 : (List S_api_Permit)) : Option ((List S_api_Permit) × Int) :=
 bnd (m_coresecref39_normal a0) fun x1 =>
 letm (decide (8 < (x1.length : Int))) fun x2 =>
 cond x2 (some ([], 8))
  (some (x1, 0))
def m_coresecref39_Meet (a0 : (List S_api_Permit)) (a1 : (List S_api_Permit)) : Option ((List S_api_Permit) × Int) :=
 bnd (β := Bool) (bnd (m_coresecref39_Valid a0) fun x2 =>
 letm ((!x2)) fun x3 =>
 cond x3 (some true)
  (bnd (m_coresecref39_Valid a1) fun x4 =>
 letm ((!x4)) fun x5 =>
 some x5)) fun v6 =>
 cond v6 (some ([], 1))
  (loopL (R := ((List S_api_Permit) × Int)) (S := (List S_api_Permit)) (α := S_api_Permit) (fun _ s8 =>
 bnd (m_coresecref39_limited s8) fun x9 =>
 some (x9.1, x9.2))
  (fun x10 _ s12 self13 =>
 loopL (R := ((List S_api_Permit) × Int)) (S := (List S_api_Permit)) (α := S_api_Permit) (fun _ s15 =>
 self13 s15)
  (fun x16 _ s18 self19 =>
 bnd (β := (List S_api_Permit)) (bnd (m_coresecref39_both x10 x16) fun x20 =>
 cond x20.2 (bnd (app s18 [x20.1]) fun x21 =>
 some x21)
  (some s18)) fun v22 =>
 self19 v22) a1 0 s12) a0 0 [])
def m_coresecref39_Join (a0 : (List S_api_Permit)) (a1 : (List S_api_Permit)) : Option ((List S_api_Permit) × Int) :=
 bnd (β := Bool) (bnd (m_coresecref39_Valid a0) fun x2 =>
 letm ((!x2)) fun x3 =>
 cond x3 (some true)
  (bnd (m_coresecref39_Valid a1) fun x4 =>
 letm ((!x4)) fun x5 =>
 some x5)) fun v6 =>
 cond v6 (some ([], 1))
  (bnd (app [] a0) fun x7 =>
 bnd (app x7 a1) fun x8 =>
 bnd (m_coresecref39_limited x8) fun x9 =>
 some (x9.1, x9.2))
def m_coresecref39_whole (a0 : (List S_api_Permit)) (a1 : (List UInt8)) (a2 : Int) : Option Bool :=
 loopL (R := Bool) (S := Unit) (α := S_api_Permit) (fun _ _ =>
 some false)
  (fun x5 _ _ self8 =>
 bnd (β := Bool) (bnd (m_coresecref39_bit x5 a2) fun x9 =>
 cond x9 (cond x5.2.1 (letm ((x5.1 == a1)) fun x10 =>
 cond x10 (some true)
  (bnd (m_coresecref39_under a1 x5.1) fun x11 =>
 some x11))
  (some false))
  (some false)) fun v12 =>
 cond v12 (some true)
  (self8 ())) a0 0 ()
def m_coresecref39_Permits (a0 : (List S_api_Permit)) (a1 : (List UInt8)) (a2 : Int) : Option Bool :=
 bnd (β := Bool) (bnd (m_coresecref39_Valid a0) fun x3 =>
 letm ((!x3)) fun x4 =>
 cond x4 (some true)
  (letm (decide (a2 < 1)) fun x5 =>
 cond x5 (some true)
  (letm (decide (7 < a2)) fun x6 =>
 some x6))) fun v7 =>
 cond v7 (some false)
  (loopL (R := Bool) (S := Unit) (α := S_api_Permit) (fun _ _ =>
 some false)
  (fun x10 _ _ self13 =>
 bnd (β := Bool) (bnd (m_coresecref39_bit x10 a2) fun x14 =>
 cond x14 (letm ((x10.1 == a1)) fun x15 =>
 cond x15 (some true)
  (cond x10.2.1 (bnd (m_coresecref39_under a1 x10.1) fun x16 =>
 some x16)
  (some false)))
  (some false)) fun v17 =>
 cond v17 (some true)
  (self13 ())) a0 0 ())
def m_coresecref39_Within (a0 : (List S_api_Permit)) (a1 : (List S_api_Permit)) : Option Bool :=
 bnd (β := Bool) (bnd (m_coresecref39_Valid a0) fun x2 =>
 letm ((!x2)) fun x3 =>
 cond x3 (some true)
  (bnd (m_coresecref39_Valid a1) fun x4 =>
 letm ((!x4)) fun x5 =>
 some x5)) fun v6 =>
 cond v6 (some false)
  (bndS (ρ := Bool) (ρ' := Bool) (Y := Unit) (loopL (R := (Bool ⊕ Unit)) (S := Unit) (α := S_api_Permit) (fun _ _ =>
 some (.inr ()))
  (fun x9 _ _ self12 =>
 bndS (ρ := (Bool ⊕ Unit)) (ρ' := (Bool ⊕ Unit)) (Y := Unit) (loopF (R := ((Bool ⊕ Unit) ⊕ Unit)) (S := Int) (fun self14 s13 =>
 letm (decide (s13 ≤ 7)) fun x15 =>
 cond x15 (bnd (β := Bool) (bnd (m_coresecref39_bit x9 s13) fun x16 =>
 cond x16 (cond x9.2.1 (bnd (m_coresecref39_whole a1 x9.1 s13) fun x17 =>
 letm ((!x17)) fun x18 =>
 cond x18 (some true)
  (letm ((!x9.2.1)) fun x19 =>
 cond x19 (bnd (m_coresecref39_Permits a1 x9.1 s13) fun x20 =>
 letm ((!x20)) fun x21 =>
 some x21)
  (some false)))
  (letm ((!x9.2.1)) fun x22 =>
 cond x22 (bnd (m_coresecref39_Permits a1 x9.1 s13) fun x23 =>
 letm ((!x23)) fun x24 =>
 some x24)
  (some false)))
  (some false)) fun v25 =>
 cond v25 (some (.inl (.inl false)))
  (letm ((w64 (s13 + 1))) fun x26 =>
 self14 x26))
  (some (.inr ()))) FUEL 1) (fun q => q) fun _ =>
 self12 ()) a0 0 ()) (fun q => q) fun _ =>
 some true)
def m_coreseclaw39_ScopeForms (a0 : (List S_api_Permit)) (a1 : (List S_api_Permit)) (a2 : (List Int)) (a3 : (List Int)) : Option Bool :=
 bnd (β := Bool) (bnd (m_coreseclaw39_light a0) fun x4 =>
 letm ((!x4)) fun x5 =>
 cond x5 (some true)
  (bnd (m_coreseclaw39_light a1) fun x6 =>
 letm ((!x6)) fun x7 =>
 some x7)) fun v8 =>
 cond v8 (bnd (m_coreseclaw39_awake ) fun x9 =>
 some x9)
  (bnd (m_coresecmake_New a2) fun x10 =>
 bnd (m_coresecmake2_Scope x10) fun x11 =>
 bnd (m_coresecmake_New a3) fun x12 =>
 bnd (m_coresecmake2_Scope x12) fun x13 =>
 bndS (ρ := Bool) (ρ' := Bool) (Y := Unit) (bnd (app [] x11.1) fun x14 =>
 bnd (app x14 x13.1) fun x15 =>
 bnd (m_coresecref39_Normal x15) fun x16 =>
 loopL (R := (Bool ⊕ Unit)) (S := Unit) (α := (List (List S_api_Permit))) (fun _ _ =>
 some (.inr ()))
  (fun x19 _ _ self22 =>
 bnd (idx x19 0) fun x23 =>
 bnd (idx x19 1) fun x24 =>
 bnd (m_scope_Meet x23 x24) fun x25 =>
 bnd (idx x19 0) fun x26 =>
 bnd (idx x19 1) fun x27 =>
 bnd (m_coresecref39_Meet x26 x27) fun x28 =>
 bnd (idx x19 0) fun x29 =>
 bnd (idx x19 1) fun x30 =>
 bnd (m_scope_Join x29 x30) fun x31 =>
 bnd (idx x19 0) fun x32 =>
 bnd (idx x19 1) fun x33 =>
 bnd (m_coresecref39_Join x32 x33) fun x34 =>
 bnd (β := Bool) (letm ((x25.2 != x28.2)) fun x35 =>
 cond x35 (some true)
  (letm ((x31.2 != x34.2)) fun x36 =>
 cond x36 (some true)
  (bnd (m_coresecref39_Same x25.1 x28.1) fun x37 =>
 letm ((!x37)) fun x38 =>
 cond x38 (some true)
  (bnd (m_coresecref39_Same x31.1 x34.1) fun x39 =>
 letm ((!x39)) fun x40 =>
 cond x40 (some true)
  (bnd (idx x19 0) fun x41 =>
 bnd (idx x19 1) fun x42 =>
 bnd (m_scope_Within x41 x42) fun x43 =>
 bnd (idx x19 0) fun x44 =>
 bnd (idx x19 1) fun x45 =>
 bnd (m_coresecref39_Within x44 x45) fun x46 =>
 letm ((x43 != x46)) fun x47 =>
 cond x47 (some true)
  (bnd (idx x19 0) fun x48 =>
 bnd (m_scope_Normal x48) fun x49 =>
 bnd (idx x19 0) fun x50 =>
 bnd (m_coresecref39_Normal x50) fun x51 =>
 bnd (m_coresecref39_Same x49 x51) fun x52 =>
 letm ((!x52)) fun x53 =>
 some x53)))))) fun v54 =>
 cond v54 (some (.inl false))
  (self22 ())) [[a0, a1], [x11.1, x13.1], [x11.1, a0], [x13.1, x11.1], [x11.1, x16]] 0 ()) (fun q => q) fun _ =>
 bnd (m_coreseclaw39_awake ) fun x56 =>
 some x56)
def m_coreseclaw39_ScopePermits (a0 : (List S_api_Permit)) (a1 : (List Int)) (a2 : (List UInt8)) (a3 : Int) : Option Bool :=
 bnd (β := Bool) (bnd (m_coreseclaw39_light a0) fun x4 =>
 letm ((!x4)) fun x5 =>
 cond x5 (some true)
  (letm (decide (300 < (a2.length : Int))) fun x6 =>
 some x6)) fun v7 =>
 cond v7 (bnd (m_coreseclaw39_awake ) fun x8 =>
 some x8)
  (bnd (m_coresecmake_New a1) fun x9 =>
 bnd (m_coresecmake2_Scope x9) fun x10 =>
 loopL (R := Bool) (S := Unit) (α := (List S_api_Permit)) (fun _ _ =>
 bnd (m_coreseclaw39_awake ) fun x13 =>
 some x13)
  (fun x14 _ _ self17 =>
 bnd (m_scope_Valid x14) fun x18 =>
 bnd (m_coresecref39_Valid x14) fun x19 =>
 letm ((x18 != x19)) fun x20 =>
 cond x20 (some false)
  (bnd (m_coreseclaw39_paths a2) fun x21 =>
 loopL (R := Bool) (S := Unit) (α := (List UInt8)) (fun _ _ =>
 self17 ())
  (fun x24 _ _ self27 =>
 bnd (m_coresecmake_Mod a3 7) fun x28 =>
 letm ((w64 (1 + x28))) fun x29 =>
 loopL (R := Bool) (S := Unit) (α := Int) (fun _ _ =>
 self27 ())
  (fun x32 _ _ self35 =>
 bnd (m_scope_Permits x14 x24 x32) fun x36 =>
 bnd (m_coresecref39_Permits x14 x24 x32) fun x37 =>
 letm ((x36 != x37)) fun x38 =>
 cond x38 (some false)
  (self35 ())) [a3, x29, 0, 8] 0 ()) x21 0 ())) [a0, x10.1] 0 ())
def m_coresecref39_Print (a0 : (List S_api_Permit)) : Option (List UInt8) :=
 bnd (m_coresecref39_Valid a0) fun x1 =>
 letm ((!x1)) fun x2 =>
 cond x2 (some [])
  (loopL (R := (List UInt8)) (S := (List UInt8)) (α := S_api_Permit) (fun _ s4 =>
 some s4)
  (fun x5 k6 s7 self8 =>
 bnd (β := (List UInt8)) (bnd (β := (List UInt8)) (letm (decide (0 < (k6 : Int))) fun x9 =>
 cond x9 (bnd (app s7 [44, 32]) fun x10 =>
 some x10)
  (some s7)) fun v11 =>
 loopF (R := (List UInt8)) (S := ((List UInt8) × Int)) (fun self13 s12 =>
 letm (decide (s12.2 ≤ 7)) fun x14 =>
 cond x14 (bnd (β := (List UInt8)) (bnd (m_coresecref39_bit x5 s12.2) fun x15 =>
 cond x15 (letm ((w64 (s12.2 - 1))) fun x16 =>
 bnd (Gk.cut [71, 80, 85, 68, 70, 65, 73] x16 s12.2) fun x17 =>
 bnd (app s12.1 x17) fun x18 =>
 some x18)
  (some s12.1)) fun v19 =>
 letm ((w64 (s12.2 + 1))) fun x20 =>
 self13 (v19, x20))
  (bnd (app [58] x5.1) fun x21 =>
 bnd (app s12.1 x21) fun x22 =>
 cond x5.2.1 (bnd (app x22 [47, 42]) fun x23 =>
 some x23)
  (some x22))) FUEL (v11, 1)) fun v24 =>
 self8 v24) a0 0 [])
def m_coresecmake_Spoilt (a0 : (List UInt8)) (a1 : Int) (a2 : Int) : Option (List UInt8) :=
 bnd (app [] a0) fun x3 =>
 letm (((x3.length : Int) == 0)) fun x4 =>
 cond x4 (letm ((toU8 a2)) fun x5 =>
 some [x5])
  (bnd (m_coresecmake_Mod a1 (x3.length : Int)) fun x6 =>
 bnd (quo a2 256) fun x7 =>
 bnd (m_coresecmake_Mod x7 4) fun x8 =>
 letm ((x8 == 0)) fun x9 =>
 cond x9 (letm ((toU8 a2)) fun x10 =>
 bnd (idx x3 x6) fun _ =>
 bnd (idx x3 (((x6 : Int)).toNat : Int)) fun _ =>
 letm ((x3.set ((x6 : Int)).toNat x10)) fun x13 =>
 some x13)
  (letm ((x8 == 1)) fun x14 =>
 cond x14 (bnd (Gk.cut x3 0 x6) fun x15 =>
 letm ((w64 (x6 + 1))) fun x16 =>
 bnd (Gk.cut x3 x16 (x3.length : Int)) fun x17 =>
 bnd (app x15 x17) fun x18 =>
 some x18)
  (letm ((x8 == 2)) fun x19 =>
 cond x19 (bnd (Gk.cut x3 0 x6) fun x20 =>
 bnd (app [] x20) fun x21 =>
 letm ((toU8 a2)) fun x22 =>
 bnd (app x21 [x22]) fun x23 =>
 bnd (Gk.cut x3 x6 (x3.length : Int)) fun x24 =>
 bnd (app x23 x24) fun x25 =>
 some x25)
  (bnd (Gk.cut x3 0 x6) fun x26 =>
 some x26))))
def m_coresecref39_permit (a0 : (List UInt8)) : Option (S_api_Permit × Bool) :=
 loopF (R := (S_api_Permit × Bool)) (S := (Int × (Int × S_api_Permit))) (fun self2 s1 =>
 letm (decide (s1.2.1 ≤ 7)) fun x3 =>
 cond x3 (bnd (β := (Int × S_api_Permit)) (bnd (β := Bool) (letm (decide (s1.1 < (a0.length : Int))) fun x4 =>
 cond x4 (bnd (idx a0 s1.1) fun x5 =>
 letm ((w64 (s1.2.1 - 1))) fun x6 =>
 bnd (idx [71, 80, 85, 68, 70, 65, 73] x6) fun x7 =>
 letm (((UInt8.toNat x5 : Int) == (UInt8.toNat x7 : Int))) fun x8 =>
 some x8)
  (some false)) fun v9 =>
 cond v9 (letm ((w64 (s1.2.1 - 1))) fun x10 =>
 letm ((toU64 x10)) fun x11 =>
 bnd (Gk.shl 1 (UInt64.toNat x11 : Int)) fun x12 =>
 letm ((w64 (s1.2.2.2.2 + x12))) fun x13 =>
 letm ((w64 (s1.1 + 1))) fun x14 =>
 some (x14, (s1.2.2.1, (s1.2.2.2.1, x13))))
  (some (s1.1, s1.2.2))) fun v15 =>
 letm ((w64 (s1.2.1 + 1))) fun x16 =>
 self2 (v15.1, (x16, v15.2)))
  (bnd (β := Bool) (letm ((s1.2.2.2.2 == 0)) fun x17 =>
 cond x17 (some true)
  (letm (decide ((a0.length : Int) ≤ s1.1)) fun x18 =>
 cond x18 (some true)
  (bnd (idx a0 s1.1) fun x19 =>
 letm (((UInt8.toNat x19 : Int) != (UInt8.toNat 58 : Int))) fun x20 =>
 some x20))) fun v21 =>
 cond v21 (some (([], (false, 0)), false))
  (letm ((w64 (s1.1 + 1))) fun x22 =>
 bnd (Gk.cut a0 x22 (a0.length : Int)) fun x23 =>
 bnd (β := ((List UInt8) × S_api_Permit)) (bnd (β := Bool) (letm (decide (2 ≤ (x23.length : Int))) fun x24 =>
 cond x24 (letm ((w64 ((x23.length : Int) - 2))) fun x25 =>
 bnd (Gk.cut x23 x25 (x23.length : Int)) fun x26 =>
 letm ((x26 == [47, 42])) fun x27 =>
 some x27)
  (some false)) fun v28 =>
 cond v28 (letm ((w64 ((x23.length : Int) - 2))) fun x29 =>
 bnd (Gk.cut x23 0 x29) fun x30 =>
 some (x30, (s1.2.2.1, (true, s1.2.2.2.2))))
  (some (x23, s1.2.2))) fun v31 =>
 bnd (m_coresecref39_Written v31.1) fun x32 =>
 some ((v31.1, v31.2.2), x32)))) FUEL (0, (1, ([], (false, 0))))
def m_coresecref39_Parse (a0 : (List UInt8)) : Option ((List S_api_Permit) × Int) :=
 letm ((a0 == [])) fun x1 =>
 cond x1 (some ([], 0))
  (loopF (R := ((List S_api_Permit) × Int)) (S := ((List S_api_Permit) × (Int × Int))) (fun self3 s2 =>
 letm (decide (s2.2.2 ≤ (a0.length : Int))) fun x4 =>
 cond x4 (bndS (ρ := ((List S_api_Permit) × Int)) (ρ' := ((List S_api_Permit) × Int)) (Y := ((List S_api_Permit) × (Int × Int))) (bnd (β := Bool) (letm (decide (s2.2.2 < (a0.length : Int))) fun x5 =>
 cond x5 (letm ((w64 (s2.2.2 + 1))) fun x6 =>
 letm (decide ((a0.length : Int) ≤ x6)) fun x7 =>
 cond x7 (some true)
  (letm ((w64 (s2.2.2 + 2))) fun x8 =>
 bnd (Gk.cut a0 s2.2.2 x8) fun x9 =>
 letm ((x9 != [44, 32])) fun x10 =>
 some x10))
  (some false)) fun v11 =>
 cond v11 (some (.inr (s2.1, (s2.2.1, s2.2.2))))
  (bnd (Gk.cut a0 s2.2.1 s2.2.2) fun x12 =>
 bnd (m_coresecref39_permit x12) fun x13 =>
 letm ((!x13.2)) fun x14 =>
 cond x14 (some (.inl ([], 17)))
  (bnd (app s2.1 [x13.1]) fun x15 =>
 letm ((w64 (s2.2.2 + 2))) fun x16 =>
 letm ((w64 (s2.2.2 + 1))) fun x17 =>
 some (.inr (x15, (x16, x17)))))) (fun q => q) fun v18 =>
 letm ((w64 (v18.2.2 + 1))) fun x19 =>
 self3 (v18.1, (v18.2.1, x19)))
  (letm (decide (8 < (s2.1.length : Int))) fun x20 =>
 cond x20 (some ([], 8))
  (some (s2.1, 0)))) FUEL ([], (0, 0)))
def m_coreseclaw39_ScopeTexts (a0 : (List S_api_Permit)) (a1 : (List Int)) (a2 : (List UInt8)) (a3 : Int) (a4 : Int) : Option Bool :=
 bnd (β := Bool) (bnd (m_coreseclaw39_light a0) fun x5 =>
 letm ((!x5)) fun x6 =>
 cond x6 (some true)
  (letm (decide (900 < (a2.length : Int))) fun x7 =>
 some x7)) fun v8 =>
 cond v8 (bnd (m_coreseclaw39_awake ) fun x9 =>
 some x9)
  (bnd (m_coresecmake_New a1) fun x10 =>
 bnd (m_coresecmake2_Scope x10) fun x11 =>
 bnd (m_coresecref39_Print x11.1) fun x12 =>
 loopL (R := Bool) (S := Unit) (α := (List S_api_Permit)) (fun _ _ =>
 bnd (app [] x12) fun x15 =>
 bnd (m_coresecmake_Spoilt x15 a3 a4) fun x16 =>
 bnd (app x12 [44, 32]) fun x17 =>
 bnd (app x17 x12) fun x18 =>
 bnd (app x12 [44, 32]) fun x19 =>
 loopL (R := Bool) (S := Unit) (α := (List UInt8)) (fun _ _ =>
 bnd (m_scope_Parse x12) fun x22 =>
 bnd (β := Bool) (letm ((x22.2 == 0)) fun x23 =>
 cond x23 (bnd (m_coresecref39_Same x22.1 x11.1) fun x24 =>
 cond x24 (bnd (m_coreseclaw39_awake ) fun x25 =>
 some x25)
  (some false))
  (some false)) fun v26 =>
 some v26)
  (fun x27 _ _ self30 =>
 bnd (m_scope_Parse x27) fun x31 =>
 bnd (m_coresecref39_Parse x27) fun x32 =>
 bnd (β := Bool) (letm ((x31.2 != x32.2)) fun x33 =>
 cond x33 (some true)
  (bnd (m_coresecref39_Same x31.1 x32.1) fun x34 =>
 letm ((!x34)) fun x35 =>
 some x35)) fun v36 =>
 cond v36 (some false)
  (self30 ())) [a2, x12, x16, x18, x19, [71, 58, 47, 97, 44, 80, 58, 47, 98], [80, 71, 58, 47, 97], [71, 58, 47, 97, 47, 42, 42], [58, 47, 97], [71, 58, 97]] 0 ())
  (fun x37 _ _ self40 =>
 bnd (m_scope_Print x37) fun x41 =>
 bnd (m_coresecref39_Print x37) fun x42 =>
 letm ((x41 != x42)) fun x43 =>
 cond x43 (some false)
  (self40 ())) [a0, x11.1] 0 ())
end
end Go.Proofs.YtmnbkcpopfmpdaaDoor
