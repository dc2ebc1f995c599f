/-
  Scopes, plain facts: bits of methods, what a key (a path, with what is below it or not) includes, values that do not depend on the order of equal elements. Of the models alone; no program; no condition but the ranges told.
-/
import Derived.Test.YtmnbkcpopfmpdaaDoorQ70
namespace Go.Proofs.YtmnbkcpopfmpdaaDoor
open Go.Gk Go.RowKit
/-! ### Bits -/
theorem ibit_nat {o : BinOp} {r : BitVec 64} {a b : Int} (h : bits o .i64 a b = IntKind.i64.wrap (r.toNat : Int)) (hr : r.toNat < 128) : ibit o a b = (r.toNat : Int) := by
  show bits o .i64 a b = _
  rw [h]
  exact w64_of (by omega) (by omega)
theorem of64 {a : Nat} (ha : a < 128) : (BitVec.ofInt 64 (a : Int)).toNat = a := by
  rw [BitVec.ofInt_natCast, BitVec.toNat_ofNat]; exact Nat.mod_eq_of_lt (by omega)
theorem iand_nat {a b : Nat} (ha : a < 128) (hb : b < 128) : ibit .and (a : Int) (b : Int) = ((a &&& b : Nat) : Int) := by
  have hr : (BitVec.ofInt 64 (a : Int) &&& BitVec.ofInt 64 (b : Int)).toNat = a &&& b := by rw [BitVec.toNat_and, of64 ha, of64 hb]
  have hl : a &&& b ≤ a := Nat.and_le_left
  rw [← hr]
  exact ibit_nat rfl (by rw [hr]; omega)
theorem ior_nat {a b : Nat} (ha : a < 128) (hb : b < 128) : ibit .or (a : Int) (b : Int) = ((a ||| b : Nat) : Int) := by
  have hr : (BitVec.ofInt 64 (a : Int) ||| BitVec.ofInt 64 (b : Int)).toNat = a ||| b := by rw [BitVec.toNat_or, of64 ha, of64 hb]
  have hl : a ||| b < 2 ^ 7 := Nat.or_lt_two_pow (by omega) (by omega)
  rw [← hr]
  exact ibit_nat rfl (by rw [hr]; omega)
/-- a without b. -/
def mns (a b : Nat) : Nat := (BitVec.ofInt 64 (a : Int) &&& ~~~ BitVec.ofInt 64 (b : Int)).toNat
theorem mns_le {a b : Nat} (ha : a < 128) : mns a b ≤ a := by
  unfold mns
  rw [BitVec.toNat_and, of64 ha]; exact Nat.and_le_left
theorem inot_nat {a b : Nat} (ha : a < 128) : ibit .andNot (a : Int) (b : Int) = ((mns a b : Nat) : Int) :=
  ibit_nat rfl (by have := mns_le (b := b) ha; unfold mns at this; omega)
theorem mns_bit {a b i : Nat} (ha : a < 128) (hb : b < 128) (hi : i < 64) : (mns a b).testBit i = (a.testBit i && !b.testBit i) := by
  unfold mns
  rw [BitVec.toNat_and, Nat.testBit_and, of64 ha]
  congr 1
  rw [BitVec.testBit_toNat, BitVec.getLsbD_not, ← BitVec.testBit_toNat, of64 hb, decide_eq_true hi, Bool.true_and]
/-- Methods: from 1 to 127. -/
def Mr (m : Int) : Prop := 0 ≤ m ∧ m ≤ 127
def Cr (c : Int) : Prop := 1 ≤ c ∧ c ≤ 7
theorem Mr.nat {m : Int} (h : Mr m) : ∃ a : Nat, m = (a : Int) ∧ a < 128 := ⟨m.toNat, by have := h.1; omega, by have := h.1; have := h.2; omega⟩
theorem bit_and {m n c : Int} (hm : Mr m) (hn : Mr n) : bitS (ibit .and m n) c = (bitS m c && bitS n c) ∧ Mr (ibit .and m n) := by
  obtain ⟨a, rfl, ha⟩ := hm.nat
  obtain ⟨b, rfl, hb⟩ := hn.nat
  rw [iand_nat ha hb]
  have hl : a &&& b ≤ a := Nat.and_le_left
  exact ⟨by unfold bitS; exact Nat.testBit_and _ _ _, by omega, by omega⟩
theorem bit_or {m n c : Int} (hm : Mr m) (hn : Mr n) : bitS (ibit .or m n) c = (bitS m c || bitS n c) ∧ Mr (ibit .or m n) := by
  obtain ⟨a, rfl, ha⟩ := hm.nat
  obtain ⟨b, rfl, hb⟩ := hn.nat
  rw [ior_nat ha hb]
  have hl : a ||| b < 2 ^ 7 := Nat.or_lt_two_pow (by omega) (by omega)
  exact ⟨by unfold bitS; exact Nat.testBit_or _ _ _, by omega, by omega⟩
theorem bit_not {m n c : Int} (hm : Mr m) (hn : Mr n) (hc : Cr c) : bitS (ibit .andNot m n) c = (bitS m c && !bitS n c) := by
  obtain ⟨a, rfl, ha⟩ := hm.nat
  obtain ⟨b, rfl, hb⟩ := hn.nat
  rw [inot_nat ha]
  unfold bitS
  exact mns_bit ha hb (by have := hc.2; omega)
theorem not_mr {m n : Int} (hm : Mr m) (hn : Mr n) : Mr (ibit .andNot m n) := by
  obtain ⟨a, rfl, ha⟩ := hm.nat
  obtain ⟨b, rfl, hb⟩ := hn.nat
  rw [inot_nat ha]
  have := mns_le (b := b) ha
  exact ⟨by omega, by omega⟩
theorem bit_ext {m n : Int} (hm : Mr m) (hn : Mr n) (h : ∀ c, Cr c → bitS m c = bitS n c) : m = n := by
  obtain ⟨a, rfl, ha⟩ := hm.nat
  obtain ⟨b, rfl, hb⟩ := hn.nat
  congr 1
  apply Nat.eq_of_testBit_eq
  intro i
  by_cases hi : i < 7
  · have := h ((i + 1 : Nat) : Int) ⟨by omega, by omega⟩
    unfold bitS at this
    rw [show (((i + 1 : Nat) : Int) - 1).toNat = i by omega] at this
    exact this
  · have hp : (2 : Nat) ^ 7 ≤ 2 ^ i := Nat.pow_le_pow_right (by omega) (by omega)
    rw [Nat.testBit_lt_two_pow (by omega : a < 2 ^ i), Nat.testBit_lt_two_pow (by omega : b < 2 ^ i)]
theorem bit_zero (c : Int) : bitS 0 c = false := by unfold bitS; simp
theorem bit_some {m : Int} (hm : Mr m) (h : m ≠ 0) : ∃ c, Cr c ∧ bitS m c = true := by
  apply Classical.byContradiction
  intro hn
  apply h
  refine bit_ext hm ⟨by omega, by omega⟩ fun c hc => ?_
  rw [bit_zero]
  cases hb : bitS m c with
  | false => rfl
  | true => exact absurd ⟨c, hc, hb⟩ hn
theorem bit_none {m c : Int} (h : bitS m c = true) : m ≠ 0 := fun e => by rw [e, bit_zero] at h; cases h
/-! ### Keys -/
abbrev Ky := List UInt8 × Bool
def ky (p : S_api_Permit) : Ky := (p.1, p.2.1)
def covK (k : Ky) (path : List UInt8) : Bool := (k.1 == path) || (k.2 && belowS path k.1)
/-- All that b is about, a is about too. -/
def incK (a b : Ky) : Bool := bif b.2 then a.2 && ((a.1 == b.1) || belowS b.1 a.1) else covK a b.1
theorem bl_iff {path top : List UInt8} : belowS path top = true ↔ ∃ t, path = top ++ 47 :: t := by
  unfold belowS
  rw [List.isPrefixOf_iff_prefix]
  constructor
  · rintro ⟨t, rfl⟩; exact ⟨t, by simp⟩
  · rintro ⟨t, rfl⟩; exact ⟨t, by simp⟩
theorem bl_trans {a b c : List UInt8} (h1 : belowS a b = true) (h2 : belowS b c = true) : belowS a c = true := by
  obtain ⟨t, rfl⟩ := bl_iff.1 h1
  obtain ⟨u, rfl⟩ := bl_iff.1 h2
  exact bl_iff.2 ⟨u ++ 47 :: t, by simp⟩
theorem bl_len {a b : List UInt8} (h : belowS a b = true) : b.length < a.length := by
  obtain ⟨t, rfl⟩ := bl_iff.1 h
  rw [List.length_append, List.length_cons]; omega
/-- Two paths that a third lies below. -/
theorem bl_cmp {a b c : List UInt8} (h1 : belowS a b = true) (h2 : belowS a c = true) : b = c ∨ belowS b c = true ∨ belowS c b = true := by
  obtain ⟨t, rfl⟩ := bl_iff.1 h1
  obtain ⟨u, hu⟩ := bl_iff.1 h2
  rcases List.append_eq_append_iff.1 hu with ⟨z, rfl, hz⟩ | ⟨z, rfl, hz⟩
  · cases z with
    | nil => exact .inl (by simp)
    | cons q z => injection hz with hq _; subst hq; exact .inr (.inr (bl_iff.2 ⟨z, rfl⟩))
  · cases z with
    | nil => exact .inl (by simp)
    | cons q z => injection hz with hq _; subst hq; exact .inr (.inl (bl_iff.2 ⟨z, rfl⟩))
theorem covK_iff {k : Ky} {p : List UInt8} : covK k p = true ↔ k.1 = p ∨ (k.2 = true ∧ belowS p k.1 = true) := by
  unfold covK; rw [Bool.or_eq_true, Bool.and_eq_true, beq_iff_eq]
theorem incK_iff {a b : Ky} : incK a b = true ↔ (b.2 = true ∧ a.2 = true ∧ (a.1 = b.1 ∨ belowS b.1 a.1 = true)) ∨ (b.2 = false ∧ (a.1 = b.1 ∨ (a.2 = true ∧ belowS b.1 a.1 = true))) := by
  unfold incK
  cases hb : b.2 with
  | true => simp [Bool.and_eq_true, Bool.or_eq_true]
  | false => simp [covK_iff]
theorem incK_refl (a : Ky) : incK a a = true := by
  rw [incK_iff]
  cases h : a.2 with
  | true => exact .inl ⟨rfl, rfl, .inl rfl⟩
  | false => exact .inr ⟨rfl, .inl rfl⟩
theorem incK_cov {a b : Ky} {p : List UInt8} (h : incK a b = true) (h2 : covK b p = true) : covK a p = true := by
  rw [covK_iff] at h2 ⊢
  rcases incK_iff.1 h with ⟨hb, ha, h3⟩ | ⟨hb, h3⟩
  · rcases h2 with h2 | ⟨_, h2⟩
    · rcases h3 with h3 | h3
      · exact .inl (h3.trans h2)
      · exact .inr ⟨ha, by rw [← h2]; exact h3⟩
    · rcases h3 with h3 | h3
      · exact .inr ⟨ha, by rw [h3]; exact h2⟩
      · exact .inr ⟨ha, bl_trans h2 h3⟩
  · rcases h2 with h2 | ⟨h4, _⟩
    · rcases h3 with h3 | ⟨ha, h3⟩
      · exact .inl (h3.trans h2)
      · exact .inr ⟨ha, by rw [← h2]; exact h3⟩
    · rw [hb] at h4; cases h4
theorem incK_trans {a b c : Ky} (h : incK a b = true) (h2 : incK b c = true) : incK a c = true := by
  rcases incK_iff.1 h2 with ⟨hc, hb, h3⟩ | ⟨hc, h3⟩
  · rcases incK_iff.1 h with ⟨_, ha, h4⟩ | ⟨hb', _⟩
    · refine incK_iff.2 (.inl ⟨hc, ha, ?_⟩)
      rcases h3 with h3 | h3 <;> rcases h4 with h4 | h4
      · exact .inl (h4.trans h3)
      · exact .inr (by rw [← h3]; exact h4)
      · exact .inr (by rw [h4]; exact h3)
      · exact .inr (bl_trans h3 h4)
    · rw [hb] at hb'; cases hb'
  · have hcv : covK b c.1 = true := covK_iff.2 h3
    exact incK_iff.2 (.inr ⟨hc, covK_iff.1 (incK_cov h hcv)⟩)
theorem incK_anti {a b : Ky} (h : incK a b = true) (h2 : incK b a = true) : a = b := by
  have l1 : a.1 = b.1 := by
    rcases incK_iff.1 h with ⟨_, _, h3 | h3⟩ | ⟨_, h3 | ⟨_, h3⟩⟩
    · exact h3
    · rcases incK_iff.1 h2 with ⟨_, _, h4 | h4⟩ | ⟨_, h4 | ⟨_, h4⟩⟩
      · exact h4.symm
      · have := bl_len h3; have := bl_len h4; omega
      · exact h4.symm
      · have := bl_len h3; have := bl_len h4; omega
    · exact h3
    · rcases incK_iff.1 h2 with ⟨_, _, h4 | h4⟩ | ⟨_, h4 | ⟨_, h4⟩⟩
      · exact h4.symm
      · have := bl_len h3; have := bl_len h4; omega
      · exact h4.symm
      · have := bl_len h3; have := bl_len h4; omega
  have l2 : a.2 = b.2 := by
    cases hb : b.2 with
    | true =>
      rcases incK_iff.1 h with ⟨_, h3, _⟩ | ⟨h3, _⟩
      · exact h3
      · rw [hb] at h3; cases h3
    | false =>
      cases ha : a.2 with
      | false => rfl
      | true =>
        rcases incK_iff.1 h2 with ⟨_, h3, _⟩ | ⟨h3, _⟩
        · rw [hb] at h3; cases h3
        · rw [ha] at h3; cases h3
  exact Prod.ext l1 l2
/-- How far a key stands from the top. -/
def kht (k : Ky) : Nat := 2 * k.1.length + (bif k.2 then 0 else 1)
theorem incK_ht {a b : Ky} (h : incK a b = true) (hne : a ≠ b) : kht a < kht b := by
  have hz : ∀ x : Bool, (bif x then 0 else 1 : Nat) ≤ 1 := fun x => by cases x <;> decide
  unfold kht
  have h1 := hz a.2
  have h2 := hz b.2
  rcases incK_iff.1 h with ⟨hb, ha, h3⟩ | ⟨hb, h3⟩
  · rcases h3 with h3 | h3
    · exact absurd (Prod.ext h3 (ha.trans hb.symm)) hne
    · have := bl_len h3; omega
  · rcases h3 with h3 | ⟨ha, h3⟩
    · cases ha : a.2 with
      | true => rw [hb, h3]; simp
      | false => exact absurd (Prod.ext h3 (ha.trans hb.symm)) hne
    · have := bl_len h3; omega
/-- Two keys that cover a path, or include a key, include one another one way or the other. -/
theorem cov_cmp {a b : Ky} {p : List UInt8} (h : covK a p = true) (h2 : covK b p = true) : incK a b = true ∨ incK b a = true := by
  have same : a.1 = b.1 → incK a b = true ∨ incK b a = true := fun e => by
    cases hb : b.2 with
    | false => exact .inl (incK_iff.2 (.inr ⟨hb, .inl e⟩))
    | true =>
      cases ha : a.2 with
      | false => exact .inr (incK_iff.2 (.inr ⟨ha, .inl e.symm⟩))
      | true => exact .inl (incK_iff.2 (.inl ⟨hb, ha, .inl e⟩))
  have lo : ∀ {x y : Ky}, x.2 = true → belowS y.1 x.1 = true → incK x y = true := fun {x y} hx hb => by
    cases hy : y.2 with
    | true => exact incK_iff.2 (.inl ⟨hy, hx, .inr hb⟩)
    | false => exact incK_iff.2 (.inr ⟨hy, .inr ⟨hx, hb⟩⟩)
  rcases covK_iff.1 h with e1 | ⟨a2, b1⟩
  · rcases covK_iff.1 h2 with e2 | ⟨a3, b2⟩
    · exact same (e1.trans e2.symm)
    · exact .inr (lo a3 (by rw [e1]; exact b2))
  · rcases covK_iff.1 h2 with e2 | ⟨a3, b2⟩
    · exact .inl (lo a2 (by rw [e2]; exact b1))
    · rcases bl_cmp b1 b2 with e | e | e
      · exact same e
      · exact .inr (lo a3 e)
      · exact .inl (lo a2 e)
theorem inc_cmp {a b c : Ky} (h : incK a c = true) (h2 : incK b c = true) : incK a b = true ∨ incK b a = true := by
  have cv : ∀ {x : Ky}, incK x c = true → covK x c.1 = true := fun {x} hx => incK_cov hx (covK_iff.2 (.inl rfl))
  exact cov_cmp (cv h) (cv h2)
/-! ### Values that hold whatever is taken -/
theorem anyS_eq {α R : Type} {p : α → Prop} {K : α → Option R} {r : R} (h : ∀ y, p y → K y = some r) (hy : ∃ y, p y) : anyS p K = some r := by
  obtain ⟨y, hy⟩ := hy
  have hx : ∃ r, ∀ y, p y → K y = some r := ⟨r, h⟩
  have e : anyS p K = some (Classical.choose hx) := dif_pos hx
  rw [e, ← Classical.choose_spec hx y hy, h y hy]
end Go.Proofs.YtmnbkcpopfmpdaaDoor
