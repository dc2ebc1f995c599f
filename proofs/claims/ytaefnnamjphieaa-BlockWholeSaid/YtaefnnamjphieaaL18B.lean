/-
  Chapter 18, plain facts: block options are read; the law BlockValues. Of the models alone; no program; no condition.
-/
import Derived.Test.YtaefnnamjphieaaL18A
import Derived.Test.YtaefnnamjphieaaWBlockValues
namespace Go.Proofs.Ytaefnnamjphieaa
open Go.Gk
theorem mod_some (a : Int) {m : Int} (h0 : 0 < m) (h1 : m < 4611686018427387904) : ∃ y, m_coresecmake_Mod a m = some y ∧ 0 ≤ y ∧ y < m := by
  unfold m_coresecmake_Mod
  obtain ⟨q, hq, g1, g2⟩ := rem_some (a := a) h0
  rw [hq, bnd_some']
  simp only [letm]
  by_cases hn : q < 0
  · rw [decide_eq_true hn, cond_true, bnd_some', w64_of (by omega) (by omega)]
    exact ⟨_, rfl, by omega, by omega⟩
  · rw [decide_eq_false hn, cond_false, bnd_some']
    exact ⟨_, rfl, by omega, by omega⟩
theorem some_l1 (a : Int) : ∀ (n k : Nat) (l : List UInt8), k + n ≤ 1000000 → l.length + n ≤ 1000000 → ∃ z, m_coresecmake_Some_l1 a n k l = some z ∧ z.length = l.length + n
  | 0, k, l, _, _ => ⟨l, rfl, rfl⟩
  | n + 1, k, l, hk, hl => by
    rw [m_coresecmake_Some_l1]
    have hr := rem_nat (a := k) (b := 8) (by omega)
    have hq := quo_nat (a := k) (b := 8) (by omega) (by omega)
    rw [show ((8 : Nat) : Int) = 8 from rfl] at hr hq
    simp only [letm, hr, hq, bnd_some']
    unfold shr64
    rw [if_neg (by omega), bnd_some', app_some' (by simp; omega), bnd_some']
    obtain ⟨z, h1, h2⟩ := some_l1 a n (k + 1) (l ++ [_]) (by omega) (by simp; omega)
    exact ⟨z, h1, by rw [h2]; simp; omega⟩
theorem some_some (a n : Int) (h : n ≤ 100000) : ∃ z, m_coresecmake_Some a n = some z ∧ z.length = n.toNat := by
  unfold m_coresecmake_Some
  rw [rng_some' (by omega), bnd_some']
  obtain ⟨z, h1, h2⟩ := some_l1 a n.toNat 0 [] (by omega) (by simp; omega)
  rw [h1]
  exact ⟨z, rfl, by simpa using h2⟩

theorem uint_same : ∀ (l : List UInt8) (k : Nat) (x : Int), m_option_Uint_l1 l k x = m_coresecref16_Uint_l1 l k x
  | [], _, _ => rfl
  | c :: l, k, x => by
    rw [m_option_Uint_l1, m_coresecref16_Uint_l1]
    simp only [uint_same l]
theorem uint_total : ∀ (l : List UInt8) (k : Nat) (x : Int), ∃ r, m_option_Uint_l1 l k x = some r
  | [], _, _ => ⟨_, rfl⟩
  | c :: l, k, x => by
    rw [m_option_Uint_l1]
    unfold shl
    rw [if_neg (by decide), bnd_some']
    simp only [letm]
    cases decide (4294967295 < ibit BinOp.or (w64 (x * 2 ^ min (((8 : UInt64).toNat : Int)).toNat 64)) (w64 (c.toNat : Int))) with
    | true => exact ⟨_, rfl⟩
    | false => exact uint_total l _ _
theorem uint_step (c : UInt8) (l : List UInt8) (k x : Nat) (hx : x < 65536) : m_option_Uint_l1 (c :: l) k (x : Int) = m_option_Uint_l1 l (k + 1) ((x * 256 + c.toNat : Nat) : Int) := by
  rw [m_option_Uint_l1]
  have hc : c.toNat < 256 := c.toNat_lt
  have e1 : shl (x : Int) ((8 : UInt64).toNat : Int) = some ((x * 256 : Nat) : Int) := shl_nat (b := 8) (by omega) (by omega)
  have e2 : w64 (c.toNat : Int) = (c.toNat : Int) := w64_of (by omega) (by omega)
  have e3 : (x * 256) ||| c.toNat = x * 256 + c.toNat := by
    have := Nat.shiftLeft_add_eq_or_of_lt (b := c.toNat) (i := 8) (by omega) x
    rw [Nat.shiftLeft_eq] at this
    exact this.symm
  simp only [e1, bnd_some', letm, e2]
  rw [or_nat (by omega) (by omega), e3, decide_eq_false (by omega), cond_false]
theorem uint_short : ∀ (l : List UInt8), l.length ≤ 3 → ∃ v : Nat, v < 16777216 ∧ m_option_Uint_l1 l 0 0 = some (Sum.inr (v : Int))
  | [], _ => ⟨0, by omega, rfl⟩
  | [a], _ => ⟨0 * 256 + a.toNat, by have := a.toNat_lt; omega, (uint_step a [] 0 0 (by omega)).trans rfl⟩
  | [a, b], _ => by
    have ha := a.toNat_lt
    have hb := b.toNat_lt
    exact ⟨(0 * 256 + a.toNat) * 256 + b.toNat, by omega, (uint_step a [b] 0 0 (by omega)).trans ((uint_step b [] 1 _ (by omega)).trans rfl)⟩
  | [a, b, c], _ => by
    have ha := a.toNat_lt
    have hb := b.toNat_lt
    have hc := c.toNat_lt
    exact ⟨((0 * 256 + a.toNat) * 256 + b.toNat) * 256 + c.toNat, by omega, (uint_step a [b, c] 0 0 (by omega)).trans ((uint_step b [c] 1 _ (by omega)).trans ((uint_step c [] 2 _ (by omega)).trans rfl))⟩
  | _ :: _ :: _ :: _ :: _, h => by simp at h

theorem parse_eq (l : List UInt8) : ∃ r, m_block_Parse l = some r ∧ m_coresecref18_Parse l = some r := by
  unfold m_block_Parse m_coresecref18_Parse m_option_Uint m_coresecref16_Uint
  simp only [letm]
  by_cases hl : 3 < (l.length : Int)
  · simp only [decide_eq_true hl, cond_true]
    obtain ⟨r, hr⟩ := uint_total l 0 0
    rw [hr]
    cases r with
    | inl q => exact ⟨_, rfl, rfl⟩
    | inr y => exact ⟨_, rfl, rfl⟩
  · simp only [decide_eq_false hl, cond_false]
    obtain ⟨v, hv, hu⟩ := uint_short l (by omega)
    have hu2 := hu
    rw [uint_same] at hu2
    rw [hu, hu2]
    have a7 : ibit .and (v : Int) 7 = ((v % 8 : Nat) : Int) := by
      have := and_nat (a := v) (b := 7) (by omega) (by omega)
      rw [show ((7 : Nat) : Int) = 7 from rfl] at this
      rw [this, show (7 : Nat) = 2 ^ 3 - 1 from rfl, Nat.and_two_pow_sub_one_eq_mod]
    have a8 : ibit .and (v : Int) 8 = ((v / 8 % 2 * 8 : Nat) : Int) := by
      have := and_nat (a := v) (b := 8) (by omega) (by omega)
      rw [show ((8 : Nat) : Int) = 8 from rfl] at this
      rw [this]
      have h1 : v &&& 8 ≤ 8 := Nat.and_le_right
      have h2 : (v &&& 8) % 2 ^ 4 = (v % 2 ^ 4) &&& (8 % 2 ^ 4) := Nat.and_mod_two_pow
      have h3 : ∀ s < 16, s &&& (8 % 2 ^ 4) = s / 8 % 2 * 8 := by decide
      rw [h3 (v % 2 ^ 4) (Nat.mod_lt _ (by decide))] at h2
      omega
    have r8 : rem (v : Int) 8 = some ((v % 8 : Nat) : Int) := rem_nat (b := 8) (by omega)
    have q16 : quo (v : Int) 16 = some ((v / 16 : Nat) : Int) := quo_nat (b := 16) (by omega) (by omega)
    have q8 : quo (v : Int) 8 = some ((v / 8 : Nat) : Int) := quo_nat (b := 8) (by omega) (by omega)
    have r2 : rem ((v / 8 : Nat) : Int) 2 = some ((v / 8 % 2 : Nat) : Int) := rem_nat (b := 2) (by omega)
    have s4 : shr (v : Int) ((4 : UInt64).toNat : Int) = some ((v / 16 : Nat) : Int) := shr_nat (b := 4) (by omega)
    simp only [bndS_inr, bnd_some', a7, a8, r8, q16, q8, r2, s4]
    by_cases h7 : v % 8 = 7
    · rw [h7]
      exact ⟨_, rfl, rfl⟩
    · have e7 : (((v % 8 : Nat) : Int) == 7) = false := by
        rw [beq_eq_false_iff_ne]; omega
      rw [e7]
      simp only [cond_false]
      have : v / 8 % 2 = 0 ∨ v / 8 % 2 = 1 := by omega
      rcases this with h | h <;> rw [h] <;> exact ⟨_, rfl, rfl⟩

theorem values_l1 : ∀ (l : List S_api_Block) (k : Nat), m_coreseclaw18_BlockValues_l1 l k = some (Sum.inr ())
  | [], _ => rfl
  | b :: l, k => by
    rw [m_coreseclaw18_BlockValues_l1]
    obtain ⟨r, h1, h2⟩ := value_eq { Num := b.Num, More := b.More, Size := b.Size }
    simp only [h1, h2, bnd_some', letm, bne_self_eq_false, cond_false]
    exact values_l1 l _
theorem values_l2 : ∀ (l : List (List UInt8)) (k : Nat), m_coreseclaw18_BlockValues_l2 l k = some (Sum.inr ())
  | [], _ => rfl
  | b :: l, k => by
    rw [m_coreseclaw18_BlockValues_l2]
    obtain ⟨r, h1, h2⟩ := parse_eq b
    simp only [h1, h2, bnd_some', letm, bne_self_eq_false, beq_self_eq_true, Bool.and_self, Bool.not_true, cond_false]
    exact values_l2 l _
theorem BlockValues_true (a0 : S_api_Block) (a1 : List UInt8) (a2 a3 : Int) : m_coreseclaw18_BlockValues a0 a1 a2 a3 = some true := by
  unfold m_coreseclaw18_BlockValues
  obtain ⟨y1, h1, _, _⟩ := mod_some a2 (m := 1048578) (by omega) (by omega)
  obtain ⟨y2, h2, _, _⟩ := mod_some a3 (m := 9) (by omega) (by omega)
  obtain ⟨y3, h3, _, _⟩ := mod_some a2 (m := 2) (by omega) (by omega)
  obtain ⟨y4, h4, _, _⟩ := mod_some a3 (m := 5) (by omega) (by omega)
  obtain ⟨z, h5, _⟩ := some_some a2 y4 (by omega)
  simp only [h1, h2, h3, h4, h5, bnd_some', letm, values_l1, values_l2, bndS_inr, awake_true]
end Go.Proofs.Ytaefnnamjphieaa
