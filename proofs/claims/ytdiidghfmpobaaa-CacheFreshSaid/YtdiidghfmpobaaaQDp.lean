/-
  Decks of numbers and how far they are read; numbers written and read. Of the models alone; no program; no condition but the ranges told.
-/
import Derived.Test.YtdiidghfmpobaaaQ21
namespace Go.Proofs.Ytdiidghfmpobaaa
open Go.Gk Go.RowKit
theorem awake_true : m_coreseclaw20_awake = some true := by kernel_rfl
structure DeckP (L0 : List Int) (p0 : Int) (d : S_coresecmake_Deck) : Prop where
  ok : DeckOK d
  same : d.1 = L0
  on : p0 ≤ d.2
theorem next_someP {L0 : List Int} {p0 : Int} {d : S_coresecmake_Deck} (h : DeckP L0 p0 d) {n : Int} (h0 : 0 < n) (h1 : n < 4611686018427387904) : ∃ v d', m_coresecmake_Deck_Next d n = some (v, d') ∧ 0 ≤ v ∧ v < n ∧ DeckP L0 p0 d' := by
  have hm : maxLen = 9223372036854775807 := rfl
  have a := h.ok.lo
  have b := h.ok.hi
  have c := h.ok.len
  have e := h.on
  unfold m_coresecmake_Deck_Next
  rw [letm_e]
  by_cases hq : (d.1.length : Int) ≤ d.2
  · rw [decide_eq_true hq, cd_t]
    exact ⟨0, d, rfl, Int.le_refl _, h0, h⟩
  · rw [decide_eq_false hq, cd_f, letm_e, letm_e, w64_of (x := d.2 + 1) (by omega) (by omega), w64_of (by omega) (by omega)]
    obtain ⟨i, hi⟩ : ∃ i : Nat, d.2 + 1 - 1 = (i : Int) := ⟨d.2.toNat, by omega⟩
    have hlt : i < d.1.length := by omega
    rw [hi, idx_some' (List.getElem?_eq_getElem hlt), bnd_s]
    obtain ⟨y, hy, y0, y1⟩ := mod_some d.1[i] h0 h1
    rw [hy, bnd_s]
    exact ⟨_, _, rfl, y0, y1, ⟨⟨by show 0 ≤ d.2 + 1; omega, by show d.2 + 1 ≤ (d.1.length : Int); omega, c⟩, h.same, by show p0 ≤ d.2 + 1; omega⟩⟩
/-- Where numbers are left, one is taken. -/
theorem next_more {d : S_coresecmake_Deck} (h : DeckOK d) (hl : d.2 < (d.1.length : Int)) {n : Int} (h0 : 0 < n) (h1 : n < 4611686018427387904) : ∃ v d', m_coresecmake_Deck_Next d n = some (v, d') ∧ 0 ≤ v ∧ v < n ∧ DeckP d.1 (d.2 + 1) d' := by
  have hm : maxLen = 9223372036854775807 := rfl
  have a := h.lo
  have b := h.hi
  have c := h.len
  unfold m_coresecmake_Deck_Next
  rw [letm_e, decide_eq_false (by omega), cd_f, letm_e, letm_e, w64_of (x := d.2 + 1) (by omega) (by omega), w64_of (by omega) (by omega)]
  obtain ⟨i, hi⟩ : ∃ i : Nat, d.2 + 1 - 1 = (i : Int) := ⟨d.2.toNat, by omega⟩
  have hlt : i < d.1.length := by omega
  rw [hi, idx_some' (List.getElem?_eq_getElem hlt), bnd_s]
  obtain ⟨y, hy, y0, y1⟩ := mod_some d.1[i] h0 h1
  rw [hy, bnd_s]
  exact ⟨_, _, rfl, y0, y1, ⟨⟨by show 0 ≤ d.2 + 1; omega, by show d.2 + 1 ≤ (d.1.length : Int); omega, c⟩, rfl, Int.le_refl _⟩⟩
theorem bytes_goP (L0 : List Int) (p0 : Int) : ∀ (k f : Nat) (b : List UInt8) (d : S_coresecmake_Deck), k < f → DeckP L0 p0 d → b.length + k ≤ 1000000 → ∃ z d', loopF (R := ((List UInt8) × S_coresecmake_Deck)) (S := ((List UInt8) × (Int × S_coresecmake_Deck))) (fun self5 s4 =>
     letm (decide (0 < s4.2.1)) fun x6 => cond x6 (bnd (m_coresecmake_Deck_Next s4.2.2 256) fun x7 => letm ((toU8 x7.1)) fun x8 => bnd (app s4.1 [x8]) fun x9 => letm ((w64 (s4.2.1 - 1))) fun x10 => self5 (x9, (x10, x7.2))) (some (s4.1, s4.2.2))) f (b, ((k : Int), d)) = some (z, d') ∧ z.length = b.length + k ∧ DeckP L0 p0 d'
  | 0, f + 1, b, d, _, hd, _ => ⟨b, d, rfl, rfl, hd⟩
  | k + 1, f + 1, b, d, hf, hd, hl => by
    obtain ⟨v, d1, h1, _, _, h2⟩ := next_someP hd (n := 256) (by omega) (by omega)
    rw [loopF_succ, letm_e]
    have e1 : decide ((0 : Int) < ((k + 1 : Nat) : Int)) = true := decide_eq_true (by omega)
    simp only [e1, cd_t]
    rw [h1, bnd_s, letm_e, app_some' (by simp; omega), bnd_s, letm_e, w64_of (by omega) (by omega), show (((k + 1 : Nat) : Int) - 1) = (k : Int) by omega]
    obtain ⟨z, d', h3, h4, h5⟩ := bytes_goP L0 p0 k f (b ++ [toU8 v]) d1 (by omega) h2 (by simp; omega)
    exact ⟨z, d', h3, by simp at h4; omega, h5⟩
theorem bytes_someP {L0 : List Int} {p0 : Int} {d : S_coresecmake_Deck} (h : DeckP L0 p0 d) {n : Int} (h0 : 0 ≤ n) (h1 : n ≤ 1000) : ∃ b d', m_coresecmake_Deck_Bytes d n = some (b, d') ∧ b.length ≤ 1000 ∧ DeckP L0 p0 d' := by
  unfold m_coresecmake_Deck_Bytes
  rw [letm_e, w64_of (by omega) (by omega)]
  obtain ⟨v, d1, h2, v0, v1, h3⟩ := next_someP h (n := n + 1) (by omega) (by omega)
  rw [h2, bnd_s]
  obtain ⟨k, rfl⟩ : ∃ k : Nat, v = (k : Int) := ⟨v.toNat, by omega⟩
  obtain ⟨z, d', h4, h5, h6⟩ := bytes_goP L0 p0 k FUEL [] d1 (by rw [fuel_eq]; omega) h3 (by simp; omega)
  exact ⟨z, d', h4, by simp at h5; omega, h6⟩
/-- A small message. -/
theorem response_someP {L0 : List Int} {p0 : Int} {d : S_coresecmake_Deck} (h : DeckP L0 p0 d) : ∃ m d', m_coresecmake_Deck_Response d = some (m, d') ∧ DeckP L0 p0 d' ∧ Sz 3 m := by
  unfold m_coresecmake_Deck_Response
  obtain ⟨v1, d1, e1, _, _, h1⟩ := next_someP h (n := 3) (by omega) (by omega)
  rw [e1, bnd_s]
  obtain ⟨v2, d2, e2, l2, u2, h2⟩ := next_someP h1 (n := 5) (by omega) (by omega)
  rw [e2, bnd_s]
  obtain ⟨x3, e3, _⟩ := idx_lit ([69, 69, 69, 132, 68] : List Int) l2 (by show v2 < 5; omega)
  rw [e3, bnd_s]
  obtain ⟨v4, d4, e4, _, _, h4⟩ := next_someP h2 (n := 99) (by omega) (by omega)
  rw [e4, bnd_s]
  obtain ⟨b5, d5, e5, l5, h5⟩ := bytes_someP h4 (n := 2) (by omega) (by omega)
  rw [e5, bnd_s]
  obtain ⟨b6, d6, e6, l6, h6⟩ := bytes_someP h5 (n := 6) (by omega) (by omega)
  rw [e6, bnd_s]
  have z0 : Sz 0 (v1, (x3, (v4, (b5, (([] : List S_api_Option), b6))))) := ⟨l5, by simp, by simp, l6⟩
  -- Max-Age
  obtain ⟨v7, d7, e7, _, _, h7⟩ := next_someP h6 (n := 2) (by omega) (by omega)
  simp only [e7, bnd_s, letm_e]
  obtain ⟨d8, m8, e8, h8, z8⟩ : ∃ d8 m8, (cond (v7 == 0) (bnd (m_coresecmake_Deck_Next d7 5) fun x9 => bnd (idx [0, 1, 5, 40, 300] x9.1) fun x10 => bnd (m_coresecref16_FromUint x10) fun x11 => bnd (m_coresecref16_Set (v1, (x3, (v4, (b5, ([], b6))))) 14 [x11]) fun x12 => some (x9.2, x12)) (some (d7, (v1, (x3, (v4, (b5, ([], b6)))))))) = some (d8, m8) ∧ DeckP L0 p0 d8 ∧ Sz 1 m8 := by
    cases v7 == 0 with
    | false => exact ⟨_, _, rfl, h7, z0.tok, by simp, z0.ov, z0.pay⟩
    | true =>
      obtain ⟨v9, d9, e9, l9, u9, h9⟩ := next_someP h7 (n := 5) (by omega) (by omega)
      rw [cd_t, e9, bnd_s]
      obtain ⟨x10, e10, _⟩ := idx_lit ([0, 1, 5, 40, 300] : List Int) l9 (by show v9 < 5; omega)
      rw [e10, bnd_s]
      obtain ⟨l11, _, e11, l11l⟩ := fromUint_any x10
      obtain ⟨e12, z12⟩ := z0.set 14 (vs := [l11]) (j := 1) (by omega) (by simp) (by simp; omega)
      rw [e11, bnd_s, e12, bnd_s]
      exact ⟨_, _, rfl, h9, z12⟩
  rw [e8, bnd_s]
  -- a tag
  obtain ⟨v14, d14, e14, _, _, h14⟩ := next_someP h8 (n := 2) (by omega) (by omega)
  simp only [e14, bnd_s]
  obtain ⟨d15, m15, e15, h15, z15⟩ : ∃ d15 m15, (cond (v14 == 0) (bnd (m_coresecmake_Deck_Next d14 3) fun x16 => bnd (m_coresecref16_Set m8 4 [[toU8 x16.1]]) fun x18 => some (x16.2, x18)) (some (d14, m8))) = some (d15, m15) ∧ DeckP L0 p0 d15 ∧ Sz 2 m15 := by
    cases v14 == 0 with
    | false => exact ⟨_, _, rfl, h14, z8.tok, by have := z8.ol; omega, z8.ov, z8.pay⟩
    | true =>
      obtain ⟨v16, d16, e16, _, _, h16⟩ := next_someP h14 (n := 3) (by omega) (by omega)
      obtain ⟨e17, z17⟩ := z8.set 4 (vs := [[toU8 v16]]) (j := 1) (by omega) (by simp) (by simp)
      rw [cd_t, e16, bnd_s, e17, bnd_s]
      exact ⟨_, _, rfl, h16, z17⟩
  rw [e15, bnd_s]
  obtain ⟨v20, d20, e20, _, _, h20⟩ := next_someP h15 (n := 8) (by omega) (by omega)
  simp only [e20, bnd_s]
  cases v20 == 0 with
  | true =>
    obtain ⟨e22, z22⟩ := z15.set 6 (vs := [[1]]) (j := 1) (by omega) (by simp) (by simp)
    rw [cd_t, e22, bnd_s, bnd_s]
    exact ⟨_, _, rfl, h20, z22⟩
  | false =>
    rw [cd_f]
    cases v20 == 1 with
    | false => exact ⟨_, _, rfl, h20, z15.tok, by have := z15.ol; show m15.2.2.2.2.1.length ≤ 3; omega, z15.ov, z15.pay⟩
    | true =>
      obtain ⟨v24, d24, e24, _, _, h24⟩ := next_someP h20 (n := 2) (by omega) (by omega)
      obtain ⟨v25, d25, e25, _, _, h25⟩ := next_someP h24 (n := 2) (by omega) (by omega)
      obtain ⟨r, er, lr⟩ := value18_some (v24, (v25 == 0, 2))
      obtain ⟨e28, z28⟩ := z15.set 23 (vs := [r.1]) (j := 1) (by omega) (by simp) (by simp; omega)
      rw [cd_t, e24, bnd_s, e25, bnd_s, er, bnd_s, e28, bnd_s, bnd_s]
      exact ⟨_, _, rfl, h25, z28⟩
def valN : List UInt8 → Nat
  | [] => 0
  | c :: l => c.toNat * 256 ^ l.length + valN l
theorem uintN_val : ∀ (l : List UInt8) (s : Nat), s * 256 ^ l.length + valN l ≤ 4294967295 → uintN s l = (((s * 256 ^ l.length + valN l : Nat) : Int), 0)
  | [], s, _ => by rw [uintN, valN]; simp
  | c :: l, s, h => by
    rw [valN, List.length_cons, Nat.pow_succ] at h ⊢
    have e : s * (256 ^ l.length * 256) + (c.toNat * 256 ^ l.length + valN l) = (s * 256 + c.toNat) * 256 ^ l.length + valN l := by
      rw [Nat.add_mul, Nat.mul_assoc, Nat.mul_comm 256 (256 ^ l.length)]; omega
    rw [e] at h ⊢
    have hp : 1 ≤ 256 ^ l.length := Nat.pow_pos (by omega)
    have := Nat.mul_le_mul_left (s * 256 + c.toNat) hp
    rw [uintN, decide_eq_false (by omega), cond_false, uintN_val l _ h]
theorem from_go : ∀ (j k f : Nat) (l : List UInt8), k < 256 ^ j → j < f → l.length + j ≤ 10 → ∃ r, loopF (R := (List UInt8)) (S := S_api_Option) (fun self4 s3 => letm (decide (0 < s3.1)) fun x5 => cond x5 (letm ((toU8 s3.1)) fun x6 => bnd (app [x6] s3.2) fun x7 => bnd (Gk.shr s3.1 (UInt64.toNat 8 : Int)) fun x8 => self4 (x8, x7)) (some s3.2)) f ((k : Int), l) = some r ∧ valN r = k * 256 ^ l.length + valN l := by
  intro j
  induction j with
  | zero =>
    intro k f l hk hf hl
    obtain ⟨f, rfl⟩ : ∃ g, f = g + 1 := ⟨f - 1, by omega⟩
    obtain rfl : k = 0 := by simpa using hk
    exact ⟨l, rfl, by simp⟩
  | succ j ih =>
    intro k f l hk hf hl
    obtain ⟨f, rfl⟩ : ∃ g, f = g + 1 := ⟨f - 1, by omega⟩
    rcases Nat.eq_zero_or_pos k with rfl | hk0
    · exact ⟨l, rfl, by simp⟩
    · rw [Nat.pow_succ] at hk
      obtain ⟨r, h1, h2⟩ := ih (k / 256) f (toU8 (k : Int) :: l) (Nat.div_lt_of_lt_mul (by rw [Nat.mul_comm]; exact hk)) (by omega) (by simp; omega)
      refine ⟨r, ?_, ?_⟩
      · rw [loopF_succ, letm_e]
        simp only [show decide ((0 : Int) < (k : Int)) = true from decide_eq_true (by omega), cd_t]
        rw [letm_e, app_some' (by simp; omega), bnd_s, shr8, bnd_s, show (k : Int) / 256 = ((k / 256 : Nat) : Int) by omega]
        exact h1
      · rw [h2, List.length_cons, Nat.pow_succ, valN]
        have h3 := toU8_toNat (k : Int)
        have h4 : (toU8 (k : Int)).toNat = k % 256 := by omega
        have h5 := Nat.div_add_mod k 256
        rw [h4, Nat.mul_comm (256 ^ l.length) 256, ← Nat.mul_assoc, ← Nat.add_assoc, ← Nat.add_mul, Nat.mul_comm (k / 256) 256, h5]
theorem fromUint_back (n : Nat) (h : n ≤ 4294967295) : ∃ l, m_option_FromUint (n : Int) = some l ∧ m_option_Uint l = some ((n : Int), 0) := by
  obtain ⟨l, h1, h2, _⟩ := fromUint_eq n h
  refine ⟨l, h1, ?_⟩
  obtain ⟨r, h3, h4⟩ := from_go 4 n FUEL [] (by omega) (by rw [fuel_eq]; omega) (by simp)
  have t1 : decide ((n : Int) < 0) = false := decide_eq_false (by omega)
  have t2 : decide ((4294967295 : Int) < (n : Int)) = false := decide_eq_false (by omega)
  unfold m_coresecref16_FromUint at h2
  simp only [letm_e, t1, t2, cd_f, bnd_s] at h2 h3
  rw [h3] at h2
  cases h2
  simp [valN] at h4
  rw [uint_eq, uintN_val _ 0 (by rw [h4]; omega), h4]; simp
end Go.Proofs.Ytdiidghfmpobaaa
