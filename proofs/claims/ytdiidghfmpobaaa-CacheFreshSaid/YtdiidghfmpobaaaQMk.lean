/-
  Decks of numbers, plain facts: what they give is in its range, and something is always given. Of the models alone; no program; no condition but the ranges told.
-/
import Derived.Test.YtdiidghfmpobaaaQ18
namespace Go.Proofs.Ytdiidghfmpobaaa
open Go.Gk Go.RowKit
theorem mod_some (a : Int) {m : Int} (h0 : 0 < m) (h1 : m < 4611686018427387904) : ∃ y, m_coresecmake_Mod a m = some y ∧ 0 ≤ y ∧ y < m := by
  obtain ⟨q, hq, l1, l2⟩ := rem_some (a := a) h0
  unfold m_coresecmake_Mod
  rw [hq, bnd_s, letm_e]
  by_cases h : q < 0
  · rw [decide_eq_true h, cd_t, letm_e, bnd_s, w64_of (by omega) (by omega)]
    exact ⟨_, rfl, by omega, by omega⟩
  · rw [decide_eq_false h, cd_f, bnd_s]
    exact ⟨_, rfl, by omega, by omega⟩
structure DeckOK (d : S_coresecmake_Deck) : Prop where
  lo : 0 ≤ d.2
  hi : d.2 ≤ (d.1.length : Int)
  len : d.1.length ≤ maxLen
theorem new_ok {l : List Int} (h : l.length ≤ maxLen) : DeckOK (l, 0) := ⟨Int.le_refl _, by show (0 : Int) ≤ (l.length : Int); omega, h⟩
theorem next_some {d : S_coresecmake_Deck} (h : DeckOK d) {n : Int} (h0 : 0 < n) (h1 : n < 4611686018427387904) : ∃ v d', m_coresecmake_Deck_Next d n = some (v, d') ∧ 0 ≤ v ∧ v < n ∧ DeckOK d' := by
  have hm : maxLen = 9223372036854775807 := rfl
  have a := h.lo
  have b := h.hi
  have c := h.len
  unfold m_coresecmake_Deck_Next
  rw [letm_e]
  by_cases hq : (d.1.length : Int) ≤ d.2
  · rw [decide_eq_true hq, cd_t]
    exact ⟨0, d, rfl, Int.le_refl _, h0, h⟩
  · rw [decide_eq_false hq, cd_f, letm_e, letm_e, w64_of (x := d.2 + 1) (by omega) (by omega), w64_of (by omega) (by omega)]
    obtain ⟨i, hi⟩ : ∃ i : Nat, d.2 + 1 - 1 = (i : Int) := ⟨d.2.toNat, by omega⟩
    have hlt : i < d.1.length := by omega
    rw [hi, idx_some' (List.getElem?_eq_getElem hlt), bnd_s]
    obtain ⟨y, hy, y0, y1⟩ := mod_some d.1[i] h0 h1
    rw [hy, bnd_s]
    exact ⟨_, _, rfl, y0, y1, by show 0 ≤ d.2 + 1; omega, by show d.2 + 1 ≤ (d.1.length : Int); omega, c⟩
theorem bytes_go : ∀ (k f : Nat) (b : List UInt8) (d : S_coresecmake_Deck), k < f → DeckOK d → b.length + k ≤ 1000000 → ∃ z d', loopF (R := ((List UInt8) × S_coresecmake_Deck)) (S := ((List UInt8) × (Int × S_coresecmake_Deck))) (fun self5 s4 =>
     letm (decide (0 < s4.2.1)) fun x6 => cond x6 (bnd (m_coresecmake_Deck_Next s4.2.2 256) fun x7 => letm ((toU8 x7.1)) fun x8 => bnd (app s4.1 [x8]) fun x9 => letm ((w64 (s4.2.1 - 1))) fun x10 => self5 (x9, (x10, x7.2))) (some (s4.1, s4.2.2))) f (b, ((k : Int), d)) = some (z, d') ∧ z.length = b.length + k ∧ DeckOK d'
  | 0, f + 1, b, d, _, hd, _ => ⟨b, d, rfl, rfl, hd⟩
  | k + 1, f + 1, b, d, hf, hd, hl => by
    obtain ⟨v, d1, h1, _, _, h2⟩ := next_some hd (n := 256) (by omega) (by omega)
    rw [loopF_succ, letm_e]
    have e1 : decide ((0 : Int) < ((k + 1 : Nat) : Int)) = true := decide_eq_true (by omega)
    simp only [e1, cd_t]
    rw [h1, bnd_s, letm_e, app_some' (by simp; omega), bnd_s, letm_e, w64_of (by omega) (by omega), show (((k + 1 : Nat) : Int) - 1) = (k : Int) by omega]
    obtain ⟨z, d', h3, h4, h5⟩ := bytes_go k f (b ++ [toU8 v]) d1 (by omega) h2 (by simp; omega)
    exact ⟨z, d', h3, by simp at h4; omega, h5⟩
theorem bytes_some {d : S_coresecmake_Deck} (h : DeckOK d) {n : Int} (h0 : 0 ≤ n) (h1 : n ≤ 1000) : ∃ b d', m_coresecmake_Deck_Bytes d n = some (b, d') ∧ b.length ≤ 1000 ∧ DeckOK d' := by
  unfold m_coresecmake_Deck_Bytes
  rw [letm_e, w64_of (by omega) (by omega)]
  obtain ⟨v, d1, h2, v0, v1, h3⟩ := next_some h (n := n + 1) (by omega) (by omega)
  rw [h2, bnd_s]
  obtain ⟨k, rfl⟩ : ∃ k : Nat, v = (k : Int) := ⟨v.toNat, by omega⟩
  obtain ⟨z, d', h4, h5, h6⟩ := bytes_go k FUEL [] d1 (by rw [fuel_eq]; omega) h3 (by simp; omega)
  exact ⟨z, d', h4, by simp at h5; omega, h6⟩
/-- A small message. -/
structure Sz (k : Nat) (m : S_api_Message) : Prop where
  tok : m.2.2.2.1.length ≤ 1000
  ol : m.2.2.2.2.1.length ≤ k
  ov : ∀ o ∈ m.2.2.2.2.1, o.2.length ≤ 1000
  pay : m.2.2.2.2.2.length ≤ 1000
theorem Sz.len {k : Nat} {m : S_api_Message} (h : Sz k m) (hk : k ≤ 1000000) : LenM m :=
  ⟨by have := h.tok; omega, ⟨by have := h.ol; omega, fun o ho => by have := h.ov o ho; omega⟩, by have := h.pay; omega⟩
theorem setO_len (l : List S_api_Option) (n : Int) (vs : List (List UInt8)) : (setO l n vs).length ≤ l.length + vs.length := by
  unfold setO
  simp only [List.length_append, List.length_map]
  have a1 : (l.filter fun o => decide (o.1 < n)).length + (l.filter fun o => decide (n < o.1)).length ≤ l.length := by
    induction l with
    | nil => simp
    | cons x l ih =>
      simp only [List.filter_cons]
      by_cases h : x.1 < n
      · have : ¬ n < x.1 := by omega
        simp [h, this]; omega
      · by_cases h' : n < x.1 <;> simp [h, h'] <;> omega
  omega
theorem setO_mem {l : List S_api_Option} {n : Int} {vs : List (List UInt8)} {o : S_api_Option} (h : o ∈ setO l n vs) : o ∈ l ∨ ∃ v ∈ vs, o = (n, v) := by
  unfold setO at h
  simp only [List.mem_append, List.mem_filter, List.mem_map] at h
  rcases h with (⟨h, _⟩ | ⟨v, hv, rfl⟩) | ⟨h, _⟩
  · exact .inl h
  · exact .inr ⟨v, hv, rfl⟩
  · exact .inl h
theorem Sz.set {k j : Nat} {m : S_api_Message} (h : Sz k m) (n : Int) {vs : List (List UInt8)} (hk : k + j ≤ 100000) (hj : vs.length ≤ j) (hv : ∀ v ∈ vs, v.length ≤ 1000) :
    m_coresecref16_Set m n vs = some (withO m (setO m.2.2.2.2.1 n vs)) ∧ Sz (k + j) (withO m (setO m.2.2.2.2.1 n vs)) := by
  refine ⟨set_ref (h.len (by omega)) (by have := h.ol; omega) (by omega) fun v hv' => by have := hv v hv'; omega, h.tok, ?_, fun o ho => ?_, h.pay⟩
  · have := setO_len m.2.2.2.2.1 n vs
    have := h.ol
    show (setO m.2.2.2.2.1 n vs).length ≤ k + j
    omega
  · rcases setO_mem ho with ho | ⟨v, hv', rfl⟩
    · exact h.ov o ho
    · exact hv v hv'
theorem value18_some (b : S_api_Block) : ∃ r, m_coresecref18_Value b = some r ∧ r.1.length ≤ 4 := by
  unfold m_coresecref18_Value m_coresecref18_valid
  simp only [letm_e]
  have fin : ∀ z : Int, ∃ r : (List UInt8) × Int, (bnd (m_coresecref16_FromUint z) fun x7 => some (x7, (0 : Int))) = some r ∧ r.1.length ≤ 4 := fun z => by
    obtain ⟨l, _, h, h2⟩ := fromUint_any z
    rw [h]; exact ⟨_, rfl, h2⟩
  have no : ∃ r : (List UInt8) × Int, some (([] : List UInt8), (1 : Int)) = some r ∧ r.1.length ≤ 4 := ⟨_, rfl, by simp⟩
  cases decide (0 ≤ b.1) <;> cases decide (b.1 < 1048576) <;> cases decide (0 ≤ b.2.2) <;> cases decide (b.2.2 ≤ 6) <;> first | exact no | skip
  cases b.2.1
  · exact fin _
  · exact fin _
theorem idx_lit {α : Type} (l : List α) {v : Int} (h0 : 0 ≤ v) (h1 : v < (l.length : Int)) : ∃ x, idx l v = some x ∧ x ∈ l := by
  obtain ⟨i, rfl⟩ : ∃ i : Nat, v = (i : Int) := ⟨v.toNat, by omega⟩
  have hi : i < l.length := by omega
  exact ⟨l[i], idx_some' (List.getElem?_eq_getElem hi), List.getElem_mem hi⟩
theorem response_some {d : S_coresecmake_Deck} (h : DeckOK d) : ∃ m d', m_coresecmake_Deck_Response d = some (m, d') ∧ DeckOK d' ∧ Sz 3 m := by
  unfold m_coresecmake_Deck_Response
  obtain ⟨v1, d1, e1, _, _, h1⟩ := next_some h (n := 3) (by omega) (by omega)
  rw [e1, bnd_s]
  obtain ⟨v2, d2, e2, l2, u2, h2⟩ := next_some h1 (n := 5) (by omega) (by omega)
  rw [e2, bnd_s]
  obtain ⟨x3, e3, _⟩ := idx_lit ([69, 69, 69, 132, 68] : List Int) l2 (by show v2 < 5; omega)
  rw [e3, bnd_s]
  obtain ⟨v4, d4, e4, _, _, h4⟩ := next_some h2 (n := 99) (by omega) (by omega)
  rw [e4, bnd_s]
  obtain ⟨b5, d5, e5, l5, h5⟩ := bytes_some h4 (n := 2) (by omega) (by omega)
  rw [e5, bnd_s]
  obtain ⟨b6, d6, e6, l6, h6⟩ := bytes_some h5 (n := 6) (by omega) (by omega)
  rw [e6, bnd_s]
  have z0 : Sz 0 (v1, (x3, (v4, (b5, (([] : List S_api_Option), b6))))) := ⟨l5, by simp, by simp, l6⟩
  -- Max-Age
  obtain ⟨v7, d7, e7, _, _, h7⟩ := next_some h6 (n := 2) (by omega) (by omega)
  simp only [e7, bnd_s, letm_e]
  obtain ⟨d8, m8, e8, h8, z8⟩ : ∃ d8 m8, (cond (v7 == 0) (bnd (m_coresecmake_Deck_Next d7 5) fun x9 => bnd (idx [0, 1, 5, 40, 300] x9.1) fun x10 => bnd (m_coresecref16_FromUint x10) fun x11 => bnd (m_coresecref16_Set (v1, (x3, (v4, (b5, ([], b6))))) 14 [x11]) fun x12 => some (x9.2, x12)) (some (d7, (v1, (x3, (v4, (b5, ([], b6)))))))) = some (d8, m8) ∧ DeckOK d8 ∧ Sz 1 m8 := by
    cases v7 == 0 with
    | false => exact ⟨_, _, rfl, h7, z0.tok, by simp, z0.ov, z0.pay⟩
    | true =>
      obtain ⟨v9, d9, e9, l9, u9, h9⟩ := next_some h7 (n := 5) (by omega) (by omega)
      rw [cd_t, e9, bnd_s]
      obtain ⟨x10, e10, _⟩ := idx_lit ([0, 1, 5, 40, 300] : List Int) l9 (by show v9 < 5; omega)
      rw [e10, bnd_s]
      obtain ⟨l11, _, e11, l11l⟩ := fromUint_any x10
      obtain ⟨e12, z12⟩ := z0.set 14 (vs := [l11]) (j := 1) (by omega) (by simp) (by simp; omega)
      rw [e11, bnd_s, e12, bnd_s]
      exact ⟨_, _, rfl, h9, z12⟩
  rw [e8, bnd_s]
  -- a tag
  obtain ⟨v14, d14, e14, _, _, h14⟩ := next_some h8 (n := 2) (by omega) (by omega)
  simp only [e14, bnd_s]
  obtain ⟨d15, m15, e15, h15, z15⟩ : ∃ d15 m15, (cond (v14 == 0) (bnd (m_coresecmake_Deck_Next d14 3) fun x16 => bnd (m_coresecref16_Set m8 4 [[toU8 x16.1]]) fun x18 => some (x16.2, x18)) (some (d14, m8))) = some (d15, m15) ∧ DeckOK d15 ∧ Sz 2 m15 := by
    cases v14 == 0 with
    | false => exact ⟨_, _, rfl, h14, z8.tok, by have := z8.ol; omega, z8.ov, z8.pay⟩
    | true =>
      obtain ⟨v16, d16, e16, _, _, h16⟩ := next_some h14 (n := 3) (by omega) (by omega)
      obtain ⟨e17, z17⟩ := z8.set 4 (vs := [[toU8 v16]]) (j := 1) (by omega) (by simp) (by simp)
      rw [cd_t, e16, bnd_s, e17, bnd_s]
      exact ⟨_, _, rfl, h16, z17⟩
  rw [e15, bnd_s]
  obtain ⟨v20, d20, e20, _, _, h20⟩ := next_some h15 (n := 8) (by omega) (by omega)
  simp only [e20, bnd_s]
  cases v20 == 0 with
  | true =>
    obtain ⟨e22, z22⟩ := z15.set 6 (vs := [[1]]) (j := 1) (by omega) (by simp) (by simp)
    rw [cd_t, e22, bnd_s, bnd_s]
    exact ⟨_, _, rfl, h20, z22⟩
  | false =>
    rw [cd_f]
    cases v20 == 1 with
    | false => exact ⟨_, _, rfl, h20, z15.tok, by have := z15.ol; show m15.2.2.2.2.1.length ≤ 3; omega, z15.ov, z15.pay⟩
    | true =>
      obtain ⟨v24, d24, e24, _, _, h24⟩ := next_some h20 (n := 2) (by omega) (by omega)
      obtain ⟨v25, d25, e25, _, _, h25⟩ := next_some h24 (n := 2) (by omega) (by omega)
      obtain ⟨r, er, lr⟩ := value18_some (v24, (v25 == 0, 2))
      obtain ⟨e28, z28⟩ := z15.set 23 (vs := [r.1]) (j := 1) (by omega) (by simp) (by simp; omega)
      rw [cd_t, e24, bnd_s, e25, bnd_s, er, bnd_s, e28, bnd_s, bnd_s]
      exact ⟨_, _, rfl, h25, z28⟩
end Go.Proofs.Ytdiidghfmpobaaa
