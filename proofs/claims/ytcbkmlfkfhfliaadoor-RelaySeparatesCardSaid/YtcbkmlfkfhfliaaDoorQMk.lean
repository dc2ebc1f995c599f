/-
  Decks of numbers, plain facts: what they give is in its range, and something is always given. Of the models alone; no program; no condition but the ranges told.
-/
import Derived.Test.YtcbkmlfkfhfliaaDoorQ18
namespace Go.Proofs.YtcbkmlfkfhfliaaDoor
open Go.Gk Go.RowKit
theorem mod_some (a : Int) {m : Int} (h0 : 0 < m) (h1 : m < 4611686018427387904) : ∃ y, m_coresecmake_Mod a m = some y ∧ 0 ≤ y ∧ y < m := by
  obtain ⟨q, hq, l1, l2⟩ := rem_some (a := a) h0
  unfold m_coresecmake_Mod
  rw [hq, bnd_s, letm_e]
  by_cases h : q < 0
  · rw [decide_eq_true h, cd_t, letm_e, bnd_s, w64_of (by omega) (by omega)]
    exact ⟨_, rfl, by omega, by omega⟩
  · rw [decide_eq_false h, cd_f, bnd_s]
    exact ⟨_, rfl, by omega, by omega⟩
structure DeckOK (d : S_coresecmake_Deck) : Prop where
  lo : 0 ≤ d.2
  hi : d.2 ≤ (d.1.length : Int)
  len : d.1.length ≤ maxLen
theorem new_ok {l : List Int} (h : l.length ≤ maxLen) : DeckOK (l, 0) := ⟨Int.le_refl _, by show (0 : Int) ≤ (l.length : Int); omega, h⟩
theorem next_some {d : S_coresecmake_Deck} (h : DeckOK d) {n : Int} (h0 : 0 < n) (h1 : n < 4611686018427387904) : ∃ v d', m_coresecmake_Deck_Next d n = some (v, d') ∧ 0 ≤ v ∧ v < n ∧ DeckOK d' := by
  have hm : maxLen = 9223372036854775807 := rfl
  have a := h.lo
  have b := h.hi
  have c := h.len
  unfold m_coresecmake_Deck_Next
  rw [letm_e]
  by_cases hq : (d.1.length : Int) ≤ d.2
  · rw [decide_eq_true hq, cd_t]
    exact ⟨0, d, rfl, Int.le_refl _, h0, h⟩
  · rw [decide_eq_false hq, cd_f, letm_e, letm_e, w64_of (x := d.2 + 1) (by omega) (by omega), w64_of (by omega) (by omega)]
    obtain ⟨i, hi⟩ : ∃ i : Nat, d.2 + 1 - 1 = (i : Int) := ⟨d.2.toNat, by omega⟩
    have hlt : i < d.1.length := by omega
    rw [hi, idx_some' (List.getElem?_eq_getElem hlt), bnd_s]
    obtain ⟨y, hy, y0, y1⟩ := mod_some d.1[i] h0 h1
    rw [hy, bnd_s]
    exact ⟨_, _, rfl, y0, y1, by show 0 ≤ d.2 + 1; omega, by show d.2 + 1 ≤ (d.1.length : Int); omega, c⟩
theorem bytes_go : ∀ (k f : Nat) (b : List UInt8) (d : S_coresecmake_Deck), k < f → DeckOK d → b.length + k ≤ 1000000 → ∃ z d', loopF (R := ((List UInt8) × S_coresecmake_Deck)) (S := ((List UInt8) × (Int × S_coresecmake_Deck))) (fun self5 s4 =>
     letm (decide (0 < s4.2.1)) fun x6 => cond x6 (bnd (m_coresecmake_Deck_Next s4.2.2 256) fun x7 => letm ((toU8 x7.1)) fun x8 => bnd (app s4.1 [x8]) fun x9 => letm ((w64 (s4.2.1 - 1))) fun x10 => self5 (x9, (x10, x7.2))) (some (s4.1, s4.2.2))) f (b, ((k : Int), d)) = some (z, d') ∧ z.length = b.length + k ∧ DeckOK d'
  | 0, f + 1, b, d, _, hd, _ => ⟨b, d, rfl, rfl, hd⟩
  | k + 1, f + 1, b, d, hf, hd, hl => by
    obtain ⟨v, d1, h1, _, _, h2⟩ := next_some hd (n := 256) (by omega) (by omega)
    rw [loopF_succ, letm_e]
    have e1 : decide ((0 : Int) < ((k + 1 : Nat) : Int)) = true := decide_eq_true (by omega)
    simp only [e1, cd_t]
    rw [h1, bnd_s, letm_e, app_some' (by simp; omega), bnd_s, letm_e, w64_of (by omega) (by omega), show (((k + 1 : Nat) : Int) - 1) = (k : Int) by omega]
    obtain ⟨z, d', h3, h4, h5⟩ := bytes_go k f (b ++ [toU8 v]) d1 (by omega) h2 (by simp; omega)
    exact ⟨z, d', h3, by simp at h4; omega, h5⟩
theorem bytes_some {d : S_coresecmake_Deck} (h : DeckOK d) {n : Int} (h0 : 0 ≤ n) (h1 : n ≤ 1000) : ∃ b d', m_coresecmake_Deck_Bytes d n = some (b, d') ∧ b.length ≤ 1000 ∧ DeckOK d' := by
  unfold m_coresecmake_Deck_Bytes
  rw [letm_e, w64_of (by omega) (by omega)]
  obtain ⟨v, d1, h2, v0, v1, h3⟩ := next_some h (n := n + 1) (by omega) (by omega)
  rw [h2, bnd_s]
  obtain ⟨k, rfl⟩ : ∃ k : Nat, v = (k : Int) := ⟨v.toNat, by omega⟩
  obtain ⟨z, d', h4, h5, h6⟩ := bytes_go k FUEL [] d1 (by rw [fuel_eq]; omega) h3 (by simp; omega)
  exact ⟨z, d', h4, by simp at h5; omega, h6⟩
/-- A small message. -/
structure Sz (k : Nat) (m : S_api_Message) : Prop where
  tok : m.2.2.2.1.length ≤ 1000
  ol : m.2.2.2.2.1.length ≤ k
  ov : ∀ o ∈ m.2.2.2.2.1, o.2.length ≤ 1000
  pay : m.2.2.2.2.2.length ≤ 1000
theorem Sz.len {k : Nat} {m : S_api_Message} (h : Sz k m) (hk : k ≤ 1000000) : LenM m :=
  ⟨by have := h.tok; omega, ⟨by have := h.ol; omega, fun o ho => by have := h.ov o ho; omega⟩, by have := h.pay; omega⟩
theorem setO_len (l : List S_api_Option) (n : Int) (vs : List (List UInt8)) : (setO l n vs).length ≤ l.length + vs.length := by
  unfold setO
  simp only [List.length_append, List.length_map]
  have a1 : (l.filter fun o => decide (o.1 < n)).length + (l.filter fun o => decide (n < o.1)).length ≤ l.length := by
    induction l with
    | nil => simp
    | cons x l ih =>
      simp only [List.filter_cons]
      by_cases h : x.1 < n
      · have : ¬ n < x.1 := by omega
        simp [h, this]; omega
      · by_cases h' : n < x.1 <;> simp [h, h'] <;> omega
  omega
theorem setO_mem {l : List S_api_Option} {n : Int} {vs : List (List UInt8)} {o : S_api_Option} (h : o ∈ setO l n vs) : o ∈ l ∨ ∃ v ∈ vs, o = (n, v) := by
  unfold setO at h
  simp only [List.mem_append, List.mem_filter, List.mem_map] at h
  rcases h with (⟨h, _⟩ | ⟨v, hv, rfl⟩) | ⟨h, _⟩
  · exact .inl h
  · exact .inr ⟨v, hv, rfl⟩
  · exact .inl h
theorem Sz.set {k j : Nat} {m : S_api_Message} (h : Sz k m) (n : Int) {vs : List (List UInt8)} (hk : k + j ≤ 100000) (hj : vs.length ≤ j) (hv : ∀ v ∈ vs, v.length ≤ 1000) :
    m_coresecref16_Set m n vs = some (withO m (setO m.2.2.2.2.1 n vs)) ∧ Sz (k + j) (withO m (setO m.2.2.2.2.1 n vs)) := by
  refine ⟨set_ref (h.len (by omega)) (by have := h.ol; omega) (by omega) fun v hv' => by have := hv v hv'; omega, h.tok, ?_, fun o ho => ?_, h.pay⟩
  · have := setO_len m.2.2.2.2.1 n vs
    have := h.ol
    show (setO m.2.2.2.2.1 n vs).length ≤ k + j
    omega
  · rcases setO_mem ho with ho | ⟨v, hv', rfl⟩
    · exact h.ov o ho
    · exact hv v hv'
theorem idx_lit {α : Type} (l : List α) {v : Int} (h0 : 0 ≤ v) (h1 : v < (l.length : Int)) : ∃ x, idx l v = some x ∧ x ∈ l := by
  obtain ⟨i, rfl⟩ : ∃ i : Nat, v = (i : Int) := ⟨v.toNat, by omega⟩
  have hi : i < l.length := by omega
  exact ⟨l[i], idx_some' (List.getElem?_eq_getElem hi), List.getElem_mem hi⟩
end Go.Proofs.YtcbkmlfkfhfliaaDoor
