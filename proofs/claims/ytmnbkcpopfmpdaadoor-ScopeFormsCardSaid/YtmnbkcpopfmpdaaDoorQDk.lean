/-
  Decks of numbers alone, plain facts: what they give is in its range, and something is always given. Of the models alone; no program; no condition but the ranges told.
-/
import Derived.Test.YtmnbkcpopfmpdaaDoorQ00
import Derived.Test.YtmnbkcpopfmpdaaDoorMo
namespace Go.Proofs.YtmnbkcpopfmpdaaDoor
open Go.Gk Go.RowKit
theorem mod_some (a : Int) {m : Int} (h0 : 0 < m) (h1 : m < 4611686018427387904) : ∃ y, m_coresecmake_Mod a m = some y ∧ 0 ≤ y ∧ y < m := by
  obtain ⟨q, hq, l1, l2⟩ := rem_some (a := a) h0
  unfold m_coresecmake_Mod
  rw [hq, bnd_s, letm_e]
  by_cases h : q < 0
  · rw [decide_eq_true h, cd_t, letm_e, bnd_s, w64_of (by omega) (by omega)]
    exact ⟨_, rfl, by omega, by omega⟩
  · rw [decide_eq_false h, cd_f, bnd_s]
    exact ⟨_, rfl, by omega, by omega⟩
structure DeckOK (d : S_coresecmake_Deck) : Prop where
  lo : 0 ≤ d.2
  hi : d.2 ≤ (d.1.length : Int)
  len : d.1.length ≤ maxLen
theorem new_ok {l : List Int} (h : l.length ≤ maxLen) : DeckOK (l, 0) := ⟨Int.le_refl _, by show (0 : Int) ≤ (l.length : Int); omega, h⟩
theorem next_some {d : S_coresecmake_Deck} (h : DeckOK d) {n : Int} (h0 : 0 < n) (h1 : n < 4611686018427387904) : ∃ v d', m_coresecmake_Deck_Next d n = some (v, d') ∧ 0 ≤ v ∧ v < n ∧ DeckOK d' := by
  have hm : maxLen = 9223372036854775807 := rfl
  have a := h.lo
  have b := h.hi
  have c := h.len
  unfold m_coresecmake_Deck_Next
  rw [letm_e]
  by_cases hq : (d.1.length : Int) ≤ d.2
  · rw [decide_eq_true hq, cd_t]
    exact ⟨0, d, rfl, Int.le_refl _, h0, h⟩
  · rw [decide_eq_false hq, cd_f, letm_e, letm_e, w64_of (x := d.2 + 1) (by omega) (by omega), w64_of (by omega) (by omega)]
    obtain ⟨i, hi⟩ : ∃ i : Nat, d.2 + 1 - 1 = (i : Int) := ⟨d.2.toNat, by omega⟩
    have hlt : i < d.1.length := by omega
    rw [hi, idx_some' (List.getElem?_eq_getElem hlt), bnd_s]
    obtain ⟨y, hy, y0, y1⟩ := mod_some d.1[i] h0 h1
    rw [hy, bnd_s]
    exact ⟨_, _, rfl, y0, y1, by show 0 ≤ d.2 + 1; omega, by show d.2 + 1 ≤ (d.1.length : Int); omega, c⟩
theorem idx_lit {α : Type} (l : List α) {v : Int} (h0 : 0 ≤ v) (h1 : v < (l.length : Int)) : ∃ x, idx l v = some x ∧ x ∈ l := by
  obtain ⟨i, rfl⟩ : ∃ i : Nat, v = (i : Int) := ⟨v.toNat, by omega⟩
  have hi : i < l.length := by omega
  exact ⟨l[i], idx_some' (List.getElem?_eq_getElem hi), List.getElem_mem hi⟩
end Go.Proofs.YtmnbkcpopfmpdaaDoor
