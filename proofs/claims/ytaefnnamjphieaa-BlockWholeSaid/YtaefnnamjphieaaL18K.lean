/-
  Chapter 18, plain facts: decks of numbers. Of the models alone; no program; no condition but that a list of numbers is not longer than memory.
-/
import Derived.Test.YtaefnnamjphieaaL18P
namespace Go.Proofs.Ytaefnnamjphieaa
open Go.Gk Go.RowKit
theorem toU64_nat {n : Nat} (h : n < 18446744073709551616) : ((toU64 (n : Int)).toNat : Int) = (n : Int) := by
  unfold toU64
  have : (((n : Int) % 18446744073709551616).toNat) = n := by omega
  rw [this, UInt64.toNat_ofNat']
  omega
/-- A deck that may be. -/
def Dk (d : S_coresecmake_Deck) : Prop := 0 ≤ d.At ∧ d.At ≤ (d.L.length : Int) ∧ d.L.length ≤ 9223372036854775807
theorem next_some (d : S_coresecmake_Deck) (hd : Dk d) {n : Int} (h0 : 0 < n) (h1 : n < 4611686018427387904) : ∃ y a, m_coresecmake_Deck_Next d n = some (y, ⟨d.L, a⟩) ∧ 0 ≤ y ∧ y < n ∧ Dk ⟨d.L, a⟩ := by
  obtain ⟨hd1, hd2, hd3⟩ := hd
  unfold m_coresecmake_Deck_Next
  by_cases h : (d.L.length : Int) ≤ d.At
  · exact ⟨0, d.At, by simp only [letm, decide_eq_true h, cond_true], by omega, h0, hd1, hd2, hd3⟩
  · have e1 : w64 (d.At + 1) = d.At + 1 := w64_of (by omega) (by omega)
    have e2 : w64 (d.At + 1 - 1) = d.At := by rw [w64_of (by omega) (by omega)]; omega
    obtain ⟨i, hi⟩ : ∃ i : Nat, d.At = (i : Int) := ⟨d.At.toNat, by omega⟩
    have hlt : i < d.L.length := by omega
    have e3 : idx d.L (i : Int) = some d.L[i] := idx_some' (List.getElem?_eq_getElem hlt)
    obtain ⟨y, hy, g1, g2⟩ := mod_some d.L[i] h0 h1
    refine ⟨y, (i : Int) + 1, ?_, g1, g2, ?_, ?_, hd3⟩
    · rw [hi] at e1 e2 h
      simp only [letm, hi, decide_eq_false h, cond_false, e1, e2, e3, bnd_some', hy]
    · show (0 : Int) ≤ (i : Int) + 1; omega
    · show (i : Int) + 1 ≤ (d.L.length : Int); omega
end Go.Proofs.Ytaefnnamjphieaa
