/-
  Chapter 18, plain facts: the law BlockPuts. Of the models alone; no program; no condition but that a list of numbers is not longer than memory.
-/
import Derived.Test.YtaefnnamjphieaaL18P
import Derived.Test.YtaefnnamjphieaaL18E
import Derived.Test.YtaefnnamjphieaaWBlockPuts
namespace Go.Proofs.Ytaefnnamjphieaa
open Go.Gk Go.RowKit
/-- A deck that may be. -/
def Dk (d : S_coresecmake_Deck) : Prop := 0 ≤ d.At ∧ d.At ≤ (d.L.length : Int) ∧ d.L.length ≤ 9223372036854775807
theorem next_some (d : S_coresecmake_Deck) (hd : Dk d) {n : Int} (h0 : 0 < n) (h1 : n < 4611686018427387904) : ∃ y a, m_coresecmake_Deck_Next d n = some (y, ⟨d.L, a⟩) ∧ 0 ≤ y ∧ y < n ∧ Dk ⟨d.L, a⟩ := by
  obtain ⟨hd1, hd2, hd3⟩ := hd
  unfold m_coresecmake_Deck_Next
  by_cases h : (d.L.length : Int) ≤ d.At
  · exact ⟨0, d.At, by simp only [letm, decide_eq_true h, cond_true], by omega, h0, hd1, hd2, hd3⟩
  · have e1 : w64 (d.At + 1) = d.At + 1 := w64_of (by omega) (by omega)
    have e2 : w64 (d.At + 1 - 1) = d.At := by rw [w64_of (by omega) (by omega)]; omega
    obtain ⟨i, hi⟩ : ∃ i : Nat, d.At = (i : Int) := ⟨d.At.toNat, by omega⟩
    have hlt : i < d.L.length := by omega
    have e3 : idx d.L (i : Int) = some d.L[i] := idx_some' (List.getElem?_eq_getElem hlt)
    obtain ⟨y, hy, g1, g2⟩ := mod_some d.L[i] h0 h1
    refine ⟨y, (i : Int) + 1, ?_, g1, g2, ?_, ?_, hd3⟩
    · rw [hi] at e1 e2 h
      simp only [letm, hi, decide_eq_false h, cond_false, e1, e2, e3, bnd_some', hy]
    · show (0 : Int) ≤ (i : Int) + 1; omega
    · show (i : Int) + 1 ≤ (d.L.length : Int); omega
theorem quad_some {y : Int} (h0 : 0 ≤ y) (h1 : y < 4) : ∃ z, idx ([0, 0, 1, 2] : List Int) y = some z := by
  have : y = 0 ∨ y = 1 ∨ y = 2 ∨ y = 3 := by omega
  rcases this with rfl | rfl | rfl | rfl <;> exact ⟨_, rfl⟩
theorem partials_l1 (d : S_coresecmake_Deck) : ∀ (n : Nat) (l : List S_api_Partial) (k : Int) (e : S_coresecmake_Deck), k + 1 < (n : Int) → 0 < n → -9223372036854775808 < k → k < 9223372036854775808 → Dk ⟨d.L, e.At⟩ → l.length ≤ 4 →
    ∃ l' a, m_coreseclaw18_partials_l1 d n l k e = some (l', ⟨d.L, a⟩) ∧ l'.length ≤ 4 ∧ Dk ⟨d.L, a⟩
  | 0, l, k, e, h1, h0, h2, h3, hd, hl => by omega
  | n + 1, l, k, e, h1, h0, h2, h3, hd, hl => by
    rw [m_coreseclaw18_partials_l1]
    by_cases hk : 0 < k
    · obtain ⟨y1, a1, q1, r1, s1, hd⟩ := next_some ⟨d.L, e.At⟩ hd (n := 2) (by omega) (by omega)
      obtain ⟨y2, a2, q2, r2, s2, hd⟩ := next_some ⟨d.L, a1⟩ hd (n := 4) (by omega) (by omega)
      obtain ⟨z, hz⟩ := quad_some r2 s2
      obtain ⟨y3, a3, q3, r3, s3, hd⟩ := next_some ⟨d.L, a2⟩ hd (n := 4) (by omega) (by omega)
      obtain ⟨y4, a4, q4, r4, s4, hd⟩ := next_some ⟨d.L, a3⟩ hd (n := 2) (by omega) (by omega)
      obtain ⟨y5, a5, q5, r5, s5, hd⟩ := next_some ⟨d.L, a4⟩ hd (n := 4) (by omega) (by omega)
      obtain ⟨y6, a6, q6, r6, s6, hd⟩ := next_some ⟨d.L, a5⟩ hd (n := 1048576) (by omega) (by omega)
      obtain ⟨s, rfl⟩ : ∃ s : Nat, y1 = (s : Int) := ⟨y1.toNat, by omega⟩
      have hs : s ≤ 1 := by omega
      have hp : 2 ^ s ≤ 2 ^ 1 := Nat.pow_le_pow_right (by omega) hs
      have e1 : shl 16 ((toU64 (s : Int)).toNat : Int) = some ((16 * 2 ^ s : Nat) : Int) := by rw [toU64_nat (by omega)]; exact shl_nat (a := 16) (by omega) (by omega)
      obtain ⟨c, hc, hcl⟩ := some_some y6 ((16 * 2 ^ s : Nat) : Int) (by omega)
      obtain ⟨y7, a7, q7, r7, s7, hd⟩ := next_some ⟨d.L, a6⟩ hd (n := 40) (by omega) (by omega)
      have hput := put_both l y4 [toU8 y5] { Num := z, More := decide (0 < y3), Size := (s : Int) } c y7 (by rw [hcl]; omega)
      have w1 : w64 (k - 1) = k - 1 := w64_of (by omega) (by omega)
      simp only [letm, decide_eq_true hk, cond_true, q1, q2, q3, q4, q5, q6, q7, bnd_some', hz, e1, hc, hput, w1]
      have hlen := putS_len l y4 [toU8 y5] { Num := z, More := decide (0 < y3), Size := (s : Int) } c y7
      generalize putS l y4 [toU8 y5] { Num := z, More := decide (0 < y3), Size := (s : Int) } c y7 = P at hlen ⊢
      cases P.2.2.2 == 0 with
      | true => exact partials_l1 d n P.1 (k - 1) ⟨d.L, a7⟩ (by omega) (by omega) (by omega) (by omega) hd hlen
      | false => exact partials_l1 d n l (k - 1) ⟨d.L, a7⟩ (by omega) (by omega) (by omega) (by omega) hd hl
    · simp only [letm, decide_eq_false hk, cond_false]
      exact ⟨_, _, rfl, hl, hd⟩
theorem partials_some (d : S_coresecmake_Deck) (hd : Dk d) : ∃ l a, m_coreseclaw18_partials d = some (l, ⟨d.L, a⟩) ∧ l.length ≤ 4 ∧ Dk ⟨d.L, a⟩ := by
  unfold m_coreseclaw18_partials
  obtain ⟨y1, a1, q1, r1, s1, hd⟩ := next_some ⟨d.L, d.At⟩ hd (n := 12) (by omega) (by omega)
  obtain ⟨l, a, h1, h2, h3⟩ := partials_l1 d (y1.toNat + 2) [] y1 ⟨d.L, a1⟩ (by omega) (by omega) (by omega) (by omega) hd (by simp)
  exact ⟨l, a, by simp only [q1, bnd_some', h1], h2, h3⟩
theorem puts_l2 (x : List S_api_Partial) : ∀ (l : List S_t35) (k : Nat), (∀ y ∈ l, y.c.length ≤ 100000) → m_coreseclaw18_BlockPuts_l2 x l k = some (Sum.inr ())
  | [], _, _ => rfl
  | y :: l, k, h => by
    rw [m_coreseclaw18_BlockPuts_l2]
    have hc := h y (by simp)
    simp only [put_spec x y.p y.k { Num := y.b.Num, More := y.b.More, Size := y.b.Size } y.c y.t hc, put_both x y.p y.k { Num := y.b.Num, More := y.b.More, Size := y.b.Size } y.c y.t hc, bnd_some', same_self, letm, Bool.not_true, cond_false, bne_self_eq_false]
    exact puts_l2 x l (k + 1) (fun y hy => h y (by simp [hy]))
theorem puts_l1 (a2 : Int) (a3 : List UInt8) (a4 : S_api_Block) (a5 : List UInt8) (a6 : Int) {s : Nat} (hs : s ≤ 1) (y67 : Int) (h5 : a5.length ≤ 3000) : ∀ (l : List (List S_api_Partial)) (k : Nat), m_coreseclaw18_BlockPuts_l1 a2 a3 a4 a5 a6 (s : Int) y67 l k = some (Sum.inr ())
  | [], _ => rfl
  | x :: l, k => by
    rw [m_coreseclaw18_BlockPuts_l1]
    have hp : 2 ^ s ≤ 2 ^ 1 := Nat.pow_le_pow_right (by omega) hs
    obtain ⟨y1, q1, r1, s1⟩ := mod_some a2 (m := 2) (by omega) (by omega)
    obtain ⟨z1, hz1⟩ := quo_some a2 (b := 2) (by omega)
    obtain ⟨y2, q2, r2, s2⟩ := mod_some z1 (m := 4) (by omega) (by omega)
    have e1 : shl 16 ((toU64 (s : Int)).toNat : Int) = some ((16 * 2 ^ s : Nat) : Int) := by rw [toU64_nat (by omega)]; exact shl_nat (a := 16) (by omega) (by omega)
    obtain ⟨z2, hz2⟩ := quo_some a6 (b := 7) (by omega)
    obtain ⟨y3, q3, r3, s3⟩ := mod_some z2 (m := 3) (by omega) (by omega)
    obtain ⟨m, rfl⟩ : ∃ m : Nat, y3 = (m : Int) := ⟨y3.toNat, by omega⟩
    have e2 : quo (m : Int) 2 = some ((m / 2 : Nat) : Int) := quo_nat (a := m) (b := 2) (by omega) (by omega)
    have w1 : w64 (((16 * 2 ^ s : Nat) : Int) - ((m / 2 : Nat) : Int)) = ((16 * 2 ^ s : Nat) : Int) - ((m / 2 : Nat) : Int) := w64_of (by omega) (by omega)
    obtain ⟨c1, hc1, hl1⟩ := some_some a6 (((16 * 2 ^ s : Nat) : Int) - ((m / 2 : Nat) : Int)) (by omega)
    obtain ⟨y4, q4, r4, s4⟩ := mod_some a6 (m := 200) (by omega) (by omega)
    obtain ⟨y5, q5, r5, s5⟩ := mod_some a2 (m := 3) (by omega) (by omega)
    obtain ⟨c2, hc2, hl2⟩ := some_some a6 16 (by omega)
    have hin : ∀ y ∈ ([(S_t35.mk a2 a3 (S_api_Block.mk a4.Num a4.More a4.Size) a5 a6), (S_t35.mk y1 ([toU8 y2]) (S_api_Block.mk y67 a4.More (s : Int)) c1 y4), (S_t35.mk y5 ([(9 : UInt8)]) (S_api_Block.mk 0 true 0) c2 41)]), y.c.length ≤ 100000 := by
      intro y hy
      simp only [List.mem_cons, List.not_mem_nil, or_false] at hy
      rcases hy with rfl | rfl | rfl
      · show a5.length ≤ _; omega
      · show c1.length ≤ _; omega
      · show c2.length ≤ _; omega
    simp only [bvalid_eq, rvalid_eq, bnd_some', letm, bne_self_eq_false, cond_false, q1, hz1, q2, e1, hz2, q3, e2, w1, hc1, q4, q5, hc2, puts_l2 x _ 0 hin, bndS_inr]
    exact puts_l1 a2 a3 a4 a5 a6 hs y67 h5 l (k + 1)
theorem BlockPuts_true (a0 : List S_api_Partial) (a1 : List Int) (a2 : Int) (a3 : List UInt8) (a4 : S_api_Block) (a5 : List UInt8) (a6 : Int) (h1 : a1.length ≤ 9223372036854775807) : m_coreseclaw18_BlockPuts a0 a1 a2 a3 a4 a5 a6 = some true := by
  unfold m_coreseclaw18_BlockPuts
  have key : a5.length ≤ 3000 → (bnd (m_coresecmake_New a1) fun y40 =>
      bnd (m_coreseclaw18_partials (S_coresecmake_Deck.mk y40.L y40.At)) fun y51 =>
      bnd (m_coresecmake_Mod a4.Size 2) fun y60 =>
      bnd (m_coresecmake_Mod a4.Num 4) fun y67 =>
      bnd (app ([] : List S_api_Partial) y51.1) fun x89 =>
      bnd (app x89 y51.1) fun x96 =>
      bndS (m_coreseclaw18_BlockPuts_l1 a2 a3 a4 a5 a6 y60 y67 ([a0, y51.1, x96]) 0 : Option (Bool ⊕ Unit)) (fun q => q) fun y110 =>
      bnd (m_coreseclaw18_awake ) fun y344 =>
      some y344) = some true := by
    intro h5
    obtain ⟨l, a, hp, hl, hd⟩ := partials_some ⟨a1, 0⟩ ⟨by simp, by simp, h1⟩
    obtain ⟨y1, q1, r1, s1⟩ := mod_some a4.Size (m := 2) (by omega) (by omega)
    obtain ⟨y2, q2, r2, s2⟩ := mod_some a4.Num (m := 4) (by omega) (by omega)
    obtain ⟨s, rfl⟩ : ∃ s : Nat, y1 = (s : Int) := ⟨y1.toNat, by omega⟩
    have e0 : m_coresecmake_New a1 = some ⟨a1, 0⟩ := rfl
    rw [e0, bnd_some']
    simp only [hp, bnd_some', q1, q2, app_some' (show ([] : List S_api_Partial).length + l.length ≤ 4294967296 by simp; omega), List.nil_append, app_some' (show l.length + l.length ≤ 4294967296 by omega), puts_l1 a2 a3 a4 a5 a6 (s := s) (by omega) y2 h5, bndS_inr, awake_true]
  by_cases c1 : 20 < (a0.length : Int)
  · simp only [letm, decide_eq_true c1, cond_true, bnd_some', awake_true]
  · have hsh : ∃ b, m_coresecmake_Short a3 = some b := ⟨_, rfl⟩
    obtain ⟨b, hb⟩ := hsh
    cases b with
    | false => simp only [letm, decide_eq_false c1, cond_false, hb, bnd_some', Bool.not_false, cond_true, awake_true]
    | true =>
      by_cases c2 : 3000 < (a5.length : Int)
      · simp only [letm, decide_eq_false c1, cond_false, hb, bnd_some', Bool.not_true, decide_eq_true c2, cond_true, awake_true]
      · simp only [letm, decide_eq_false c1, cond_false, hb, bnd_some', Bool.not_true, decide_eq_false c2]
        exact key (by omega)
end Go.Proofs.Ytaefnnamjphieaa
