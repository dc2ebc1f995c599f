/-
  Chapter 18, plain facts: the law BlockAgain. Of the models alone; no program; no condition.
-/
import Derived.Test.YtaefnnamjphieaaL18P
import Derived.Test.YtaefnnamjphieaaL18E
import Derived.Test.YtaefnnamjphieaaWBlockAgain
namespace Go.Proofs.Ytaefnnamjphieaa
open Go.Gk
/-- The one partial body of the law. -/
def oneP (D : List UInt8) : S_api_Partial := { Peer := 1, Key := [], Data := D, Until := 128 }
theorem valid_one (D : List UInt8) (h : D.length ≤ 4096) : validB [oneP D] = true := by
  have hd : ∀ (inst : Decidable (4096 < (D.length : Int))), @decide _ inst = false := fun inst => decide_eq_false (by omega)
  simp [validB, validL, goodP, oneP]
  exact hd _
theorem put_first (s : Nat) (z : List UInt8) (hs : s ≤ 2) (hz : z.length = 16 * 2 ^ s) : m_block_Put [] 1 [] { Num := 0, More := true, Size := (s : Int) } z 0 = some ([oneP z], [], false, 0) := by
  have hp : 2 ^ s ≤ 2 ^ 2 := Nat.pow_le_pow_right (by omega) hs
  rw [put_spec _ _ _ _ _ _ (by omega)]
  have hsn : sndB { Num := 0, More := true, Size := (s : Int) } = true := sndB_iff.2 ⟨by simp, by simp, by simp, by simp only; omega⟩
  rw [putS_ok rfl (by omega) (by omega) (by simp) hsn (by omega) (by omega)]
  exact congrArg some (putC_new (ys := []) rfl hz (by show 16 * 2 ^ s ≤ _; omega) rfl (by simp))
theorem put_one (s k : Nat) (D z : List UInt8) (hs : s ≤ 2) (hk : k ≤ 10) (hz : z.length = 16 * 2 ^ s) (hD : D.length ≤ 1000) :
    m_block_Put [oneP D] 1 [] { Num := (k : Int), More := true, Size := (s : Int) } z 0 = if k = 0 then some ([oneP z], [], false, 0) else if D.length = k * (16 * 2 ^ s) then some ([oneP (D ++ z)], [], false, 0) else some ([], [], false, 15) := by
  have hp : 2 ^ s ≤ 2 ^ 2 := Nat.pow_le_pow_right (by omega) hs
  rw [put_spec _ _ _ _ _ _ (by omega)]
  have hsn : sndB { Num := (k : Int), More := true, Size := (s : Int) } = true := sndB_iff.2 ⟨by simp, by simp only; omega, by simp, by simp only; omega⟩
  rw [putS_ok (valid_one D (by omega)) (by omega) (by omega) (by simp) hsn (by omega) (by omega)]
  by_cases h0 : k = 0
  · subst h0
    rw [if_pos rfl]
    exact congrArg some (putC_new (ys := []) rfl hz (by show 16 * 2 ^ s ≤ _; omega) rfl (by simp))
  · rw [if_neg h0]
    have ez : ((k : Int) == 0) = false := by rw [beq_eq_false_iff_ne]; omega
    simp only [ez, Int.toNat_natCast]
    have ek : [oneP D].filter (keepB 1 [] false 0) = [oneP D] := rfl
    by_cases hl : D.length = k * (16 * 2 ^ s)
    · rw [if_pos hl]
      exact congrArg some (putC_old (ys := [oneP D]) (i := 0) (x := oneP D) ek (by omega) hz rfl rfl hl (by show D.length + _ ≤ _; omega))
    · rw [if_neg hl]
      refine congrArg some (putC_state (ys := [oneP D]) ek (by omega) hz ?_)
      intro x hx
      have : some (oneP D) = some x := hx
      cases this
      exact hl
theorem again_l1 (a0 : Int) {s : Nat} (hs : s ≤ 2) (z : List UInt8) (hz : m_coresecmake_Some a0 ((16 * 2 ^ s : Nat) : Int) = some z) (hzl : z.length = 16 * 2 ^ s) : ∀ (n k : Nat) (D : List UInt8), 1 ≤ k → k + n ≤ 6 → D.length = k * (16 * 2 ^ s) →
    ∃ E, m_coreseclaw18_BlockAgain_l1 a0 (s : Int) n k [oneP D] = some (Sum.inr [oneP E]) ∧ E.length = (k + n) * (16 * 2 ^ s)
  | 0, k, D, _, _, hD => ⟨D, rfl, hD⟩
  | n + 1, k, D, h1, hk, hD => by
    rw [m_coreseclaw18_BlockAgain_l1]
    have hp : 2 ^ s ≤ 2 ^ 2 := Nat.pow_le_pow_right (by omega) hs
    have e : shl 16 ((toU64 (s : Int)).toNat : Int) = some ((16 * 2 ^ s : Nat) : Int) := by rw [toU64_nat (by omega)]; exact shl_nat (a := 16) (by omega) (by omega)
    have hm : k * (16 * 2 ^ s) ≤ 6 * 64 := Nat.mul_le_mul (by omega) (by omega)
    have hput := put_one s k D z hs (by omega) hzl (by omega)
    rw [if_neg (by omega), if_pos hD] at hput
    simp only [letm, e, hz, hput, bnd_some']
    obtain ⟨E, g1, g2⟩ := again_l1 a0 hs z hz hzl n (k + 1) (D ++ z) (by omega) (by omega) (by rw [List.length_append, hD, hzl, Nat.add_mul, Nat.one_mul])
    exact ⟨E, g1, by rw [g2]; congr 1; omega⟩
theorem again_l2 (a0 : Int) {s : Nat} (hs : s ≤ 2) (z : List UInt8) (hz : m_coresecmake_Some a0 ((16 * 2 ^ s : Nat) : Int) = some z) (hzl : z.length = 16 * 2 ^ s) (m : Nat) (hm : m ≤ 6) (E : List UInt8) (hE : E.length = m * (16 * 2 ^ s)) : ∀ (l : List Int) (i : Nat), (∀ k ∈ l, 0 ≤ k ∧ k ≤ 10 ∧ k ≠ (m : Int)) →
    m_coreseclaw18_BlockAgain_l2 a0 (s : Int) [oneP E] l i = some (Sum.inr ())
  | [], _, _ => rfl
  | k :: l, i, h => by
    rw [m_coreseclaw18_BlockAgain_l2]
    have hp : 2 ^ s ≤ 2 ^ 2 := Nat.pow_le_pow_right (by omega) hs
    have hp0 : 0 < 2 ^ s := Nat.pow_pos (by omega)
    have e : shl 16 ((toU64 (s : Int)).toNat : Int) = some ((16 * 2 ^ s : Nat) : Int) := by rw [toU64_nat (by omega)]; exact shl_nat (a := 16) (by omega) (by omega)
    obtain ⟨h1, h2, h3⟩ := h k (by simp)
    obtain ⟨q, rfl⟩ : ∃ q : Nat, k = (q : Int) := ⟨k.toNat, by omega⟩
    have hme : m * (16 * 2 ^ s) ≤ 6 * 64 := Nat.mul_le_mul hm (by omega)
    have hput := put_one s q E z hs (by omega) hzl (by omega)
    have ih := again_l2 a0 hs z hz hzl m hm E hE l (i + 1) (fun k hk => h k (by simp [hk]))
    by_cases h0 : q = 0
    · subst h0
      rw [if_pos rfl] at hput
      simp only [letm, e, hz, hput, bnd_some']
      exact ih
    · have hne : E.length ≠ q * (16 * 2 ^ s) := by
        rw [hE]
        intro hq
        have := Nat.eq_of_mul_eq_mul_right (by omega : 0 < 16 * 2 ^ s) hq
        omega
      rw [if_neg h0, if_neg hne] at hput
      have dd : decide ((0 : Int) < (q : Int)) = true := decide_eq_true (by omega)
      simp only [letm, e, hz, hput, bnd_some', dd]
      exact ih
theorem BlockAgain_true (a0 a1 a2 : Int) : m_coreseclaw18_BlockAgain a0 a1 a2 = some true := by
  unfold m_coreseclaw18_BlockAgain
  obtain ⟨y, hy, g1, g2⟩ := mod_some a2 (m := 3) (by omega) (by omega)
  obtain ⟨s, rfl⟩ : ∃ s : Nat, y = (s : Int) := ⟨y.toNat, by omega⟩
  obtain ⟨y2, hy2, g3, g4⟩ := mod_some a1 (m := 4) (by omega) (by omega)
  obtain ⟨n, rfl⟩ : ∃ n : Nat, y2 = (n : Int) := ⟨y2.toNat, by omega⟩
  have e1 : w64 (1 + (n : Int)) = ((1 + n : Nat) : Int) := by rw [w64_of (by omega) (by omega)]; omega
  have e2 : w64 (((1 + n : Nat) : Int) + 1) = ((n + 2 : Nat) : Int) := by rw [w64_of (by omega) (by omega)]; omega
  have e3 : w64 (((1 + n : Nat) : Int) - 1) = (n : Int) := by rw [w64_of (by omega) (by omega)]; omega
  have e4 : w64 (((1 + n : Nat) : Int) + 2) = ((n + 3 : Nat) : Int) := by rw [w64_of (by omega) (by omega)]; omega
  simp only [hy, hy2, bnd_some', letm, e1, e2, e3, e4, rng_some' (show ((n + 2 : Nat) : Int) ≤ 9223372036854775807 by omega), Int.toNat_natCast]
  have hp : 2 ^ s ≤ 2 ^ 2 := Nat.pow_le_pow_right (by omega) (by omega)
  obtain ⟨z, hz, hzl⟩ := some_some a0 ((16 * 2 ^ s : Nat) : Int) (by omega)
  rw [Int.toNat_natCast] at hzl
  have e : shl 16 ((toU64 (s : Int)).toNat : Int) = some ((16 * 2 ^ s : Nat) : Int) := by rw [toU64_nat (by omega)]; exact shl_nat (a := 16) (by omega) (by omega)
  obtain ⟨E, h1, h2⟩ := again_l1 a0 (s := s) (by omega) z hz hzl (n + 1) 1 z (by omega) (by omega) (by rw [hzl, Nat.one_mul])
  have hf : m_coreseclaw18_BlockAgain_l1 a0 (s : Int) (n + 2) 0 [] = some (Sum.inr [oneP E]) := by
    rw [m_coreseclaw18_BlockAgain_l1]
    have hput := put_first s z (by omega) hzl
    rw [show (((0 : Nat) : Int)) = 0 from rfl]
    simp only [letm, e, hz, hput, bnd_some']
    exact h1
  rw [hf, bndS_inr, again_l2 a0 (by omega) z hz hzl (n + 2) (by omega) E (by rw [h2]; congr 1; omega) _ _ (by
    intro k hk
    simp only [List.mem_cons, List.not_mem_nil, or_false] at hk
    rcases hk with rfl | rfl | rfl <;> omega)]
  simp only [bndS_inr, awake_true, bnd_some']
end Go.Proofs.Ytaefnnamjphieaa
