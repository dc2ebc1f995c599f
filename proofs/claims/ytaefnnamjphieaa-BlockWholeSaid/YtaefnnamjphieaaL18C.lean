/-
  Chapter 18, plain facts: which bytes a block has; the law BlockCuts. Of the models alone; no program; the ranges of the arguments are all that is asked.
-/
import Derived.Test.YtaefnnamjphieaaL18B
import Derived.Test.YtaefnnamjphieaaWBlockCuts
namespace Go.Proofs.Ytaefnnamjphieaa
open Go.Gk
theorem length_eq {s : Nat} (h : s ≤ 6) : m_block_length (s : Int) = some ((16 * 2 ^ s : Nat) : Int) ∧ m_coresecref18_length (s : Int) = some ((16 * 2 ^ s : Nat) : Int) := by
  have hp : 2 ^ s ≤ 2 ^ 6 := Nat.pow_le_pow_right (by omega) h
  have e : shl 16 (s : Int) = some ((16 * 2 ^ s : Nat) : Int) := shl_nat (a := 16) (by omega) (by omega)
  have u : ((toU64 (s : Int)).toNat : Int) = (s : Int) := by
    unfold toU64
    have : (((s : Int) % 18446744073709551616).toNat) = s := by omega
    rw [this, UInt64.toNat_ofNat']
    omega
  constructor
  · unfold m_block_length; rw [e]; rfl
  · unfold m_coresecref18_length; simp only [letm]; rw [u, e]; rfl
theorem cut_some' {α : Type} {xs : List α} {lo hi : Nat} (h : lo ≤ hi) (h' : hi ≤ xs.length) : cut xs (lo : Int) (hi : Int) = some ((xs.take hi).drop lo) := by
  unfold cut; rw [if_pos ⟨by omega, by omega, by omega⟩]; simp
theorem clone_some {xs : List UInt8} (h : xs.length ≤ 4294967296) : m_bytes_Clone xs = some xs := by
  unfold m_bytes_Clone
  simp [app_some', h, bnd, letm]
theorem cut_eq (b : List UInt8) (n s : Int) (hb : b.length ≤ 100000) : ∃ r, m_block_Cut b n s = some r ∧ m_coresecref18_Cut b n s = some r := by
  unfold m_block_Cut m_coresecref18_Cut
  rw [sound_eq, valid_eq, bnd_some', bnd_some']
  simp only [letm]
  cases hs : sndB { Num := n, More := false, Size := s } with
  | false => exact ⟨_, rfl, rfl⟩
  | true =>
    obtain ⟨h1, h2, h3, h4⟩ := sndB_iff.1 hs
    simp only at h1 h2 h3 h4
    obtain ⟨a, rfl⟩ : ∃ a : Nat, n = (a : Int) := ⟨n.toNat, by omega⟩
    obtain ⟨z, rfl⟩ : ∃ z : Nat, s = (z : Int) := ⟨s.toNat, by omega⟩
    obtain ⟨e1, e2⟩ := length_eq (s := z) (by omega)
    have hp : 2 ^ z ≤ 2 ^ 6 := Nat.pow_le_pow_right (by omega) (by omega)
    have hp0 : 0 < 2 ^ z := Nat.pow_pos (by omega)
    rw [e1, e2]
    simp only [Bool.not_true, cond_false, bnd_some']
    have hL : 16 * 2 ^ z ≤ 1024 := by omega
    clear e1 e2 hp hp0
    generalize 16 * 2 ^ z = L at hL ⊢
    have hm : a * L ≤ 1048575 * 1024 := Nat.mul_le_mul (by omega) hL
    have e3 : w64 ((a : Int) * (L : Int)) = ((a * L : Nat) : Int) := by rw [← Int.natCast_mul, w64_of (by omega) (by omega)]
    rw [e3]
    clear e3
    generalize a * L = o at hm ⊢
    have e4 : w64 ((o : Int) + (b.length : Int)) = ((o + b.length : Nat) : Int) := by rw [w64_of (by omega) (by omega)]; omega
    have e5 : w64 ((o : Int) + (L : Int)) = ((o + L : Nat) : Int) := by rw [w64_of (by omega) (by omega)]; omega
    have e6 : min (b.length : Int) ((o + L : Nat) : Int) = ((min b.length (o + L) : Nat) : Int) := by omega
    rw [e4, e5, e6]
    have fin : o ≤ b.length → ∃ r, (bnd (cut b (o : Int) ((min b.length (o + L) : Nat) : Int)) fun x34 => bnd (m_bytes_Clone x34) fun y38 => some (y38, decide (((min b.length (o + L) : Nat) : Int) < (b.length : Int)), (0 : Int))) = some r ∧
        (bnd (cut b (o : Int) ((min b.length (o + L) : Nat) : Int)) fun x34 => bnd (app ([] : List UInt8) x34) fun x38 => some (x38, decide (((min b.length (o + L) : Nat) : Int) < (b.length : Int)), (0 : Int))) = some r := fun ho => by
      rw [cut_some' (by omega) (by omega), bnd_some', bnd_some', clone_some (by simp; omega), app_some' (by simp; omega)]
      exact ⟨_, rfl, rfl⟩
    by_cases c1 : (b.length : Int) ≤ (o : Int)
    · rw [decide_eq_true c1, cond_true]
      by_cases c2 : 0 < ((o + b.length : Nat) : Int)
      · rw [decide_eq_true c2]; exact ⟨_, rfl, rfl⟩
      · rw [decide_eq_false c2]
        simp only [bnd_some', cond_false]
        exact fin (by omega)
    · rw [decide_eq_false c1, cond_false]
      simp only [bnd_some', cond_false]
      exact fin (by omega)
theorem blocks_eq (n s : Int) : ∃ r, m_block_Blocks n s = some r ∧ m_coresecref18_Blocks n s = some r := by
  unfold m_block_Blocks m_coresecref18_Blocks
  simp only [letm]
  by_cases c1 : n < 0
  · rw [decide_eq_true c1]; exact ⟨_, rfl, rfl⟩
  rw [decide_eq_false c1, cond_false]
  by_cases c2 : 1073741824 < n
  · rw [decide_eq_true c2]; exact ⟨_, rfl, rfl⟩
  rw [decide_eq_false c2, cond_false]
  by_cases c3 : s < 0
  · rw [decide_eq_true c3]; exact ⟨_, rfl, rfl⟩
  rw [decide_eq_false c3, cond_false]
  by_cases c4 : 6 < s
  · rw [decide_eq_true c4]; exact ⟨_, rfl, rfl⟩
  rw [decide_eq_false c4]
  obtain ⟨a, rfl⟩ : ∃ a : Nat, n = (a : Int) := ⟨n.toNat, by omega⟩
  obtain ⟨z, rfl⟩ : ∃ z : Nat, s = (z : Int) := ⟨s.toNat, by omega⟩
  obtain ⟨e1, e2⟩ := length_eq (s := z) (by omega)
  have hp : 2 ^ z ≤ 2 ^ 6 := Nat.pow_le_pow_right (by omega) (by omega)
  have hp0 : 0 < 2 ^ z := Nat.pow_pos (by omega)
  have e7 : 2 ^ (4 + z) = 16 * 2 ^ z := by rw [Nat.pow_add]
  rw [e1, e2]
  simp only [bnd_some', cond_false]
  have e3 : w64 ((a : Int) + ((16 * 2 ^ z : Nat) : Int)) = ((a + 16 * 2 ^ z : Nat) : Int) := by rw [← Int.natCast_add, w64_of (by omega) (by omega)]
  have e4 : w64 (((a + 16 * 2 ^ z : Nat) : Int) - 1) = ((a + 16 * 2 ^ z - 1 : Nat) : Int) := by
    rw [w64_of (by omega) (by omega)]; omega
  have e5 : w64 (4 + (z : Int)) = ((4 + z : Nat) : Int) := by rw [w64_of (by omega) (by omega)]; omega
  rw [e3, e4, e5, shr_nat (by omega), quo_nat (by omega) (by omega), e7]
  exact ⟨_, rfl, rfl⟩
theorem cuts_l1 : ∀ (l : List S_t50) (k : Nat), (∀ x ∈ l, x.b.length ≤ 100000) → m_coreseclaw18_BlockCuts_l1 l k = some (Sum.inr ())
  | [], _, _ => rfl
  | x :: l, k, h => by
    rw [m_coreseclaw18_BlockCuts_l1]
    obtain ⟨r, h1, h2⟩ := cut_eq x.b x.n x.s (h x (by simp))
    obtain ⟨r3, h3, h4⟩ := blocks_eq (x.b.length : Int) x.s
    obtain ⟨r5, h5, h6⟩ := blocks_eq x.n x.s
    simp only [h1, h2, h3, h4, h5, h6, bnd_some', letm, bne_self_eq_false, cond_false]
    exact cuts_l1 l _ (fun y hy => h y (by simp [hy]))
theorem quo_some (a : Int) {b : Int} (hb : b ≠ 0) : ∃ q, quo a b = some q := by unfold quo; rw [if_neg hb]; exact ⟨_, rfl⟩
theorem BlockCuts_true (a0 : List UInt8) (a1 a2 a3 : Int) : m_coreseclaw18_BlockCuts a0 a1 a2 a3 = some true := by
  unfold m_coreseclaw18_BlockCuts
  simp only [letm, awake_true, bnd_some']
  by_cases c : 3000 < (a0.length : Int)
  · rw [decide_eq_true c]; rfl
  rw [decide_eq_false c, cond_false]
  obtain ⟨y1, h1, _, _⟩ := mod_some a3 (m := 20) (by omega) (by omega)
  obtain ⟨q, h0⟩ := quo_some a3 (b := 20) (by omega)
  obtain ⟨y2, h2, _, _⟩ := mod_some q (m := 3) (by omega) (by omega)
  obtain ⟨y3, h3, _, _⟩ := mod_some a1 (m := 6) (by omega) (by omega)
  obtain ⟨y4, h4, _, _⟩ := mod_some a2 (m := 9) (by omega) (by omega)
  obtain ⟨y5, h5, _, _⟩ := mod_some a1 (m := 23) (by omega) (by omega)
  obtain ⟨y6, h6, _, _⟩ := mod_some a2 (m := 3) (by omega) (by omega)
  have e1 : w64 (16 * y1) = 16 * y1 := w64_of (by omega) (by omega)
  have e2 : w64 (16 * y1 + y2) = 16 * y1 + y2 := w64_of (by omega) (by omega)
  obtain ⟨z, h7, h8⟩ := some_some a3 (16 * y1 + y2) (by omega)
  simp only [h1, h0, h2, e1, e2, h7, h3, h4, h5, h6, bnd_some']
  rw [cuts_l1 _ _ (by
    intro x hx
    simp only [List.mem_cons, List.not_mem_nil, or_false] at hx
    rcases hx with rfl | rfl | rfl
    · show a0.length ≤ 100000; omega
    · show a0.length ≤ 100000; omega
    · show z.length ≤ 100000; omega)]
  rfl
end Go.Proofs.Ytaefnnamjphieaa
