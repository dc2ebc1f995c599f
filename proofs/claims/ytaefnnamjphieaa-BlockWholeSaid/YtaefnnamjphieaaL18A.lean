/-
  Chapter 18, plain facts: the values of block options, which bodies they cut. Of the models alone; no program; no condition but the ranges.
-/
import Derived.Test.YtaefnnamjphieaaInt
import Derived.Test.YtaefnnamjphieaaPCoreseclaw18
namespace Go.Proofs.Ytaefnnamjphieaa
open Go.Gk
theorem awake_true : m_coreseclaw18_awake = some true := by kernel_rfl

/-- A block that may be. -/
def sndB (b : S_api_Block) : Bool := decide (0 ≤ b.Num) && decide (b.Num ≤ 1048575) && decide (0 ≤ b.Size) && decide (b.Size ≤ 6)
theorem sound_eq (b : S_api_Block) : m_block_sound b = some (sndB b) := by
  unfold m_block_sound sndB
  simp only [letm, bnd]
  cases decide (0 ≤ b.Num) <;> cases decide (b.Num ≤ 1048575) <;> cases decide (0 ≤ b.Size) <;> cases decide (b.Size ≤ 6) <;> rfl
theorem valid_eq (b : S_api_Block) : m_coresecref18_valid b = some (sndB b) := by
  unfold m_coresecref18_valid sndB
  have e : decide (b.Num < 1048576) = decide (b.Num ≤ 1048575) := by apply decide_eq_decide.2; omega
  simp only [letm, bnd, e]
  cases decide (0 ≤ b.Num) <;> cases decide (b.Num ≤ 1048575) <;> cases decide (0 ≤ b.Size) <;> cases decide (b.Size ≤ 6) <;> rfl
theorem sndB_iff {b : S_api_Block} : sndB b = true ↔ 0 ≤ b.Num ∧ b.Num ≤ 1048575 ∧ 0 ≤ b.Size ∧ b.Size ≤ 6 := by
  unfold sndB; simp [and_assoc]

/-- FromUint: the same bytes. -/
theorem fromUint_eq (n : Nat) (h : n ≤ 4294967295) : ∃ l, m_option_FromUint (n : Int) = some l ∧ m_coresecref16_FromUint (n : Int) = some l ∧ l.length ≤ 4 := by
  have t1 : decide ((n : Int) < 0) = false := decide_eq_false (by omega)
  have t2 : decide ((4294967295 : Int) < (n : Int)) = false := decide_eq_false (by omega)
  unfold m_option_FromUint m_coresecref16_FromUint
  simp only [letm, bnd_some', t1, t2, cond_false]
  have s24 := shr_nat (a := n) (b := 24) (by omega)
  have s16 := shr_nat (a := n) (b := 16) (by omega)
  have s8 := shr_nat (a := n) (b := 8) (by omega)
  have s0 := shr_nat (a := n) (b := 0) (by omega)
  have r8 : ∀ k : Nat, shr (k : Int) 8 = some ((k / 2 ^ 8 : Nat) : Int) := fun k => shr_nat (a := k) (b := 8) (by omega)
  have p8 : ((8 : UInt64).toNat : Int) = 8 := rfl
  have w1 : w64 (24 - 8) = 16 := by decide
  have w2 : w64 (16 - 8) = 8 := by decide
  have w3 : w64 (8 - 8) = 0 := by decide
  have w4 : w64 (0 - 8) = -8 := by decide
  have ap : ∀ (xs ys : List UInt8), xs.length + ys.length ≤ 4294967296 → app xs ys = some (xs ++ ys) := fun _ _ h => app_some' h
  rw [show ((24 : Int).toNat + 2) = 26 from rfl]
  have fz : ∀ (f : Nat) (l : List UInt8), m_coresecref16_FromUint_l1 (f + 1) 0 l = some l := fun f l => rfl
  have f1 : ∀ (f k : Nat) (l : List UInt8), 0 < k → l.length ≤ 10 → m_coresecref16_FromUint_l1 (f + 1) (k : Int) l = m_coresecref16_FromUint_l1 f ((k / 256 : Nat) : Int) (UInt8.ofNat k :: l) := fun f k l hk hl => by
    rw [m_coresecref16_FromUint_l1]
    simp only [letm, show decide ((0 : Int) < (k : Int)) = true from decide_eq_true (by omega), cond_true, toU8_ofNat, p8, r8]
    rw [ap _ _ (by simp; omega)]
    rfl
  have g : ∀ (s : Nat) (f : Nat) (l : List UInt8), s ≤ 24 → l.length ≤ 10 → m_option_FromUint_l1 (n : Int) (f + 1) l (s : Int) = m_option_FromUint_l1 (n : Int) f (if 0 < n / 2 ^ s then l ++ [UInt8.ofNat (n / 2 ^ s)] else l) ((s : Int) - 8) := fun s f l hs hl => by
    rw [m_option_FromUint_l1]
    have hsn := shr_nat (a := n) (b := s) (by omega)
    simp only [letm, show decide ((0 : Int) ≤ (s : Int)) = true by simp, cond_true, hsn, bnd_some', w64_of (x := (s : Int) - 8) (by omega) (by omega)]
    by_cases hq : 0 < n / 2 ^ s
    · have : decide ((0 : Int) < ((n / 2 ^ s : Nat) : Int)) = true := by simp only [decide_eq_true_eq]; omega
      rw [this, cond_true, toU8_ofNat, ap _ _ (by simp; omega), bnd_some', if_pos hq]
    · have : decide ((0 : Int) < ((n / 2 ^ s : Nat) : Int)) = false := by simp only [decide_eq_false_iff_not]; omega
      rw [this, cond_false, if_neg hq]
  have gz : ∀ (f : Nat) (l : List UInt8), m_option_FromUint_l1 (n : Int) (f + 1) l (-8) = some l := fun f l => rfl
  have q24 : ∀ (f : Nat) (l : List UInt8), l.length ≤ 10 → m_option_FromUint_l1 (n : Int) (f + 1) l 24 = m_option_FromUint_l1 (n : Int) f (if 0 < n / 16777216 then l ++ [UInt8.ofNat (n / 16777216)] else l) 16 := fun f l hl => g 24 f l (by omega) hl
  have q16 : ∀ (f : Nat) (l : List UInt8), l.length ≤ 10 → m_option_FromUint_l1 (n : Int) (f + 1) l 16 = m_option_FromUint_l1 (n : Int) f (if 0 < n / 65536 then l ++ [UInt8.ofNat (n / 65536)] else l) 8 := fun f l hl => g 16 f l (by omega) hl
  have q8 : ∀ (f : Nat) (l : List UInt8), l.length ≤ 10 → m_option_FromUint_l1 (n : Int) (f + 1) l 8 = m_option_FromUint_l1 (n : Int) f (if 0 < n / 256 then l ++ [UInt8.ofNat (n / 256)] else l) 0 := fun f l hl => g 8 f l (by omega) hl
  have q0 : ∀ (f : Nat) (l : List UInt8), l.length ≤ 10 → m_option_FromUint_l1 (n : Int) (f + 1) l 0 = m_option_FromUint_l1 (n : Int) f (if 0 < n / 1 then l ++ [UInt8.ofNat (n / 1)] else l) (-8) := fun f l hl => g 0 f l (by omega) hl
  have il : ∀ (p : Prop) [Decidable p] (l : List UInt8) (x : UInt8) (k : Nat), l.length ≤ k → (if p then l ++ [x] else l).length ≤ k + 1 := fun p _ l x k h => by
    split
    · simp; omega
    · omega
  have l1 := il (0 < n / 16777216) [] (UInt8.ofNat (n / 16777216)) 0 (by simp)
  have l2 := il (0 < n / 65536) _ (UInt8.ofNat (n / 65536)) 1 l1
  have l3 := il (0 < n / 256) _ (UInt8.ofNat (n / 256)) 2 l2
  rw [q24 25 [] (by simp), q16 24 _ (by omega), q8 23 _ (by omega), q0 22 _ (by omega), gz 21]
  clear l1 l2 l3 il
  rw [bnd_some', Nat.div_one]
  rcases Nat.lt_or_ge n 1 with h0 | h0
  · obtain rfl : n = 0 := by omega
    exact ⟨[], rfl, rfl, by simp⟩
  rcases Nat.lt_or_ge n 256 with h1 | h1
  · simp only [if_neg (show ¬ 0 < n / 16777216 by omega), if_neg (show ¬ 0 < n / 65536 by omega), if_neg (show ¬ 0 < n / 256 by omega), if_pos (show 0 < n by omega)]
    refine ⟨_, rfl, ?_, by simp⟩
    rw [show ((n : Int).toNat + 2) = n + 1 + 1 by simp, f1 _ n [] (by omega) (by simp), show n / 256 = 0 by omega]
    rfl
  rcases Nat.lt_or_ge n 65536 with h2 | h2
  · simp only [if_neg (show ¬ 0 < n / 16777216 by omega), if_neg (show ¬ 0 < n / 65536 by omega), if_pos (show 0 < n / 256 by omega), if_pos (show 0 < n by omega)]
    refine ⟨_, rfl, ?_, by simp⟩
    obtain ⟨m, rfl⟩ : ∃ m, n = m + 1 := ⟨n - 1, by omega⟩
    rw [show (((m + 1 : Nat) : Int).toNat + 2) = m + 1 + 1 + 1 by omega, f1 _ _ [] (by omega) (by simp), f1 _ _ _ (by omega) (by simp), show (m + 1) / 256 / 256 = 0 by omega]
    rfl
  rcases Nat.lt_or_ge n 16777216 with h3 | h3
  · simp only [if_neg (show ¬ 0 < n / 16777216 by omega), if_pos (show 0 < n / 65536 by omega), if_pos (show 0 < n / 256 by omega), if_pos (show 0 < n by omega)]
    refine ⟨_, rfl, ?_, by simp⟩
    obtain ⟨m, rfl⟩ : ∃ m, n = m + 2 := ⟨n - 2, by omega⟩
    rw [show (((m + 2 : Nat) : Int).toNat + 2) = m + 1 + 1 + 1 + 1 by omega, f1 _ _ [] (by omega) (by simp), f1 _ _ _ (by omega) (by simp), f1 _ _ _ (by omega) (by simp), show (m + 2) / 256 / 256 / 256 = 0 by omega, Nat.div_div_eq_div_mul]
    rfl
  · have ed : n / 256 / 256 / 256 = n / 16777216 := by omega
    have ed2 : n / 256 / 256 = n / 65536 := by omega
    simp only [if_pos (show 0 < n / 16777216 by omega), if_pos (show 0 < n / 65536 by omega), if_pos (show 0 < n / 256 by omega), if_pos (show 0 < n by omega)]
    refine ⟨_, rfl, ?_, by simp⟩
    obtain ⟨m, rfl⟩ : ∃ m, n = m + 3 := ⟨n - 3, by omega⟩
    rw [show (((m + 3 : Nat) : Int).toNat + 2) = m + 1 + 1 + 1 + 1 + 1 by omega, f1 _ _ [] (by omega) (by simp), f1 _ _ _ (by omega) (by simp), f1 _ _ _ (by omega) (by simp), f1 _ _ _ (by omega) (by simp), show (m + 3) / 256 / 256 / 256 / 256 = 0 by omega, ed, ed2]
    rfl

theorem or_add {a s : Nat} (hs : s < 16) : (a * 16) ||| s = a * 16 + s := by
  have := Nat.shiftLeft_add_eq_or_of_lt (b := s) (i := 4) (by omega) a
  rw [Nat.shiftLeft_eq] at this
  exact this.symm
theorem value_eq (b : S_api_Block) : ∃ r, m_block_Value b = some r ∧ m_coresecref18_Value b = some r := by
  unfold m_block_Value m_coresecref18_Value
  rw [sound_eq, valid_eq, bnd_some', bnd_some']
  simp only [letm]
  cases hs : sndB b with
  | false =>
    exact ⟨_, rfl, rfl⟩
  | true =>
    obtain ⟨h1, h2, h3, h4⟩ := sndB_iff.1 hs
    obtain ⟨num, more, size⟩ := b
    simp only at h1 h2 h3 h4
    obtain ⟨a, rfl⟩ : ∃ a : Nat, num = (a : Int) := ⟨num.toNat, by omega⟩
    obtain ⟨s, rfl⟩ : ∃ s : Nat, size = (s : Int) := ⟨size.toNat, by omega⟩
    have e1 : shl (a : Int) ((4 : UInt64).toNat : Int) = some ((a * 16 : Nat) : Int) := shl_nat (b := 4) (by omega) (by omega)
    have e2 : w64 (16 * (a : Int)) = ((a * 16 : Nat) : Int) := by rw [w64_of (by omega) (by omega)]; omega
    have e3 : w64 (((a * 16 : Nat) : Int) + (s : Int)) = ((a * 16 + s : Nat) : Int) := by rw [w64_of (by omega) (by omega)]; omega
    have e4 : ibit .or ((a * 16 : Nat) : Int) (s : Int) = ((a * 16 + s : Nat) : Int) := by rw [or_nat (by omega) (by omega), or_add (by omega)]
    have e5 : ibit .or ((a * 16 + s : Nat) : Int) 8 = ((a * 16 + s + 8 : Nat) : Int) := by
      have := or_nat (a := a * 16 + s) (b := 8) (by omega) (by omega)
      rw [show ((8 : Nat) : Int) = 8 from rfl] at this
      rw [this, ← or_add (by omega : s < 16), Nat.or_assoc]
      have h8 : ∀ s < 7, s ||| 8 = s + 8 := by decide
      rw [h8 s (by omega), or_add (by omega), or_add (by omega)]
      omega
    have e6 : w64 (((a * 16 + s : Nat) : Int) + 8) = ((a * 16 + s + 8 : Nat) : Int) := by rw [w64_of (by omega) (by omega)]; omega
    simp only [Bool.not_true, cond_false, e1, e2, e3, e4, bnd_some', e5, e6]
    cases more with
    | false =>
      obtain ⟨l, g1, g2, _⟩ := fromUint_eq (a * 16 + s) (by omega)
      simp only [cond_false, bnd_some', g1, g2]
      exact ⟨_, rfl, rfl⟩
    | true =>
      obtain ⟨l, g1, g2, _⟩ := fromUint_eq (a * 16 + s + 8) (by omega)
      simp only [cond_true, bnd_some', g1, g2]
      exact ⟨_, rfl, rfl⟩
end Go.Proofs.Ytaefnnamjphieaa
