/-
  Messages, plain facts: coap and its reference say the same of which messages are valid and what their bytes are. Of the models alone; no program; no condition but the lengths told.
-/
import Derived.Test.YtllomdfckciedaaDoorQ00
import Derived.Test.YtllomdfckciedaaDoorMo
namespace Go.Proofs.YtllomdfckciedaaDoor
open Go.Gk Go.RowKit
/-- The parts of an option's head. -/
theorem parts_ext (d : Int) : ∃ e : S_api_Option, m_coresecref15_extended d = some e ∧ m_coap_parts d = some (toU8 e.1, e.2) ∧ e.2.length ≤ 2 ∧ (0 ≤ d → 0 ≤ e.1 ∧ e.1 ≤ 14) := by
  unfold m_coresecref15_extended m_coap_parts
  simp only [letm_e]
  by_cases h : d < 13
  · have e1 : decide (d < 13) = true := decide_eq_true h
    rw [e1]
    exact ⟨(d, []), rfl, rfl, by simp, fun _ => ⟨by assumption, by show d ≤ 14; omega⟩⟩
  · have e1 : decide (d < 13) = false := decide_eq_false h
    rw [e1]
    simp only [cond_false]
    by_cases h2 : d < 269
    · have e2 : decide (d < 269) = true := decide_eq_true h2
      rw [e2]
      exact ⟨(13, _), rfl, rfl, by simp, fun _ => ⟨(by decide : (0 : Int) ≤ 13), (by decide : (13 : Int) ≤ 14)⟩⟩
    · have e2 : decide (d < 269) = false := decide_eq_false h2
      rw [e2]
      simp only [cond_false]
      rw [shr8]
      exact ⟨(14, _), rfl, rfl, by simp, fun _ => ⟨(by decide : (0 : Int) ≤ 14), (by decide : (14 : Int) ≤ 14)⟩⟩
/-- The first byte. -/
theorem head_byte (t : Int) (h0 : 0 ≤ t) (h3 : t ≤ 3) (n : Nat) (hn : n ≤ 8) : toU8 (ibit .or (ibit .or 64 (w64 (t * 16))) (n : Int)) = toU8 (w64 (w64 (64 + w64 (16 * t)) + (n : Int))) := by
  obtain ⟨a, rfl⟩ : ∃ a : Nat, t = (a : Int) := ⟨t.toNat, by omega⟩
  have ha3 : a ≤ 3 := by omega
  rw [w64_of (x := (a : Int) * 16) (by omega) (by omega), show (a : Int) * 16 = ((a * 16 : Nat) : Int) by omega]
  have e2 : ibit .or 64 ((a * 16 : Nat) : Int) = ((64 ||| a * 16 : Nat) : Int) := or_nat (a := 64) (by omega) (by omega)
  have hlt : 64 ||| a * 16 < 2 ^ 63 := Nat.or_lt_two_pow (by omega) (by omega)
  rw [e2, or_nat (by omega) (by omega)]
  have key : ∀ a, a ≤ 3 → ∀ n, n ≤ 8 → (64 ||| a * 16) ||| n = 64 + 16 * a + n := by decide
  rw [key a ha3 n hn, w64_of (x := 16 * (a : Int)) (by omega) (by omega), w64_of (x := 64 + 16 * (a : Int)) (by omega) (by omega), w64_of (by omega) (by omega)]
  congr 1
/-- The bytes of a message. -/
theorem encode_raw (m : S_api_Message) (h0 : 0 ≤ m.1) (h3 : m.1 ≤ 3) (ht : m.2.2.2.1.length ≤ 8) : m_coap_encode m = m_coresecref15_Raw m := by
  have hd := head_byte m.1 h0 h3 m.2.2.2.1.length ht
  unfold m_coap_encode m_coresecref15_Raw
  simp only [shl4, bnd_s, letm_e]
  rw [hd]
  congr 1; funext x6
  congr 1; funext x9
  refine loopL_congr _ _ _ (fun _ _ => rfl) fun o _ k s self => ?_
  obtain ⟨e, he1, he2, _⟩ := parts_ext (w64 (o.1 - s.2))
  obtain ⟨f, hf1, hf2, _, hf3⟩ := parts_ext (o.2.length : Int)
  rw [he1, he2, hf1, hf2]
  simp only [bnd_s]
  have hfr := hf3 (by omega)
  have hf4 : ((toU8 f.1).toNat : Int) = f.1 := by rw [toU8_toNat]; omega
  obtain ⟨y, hy, hz⟩ := nib e.1 (toU8 f.1) (by omega)
  refine (congrArg (fun z => bnd z _) hy).trans ?_
  show bnd (app s.1 [toU8 (bits .or .u8 (UInt8.toNat y) (UInt8.toNat (toU8 f.1)))]) _ = _
  rw [hz, hf4]
/-! ### Which messages may be -/
def optsB : Int → List S_api_Option → Bool
  | _, [] => true
  | n, o :: r => !(decide (o.1 < n)) && !(decide (65535 < o.1)) && !(decide (1034 < (o.2.length : Int))) && optsB o.1 r
theorem opts_loop {c : Option Bool} : ∀ (xs : List S_api_Option) (k : Nat) (s : Int), loopL (R := Bool) (S := Int) (α := S_api_Option) (fun _ _ => c)
    (fun x28 _k29 s30 self31 => cond (decide (x28.1 < s30) || (decide (65535 < x28.1) || decide (1034 < (x28.2.length : Int)))) (some false) (self31 x28.1)) xs k s
    = cond (optsB s xs) c (some false)
  | [], k, s => rfl
  | x :: xs, k, s => by
    rw [loopL_cons, opts_loop xs]
    simp only [optsB]
    cases decide (x.1 < s) <;> cases decide (65535 < x.1) <;> cases decide (1034 < (x.2.length : Int)) <;> rfl
def clsB (c : Int) : Bool := (c == 0) || (c == 2) || (c == 4) || (c == 5)
/-- What is asked of a message but for its length. -/
def sndM (m : S_api_Message) : Bool :=
  !(decide (m.1 < 0)) && !(decide (3 < m.1)) && !(decide (m.2.1 < 0)) && !(decide (255 < m.2.1)) && clsB (m.2.1 / 32) && !(decide (m.2.2.1 < 0)) && !(decide (65535 < m.2.2.1)) && !(decide (8 < (m.2.2.2.1.length : Int))) && !(decide (32 < (m.2.2.2.2.1.length : Int))) && optsB 0 m.2.2.2.2.1
   && !((m.2.1 == 0) && decide (0 < w64 (w64 ((m.2.2.2.1.length : Int) + (m.2.2.2.2.1.length : Int)) + (m.2.2.2.2.2.length : Int)))) && !((m.1 == 3) && !(m.2.1 == 0)) && decide ((m.2.2.2.2.2.length : Int) ≤ 4096)
theorem sound_eq (m : S_api_Message) : m_coap_sound m = some (sndM m) := by
  unfold m_coap_sound sndM clsB
  rw [shr5, bnd_s]
  generalize m.2.1 / 32 = x1
  simp only [letm_e, cd_or, cd_and, cd_nand, cd_x, bnd_s, opts_loop, bne]
  refine congrArg some ?_
  generalize decide (m.1 < 0) = b1
  generalize decide (3 < m.1) = b2
  generalize decide (m.2.1 < 0) = b3
  generalize decide (255 < m.2.1) = b4
  generalize decide (m.2.2.1 < 0) = b5
  generalize decide (65535 < m.2.2.1) = b6
  generalize decide (8 < (m.2.2.2.1.length : Int)) = b7
  generalize decide (32 < (m.2.2.2.2.1.length : Int)) = b8
  generalize optsB 0 m.2.2.2.2.1 = b9
  simp only [Bool.not_or, Bool.not_and, Bool.not_not, Bool.and_assoc]
  cases b1 <;> simp only [Bool.not_true, Bool.not_false, Bool.false_and, Bool.true_and]
  cases b2 <;> simp only [Bool.not_true, Bool.not_false, Bool.false_and, Bool.true_and]
  cases b3 <;> simp only [Bool.not_true, Bool.not_false, Bool.false_and, Bool.true_and]
  cases b4 <;> simp only [Bool.not_true, Bool.not_false, Bool.false_and, Bool.true_and]
  cases b5 <;> simp only [Bool.not_true, Bool.not_false, Bool.false_and, Bool.true_and, Bool.and_false]
  cases b6 <;> simp only [Bool.not_true, Bool.not_false, Bool.false_and, Bool.true_and, Bool.and_false]
  cases b7 <;> simp only [Bool.not_true, Bool.not_false, Bool.false_and, Bool.true_and, Bool.and_false]
  cases b8 <;> simp only [Bool.not_true, Bool.not_false, Bool.false_and, Bool.true_and, Bool.and_false]
  cases b9 <;> simp only [Bool.false_and, Bool.true_and, Bool.and_false]
  cases x1 == 0 <;> cases x1 == 2 <;> cases x1 == 4 <;> cases x1 == 5 <;> cases m.2.1 == 0 <;> cases m.1 == 3 <;> cases decide (0 < w64 (w64 ((m.2.2.2.1.length : Int) + (m.2.2.2.2.1.length : Int)) + (m.2.2.2.2.2.length : Int))) <;> rfl
end Go.Proofs.YtllomdfckciedaaDoor
