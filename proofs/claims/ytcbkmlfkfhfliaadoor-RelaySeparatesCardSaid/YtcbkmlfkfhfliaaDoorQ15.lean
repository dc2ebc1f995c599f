/-
  Messages, plain facts: coap and its reference say the same of which messages are valid and what their bytes are. Of the models alone; no program; no condition but the lengths told.
-/
import Derived.Test.YtcbkmlfkfhfliaaDoorQ00
import Derived.Test.YtcbkmlfkfhfliaaDoorMo
namespace Go.Proofs.YtcbkmlfkfhfliaaDoor
open Go.Gk Go.RowKit
/-- The first byte. -/
theorem head_byte (t : Int) (h0 : 0 ≤ t) (h3 : t ≤ 3) (n : Nat) (hn : n ≤ 8) : toU8 (ibit .or (ibit .or 64 (w64 (t * 16))) (n : Int)) = toU8 (w64 (w64 (64 + w64 (16 * t)) + (n : Int))) := by
  obtain ⟨a, rfl⟩ : ∃ a : Nat, t = (a : Int) := ⟨t.toNat, by omega⟩
  have ha3 : a ≤ 3 := by omega
  rw [w64_of (x := (a : Int) * 16) (by omega) (by omega), show (a : Int) * 16 = ((a * 16 : Nat) : Int) by omega]
  have e2 : ibit .or 64 ((a * 16 : Nat) : Int) = ((64 ||| a * 16 : Nat) : Int) := or_nat (a := 64) (by omega) (by omega)
  have hlt : 64 ||| a * 16 < 2 ^ 63 := Nat.or_lt_two_pow (by omega) (by omega)
  rw [e2, or_nat (by omega) (by omega)]
  have key : ∀ a, a ≤ 3 → ∀ n, n ≤ 8 → (64 ||| a * 16) ||| n = 64 + 16 * a + n := by decide
  rw [key a ha3 n hn, w64_of (x := 16 * (a : Int)) (by omega) (by omega), w64_of (x := 64 + 16 * (a : Int)) (by omega) (by omega), w64_of (by omega) (by omega)]
  congr 1
/-! ### Which messages may be -/
def optsB : Int → List S_api_Option → Bool
  | _, [] => true
  | n, o :: r => !(decide (o.1 < n)) && !(decide (65535 < o.1)) && !(decide (1034 < (o.2.length : Int))) && optsB o.1 r
theorem opts_loop {c : Option Bool} : ∀ (xs : List S_api_Option) (k : Nat) (s : Int), loopL (R := Bool) (S := Int) (α := S_api_Option) (fun _ _ => c)
    (fun x28 _k29 s30 self31 => cond (decide (x28.1 < s30) || (decide (65535 < x28.1) || decide (1034 < (x28.2.length : Int)))) (some false) (self31 x28.1)) xs k s
    = cond (optsB s xs) c (some false)
  | [], k, s => rfl
  | x :: xs, k, s => by
    rw [loopL_cons, opts_loop xs]
    simp only [optsB]
    cases decide (x.1 < s) <;> cases decide (65535 < x.1) <;> cases decide (1034 < (x.2.length : Int)) <;> rfl
def clsB (c : Int) : Bool := (c == 0) || (c == 2) || (c == 4) || (c == 5)
/-- What is asked of a message but for its length. -/
def sndM (m : S_api_Message) : Bool :=
  !(decide (m.1 < 0)) && !(decide (3 < m.1)) && !(decide (m.2.1 < 0)) && !(decide (255 < m.2.1)) && clsB (m.2.1 / 32) && !(decide (m.2.2.1 < 0)) && !(decide (65535 < m.2.2.1)) && !(decide (8 < (m.2.2.2.1.length : Int))) && !(decide (32 < (m.2.2.2.2.1.length : Int))) && optsB 0 m.2.2.2.2.1
   && !((m.2.1 == 0) && decide (0 < w64 (w64 ((m.2.2.2.1.length : Int) + (m.2.2.2.2.1.length : Int)) + (m.2.2.2.2.2.length : Int)))) && !((m.1 == 3) && !(m.2.1 == 0)) && decide ((m.2.2.2.2.2.length : Int) ≤ 4096)
theorem sound_eq (m : S_api_Message) : m_coap_sound m = some (sndM m) := by
  unfold m_coap_sound sndM clsB
  rw [shr5, bnd_s]
  generalize m.2.1 / 32 = x1
  simp only [letm_e, cd_or, cd_and, cd_nand, cd_x, bnd_s, opts_loop, bne]
  refine congrArg some ?_
  generalize decide (m.1 < 0) = b1
  generalize decide (3 < m.1) = b2
  generalize decide (m.2.1 < 0) = b3
  generalize decide (255 < m.2.1) = b4
  generalize decide (m.2.2.1 < 0) = b5
  generalize decide (65535 < m.2.2.1) = b6
  generalize decide (8 < (m.2.2.2.1.length : Int)) = b7
  generalize decide (32 < (m.2.2.2.2.1.length : Int)) = b8
  generalize optsB 0 m.2.2.2.2.1 = b9
  simp only [Bool.not_or, Bool.not_and, Bool.not_not, Bool.and_assoc]
  cases b1 <;> simp only [Bool.not_true, Bool.not_false, Bool.false_and, Bool.true_and]
  cases b2 <;> simp only [Bool.not_true, Bool.not_false, Bool.false_and, Bool.true_and]
  cases b3 <;> simp only [Bool.not_true, Bool.not_false, Bool.false_and, Bool.true_and]
  cases b4 <;> simp only [Bool.not_true, Bool.not_false, Bool.false_and, Bool.true_and]
  cases b5 <;> simp only [Bool.not_true, Bool.not_false, Bool.false_and, Bool.true_and, Bool.and_false]
  cases b6 <;> simp only [Bool.not_true, Bool.not_false, Bool.false_and, Bool.true_and, Bool.and_false]
  cases b7 <;> simp only [Bool.not_true, Bool.not_false, Bool.false_and, Bool.true_and, Bool.and_false]
  cases b8 <;> simp only [Bool.not_true, Bool.not_false, Bool.false_and, Bool.true_and, Bool.and_false]
  cases b9 <;> simp only [Bool.false_and, Bool.true_and, Bool.and_false]
  cases x1 == 0 <;> cases x1 == 2 <;> cases x1 == 4 <;> cases x1 == 5 <;> cases m.2.1 == 0 <;> cases m.1 == 3 <;> cases decide (0 < w64 (w64 ((m.2.2.2.1.length : Int) + (m.2.2.2.2.1.length : Int)) + (m.2.2.2.2.2.length : Int))) <;> rfl
end Go.Proofs.YtcbkmlfkfhfliaaDoor
