/-
  Chapter 18, plain facts: the laws BlockLong. Of the models alone; no program; no condition.
-/
import Derived.Test.YtaefnnamjphieaaL18D
import Derived.Test.YtaefnnamjphieaaWBlockLong
namespace Go.Proofs.Ytaefnnamjphieaa
open Go.Gk
theorem toU64_nat {n : Nat} (h : n < 18446744073709551616) : ((toU64 (n : Int)).toNat : Int) = (n : Int) := by
  unfold toU64
  have : (((n : Int) % 18446744073709551616).toNat) = n := by omega
  rw [this, UInt64.toNat_ofNat']
  omega
theorem long_l1 (a0 : Int) {s : Nat} (hs : s ≤ 6) : ∀ (n k : Nat) (l : List S_api_Partial), m_coreseclaw18_BlockLong_l1 a0 (s : Int) n k l l = some (Sum.inr ())
  | 0, _, _ => rfl
  | n + 1, k, l => by
    rw [m_coreseclaw18_BlockLong_l1]
    have hp : 2 ^ s ≤ 2 ^ 6 := Nat.pow_le_pow_right (by omega) hs
    have e : shl 16 ((toU64 (s : Int)).toNat : Int) = some ((16 * 2 ^ s : Nat) : Int) := by rw [toU64_nat (by omega)]; exact shl_nat (a := 16) (by omega) (by omega)
    obtain ⟨z, hz, hzl⟩ := some_some a0 ((16 * 2 ^ s : Nat) : Int) (by omega)
    obtain ⟨r, h1, h2⟩ := put_eq l 1 [] { Num := (k : Int), More := true, Size := (s : Int) } z (k : Int) (by rw [hzl]; omega)
    simp only [letm, e, hz, h1, h2, bnd_some', same_self, Bool.not_true, bne_self_eq_false, cond_false]
    cases r.2.2.2 == 0 with
    | true => exact long_l1 a0 hs n (k + 1) r.1
    | false => exact long_l1 a0 hs n (k + 1) l
theorem BlockLong_true (a0 a1 : Int) : m_coreseclaw18_BlockLong a0 a1 = some true := by
  unfold m_coreseclaw18_BlockLong
  obtain ⟨y, hy, g1, g2⟩ := mod_some a1 (m := 3) (by omega) (by omega)
  obtain ⟨n, rfl⟩ : ∃ n : Nat, y = (n : Int) := ⟨y.toNat, by omega⟩
  have e1 : w64 (4 + (n : Int)) = ((4 + n : Nat) : Int) := by rw [w64_of (by omega) (by omega)]; omega
  have e2 : w64 (((4 + n : Nat) : Int) + 4) = ((8 + n : Nat) : Int) := by rw [w64_of (by omega) (by omega)]; omega
  have e3 := toU64_nat (n := 8 + n) (by omega)
  have e4 : shr 4096 ((8 + n : Nat) : Int) = some ((4096 / 2 ^ (8 + n) : Nat) : Int) := shr_nat (a := 4096) (b := 8 + n) (by omega)
  have hq : 4096 / 2 ^ (8 + n) ≤ 4096 := Nat.div_le_self _ _
  generalize 4096 / 2 ^ (8 + n) = q at e4 hq
  have e5 : w64 ((q : Int) + 2) = ((q + 2 : Nat) : Int) := by rw [w64_of (by omega) (by omega)]; omega
  have e6 : rng ((q + 2 : Nat) : Int) = some (q + 2) := by rw [rng_some' (by omega), Int.toNat_natCast]
  rw [hy, bnd_some']
  simp only [letm, e1, e2, e3, e4, bnd_some', e5, e6, long_l1 a0 (s := 4 + n) (by omega), bndS_inr, awake_true]
end Go.Proofs.Ytaefnnamjphieaa
