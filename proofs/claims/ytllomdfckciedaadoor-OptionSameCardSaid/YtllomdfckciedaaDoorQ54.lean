/-
  Cache keys, plain facts: heads, items of a few kinds, their encodings by both texts. Of the models alone; no program; no condition but the sizes told.
-/
import Derived.Test.YtllomdfckciedaaDoorQ51
namespace Go.Proofs.YtllomdfckciedaaDoor
open Go.Gk Go.RowKit
/-! ### Heads -/
def headS (m n : Nat) : List UInt8 :=
  bif Nat.blt n 24 then [UInt8.ofNat (32 * m + n)] else bif Nat.blt n 256 then [UInt8.ofNat (32 * m + 24), UInt8.ofNat n] else [UInt8.ofNat (32 * m + 25), UInt8.ofNat (n / 256), UInt8.ofNat n]
theorem headS_len (m n : Nat) : 1 ≤ (headS m n).length ∧ (headS m n).length ≤ 3 := by
  unfold headS; cases Nat.blt n 24 <;> cases Nat.blt n 256 <;> simp
theorem u64_toNat {n : Nat} (h : n < 65536) : (UInt64.toNat (UInt64.ofNat n)) = n := by rw [UInt64.toNat_ofNat']; omega
theorem blt_dec (a b : Nat) : decide ((a : Int) < (b : Int)) = Nat.blt a b := by
  rw [Bool.eq_iff_iff, decide_eq_true_eq, Nat.blt_eq]; omega
theorem toU8_nat (n : Nat) : toU8 (n : Int) = UInt8.ofNat n := toU8_ofNat
theorem head_small : ∀ (m : Fin 8) (n : Fin 24), m_cbor_head (UInt8.ofNat m.1) (UInt64.ofNat n.1) = some (headS m.1 n.1) := by decide +kernel
theorem head_or (m : Fin 8) : toU8 (bits .or .u8 (UInt8.toNat (UInt8.ofNat (32 * m.1))) (UInt8.toNat 24)) = UInt8.ofNat (32 * m.1 + 24) ∧ toU8 (bits .or .u8 (UInt8.toNat (UInt8.ofNat (32 * m.1))) (UInt8.toNat 25)) = UInt8.ofNat (32 * m.1 + 25) := by
  revert m; decide +kernel
theorem shl_nat : ∀ m : Fin 8, (Option.map (fun x : UInt8 => x.toNat) (shlK .u8 (UInt8.ofNat m.1) (UInt64.toNat 5 : Int)) : Option Nat) = some (32 * m.1) := by decide +kernel
theorem head_shl (m : Fin 8) : @Eq (Option UInt8) (shlK .u8 (UInt8.ofNat m.1) (UInt64.toNat 5 : Int)) (some (UInt8.ofNat (32 * m.1))) := by
  obtain ⟨x, h1, h2⟩ := Option.map_eq_some_iff.1 (shl_nat m)
  have h1 : @Eq (Option UInt8) (shlK .u8 (UInt8.ofNat m.1) (UInt64.toNat 5 : Int)) (some x) := h1
  refine h1.trans (congrArg some ?_)
  apply UInt8.toNat_inj.1
  have := m.2
  rw [UInt8.toNat_ofNat']
  have h2 : x.toNat = 32 * m.1 := h2
  omega
theorem shr_u64 {n : Nat} (h : n < 65536) : @Eq (Option UInt64) (shrK .u64 (UInt64.ofNat n) (UInt64.toNat 8 : Int)) (some (UInt64.ofNat (n / 256))) := by
  show shr64 (UInt64.ofNat n) ((UInt64.toNat 8 : Nat) : Int) = _
  unfold shr64
  rw [if_neg (by omega), u64_toNat h]
  rfl
theorem head_eq (m : Fin 8) {n : Nat} (h : n < 65536) : m_cbor_head (UInt8.ofNat m.1) (UInt64.ofNat n) = some (headS m.1 n) := by
  by_cases h1 : n < 24
  · exact head_small m ⟨n, h1⟩
  · have b1 : Nat.blt n 24 = false := by rw [← Bool.not_eq_true, Nat.blt_eq]; omega
    unfold m_cbor_head
    refine bnd_of (head_shl m) ?_
    rw [u64_toNat h]
    have d1 : decide ((n : Int) < (UInt64.toNat 24 : Int)) = false := (blt_dec n 24).trans b1
    have d3 : decide ((n : Int) < (UInt64.toNat 65536 : Int)) = true := (blt_dec n 65536).trans (by rw [Nat.blt_eq]; exact h)
    rw [letm_e, d1, cd_f, letm_e]
    unfold headS
    rw [b1, cond_false]
    by_cases h2 : n < 256
    · have b2 : Nat.blt n 256 = true := by rw [Nat.blt_eq]; exact h2
      have d2 : decide ((n : Int) < (UInt64.toNat 256 : Int)) = true := (blt_dec n 256).trans b2
      rw [d2, cd_t, letm_e, letm_e, (head_or m).1, toU8_nat, b2, cond_true]
    · have b2 : Nat.blt n 256 = false := by rw [← Bool.not_eq_true, Nat.blt_eq]; omega
      have d2 : decide ((n : Int) < (UInt64.toNat 256 : Int)) = false := (blt_dec n 256).trans b2
      rw [d2, cd_f, letm_e, d3, cd_t, letm_e]
      refine bnd_of (shr_u64 h) ?_
      rw [letm_e, letm_e, (head_or m).2, u64_toNat (by omega), toU8_nat, toU8_nat, b2, cond_false]
theorem ref_small : ∀ (m : Fin 8) (n : Fin 24), m_coresecref01_Head_o (m.1 : Int) (UInt64.ofNat n.1) = some (headS m.1 n.1) := by decide +kernel
theorem shr_u64_0 {n : Nat} (h : n < 65536) : @Eq (Option UInt64) (shrK .u64 (UInt64.ofNat n) (UInt64.toNat (8 * toU64 0) : Int)) (some (UInt64.ofNat n)) := by
  show shr64 (UInt64.ofNat n) ((UInt64.toNat (8 * toU64 0) : Nat) : Int) = _
  have : UInt64.toNat (8 * toU64 0) = 0 := by kernel_rfl
  rw [this]
  unfold shr64
  rw [if_neg (by omega), u64_toNat h]
  simp
theorem ref_w : ∀ m : Fin 8, toU8 (w64 (w64 (32 * (m.1 : Int)) + 24)) = UInt8.ofNat (32 * m.1 + 24) ∧ toU8 (w64 (w64 (32 * (m.1 : Int)) + 24)) + 1 = UInt8.ofNat (32 * m.1 + 25) := by decide +kernel
theorem head_ref (m : Fin 8) {n : Nat} (h : n < 65536) : m_coresecref01_Head_o (m.1 : Int) (UInt64.ofNat n) = some (headS m.1 n) := by
  by_cases h1 : n < 24
  · exact ref_small m ⟨n, h1⟩
  · have b1 : Nat.blt n 24 = false := by rw [← Bool.not_eq_true, Nat.blt_eq]; omega
    have d1 : decide ((n : Int) < (UInt64.toNat 24 : Int)) = false := (blt_dec n 24).trans b1
    have d3 : decide ((n : Int) < (UInt64.toNat 65536 : Int)) = true := (blt_dec n 65536).trans (by rw [Nat.blt_eq]; exact h)
    have i0 : ∀ x : UInt8, idx [x] (0 : Int) = some x := fun x => idx_some' (i := 0) rfl
    have i1 : ∀ x : UInt8, idx [x] (((0 : Int).toNat : Nat) : Int) = some x := fun x => idx_some' (i := 0) rfl
    unfold m_coresecref01_Head_o
    rw [letm_e, letm_e, letm_e, u64_toNat h, letm_e, d1, cd_f, letm_e]
    unfold headS
    rw [b1, cond_false]
    generalize hB : (fun (self34 : List UInt8 × Int → Option (List UInt8)) (s33 : List UInt8 × Int) => letm (decide (0 ≤ s33.2)) fun x35 => cond x35 (letm ((toU64 s33.2)) fun x36 => letm ((8 * x36)) fun x37 => bnd ((shrK .u64 (UInt64.ofNat n) (UInt64.toNat x37 : Int) : Option UInt64)) fun (x38 : UInt64) => letm ((toU8 (UInt64.toNat x38 : Int))) fun x39 => bnd (app s33.1 [x39]) fun x40 => letm ((w64 (s33.2 - 1))) fun x41 => self34 (x40, x41)) (some s33.1)) = B
    have fin : ∀ (f : Nat) (b : List UInt8), loopF B (f + 1) (b, -1) = some b := fun f b => by rw [← hB]; rfl
    have hBe : ∀ self s33, B self s33 = _ := fun self s33 => (congrFun (congrFun hB self) s33).symm
    have st : ∀ (f : Nat) (b : List UInt8) (k q : Nat), k ≤ 10 → q < 65536 → b.length ≤ 10 → @Eq (Option UInt64) (shrK .u64 (UInt64.ofNat n) (UInt64.toNat (8 * toU64 (k : Int)) : Int)) (some (UInt64.ofNat q)) → loopF B (f + 1) (b, (k : Int)) = loopF B f (b ++ [UInt8.ofNat q], (k : Int) - 1) := fun f b k q hk hq hb hs => by
      rw [loopF_succ, hBe, letm_e, show decide ((0 : Int) ≤ (k : Int)) = true from decide_eq_true (by omega), cd_t, letm_e, letm_e]
      refine bnd_of hs ?_
      rw [letm_e, u64_toNat hq, toU8_nat, app_some' (by simp; omega), bnd_s, letm_e, w64_of (by omega) (by omega)]
    by_cases h2 : n < 256
    · have b2 : Nat.blt n 256 = true := by rw [Nat.blt_eq]; exact h2
      have d2 : decide ((n : Int) < (UInt64.toNat 256 : Int)) = true := (blt_dec n 256).trans b2
      rw [d2, cd_t, bndS_r, letm_e, b2, cond_true, (ref_w m).1]
      rw [show FUEL = 1180591620717411303422 + 1 + 1 from rfl]
      exact (st _ _ 0 n (by omega) h (by simp) (shr_u64_0 h)).trans (fin _ _)
    · have b2 : Nat.blt n 256 = false := by rw [← Bool.not_eq_true, Nat.blt_eq]; omega
      have d2 : decide ((n : Int) < (UInt64.toNat 256 : Int)) = false := (blt_dec n 256).trans b2
      rw [d2, cd_f, letm_e, d3, cd_t, i0, bnd_s, i1, bnd_s, letm_e, bnd_s, bnd_s, letm_e, bndS_r, letm_e, b2, cond_false, (ref_w m).2]
      rw [show FUEL = 1180591620717411303421 + 1 + 1 + 1 from rfl]
      exact ((st _ _ 1 (n / 256) (by omega) (by omega) (by simp) (shr_u64 h)).trans (st _ _ 0 n (by omega) h (by simp) (shr_u64_0 h))).trans (fin _ _)
end Go.Proofs.YtllomdfckciedaaDoor
