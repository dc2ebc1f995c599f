/-
  Scopes, plain facts: a permit read by the reference; texts read by both (ScopeTexts). Of the models alone; no program; no condition but the lengths told.
-/
import Derived.Test.YtmnbkcpopfmpdaaDoorQ72
namespace Go.Proofs.YtmnbkcpopfmpdaaDoor
open Go.Gk Go.RowKit
theorem suf_eq (t : List UInt8) : (cond (decide (2 ≤ (t.length : Int))) (some (t.drop (t.length - 2) == [47, 42])) (some false) : Option Bool) = some (Lib.hasSuffix t [47, 42]) := by
  have h1 : (Lib.hasSuffix t [47, 42] = true) ↔ [47, 42] = t.drop (t.length - 2) := by
    show ([47, 42] : List UInt8).isSuffixOf t = true ↔ _
    rw [List.isSuffixOf_iff_suffix, List.suffix_iff_eq_drop]; rfl
  by_cases h : 2 ≤ t.length
  · rw [decide_eq_true (by omega), cd_t]
    congr 1
    rw [Bool.eq_iff_iff, h1, beq_iff_eq]
    exact ⟨fun h => h.symm, fun h => h.symm⟩
  · rw [decide_eq_false (by omega), cd_f]
    congr 1
    cases hb : Lib.hasSuffix t [47, 42] with
    | false => rfl
    | true => exact absurd (suf_len hb) h
theorem fin_ref {m : Nat} {t : List UInt8} (h : t.length ≤ 1000000) : ∃ p, (bnd (β := ((List UInt8) × S_api_Permit)) (bnd (β := Bool) (letm (decide (2 ≤ (t.length : Int))) fun x24 => cond x24 (letm ((w64 ((t.length : Int) - 2))) fun x25 => bnd (Gk.cut t x25 (t.length : Int)) fun x26 => letm ((x26 == [47, 42])) fun x27 => some x27) (some false)) fun v28 => cond v28 (letm ((w64 ((t.length : Int) - 2))) fun x29 => bnd (Gk.cut t 0 x29) fun x30 => some (x30, (([] : List UInt8), (true, (m : Int))))) (some (t, (([] : List UInt8), (false, (m : Int)))))) fun v31 => bnd (m_coresecref39_Written v31.1) fun x32 => some ((v31.1, v31.2.2), x32)) = some (match finS m t with | some q => (q, true) | none => (p, false)) := by
  have e : (bnd (β := Bool) (letm (decide (2 ≤ (t.length : Int))) fun x24 => cond x24 (letm ((w64 ((t.length : Int) - 2))) fun x25 => bnd (Gk.cut t x25 (t.length : Int)) fun x26 => letm ((x26 == [47, 42])) fun x27 => some x27) (some false)) fun v => some v) = some (Lib.hasSuffix t [47, 42]) := by
    rw [bnd_id, ← suf_eq, letm_e]
    by_cases h2 : 2 ≤ t.length
    · rw [decide_eq_true (by omega), cd_t, cd_t, letm_e, w64_of (by omega) (by omega), show ((t.length : Int) - 2) = ((t.length - 2 : Nat) : Int) by omega, cutk (by omega)]; rfl
    · rw [decide_eq_false (by omega)]; rfl
  rw [bnd_id] at e
  rw [e, bnd_s]
  refine ⟨(if Lib.hasSuffix t [47, 42] then (t.take (t.length - 2), (true, (m : Int))) else (t, (false, (m : Int)))), ?_⟩
  unfold finS
  cases hb : Lib.hasSuffix t [47, 42] with
  | true =>
    have h2 := suf_len hb
    rw [cd_t, letm_e, w64_of (by omega) (by omega), show ((t.length : Int) - 2) = ((t.length - 2 : Nat) : Int) by omega, cut_up (by omega), bnd_s, bnd_s, ref_written, bnd_s]
    simp only [if_true]
    cases hw : wrS (t.take (t.length - 2)) <;> simp
  | false =>
    rw [cd_f, bnd_s, ref_written, bnd_s]
    simp only [if_neg (show ¬ (false = true) by simp)]
    cases hw : wrS t <;> simp
theorem idx_let : ∀ j : Fin 7, idx ([71, 80, 85, 68, 70, 65, 73] : List UInt8) (w64 (((j.1 + 1 : Nat) : Int) - 1)) = some (ltr j.1) := by decide +kernel
theorem permit_go (s : List UInt8) (hs : s.length ≤ 1000000) : ∀ (k f i m : Nat), k ≤ 7 → k < f → i ≤ s.length → m < 2 ^ (7 - k) → ∃ p, loopF (R := (S_api_Permit × Bool)) (S := (Int × (Int × S_api_Permit))) (fun self2 s1 => letm (decide (s1.2.1 ≤ 7)) fun x3 => cond x3 (bnd (β := (Int × S_api_Permit)) (bnd (β := Bool) (letm (decide (s1.1 < (s.length : Int))) fun x4 => cond x4 (bnd (idx s s1.1) fun x5 => letm ((w64 (s1.2.1 - 1))) fun x6 => bnd (idx [71, 80, 85, 68, 70, 65, 73] x6) fun x7 => letm (((UInt8.toNat x5 : Int) == (UInt8.toNat x7 : Int))) fun x8 => some x8) (some false)) fun v9 => cond v9 (letm ((w64 (s1.2.1 - 1))) fun x10 => letm ((toU64 x10)) fun x11 => bnd (Gk.shl 1 (UInt64.toNat x11 : Int)) fun x12 => letm ((w64 (s1.2.2.2.2 + x12))) fun x13 => letm ((w64 (s1.1 + 1))) fun x14 => some (x14, (s1.2.2.1, (s1.2.2.2.1, x13)))) (some (s1.1, s1.2.2))) fun v15 => letm ((w64 (s1.2.1 + 1))) fun x16 => self2 (v15.1, (x16, v15.2))) (bnd (β := Bool) (letm ((s1.2.2.2.2 == 0)) fun x17 => cond x17 (some true) (letm (decide ((s.length : Int) ≤ s1.1)) fun x18 => cond x18 (some true) (bnd (idx s s1.1) fun x19 => letm (((UInt8.toNat x19 : Int) != (UInt8.toNat 58 : Int))) fun x20 => some x20))) fun v21 => cond v21 (some (([], (false, 0)), false)) (letm ((w64 (s1.1 + 1))) fun x22 => bnd (Gk.cut s x22 (s.length : Int)) fun x23 => bnd (β := ((List UInt8) × S_api_Permit)) (bnd (β := Bool) (letm (decide (2 ≤ (x23.length : Int))) fun x24 => cond x24 (letm ((w64 ((x23.length : Int) - 2))) fun x25 => bnd (Gk.cut x23 x25 (x23.length : Int)) fun x26 => letm ((x26 == [47, 42])) fun x27 => some x27) (some false)) fun v28 => cond v28 (letm ((w64 ((x23.length : Int) - 2))) fun x29 => bnd (Gk.cut x23 0 x29) fun x30 => some (x30, (s1.2.2.1, (true, s1.2.2.2.2)))) (some (x23, s1.2.2))) fun v31 => bnd (m_coresecref39_Written v31.1) fun x32 => some ((v31.1, v31.2.2), x32)))) f ((i : Int), (((8 - k : Nat) : Int), ([], (false, (m : Int))))) = some (match pQ (Lt k (s.drop i) m).1 (Lt k (s.drop i) m).2 with | some q => (q, true) | none => (p, false))
  | _, 0, _, _, _, hf, _, _ => absurd hf (Nat.not_lt_zero _)
  | 0, f + 1, i, m, _, _, hi, hm => by
    rw [loopF_succ, letm_e, decide_eq_false (show ¬ (((8 - 0 : Nat) : Int) ≤ 7) by omega), cd_f, letm_e]
    show ∃ p, _ = some (match pQ m (s.drop i) with | some q => (q, true) | none => (p, false))
    cases hmz : m == 0 with
    | true =>
      have hm0 := beq_iff_eq.1 hmz
      subst hm0
      refine ⟨([], (false, 0)), ?_⟩
      have : pQ 0 (s.drop i) = none := by
        cases s.drop i with
        | nil => rfl
        | cons c t => rw [pQ_cons]; simp
      rw [this]; rfl
    | false =>
      have hmz' := beq_eq_false_iff_ne.1 hmz
      have hmi : ((m : Int) == 0) = false := by rw [beq_eq_false_iff_ne]; omega
      rw [hmi, cd_f, letm_e]
      by_cases hl : i < s.length
      · have hc : s[i]? = some s[i] := List.getElem?_eq_getElem hl
        have hd : s.drop i = s[i] :: s.drop (i + 1) := List.drop_eq_getElem_cons hl
        have hix : idx s (i : Int) = some s[i] := idx_some' hc
        rw [decide_eq_false (show ¬ ((s.length : Int) ≤ (i : Int)) by omega), cd_f, hix, bnd_s, letm_e, ne58, bnd_s, hd, pQ_cons, hmz]
        cases h58 : s[i] == 58 with
        | false => exact ⟨([], (false, 0)), rfl⟩
        | true =>
          rw [Bool.not_true, cd_f, letm_e, w64_of (by omega) (by omega), show ((i : Int) + 1) = ((i + 1 : Nat) : Int) by omega, cutk (by omega), bnd_s]
          exact fin_ref (by rw [List.length_drop]; omega)
      · refine ⟨([], (false, 0)), ?_⟩
        have : s.drop i = [] := List.drop_eq_nil_of_le (by omega)
        rw [decide_eq_true (show ((s.length : Int) ≤ (i : Int)) by omega), this]; rfl
  | k + 1, f + 1, i, m, hk, hf, hi, hm => by
    have ih := permit_go s hs k f
    have hpw : (2 : Nat) ^ (7 - (k + 1)) ≤ 2 ^ 6 := Nat.pow_le_pow_right (by omega) (by omega)
    have hpw2 : (2 : Nat) ^ (7 - k) = 2 * 2 ^ (7 - (k + 1)) := by rw [show 7 - k = (7 - (k + 1)) + 1 by omega, Nat.pow_succ]; omega
    have hc1 : (((8 - (k + 1) : Nat) : Int) ≤ 7) := by omega
    have wc : w64 (((8 - (k + 1) : Nat) : Int) + 1) = ((8 - k : Nat) : Int) := by rw [w64_of (by omega) (by omega)]; omega
    rw [loopF_succ, letm_e, decide_eq_true hc1, cd_t]
    by_cases hl : i < s.length
    · have hc : s[i]? = some s[i] := List.getElem?_eq_getElem hl
      have hd : s.drop i = s[i] :: s.drop (i + 1) := List.drop_eq_getElem_cons hl
      have hix : idx s (i : Int) = some s[i] := idx_some' hc
      have hlt := idx_let ⟨6 - k, by omega⟩
      have hlt : idx ([71, 80, 85, 68, 70, 65, 73] : List UInt8) (w64 (((6 - k + 1 : Nat) : Int) - 1)) = some (ltr (6 - k)) := hlt
      rw [show 6 - k + 1 = 8 - (k + 1) by omega] at hlt
      have hap := add_pow ⟨6 - k, by omega⟩ ⟨m, by omega⟩
      have hap : (bnd (Gk.shl 1 (UInt64.toNat (toU64 (w64 (((6 - k + 1 : Nat) : Int) - 1))) : Int)) fun x => some (w64 ((m : Int) + x))) = some ((m + 2 ^ (6 - k) : Nat) : Int) := hap
      rw [show 6 - k + 1 = 8 - (k + 1) by omega] at hap
      obtain ⟨x, hx1, hx2⟩ := bnd_some hap
      have hx2 := Option.some.inj hx2
      have e1 : Lt (k + 1) (s.drop i) m = if s[i] == ltr (6 - k) then Lt k (s.drop (i + 1)) (m + 2 ^ (6 - k)) else Lt k (s.drop i) m := by rw [hd]; rfl
      rw [letm_e, decide_eq_true (show (i : Int) < (s.length : Int) by omega), cd_t, hix, bnd_s, letm_e, hlt, bnd_s, letm_e, eq_u8, bnd_s, e1]
      cases hq : s[i] == ltr (6 - k) with
      | true =>
        rw [cd_t, letm_e, letm_e, hx1, bnd_s, letm_e, letm_e, bnd_s, letm_e, hx2, w64_of (x := (i : Int) + 1) (by omega) (by omega), wc, show ((i : Int) + 1) = ((i + 1 : Nat) : Int) by omega, if_pos rfl]
        refine ih (i + 1) (m + 2 ^ (6 - k)) (by omega) (by omega) (by omega) ?_
        rw [hpw2, show 7 - (k + 1) = 6 - k by omega] at *
        omega
      | false =>
        rw [cd_f, bnd_s, letm_e, wc, if_neg (by simp)]
        exact ih i m (by omega) (by omega) hi (by omega)
    · have hn : s.drop i = [] := List.drop_eq_nil_of_le (by omega)
      rw [letm_e, decide_eq_false (show ¬ ((i : Int) < (s.length : Int)) by omega), cd_f, bnd_s, cd_f, bnd_s, letm_e, wc]
      obtain ⟨p, hp⟩ := ih i m (by omega) (by omega) hi (by omega)
      refine ⟨p, ?_⟩
      rw [hn] at hp ⊢
      rw [Lt_nil] at hp ⊢
      exact hp
theorem permit_eq39 {s : List UInt8} (h : s.length ≤ 1000000) : ∃ p, m_coresecref39_permit s = some (match pS s with | some q => (q, true) | none => (p, false)) := by
  have := permit_go s h 7 FUEL 0 0 (by omega) (by rw [fuel_eq]; omega) (by omega) (by simp)
  exact this
end Go.Proofs.YtmnbkcpopfmpdaaDoor
