/-
  Scopes, plain facts: a permit read by both texts. Of the models alone; no program; no condition but the lengths told.
-/
import Derived.Test.YtmnbkcpopfmpdaaDoorQ71
namespace Go.Proofs.YtmnbkcpopfmpdaaDoor
open Go.Gk Go.RowKit
theorem ne58 (c : UInt8) : ((UInt8.toNat c : Int) != (UInt8.toNat 58 : Int)) = !(c == 58) := by
  cases h : c == 58 with
  | true => rw [beq_iff_eq.1 h]; rfl
  | false =>
    have h := beq_eq_false_iff_ne.1 h
    have : (UInt8.toNat c : Int) ≠ (UInt8.toNat 58 : Int) := fun e => h (UInt8.toNat_inj.1 (by omega))
    rw [bne_iff_ne.2 this]; rfl
theorem eq_u8 (c d : UInt8) : ((UInt8.toNat c : Int) == (UInt8.toNat d : Int)) = (c == d) := by
  cases h : c == d with
  | true => rw [beq_iff_eq.1 h, beq_self_eq_true]
  | false =>
    have h := beq_eq_false_iff_ne.1 h
    have : (UInt8.toNat c : Int) ≠ (UInt8.toNat d : Int) := fun e => h (UInt8.toNat_inj.1 (by omega))
    rw [beq_eq_false_iff_ne.2 this]
theorem cut1 (c : UInt8) (t : List UInt8) : Gk.cut (c :: t) 1 ((c :: t).length : Int) = some t := by
  unfold Gk.cut
  rw [if_pos (by simp only [List.length_cons]; omega)]; simp
theorem cutk {s : List UInt8} {k : Nat} (h : k ≤ s.length) : Gk.cut s (k : Int) (s.length : Int) = some (s.drop k) := by
  unfold Gk.cut
  rw [if_pos (by omega)]; simp
theorem parse_go (z : S_api_Permit) : ∀ (t : List UInt8) (j m f : Nat), j ≤ 7 → m < 2 ^ j → t.length < f → (Ht t j m = none → ∃ p, loopF (R := ((S_api_Permit × Bool) ⊕ ((List UInt8) × (S_api_Permit × S_api_Permit)))) (S := ((List UInt8) × (Int × (S_api_Permit × S_api_Permit)))) (fun self2 s1 => bnd (β := Bool) (letm (decide (0 < (s1.1.length : Int))) fun x3 => cond x3 (bnd (idx s1.1 0) fun x4 => letm (((UInt8.toNat x4 : Int) != (UInt8.toNat 58 : Int))) fun x5 => some x5) (some false)) fun v6 => cond v6 (bnd (idx s1.1 0) fun x7 => bnd (m_strings_IndexByte [71, 80, 85, 68, 70, 65, 73] x7) fun x8 => letm (decide (x8 ≤ s1.2.1)) fun x9 => cond x9 (some (.inl (s1.2.2.2, false))) (letm ((toU64 x8)) fun x10 => bnd (Gk.shl 1 (UInt64.toNat x10 : Int)) fun x11 => letm ((ibit .or s1.2.2.2.2.2 x11)) fun x12 => bnd (Gk.cut s1.1 1 (s1.1.length : Int)) fun x13 => self2 (x13, (x8, (s1.2.2.1, (s1.2.2.2.1, (s1.2.2.2.2.1, x12))))))) (some (.inr (s1.1, (s1.2.2.1, s1.2.2.2))))) f (t, ((j : Int) - 1, (z, ([], (false, (m : Int)))))) = some (.inl (p, false))) ∧ ∀ m' r, Ht t j m = some (m', r) → loopF (R := ((S_api_Permit × Bool) ⊕ ((List UInt8) × (S_api_Permit × S_api_Permit)))) (S := ((List UInt8) × (Int × (S_api_Permit × S_api_Permit)))) (fun self2 s1 => bnd (β := Bool) (letm (decide (0 < (s1.1.length : Int))) fun x3 => cond x3 (bnd (idx s1.1 0) fun x4 => letm (((UInt8.toNat x4 : Int) != (UInt8.toNat 58 : Int))) fun x5 => some x5) (some false)) fun v6 => cond v6 (bnd (idx s1.1 0) fun x7 => bnd (m_strings_IndexByte [71, 80, 85, 68, 70, 65, 73] x7) fun x8 => letm (decide (x8 ≤ s1.2.1)) fun x9 => cond x9 (some (.inl (s1.2.2.2, false))) (letm ((toU64 x8)) fun x10 => bnd (Gk.shl 1 (UInt64.toNat x10 : Int)) fun x11 => letm ((ibit .or s1.2.2.2.2.2 x11)) fun x12 => bnd (Gk.cut s1.1 1 (s1.1.length : Int)) fun x13 => self2 (x13, (x8, (s1.2.2.1, (s1.2.2.2.1, (s1.2.2.2.2.1, x12))))))) (some (.inr (s1.1, (s1.2.2.1, s1.2.2.2))))) f (t, ((j : Int) - 1, (z, ([], (false, (m : Int)))))) = some (.inr (r, (z, ([], (false, (m' : Int))))))
  | _, _, _, 0, _, _, hf => absurd hf (Nat.not_lt_zero _)
  | [], j, m, f + 1, _, _, _ => ⟨(fun h => by cases h), (fun m' r h => by cases h; rfl)⟩
  | c :: t, j, m, f + 1, hj, hm, hf => by
    have hi : idx (c :: t) (0 : Int) = some c := idx_some' (i := 0) rfl
    have e2 : Ht (c :: t) j m = if c == 58 then some (m, c :: t) else if posI c < (j : Int) then none else Ht t ((posI c).toNat + 1) (m + 2 ^ (posI c).toNat) := rfl
    have hd : decide ((0 : Int) < ((c :: t).length : Int)) = true := decide_eq_true (by simp only [List.length_cons]; omega)
    have hx : m_strings_IndexByte [71, 80, 85, 68, 70, 65, 73] c = some (posI c) := rfl
    obtain ⟨p1, p2⟩ := pos_le c
    rw [e2, loopF_succ, letm_e, hd, cd_t, hi, bnd_s, letm_e, ne58, bnd_s]
    cases h58 : c == 58 with
    | true =>
      rw [if_pos rfl, Bool.not_true, cd_f]
      exact ⟨(fun h => by cases h), (fun m' r h => by cases h; rfl)⟩
    | false =>
      rw [if_neg (by simp), Bool.not_false, cd_t, bnd_s, hx, bnd_s, letm_e]
      by_cases hlt : posI c < (j : Int)
      · rw [if_pos hlt, decide_eq_true (show posI c ≤ (j : Int) - 1 by omega), cd_t]
        exact ⟨(fun _ => ⟨_, rfl⟩), (fun m' r h => by cases h)⟩
      · rw [if_neg hlt, decide_eq_false (show ¬ posI c ≤ (j : Int) - 1 by omega), cd_f, letm_e]
        obtain ⟨i, hpi⟩ : ∃ i : Nat, posI c = (i : Int) := ⟨(posI c).toNat, by omega⟩
        have hpw : (2 : Nat) ^ j ≤ 2 ^ i := Nat.pow_le_pow_right (by omega) (by omega)
        have hpw7 : (2 : Nat) ^ j ≤ 2 ^ 7 := Nat.pow_le_pow_right (by omega) hj
        have ho := or_pow ⟨i, by omega⟩ ⟨m, by omega⟩ (by show m < 2 ^ i; omega)
        rw [hpi, Int.toNat_natCast]
        obtain ⟨x, hx1, hx2⟩ := bnd_some ho
        have hx2 := Option.some.inj hx2
        have hx1 : Gk.shl 1 (UInt64.toNat (toU64 (i : Int)) : Int) = some x := hx1
        have hx2 : ibit .or (m : Int) x = ((m + 2 ^ i : Nat) : Int) := hx2
        rw [hx1, bnd_s, letm_e, cut1, bnd_s, hx2]
        have ih := parse_go z t (i + 1) (m + 2 ^ i) f (by omega) (by rw [Nat.pow_succ]; omega) (by simp only [List.length_cons] at hf; omega)
        rw [show (((i + 1 : Nat) : Int) - 1) = (i : Int) by omega] at ih
        exact ih
theorem suf_len {t : List UInt8} (h : Lib.hasSuffix t [47, 42] = true) : 2 ≤ t.length := by
  have h : ([47, 42] : List UInt8).isSuffixOf t = true := h
  exact (List.isSuffixOf_iff_suffix.1 h).length_le
theorem cut_up {s : List UInt8} {k : Nat} (h : k ≤ s.length) : Gk.cut s 0 (k : Int) = some (s.take k) := by
  unfold Gk.cut
  rw [if_pos (by omega)]; simp
/-- What is left of a permit, by the program. -/
theorem fin_eq {z : S_api_Permit} {m : Nat} {t : List UInt8} (h : t.length ≤ 1000000) : (bnd (β := S_api_Permit) (bnd (m_strings_HasSuffix t [47, 42]) fun x19 => cond x19 (letm ((w64 ((t.length : Int) - 2))) fun x20 => bnd (Gk.cut t 0 x20) fun x21 => some (x21, (true, (m : Int)))) (some (t, (false, (m : Int))))) fun v22 => bnd (m_scope_written v22.1) fun x23 => some (v22, x23)) = some (match finS m t with | some p => (p, true) | none => ((if Lib.hasSuffix t [47, 42] then (t.take (t.length - 2), (true, (m : Int))) else (t, (false, (m : Int)))), false)) := by
  have hs : m_strings_HasSuffix t [47, 42] = some (Lib.hasSuffix t [47, 42]) := by
    unfold m_strings_HasSuffix
    rw [Nat.ble_eq_true_of_le (by omega)]; rfl
  rw [hs, bnd_s]
  unfold finS
  cases hb : Lib.hasSuffix t [47, 42] with
  | true =>
    have h2 := suf_len hb
    rw [cd_t, letm_e, w64_of (by omega) (by omega), show ((t.length : Int) - 2) = ((t.length - 2 : Nat) : Int) by omega, cut_up (by omega), bnd_s, bnd_s, written_eq, bnd_s]
    simp only [if_true]
    cases hw : wrS (t.take (t.length - 2)) <;> simp
  | false =>
    rw [cd_f, bnd_s, written_eq, bnd_s]
    simp only [if_neg (show ¬ (false = true) by simp)]
    cases hw : wrS t <;> simp
theorem parse_eq39 {s : List UInt8} (h : s.length ≤ 1000000) : ∃ p, m_scope_parse s = some (match pS s with | some q => (q, true) | none => (p, false)) := by
  have hH : Ht s 0 0 = chk (Lt 7 s 0) := Ht_Lt 7 (Nat.le_refl 7) s 0
  obtain ⟨g1, g2⟩ := parse_go ([], (false, 0)) s 0 0 FUEL (by omega) (by simp) (by rw [fuel_eq]; omega)
  rw [hH] at g1 g2
  have hl : (Lt 7 s 0).2.length ≤ s.length := by
    have : ∀ (k : Nat) (s : List UInt8) (m : Nat), (Lt k s m).2.length ≤ s.length := by
      intro k
      induction k with
      | zero => intro s m; exact Nat.le_refl _
      | succ k ih =>
        intro s m
        cases s with
        | nil => exact Nat.le_refl _
        | cons c t =>
          show (if c == ltr (6 - k) then Lt k t (m + 2 ^ (6 - k)) else Lt k (c :: t) m).2.length ≤ _
          split
          · have := ih t (m + 2 ^ (6 - k)); simp only [List.length_cons]; omega
          · exact ih (c :: t) m
    exact this 7 s 0
  unfold m_scope_parse pS
  generalize Lt 7 s 0 = q at g1 g2 hl
  obtain ⟨m, r⟩ := q
  show ∃ p, _ = some (match pQ m r with | some q => (q, true) | none => (p, false))
  have hl : r.length ≤ s.length := hl
  cases r with
  | nil =>
    have := g2 m [] rfl
    refine ⟨([], (false, (m : Int))), (congrArg (fun z => bndS (ρ := (S_api_Permit × Bool)) (ρ' := (S_api_Permit × Bool)) (Y := ((List UInt8) × (S_api_Permit × S_api_Permit))) z (fun q => q) _) this).trans ?_⟩
    rw [bndS_r]; rfl
  | cons c t =>
    cases hc : c == 58 with
    | false =>
      obtain ⟨p, hp⟩ := g1 (by rw [chk_cons, hc]; rfl)
      refine ⟨p, (congrArg (fun z => bndS (ρ := (S_api_Permit × Bool)) (ρ' := (S_api_Permit × Bool)) (Y := ((List UInt8) × (S_api_Permit × S_api_Permit))) z (fun q => q) _) hp).trans ?_⟩
      rw [bndS_l, pQ_cons, hc, Bool.false_and]; rfl
    | true =>
      have := g2 m (c :: t) (by rw [chk_cons, hc]; rfl)
      have hz : (((c :: t).length : Int) == 0) = false := by rw [beq_eq_false_iff_ne]; simp only [List.length_cons]; omega
      simp only [List.length_cons] at hl
      cases hm : m == 0 with
      | true =>
        have hm := beq_iff_eq.1 hm
        subst hm
        refine ⟨([], (false, 0)), (congrArg (fun z => bndS (ρ := (S_api_Permit × Bool)) (ρ' := (S_api_Permit × Bool)) (Y := ((List UInt8) × (S_api_Permit × S_api_Permit))) z (fun q => q) _) this).trans ?_⟩
        rw [bndS_r, letm_e, hz, cd_f, letm_e, pQ_cons, hc]; rfl
      | false =>
        have hm := beq_eq_false_iff_ne.1 hm
        have hm' : ((m : Int) == 0) = false := by rw [beq_eq_false_iff_ne]; omega
        refine ⟨(if Lib.hasSuffix t [47, 42] then (t.take (t.length - 2), (true, (m : Int))) else (t, (false, (m : Int)))), (congrArg (fun z => bndS (ρ := (S_api_Permit × Bool)) (ρ' := (S_api_Permit × Bool)) (Y := ((List UInt8) × (S_api_Permit × S_api_Permit))) z (fun q => q) _) this).trans ?_⟩
        rw [bndS_r, letm_e, hz, cd_f, letm_e, hm', bnd_s, cd_f, cut1, bnd_s, pQ_cons, hc, beq_eq_false_iff_ne.2 hm]
        exact fin_eq (z := ([], (false, 0))) (by omega)
end Go.Proofs.YtmnbkcpopfmpdaaDoor
