/-
  Scopes, plain facts: texts of scopes, written and read by both texts (ScopeTexts). Of the models alone; no program; no condition but the lengths told.
-/
import Derived.Test.YtmnbkcpopfmpdaaDoorQ73
namespace Go.Proofs.YtmnbkcpopfmpdaaDoor
open Go.Gk Go.RowKit
/-! ### Texts read -/
def prsL : List (List UInt8) → List S_api_Permit → Option (List S_api_Permit)
  | [], acc => some acc
  | x :: xs, acc => match pS x with | none => none | some q => prsL xs (acc ++ [q])
def endS : Option (List S_api_Permit) → List S_api_Permit × Int
  | none => ([], 17)
  | some l => bif decide (8 < (l.length : Int)) then ([], 8) else (l, 0)
def rdS (s : List UInt8) : List S_api_Permit × Int := bif s == [] then ([], 0) else endS (prsL (spl s) [])
theorem spl_len : ∀ s : List UInt8, (spl s).length ≤ s.length + 1 ∧ ∀ x ∈ spl s, x.length ≤ s.length
  | [] => by simp [spl]
  | [a] => by simp [spl]
  | a :: b :: s => by
    rw [spl]
    split
    · obtain ⟨h1, h2⟩ := spl_len s
      refine ⟨by simp only [List.length_cons]; omega, fun x hx => ?_⟩
      rcases List.mem_cons.1 hx with rfl | hx
      · simp
      · have := h2 x hx; simp only [List.length_cons]; omega
    · obtain ⟨h1, h2⟩ := spl_len (b :: s)
      obtain ⟨p, r, h⟩ := spl_ne (b :: s)
      rw [h] at h1 h2 ⊢
      simp only [hdc, List.length_cons] at h1 ⊢
      refine ⟨by omega, fun x hx => ?_⟩
      rcases List.mem_cons.1 hx with rfl | hx
      · have := h2 p (by simp); simp only [List.length_cons] at this ⊢; omega
      · have := h2 x (by simp [hx]); simp only [List.length_cons] at this ⊢; omega
theorem read_go : ∀ (xs : List (List UInt8)) (k : Nat) (acc : List S_api_Permit), (∀ x ∈ xs, x.length ≤ 1000000) → acc.length + xs.length ≤ 2000000 →
    loopL (R := ((List S_api_Permit) × Int)) (S := (List S_api_Permit)) (α := (List UInt8)) (fun _ s4 => letm (decide (8 < (s4.length : Int))) fun x5 => cond x5 (some ([], 8)) (some (s4, 0))) (fun x6 _ s8 self9 => bnd (m_scope_parse x6) fun x10 => letm ((!x10.2)) fun x11 => cond x11 (some ([], 17)) (bnd (app s8 [x10.1]) fun x12 => self9 x12)) xs k acc = some (endS (prsL xs acc))
  | [], k, acc, _, _ => by
    rw [loopL_nil, letm_e]
    show cond (decide (8 < (acc.length : Int))) _ _ = some (bif decide (8 < (acc.length : Int)) then ([], 8) else (acc, 0))
    cases decide (8 < (acc.length : Int)) <;> rfl
  | x :: xs, k, acc, hx, hl => by
    obtain ⟨p, hp⟩ := parse_eq39 (hx x (by simp))
    simp only [List.length_cons] at hl
    rw [loopL_cons, hp, bnd_s, letm_e]
    have e : prsL (x :: xs) acc = match pS x with | none => none | some q => prsL xs (acc ++ [q]) := rfl
    rw [e]
    cases pS x with
    | none => rfl
    | some q =>
      show cond (!true) _ _ = _
      rw [Bool.not_true, cd_f, app_some' (by simp; omega), bnd_s]
      exact read_go xs (k + 1) (acc ++ [q]) (fun y hy => hx y (by simp [hy])) (by simp; omega)
theorem read_eq {s : List UInt8} (h : s.length ≤ 1000000) : m_scope_Parse s = some (rdS s) := by
  unfold m_scope_Parse rdS
  rw [letm_e]
  cases hs : s == [] with
  | true => rfl
  | false =>
    rw [cd_f, cond_false]
    have hsp : m_strings_Split s [44, 32] = some (spl s) := by
      unfold m_strings_Split
      rw [show Nat.blt 0 ([44, 32] : List UInt8).length = true from rfl, Bool.true_and, show Nat.blt s.length 4294967281 = true from Nat.ble_eq_true_of_le (by omega), cond_true, split_spl s.length s (Nat.le_refl _)]
    obtain ⟨h1, h2⟩ := spl_len s
    rw [hsp, bnd_s]
    exact read_go (spl s) 0 [] (fun x hx => by have := h2 x hx; omega) (by simp; omega)
theorem seg_snoc {s : List UInt8} {fr i : Nat} {a : UInt8} (h : fr ≤ i) (ha : s[i]? = some a) : (s.take (i + 1)).drop fr = (s.take i).drop fr ++ [a] := by
  have hi := (List.getElem?_eq_some_iff.1 ha).1
  have e := (List.getElem?_eq_some_iff.1 ha).2
  rw [List.take_succ_eq_append_getElem hi, List.drop_append_of_le_length (by rw [List.length_take]; omega), e]
theorem ref_read_go (s : List UInt8) (hs : s.length ≤ 1000000) : ∀ (f i fr : Nat) (out : List S_api_Permit) (p : List UInt8) (r : List (List UInt8)), fr ≤ i → i ≤ s.length → spl (s.drop i) = p :: r → s.length - i + 3 ≤ f → out.length + r.length ≤ 2000000 →
    loopF (R := ((List S_api_Permit) × Int)) (S := ((List S_api_Permit) × (Int × Int))) (fun self3 s2 => letm (decide (s2.2.2 ≤ (s.length : Int))) fun x4 => cond x4 (bndS (ρ := ((List S_api_Permit) × Int)) (ρ' := ((List S_api_Permit) × Int)) (Y := ((List S_api_Permit) × (Int × Int))) (bnd (β := Bool) (letm (decide (s2.2.2 < (s.length : Int))) fun x5 => cond x5 (letm ((w64 (s2.2.2 + 1))) fun x6 => letm (decide ((s.length : Int) ≤ x6)) fun x7 => cond x7 (some true) (letm ((w64 (s2.2.2 + 2))) fun x8 => bnd (Gk.cut s s2.2.2 x8) fun x9 => letm ((x9 != [44, 32])) fun x10 => some x10)) (some false)) fun v11 => cond v11 (some (.inr (s2.1, (s2.2.1, s2.2.2)))) (bnd (Gk.cut s s2.2.1 s2.2.2) fun x12 => bnd (m_coresecref39_permit x12) fun x13 => letm ((!x13.2)) fun x14 => cond x14 (some (.inl ([], 17))) (bnd (app s2.1 [x13.1]) fun x15 => letm ((w64 (s2.2.2 + 2))) fun x16 => letm ((w64 (s2.2.2 + 1))) fun x17 => some (.inr (x15, (x16, x17)))))) (fun q => q) fun v18 => letm ((w64 (v18.2.2 + 1))) fun x19 => self3 (v18.1, (v18.2.1, x19))) (letm (decide (8 < (s2.1.length : Int))) fun x20 => cond x20 (some ([], 8)) (some (s2.1, 0)))) f (out, ((fr : Int), (i : Int))) = some (endS (prsL (((s.take i).drop fr ++ p) :: r) out))
  | 0, _, _, _, _, _, _, _, _, hf, _ => by omega
  | f + 1, i, fr, out, p, r, hfr, hi, hsp, hf, hol => by
    have hcut : Gk.cut s (fr : Int) (i : Int) = some ((s.take i).drop fr) := by
      unfold Gk.cut
      rw [if_pos (by omega)]; simp
    have w1 : w64 ((i : Int) + 1) = ((i + 1 : Nat) : Int) := by rw [w64_of (by omega) (by omega)]; omega
    have w2 : w64 ((i : Int) + 2) = ((i + 2 : Nat) : Int) := by rw [w64_of (by omega) (by omega)]; omega
    have w3 : w64 (((i + 1 : Nat) : Int) + 1) = ((i + 2 : Nat) : Int) := by rw [w64_of (by omega) (by omega)]; omega
    obtain ⟨pp, hpp⟩ := permit_eq39 (s := (s.take i).drop fr) (by rw [List.length_drop, List.length_take]; omega)
    have e : prsL (((s.take i).drop fr ++ []) :: r) out = match pS ((s.take i).drop fr) with | none => none | some q => prsL r (out ++ [q]) := by rw [List.append_nil]; rfl
    rw [loopF_succ, letm_e, decide_eq_true (show (i : Int) ≤ (s.length : Int) by omega), cd_t]
    by_cases hl : i < s.length
    · have hd : s.drop i = s[i] :: s.drop (i + 1) := List.drop_eq_getElem_cons hl
      have hc : s[i]? = some s[i] := List.getElem?_eq_getElem hl
      rw [letm_e, decide_eq_true (show (i : Int) < (s.length : Int) by omega), cd_t, letm_e, w1, letm_e]
      by_cases hl2 : i + 1 < s.length
      · have hd2 : s.drop (i + 1) = s[i + 1] :: s.drop (i + 2) := List.drop_eq_getElem_cons hl2
        have hc2 : Gk.cut s (i : Int) ((i + 2 : Nat) : Int) = some [s[i], s[i + 1]] := by
          unfold Gk.cut
          rw [if_pos (by omega)]
          congr 1
          rw [Int.toNat_natCast, Int.toNat_natCast, List.take_add_one, List.take_add_one]
          rw [hc, List.getElem?_eq_getElem hl2, List.append_assoc, List.drop_append_of_le_length (by rw [List.length_take]; omega)]
          rw [List.drop_eq_nil_of_le (by rw [List.length_take]; omega)]; rfl
        rw [decide_eq_false (show ¬ ((s.length : Int) ≤ ((i + 1 : Nat) : Int)) by omega), cd_f, letm_e, w2, hc2, bnd_s, letm_e, bnd_s]
        rw [hd, hd2, spl] at hsp
        have hbool : ([s[i], s[i + 1]] != [44, 32]) = !(s[i] == 44 && s[i + 1] == 32) := by
          show (!((s[i] == 44) && ((s[i + 1] == 32) && true))) = _
          rw [Bool.and_true]
        rw [hbool]
        cases hab : (s[i] == 44 && s[i + 1] == 32) with
        | true =>
          rw [hab, if_pos rfl] at hsp
          injection hsp with hp hr
          subst hp
          rw [Bool.not_true, cd_f, hcut, bnd_s, hpp, bnd_s, letm_e, e]
          cases pS ((s.take i).drop fr) with
          | none => rfl
          | some q =>
            obtain ⟨p', r', h'⟩ := spl_ne (s.drop (i + 2))
            rw [h'] at hr
            subst hr
            simp only [List.length_cons] at hol
            show bndS (cond (!true) _ _) _ _ = _
            rw [Bool.not_true, cd_f, app_some' (by simp; omega), bnd_s, letm_e, letm_e, bndS_r, letm_e, w3]
            have ih := ref_read_go s hs f (i + 2) (i + 2) (out ++ [q]) p' r' (Nat.le_refl _) (by omega) h' (by omega) (by simp; omega)
            rw [List.drop_eq_nil_of_le (show (s.take (i + 2)).length ≤ i + 2 by rw [List.length_take]; omega), List.nil_append] at ih
            exact ih
        | false =>
          rw [hab, if_neg (by simp)] at hsp
          obtain ⟨p', r', h'⟩ := spl_ne (s[i + 1] :: s.drop (i + 2))
          rw [h'] at hsp
          injection hsp with hp hr
          subst hp hr
          rw [Bool.not_false, cd_t, bndS_r, letm_e, w1]
          have ih := ref_read_go s hs f (i + 1) fr out p' r' (by omega) (by omega) (by rw [hd2]; exact h') (by omega) hol
          rw [seg_snoc hfr hc, List.append_assoc, List.singleton_append] at ih
          exact ih
      · have hn : s.drop (i + 1) = [] := List.drop_eq_nil_of_le (by omega)
        rw [hd, hn] at hsp
        injection hsp with hp hr
        subst hp hr
        rw [decide_eq_true (show ((s.length : Int) ≤ ((i + 1 : Nat) : Int)) by omega), cd_t, bnd_s, cd_t, bndS_r, letm_e, w1]
        have ih := ref_read_go s hs f (i + 1) fr out [] [] (by omega) (by omega) (by rw [hn]; rfl) (by omega) hol
        rw [seg_snoc hfr hc, List.append_nil] at ih
        exact ih
    · have hn : s.drop i = [] := List.drop_eq_nil_of_le (by omega)
      rw [hn] at hsp
      injection hsp with hp hr
      subst hp hr
      rw [letm_e, decide_eq_false (show ¬ ((i : Int) < (s.length : Int)) by omega), cd_f, bnd_s, cd_f, hcut, bnd_s, hpp, bnd_s, letm_e, e]
      cases pS ((s.take i).drop fr) with
      | none => rfl
      | some q =>
        show bndS (cond (!true) _ _) _ _ = _
        rw [Bool.not_true, cd_f, app_some' (by simp; omega), bnd_s, letm_e, letm_e, w1, w2, bndS_r, letm_e, w3]
        obtain ⟨f, rfl⟩ : ∃ g, f = g + 1 := ⟨f - 1, by omega⟩
        rw [loopF_succ, letm_e, decide_eq_false (show ¬ (((i + 2 : Nat) : Int) ≤ (s.length : Int)) by omega), cd_f, letm_e]
        show cond (decide (8 < ((out ++ [q]).length : Int))) _ _ = some (bif decide (8 < ((out ++ [q]).length : Int)) then ([], 8) else (out ++ [q], 0))
        cases decide (8 < ((out ++ [q]).length : Int)) <;> rfl
theorem ref_read {s : List UInt8} (h : s.length ≤ 1000000) : m_coresecref39_Parse s = some (rdS s) := by
  unfold m_coresecref39_Parse rdS
  rw [letm_e]
  cases hs : s == [] with
  | true => rfl
  | false =>
    rw [cd_f, cond_false]
    obtain ⟨p, r, hp⟩ := spl_ne s
    have hl := (spl_len s).1
    rw [hp, List.length_cons] at hl
    have := ref_read_go s h FUEL 0 0 [] p r (Nat.le_refl _) (by omega) hp (by rw [fuel_eq]; omega) (by simp; omega)
    rw [hp]
    exact this
end Go.Proofs.YtmnbkcpopfmpdaaDoor
