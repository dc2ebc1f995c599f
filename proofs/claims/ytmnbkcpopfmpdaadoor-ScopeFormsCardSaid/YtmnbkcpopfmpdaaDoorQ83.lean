/-
  Scopes: what is within what, and what is permitted (ScopeOrder). Of the models alone; no program; no condition but the ranges told.
-/
import Derived.Test.YtmnbkcpopfmpdaaDoorQ82
namespace Go.Proofs.YtmnbkcpopfmpdaaDoor
open Go.Gk Go.RowKit
theorem loopL_ex {R S α : Type} {bn : Nat → S → Option R} {bs : α → Nat → S → (S → Option R) → Option R} (J : S → Prop) (g : S → Option R) (hn : ∀ k s, J s → bn k s = g s) : ∀ (xs : List α) (k : Nat) (s : S), J s → (∀ x, x ∈ xs → ∀ k s self, J s → ∃ s', bs x k s self = self s' ∧ J s') → ∃ s', J s' ∧ loopL bn bs xs k s = g s'
  | [], k, s, hj, _ => ⟨s, hj, hn k s hj⟩
  | x :: xs, k, s, hj, h => by
    obtain ⟨s', h1, h2⟩ := h x (by simp) k s (loopL bn bs xs (k + 1)) hj
    obtain ⟨s'', h3, h4⟩ := loopL_ex J g hn xs (k + 1) s' h2 fun y hy => h y (by simp [hy])
    exact ⟨s'', h3, by rw [loopL_cons, h1, h4]⟩
theorem eqS_permit (x y : S_api_Permit) : eqS (.pr .str (.pr .bool (.int .i64))) x y = decide (x = y) := by
  obtain ⟨x1, x2, x3⟩ := x
  obtain ⟨y1, y2, y3⟩ := y
  show ((x1 == y1) && ((x2 == y2) && (x3 == y3))) = _
  rw [Bool.eq_iff_iff]
  simp only [Bool.and_eq_true, beq_iff_eq, decide_eq_true_eq, Prod.mk.injEq]
theorem same_eq {a b : List S_api_Permit} (ha : a.length ≤ 1000000) : m_coresecref39_Same a b = some (decide (a = b)) := by
  unfold m_coresecref39_Same
  rw [letm_e]
  by_cases hl : a.length = b.length
  · have hne : (((a.length : Int)) != (b.length : Int)) = false := by rw [hl, bne_self_eq_false]
    rw [hne, cd_f, rng_n ha, bnd_s]
    have key : ∀ (n k : Nat), k + n = a.length → a.take k = b.take k → loopN (R := Bool) (S := Unit) (fun k3 s4 => some true) (fun k5 s6 self7 => bnd (idx a (k5 : Int)) fun x8 => bnd (idx b (k5 : Int)) fun x9 => letm ((!(eqS (.pr .str (.pr .bool (.int .i64))) x8 x9))) fun x10 => cond x10 (some false) (self7 ())) n k () = some (decide (a = b)) := by
      intro n
      induction n with
      | zero =>
        intro k hk ht
        have h1 : a.take k = a := List.take_of_length_le (by omega)
        have h2 : b.take k = b := List.take_of_length_le (by omega)
        rw [h1, h2] at ht
        rw [loopN_zero, ht]; simp
      | succ n ih =>
        intro k hk ht
        have hka : k < a.length := by omega
        have hkb : k < b.length := by omega
        rw [loopN_succ, idx_some' (List.getElem?_eq_getElem hka), bnd_s, idx_some' (List.getElem?_eq_getElem hkb), bnd_s, letm_e, eqS_permit]
        by_cases he : a[k] = b[k]
        · rw [decide_eq_true he, Bool.not_true, cd_f]
          exact ih (k + 1) (by omega) (by rw [List.take_succ_eq_append_getElem hka, List.take_succ_eq_append_getElem hkb, ht, he])
        · rw [decide_eq_false he, Bool.not_false, cd_t, decide_eq_false fun h => he (by subst h; rfl)]
    exact key a.length 0 (by omega) (by simp)
  · have hne : (((a.length : Int)) != (b.length : Int)) = true := by rw [bne_iff_ne]; omega
    rw [hne, cd_t, decide_eq_false fun h => hl (by rw [h])]
theorem normal_eq {l : List S_api_Permit} (h : validS l = true) : ∃ r, m_scope_Normal l = some r ∧ NF l r := by
  obtain ⟨r, h1, h2⟩ := normal_nf (validS_gd h) (by have := (validS_mem h).1; omega)
  refine ⟨r, ?_, h2⟩
  unfold m_scope_Normal
  rw [valid39, bnd_s, letm_e, h, Bool.not_true, cd_f, h1, bnd_s]
theorem perm_iff {l : List S_api_Permit} {p : List UInt8} {c : Int} (h : validS l = true) (hc : Cr c) : permS l p c = true ↔ ∃ k, hasP l k c ∧ covK k p = true := by
  unfold permS
  rw [h, decide_eq_true hc.1, decide_eq_true hc.2, Bool.and_self, Bool.and_self, Bool.true_and, List.any_eq_true]
  constructor
  · rintro ⟨q, hq, h2⟩
    rw [Bool.and_eq_true] at h2
    exact ⟨ky q, ⟨q, hq, rfl, h2.1⟩, h2.2⟩
  · rintro ⟨k, ⟨q, hq, rfl, hb⟩, hcv⟩
    refine ⟨q, hq, ?_⟩
    rw [hb]; exact hcv
theorem with_perm {a b : List S_api_Permit} {p : List UInt8} {c : Int} (ha : validS a = true) (hb : validS b = true) (hc : Cr c) (h : withS a b = true) (hp : permS a p c = true) : permS b p c = true := by
  obtain ⟨k, h1, h2⟩ := (perm_iff ha hc).1 hp
  obtain ⟨k', h3, h4⟩ := (with_iff ha hb).1 h k c hc h1
  exact (perm_iff hb hc).2 ⟨k', h4, incK_cov h3 h2⟩
theorem with_refl {a : List S_api_Permit} (ha : validS a = true) : withS a a = true := (with_iff ha ha).2 fun k _ _ h => ⟨k, incK_refl k, h⟩
theorem with_trans {a b c : List S_api_Permit} (ha : validS a = true) (hb : validS b = true) (hc : validS c = true) (h : withS a b = true) (h2 : withS b c = true) : withS a c = true := (with_iff ha hc).2 fun k d hd hk => by
  obtain ⟨k', h3, h4⟩ := (with_iff ha hb).1 h k d hd hk
  obtain ⟨k2, h5, h6⟩ := (with_iff hb hc).1 h2 k' d hd h4
  exact ⟨k2, incK_trans h5 h3, h6⟩
theorem with_nf {a b ra rb : List S_api_Permit} (ha : validS a = true) (hb : validS b = true) (na : NF a ra) (nb : NF b rb) (h : withS a b = true) : withS b a = decide (ra = rb) := by
  rw [Bool.eq_iff_iff, decide_eq_true_eq]
  constructor
  · intro h2
    have one : ∀ {x y : List S_api_Permit}, validS x = true → validS y = true → withS x y = true → withS y x = true → ∀ k c, Cr c → (hasP x k c ∧ ¬ ∃ k', k' ≠ k ∧ incK k' k = true ∧ hasP x k' c) → hasP y k c ∧ ¬ ∃ k', k' ≠ k ∧ incK k' k = true ∧ hasP y k' c := fun {x y} hx hy hxy hyx k c hc ⟨h3, h4⟩ => by
      have back : ∀ k1, incK k1 k = true → hasP y k1 c → k1 = k := fun k1 e1 e2 => by
        obtain ⟨k2, e3, e4⟩ := (with_iff hy hx).1 hyx k1 c hc e2
        by_cases e5 : k2 = k
        · subst e5; exact incK_anti e1 e3
        · exact absurd ⟨k2, e5, incK_trans e3 e1, e4⟩ h4
      obtain ⟨k', h5, h6⟩ := (with_iff hx hy).1 hxy k c hc h3
      have := back k' h5 h6
      subst this
      exact ⟨h6, fun ⟨k1, e1, e2, e3⟩ => e1 (back k1 e2 e3)⟩
    refine srt_eq na.srt nb.srt na.mr nb.mr fun k c hc => ?_
    rw [na.has k c hc, nb.has k c hc]
    exact ⟨one ha hb h h2 k c hc, one hb ha h2 h k c hc⟩
  · intro he
    refine (with_iff hb ha).2 fun k c hc hk => ?_
    obtain ⟨k', h1, h2⟩ := nb.up hc hk
    rw [← he] at h2
    exact ⟨k', h1, na.sub hc h2⟩
theorem valid_of {l : List S_api_Permit} (h : l.length ≤ 4) (hf : ∀ p ∈ l, fineS p = true) : validS l = true := by
  unfold validS
  rw [decide_eq_true (by omega), Bool.true_and]
  exact List.all_eq_true.2 hf
theorem order_in {a b : List S_api_Permit} {ab : Bool} {p : List UInt8} (hab : ∀ c, Cr c → ab = true → permS a p c = true → permS b p c = true) : ∀ (n f : Nat) (s : Bool) (c : Int), c = 8 - (n : Int) → n ≤ 7 → n < f → (ab = true → s = false) → ∃ s', (ab = true → s' = false) ∧ loopF (R := ((Bool ⊕ Bool) ⊕ Bool)) (S := (Bool × Int)) (fun self40 s39 =>
    letm (decide (s39.2 ≤ 7)) fun x41 =>
    cond x41 (bnd (m_scope_Permits a p s39.2) fun x42 =>
    bnd (m_scope_Permits b p s39.2) fun x43 =>
    bnd (β := Bool) (cond ab (cond x42 (letm ((!x43)) fun x44 => some x44) (some false)) (some false)) fun v45 =>
    cond v45 (some (.inl (.inl false)))
     (cond s39.1 (letm ((w64 (s39.2 + 1))) fun x46 => self40 (true, x46))
     (cond x42 (letm ((!x43)) fun x47 =>
    letm ((w64 (s39.2 + 1))) fun x48 => self40 (x47, x48))
     (letm ((w64 (s39.2 + 1))) fun x49 => self40 (false, x49)))))
     (some (.inr s39.1))) f (s, c) = some (.inr s')
  | 0, f + 1, s, c, hc, _, _, hs => ⟨s, hs, by rw [loopF_succ, letm_e, decide_eq_false (by omega), cd_f]⟩
  | n + 1, f + 1, s, c, hc, hn, hf, hs => by
    have hcr : Cr c := ⟨by omega, by omega⟩
    rw [loopF_succ, letm_e, decide_eq_true (by omega : c ≤ 7), cd_t]
    simp only [permits_eq, bnd_s, letm_e]
    rw [w64_of (by omega) (by omega)]
    have next := fun s hs => order_in (a := a) (b := b) (ab := ab) (p := p) hab n f s (c + 1) (by omega) (by omega) (by omega) hs
    simp only [permits_eq, bnd_s, letm_e] at next
    have hab' := hab c hcr
    cases ab with
    | true =>
      have hs := hs rfl
      subst hs
      cases hx : permS a p c with
      | true =>
        rw [hab' rfl hx]
        exact next false fun _ => rfl
      | false => exact next false fun _ => rfl
    | false =>
      cases s with
      | true => exact next true fun h => by cases h
      | false =>
        cases permS a p c with
        | true => exact next _ fun h => by cases h
        | false => exact next false fun h => by cases h
theorem ScopeOrder_true (a0 a1 a2 : List Int) (a3 : List UInt8) (h0 : a0.length ≤ maxLen) (h1 : a1.length ≤ maxLen) (h2 : a2.length ≤ maxLen) : m_coreseclaw39_ScopeOrder a0 a1 a2 a3 = some true := by
  unfold m_coreseclaw39_ScopeOrder
  rw [letm_e, awake39]
  cases decide (300 < (a3.length : Int)) with
  | true => rfl
  | false =>
    rw [cd_f]
    obtain ⟨a, _, ea, la, fa, _⟩ := scope_some (new_ok h0)
    obtain ⟨b, _, eb, lb, fb, _⟩ := scope_some (new_ok h1)
    obtain ⟨c, _, ec, lc, fc, _⟩ := scope_some (new_ok h2)
    have va := valid_of la fa
    have vb := valid_of lb fb
    have vc := valid_of lc fc
    have e0 : m_coresecmake_New a0 = some (a0, 0) := rfl
    have e1 : m_coresecmake_New a1 = some (a1, 0) := rfl
    have e2 : m_coresecmake_New a2 = some (a2, 0) := rfl
    obtain ⟨ra, na, nfa⟩ := normal_eq va
    obtain ⟨rb, nb, nfb⟩ := normal_eq vb
    have hra : ra.length ≤ 1000000 := by have := nfa.len; omega
    simp only [e0, e1, e2, ea, eb, ec, bnd_s, within_eq, na, nb, same_eq hra, with_refl va, letm_e, Bool.not_true, cd_f]
    have hguard : (cond (withS a b) (cond (withS b c) (cond (!withS a c) (some true) (cond (withS a b) (some (withS b a != decide (ra = rb))) (some false))) (cond (withS a b) (some (withS b a != decide (ra = rb))) (some false))) (cond (withS a b) (some (withS b a != decide (ra = rb))) (some false)) : Option Bool) = some false := by
      cases hab : withS a b with
      | false => rfl
      | true =>
        rw [← with_nf va vb nfa nfb hab, bne_self_eq_false]
        cases hbc : withS b c with
        | false => rfl
        | true => rw [with_trans va vb vc hab hbc]; rfl
    rw [hguard, bnd_s, cd_f]
    unfold m_coreseclaw39_paths
    rw [bnd_s]
    obtain ⟨s', j1, j2⟩ := loopL_ex (R := Bool ⊕ Bool) (fun s => withS a b = true → s = false) (fun s => some (.inr s)) (bn := fun _ s34 => some (.inr s34)) (bs := fun x35 _ s37 self38 =>
      bndS (ρ := (Bool ⊕ Bool)) (ρ' := (Bool ⊕ Bool)) (Y := Bool) (loopF (R := ((Bool ⊕ Bool) ⊕ Bool)) (S := (Bool × Int)) (fun self40 s39 =>
      letm (decide (s39.2 ≤ 7)) fun x41 =>
      cond x41 (bnd (m_scope_Permits a x35 s39.2) fun x42 =>
      bnd (m_scope_Permits b x35 s39.2) fun x43 =>
      bnd (β := Bool) (cond (withS a b) (cond x42 (letm ((!x43)) fun x44 => some x44) (some false)) (some false)) fun v45 =>
      cond v45 (some (.inl (.inl false)))
       (cond s39.1 (letm ((w64 (s39.2 + 1))) fun x46 => self40 (true, x46))
       (cond x42 (letm ((!x43)) fun x47 =>
      letm ((w64 (s39.2 + 1))) fun x48 => self40 (x47, x48))
       (letm ((w64 (s39.2 + 1))) fun x49 => self40 (false, x49)))))
       (some (.inr s39.1))) FUEL (s37, 1)) (fun q => q) fun v50 => self38 v50) (fun _ _ _ => rfl) [[], [47], [47, 97], [47, 98], [47, 97, 47, 98], [47, 97, 47, 98, 47, 99], [47, 97, 47, 98, 47, 99, 47, 100], [47, 97, 98], [47, 97, 47], [47, 97, 47, 47], [47, 47], [47, 98, 47, 97], [47, 98, 47, 97, 47, 120], [97], [47, 122, 122], a3] 0 false (fun _ => rfl) fun x _ k s self hj => by
        obtain ⟨s', i1, i2⟩ := order_in (a := a) (b := b) (ab := withS a b) (p := x) (fun c hc h hp => with_perm va vb hc h hp) 7 FUEL s 1 (by omega) (by omega) (by rw [fuel_eq]; omega) hj
        exact ⟨s', by rw [i2]; rfl, i1⟩
    simp only [letm_e, permits_eq, bnd_s] at j2 ⊢
    rw [j2]
    show bnd (cond (!s') (some true) (some (!withS a b))) _ = _
    cases hab : withS a b with
    | false => cases s' <;> rfl
    | true => rw [j1 hab]; rfl
end Go.Proofs.YtmnbkcpopfmpdaaDoor
