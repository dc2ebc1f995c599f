/-
  Options, plain facts: setting paths, by both texts (OptionPaths). Of the models alone; no program; no condition but the lengths told.
-/
import Derived.Test.YtllomdfckciedaaDoorQ64
namespace Go.Proofs.YtllomdfckciedaaDoor
open Go.Gk Go.RowKit
abbrev zM : S_api_Message := (0, (0, (0, ([], ([], [])))))
abbrev RS := ((List (List UInt8)) × (Int × S_api_Message))
def RF (a0 : S_api_Message) (a1 : List UInt8) (l : List (List UInt8)) : Option (S_api_Message × Int) :=
 (bnd (m_coresecref16_Set a0 11 l) fun x43 =>
 bnd (m_coresecref16_Path x43) fun x44 =>
 letm ((x44 != a1)) fun x45 =>
 cond x45 (some ((0, (0, (0, ([], ([], []))))), 17))
 (bnd (m_coresecref15_Valid x43) fun x46 =>
 letm ((!x46)) fun x47 =>
 cond x47 (some ((0, (0, (0, ([], ([], []))))), 8))
 (some (x43, 0))))
def RB (a0 : S_api_Message) (a1 : List UInt8) (self3 : RS → Option (S_api_Message × Int)) (s2 : RS) : Option (S_api_Message × Int) :=
 letm (decide (s2.2.1 < (a1.length : Int))) fun x4 =>
 cond x4 (bndS (ρ := (S_api_Message × Int)) (ρ' := (S_api_Message × Int)) (Y := ((List (List UInt8)) × (Int × S_api_Message))) (bnd (idx a1 s2.2.1) fun x5 =>
 letm (((UInt8.toNat x5 : Int) == (UInt8.toNat 47 : Int))) fun x6 =>
 cond x6 (bnd (app s2.1 [[]]) fun x7 =>
 some (.inr (x7, (s2.2.1, s2.2.2))))
 (letm (((s2.1.length : Int) == 0)) fun x8 =>
 cond x8 (some (.inl ((0, (0, (0, ([], ([], []))))), 17)))
 (bnd (β := Bool) (bnd (idx a1 s2.2.1) fun x9 =>
 letm (((UInt8.toNat x9 : Int) == (UInt8.toNat 37 : Int))) fun x10 =>
 cond x10 (letm ((w64 (s2.2.1 + 2))) fun x11 =>
 letm (decide (x11 < (a1.length : Int))) fun x12 =>
 some x12)
 (some false)) fun v13 =>
 cond v13 (letm ((w64 ((s2.1.length : Int) - 1))) fun x14 =>
 bnd (inAt s2.1.length x14) fun _ =>
 bnd (lastAt s2.1 ((x14 : Int)).toNat) fun x16 =>
 letm ((w64 (s2.2.1 + 1))) fun x17 =>
 bnd (idx a1 x17) fun x18 =>
 bnd (m_coresecref16_nibble x18) fun x19 =>
 bnd (shlK .u8 x19 (UInt64.toNat 4 : Int)) fun x20 =>
 letm ((w64 (s2.2.1 + 2))) fun x21 =>
 bnd (idx a1 x21) fun x22 =>
 bnd (m_coresecref16_nibble x22) fun x23 =>
 letm ((toU8 (bits .and .u8 (UInt8.toNat x23) (UInt8.toNat 15)))) fun x24 =>
 letm ((toU8 (bits .or .u8 (UInt8.toNat x20) (UInt8.toNat x24)))) fun x25 =>
 bnd (app x16 [x25]) fun x26 =>
 letm ((w64 ((s2.1.length : Int) - 1))) fun x27 =>
 bnd (inAt s2.1.length x27) fun _ =>
 bnd (lastAt s2.1 ((x27 : Int)).toNat) fun _ =>
 letm ((s2.1.dropLast ++ [x26])) fun x30 =>
 letm ((w64 (s2.2.1 + 2))) fun x31 =>
 some (.inr (x30, (x31, s2.2.2))))
 (letm ((w64 ((s2.1.length : Int) - 1))) fun x32 =>
 bnd (inAt s2.1.length x32) fun _ =>
 bnd (lastAt s2.1 ((x32 : Int)).toNat) fun x34 =>
 bnd (idx a1 s2.2.1) fun x35 =>
 bnd (app x34 [x35]) fun x36 =>
 letm ((w64 ((s2.1.length : Int) - 1))) fun x37 =>
 bnd (inAt s2.1.length x37) fun _ =>
 bnd (lastAt s2.1 ((x37 : Int)).toNat) fun _ =>
 letm ((s2.1.dropLast ++ [x36])) fun x40 =>
 some (.inr (x40, (s2.2.1, s2.2.2))))))) (fun q => q) fun v41 =>
 letm ((w64 (v41.2.1 + 1))) fun x42 =>
 self3 (v41.1, (x42, v41.2.2)))
 (RF a0 a1 s2.1)
theorem setPath_loop (a0 : S_api_Message) (a1 : List UInt8) : m_coresecref16_SetPath a0 a1 = loopF (RB a0 a1) FUEL ([], (0, zM)) := rfl
theorem eq8 (c d : UInt8) : ((UInt8.toNat c : Int) == (UInt8.toNat d : Int)) = decide (c = d) := by
  rw [Bool.eq_iff_iff, beq_iff_eq, decide_eq_true_iff, Int.natCast_inj, UInt8.toNat_inj]
theorem bnd_shl {α : Type} (c : UInt8) {k : kden .u8 → Option α} : bnd (shlK .u8 c (UInt64.toNat 4 : Int)) k = k (shl4 c) := rfl
theorem rset_go (m : S_api_Message) {a1 : List UInt8} (ha : a1.length ≤ 300000) : ∀ (n : Nat) (r p : List UInt8) (l : List (List UInt8)) (f : Nat), r.length ≤ n → r.length < f → a1 = p ++ r → (encP l).length ≤ 3 * p.length →
    loopF (RB m a1) f (l, ((p.length : Int), zM)) = match refL l r with | none => some (zM, 17) | some l' => RF m a1 l' := by
  intro n
  induction n with
  | zero =>
    intro r p l f hn hf hr _
    obtain ⟨f, rfl⟩ : ∃ g, f = g + 1 := ⟨f - 1, by omega⟩
    obtain rfl : r = [] := List.length_eq_zero_iff.1 (by omega)
    have d : decide ((p.length : Int) < (a1.length : Int)) = false := decide_eq_false (by rw [hr]; simp)
    rw [loopF_succ, refL_0]
    unfold RB
    simp only [letm_e, d, cd_f]
  | succ n ih =>
    intro r p l f hn hf hr hl
    obtain ⟨f, rfl⟩ : ∃ g, f = g + 1 := ⟨f - 1, by omega⟩
    cases r with
    | nil =>
      have d : decide ((p.length : Int) < (a1.length : Int)) = false := decide_eq_false (by rw [hr]; simp)
      rw [loopF_succ, refL_0]
      unfold RB
      simp only [letm_e, d, cd_f]
    | cons c r =>
      simp only [List.length_cons] at hn hf
      have hlen : a1.length = p.length + (r.length + 1) := by rw [hr]; simp
      have d : decide ((p.length : Int) < (a1.length : Int)) = true := decide_eq_true (by omega)
      have hi : idx a1 (p.length : Int) = some c := idx_some' (by rw [hr]; simp)
      obtain ⟨q1, q2⟩ := len_encP (l := l)
      rw [loopF_succ]
      generalize hself : loopF (RB m a1) f = self
      unfold RB
      simp only [letm_e, d, cd_t, hi, bnd_s, eq8]
      by_cases hc : c = 47
      · subst hc
        rw [decide_eq_true rfl, cd_t, app_some' (by rw [List.length_singleton]; omega), bnd_s]
        simp only [bndS_r]
        rw [refL_47, ← hself, w64_of (by omega) (by omega)]
        have := ih r (p ++ [47]) (l ++ [[]]) f (by omega) (by omega) (by rw [hr]; simp) (by rw [encP_snoc]; simp [encV]; omega)
        rw [show (p.length : Int) + 1 = ((p ++ [(47 : UInt8)]).length : Int) by simp]
        exact this
      · rw [decide_eq_false hc, cd_f]
        by_cases hne : l = []
        · subst hne
          rw [refL_n hc]; rfl
        · have hpos : 0 < l.length := List.length_pos_iff.2 hne
          have hz : ((l.length : Int) == 0) = false := by rw [beq_eq_false_iff_ne]; omega
          have hw : w64 ((l.length : Int) - 1) = ((l.length - 1 : Nat) : Int) := by rw [w64_of (by omega) (by omega)]; omega
          have hin : inAt l.length ((l.length - 1 : Nat) : Int) = some (l.length - 1) := by unfold inAt; rw [if_pos (by omega)]; simp
          have hla : lastAt l (l.length - 1) = some (l.getLastD []) := lastAt_some hne
          have hlast : (l.getLastD []).length ≤ (encP l).length := q2 _ (by
            rw [List.getLastD_eq_getLast?, List.getLast?_eq_some_getLast hne]; exact List.getLast_mem hne)
          have hplain : ∀ w : UInt8, l.dropLast ++ [l.getLastD [] ++ [w]] = addL l w := fun _ => rfl
          rw [hz, cd_f]
          by_cases h37 : c = 37
          · subst h37
            rw [decide_eq_true rfl, cd_t, w64_of (x := (p.length : Int) + 2) (by omega) (by omega), bnd_s]
            by_cases h2 : (p.length : Int) + 2 < (a1.length : Int)
            · match r, hn, hf, hr, hlen with
              | [], _, _, _, hlen => simp at hlen; omega
              | [x], _, _, _, hlen => simp at hlen; omega
              | x :: y :: r, hn, hf, hr, hlen =>
                simp only [List.length_cons] at hlen hn hf
                have hx : idx a1 (w64 ((p.length : Int) + 1)) = some x := by
                  rw [w64_of (by omega) (by omega), show (p.length : Int) + 1 = ((p.length + 1 : Nat) : Int) by omega]
                  exact idx_some' (by rw [hr]; simp)
                have hy : idx a1 ((p.length : Int) + 2) = some y := by
                  rw [show (p.length : Int) + 2 = ((p.length + 2 : Nat) : Int) by omega]
                  exact idx_some' (by rw [hr]; simp)
                have hxv : toU8 (bits .or .u8 (UInt8.toNat (shl4 (nib x))) (UInt8.toNat (toU8 (bits .and .u8 (UInt8.toNat (nib y)) (UInt8.toNat 15))))) = hxv x y := rfl
                rw [decide_eq_true h2, cd_t]
                simp only [hw, hin, bnd_s, Int.toNat_natCast, hla, hx, nib_eq, bnd_shl, hy, hxv]
                rw [app_some' (by rw [List.length_singleton]; omega), bnd_s]
                simp only [bndS_r, hplain]
                rw [refL_p hne, ← hself, w64_of (by omega) (by omega)]
                have := ih r (p ++ [37, x, y]) (addL l (Go.Proofs.YtllomdfckciedaaDoor.hxv x y)) f (by omega) (by omega) (by rw [hr]; simp) (by have := addL_len hne (Go.Proofs.YtllomdfckciedaaDoor.hxv x y); simp; omega)
                rw [show (p.length : Int) + 2 + 1 = ((p ++ [37, x, y]).length : Int) by simp; omega]
                exact this
            · rw [decide_eq_false h2, cd_f]
              simp only [hw, hin, bnd_s, Int.toNat_natCast, hla]
              rw [app_some' (by rw [List.length_singleton]; omega), bnd_s]
              simp only [bndS_r, hplain]
              rw [refL_s hne r (by omega), ← hself, w64_of (by omega) (by omega)]
              have := ih r (p ++ [37]) (addL l 37) f (by omega) (by omega) (by rw [hr]; simp) (by have := addL_len hne 37; simp; omega)
              rw [show (p.length : Int) + 1 = ((p ++ [(37 : UInt8)]).length : Int) by simp]
              exact this
          · rw [decide_eq_false h37, cd_f, bnd_s, cd_f]
            simp only [hw, hin, bnd_s, Int.toNat_natCast, hla]
            rw [app_some' (by rw [List.length_singleton]; omega), bnd_s]
            simp only [bndS_r, hplain]
            rw [refL_c hc h37 hne, ← hself, w64_of (by omega) (by omega)]
            have := ih r (p ++ [c]) (addL l c) f (by omega) (by omega) (by rw [hr]; simp) (by have := addL_len hne c; simp; omega)
            rw [show (p.length : Int) + 1 = ((p ++ [c]).length : Int) by simp]
            exact this
theorem refL_len : ∀ (n : Nat) (r : List UInt8) (l l' : List (List UInt8)), r.length ≤ n → refL l r = some l' → (encP l').length ≤ (encP l).length + 3 * r.length := by
  intro n
  induction n with
  | zero =>
    intro r l l' hn h
    obtain rfl : r = [] := List.length_eq_zero_iff.1 (by omega)
    rw [refL_0] at h; cases h; omega
  | succ n ih =>
    intro r l l' hn h
    cases r with
    | nil => rw [refL_0] at h; cases h; omega
    | cons c r =>
      simp only [List.length_cons] at hn ⊢
      by_cases hc : c = 47
      · subst hc
        rw [refL_47] at h
        have := ih r _ _ (by omega) h
        rw [encP_snoc] at this
        simp [encV] at this; omega
      · by_cases hne : l = []
        · subst hne; rw [refL_n hc] at h; cases h
        · by_cases h37 : c = 37
          · subst h37
            match r, hn, h with
            | x :: y :: r, hn, h =>
              rw [refL_p hne] at h
              simp only [List.length_cons] at hn ⊢
              have := ih r _ _ (by omega) h
              have := addL_len hne (hxv x y)
              omega
            | [], hn, h =>
              rw [refL_s hne _ (by simp)] at h
              have := ih _ _ _ (by omega) h
              have := addL_len hne 37
              omega
            | [x], hn, h =>
              rw [refL_s hne _ (by simp)] at h
              have := ih _ _ _ (by omega) h
              have := addL_len hne 37
              omega
          · rw [refL_c hc h37 hne] at h
            have := ih _ _ _ (by omega) h
            have := addL_len hne c
            omega
/-- Both texts set a path alike. -/
theorem setPath_both {m : S_api_Message} (hm : LenM m) (ho : m.2.2.2.2.1.length ≤ 400000) {s : List UInt8} (hs : s.length ≤ 100000) : ∃ r, m_option_SetPath m s = some r ∧ m_coresecref16_SetPath m s = some r := by
  have h1 : m_coresecref16_SetPath m s = match refL [] s with | none => some (zM, 17) | some l' => RF m s l' := by
    rw [setPath_loop]
    exact rset_go m (by omega) s.length s [] [] FUEL (Nat.le_refl _) (by rw [fuel_eq]; omega) rfl (by simp [encP])
  have h2 : m_option_SetPath m s = match segsS s with | none => some (zM, 17) | some l => bnd (m_option_Set m 11 l) fun x4 => bnd (m_coap_Valid x4) fun x5 => letm ((!x5)) fun x6 => cond x6 (some ((0, (0, (0, ([], ([], []))))), 8)) (some (x4, 0)) := by
    unfold m_option_SetPath
    rw [segments_eq (by omega), bnd_s, letm_e]
    cases segsS s <;> rfl
  rw [h1, h2, refL_segs]
  cases hr : refL [] s with
  | none => exact ⟨_, rfl, rfl⟩
  | some l =>
    have hb := refL_len s.length s [] l (Nat.le_refl _) hr
    have hb : (encP l).length ≤ 300000 := by simp [encP] at hb ⊢; omega
    obtain ⟨q1, q2⟩ := len_encP (l := l)
    have hv : ∀ v ∈ l, v.length ≤ 1000000 := fun v hv => by have := q2 v hv; omega
    have e1 := set_eq (n := 11) (vs := l) hm ho (by omega) hv
    have e2 := set_ref (n := 11) (vs := l) hm ho (by omega) hv
    have eall : allS (withO m (setO m.2.2.2.2.1 11 l)).2.2.2.2.1 11 = l := allS_set_same m.2.2.2.2.1 11 l
    have hlo : LenO (withO m (setO m.2.2.2.2.1 11 l)).2.2.2.2.1 := LenO.set ho hm.2.1.2 (by omega) hv
    have e3 : m_coresecref16_Path (withO m (setO m.2.2.2.2.1 11 l)) = some (encP l) := by
      rw [refPath_eq hlo (by rw [eall]; omega), eall]
    simp only
    unfold RF
    rw [e2, bnd_s, e3, bnd_s, letm_e, ref_valid_eq]
    by_cases he : encP l = s
    · rw [if_pos he, he, bne_self_eq_false, cd_f]
      simp only [e1, bnd_s, coap_valid_eq]
      cases valM (withO m (setO m.2.2.2.2.1 11 l)) <;> exact ⟨_, rfl, rfl⟩
    · have : (encP l != s) = true := by rw [bne_iff_ne]; exact he
      rw [if_neg he, this, cd_t]
      exact ⟨_, rfl, rfl⟩
end Go.Proofs.YtllomdfckciedaaDoor
