/-
  Caches, plain facts: the history law CacheFresh. Of the models alone; no program; no condition but the length told.
-/
import Derived.Test.YtdiidghfmpobaaaQ24
namespace Go.Proofs.Ytdiidghfmpobaaa
open Go.Gk Go.RowKit
abbrev FSx := ((List (UInt8 × S_coreseclaw20_entry)) × ((List S_api_Cached) × (Int × S_coresecmake_Deck)))
abbrev FY := ((List (UInt8 × S_coreseclaw20_entry)) × ((List S_api_Cached) × S_coresecmake_Deck))
def FMid (self6 : FSx → Option (Bool ⊕ Unit)) (f : List (UInt8 × S_coreseclaw20_entry)) (c : List S_api_Cached) (x9 : Int) (x11 : UInt8) (d : S_coresecmake_Deck) : Option ((Bool ⊕ Unit) ⊕ FY) :=
 bnd (m_coresecmake_Deck_Next d 4) fun x12 =>
 bnd (β := Bool) (letm ((x12.1 == 0)) fun x13 =>
 cond x13 (some true)
  (letm ((x12.1 == 1)) fun x14 =>
 some x14)) fun v15 =>
 cond v15 (bnd (m_coresecmake_Deck_Response x12.2) fun x16 =>
 bnd (m_cache_Insert c [x11] x16.1 x9) fun x17 =>
 letm ((x17.2 == 0)) fun x18 =>
 bnd (m_cache_Storable x16.1) fun x19 =>
 letm ((x18 != x19)) fun x20 =>
 cond x20 (some (.inl (.inl false)))
  (letm ((x17.2 == 0)) fun x21 =>
 cond x21 (bnd (m_cache_MaxAge x16.1) fun x22 =>
 letm ((mset f x11 (x16.1, (x9, x22)))) fun x23 =>
 some (.inr (x23, (x17.1, x16.2))))
  (some (.inr (f, (c, x16.2))))))
  (letm ((x12.1 == 2)) fun x24 =>
 cond x24 (bnd (m_coresecmake_Deck_Response x12.2) fun x25 =>
 bnd (m_cache_Refresh c [x11] (x25.1.1, (67, x25.1.2.2)) x9) fun x26 =>
 letm ((x26.2 == 0)) fun x27 =>
 cond x27 (letm ((mgetD ((0, (0, (0, ([], ([], []))))), (0, 0)) f x11)) fun x28 =>
 bnd (m_cache_MaxAge (x25.1.1, (67, x25.1.2.2))) fun x29 =>
 letm ((mset f x11 (x28.1, (x9, x29)))) fun x30 =>
 some (.inr (x30, (x26.1, x25.2))))
  (some (.inr (f, (c, x25.2)))))
  (bnd (m_cache_Lookup c [x11] x9) fun x31 =>
 letm ((!x31.2)) fun x32 =>
 cond x32 (bnd (self6 (f, (c, (x9, x12.2)))) fun r => some (.inl r))
  (letm ((mgetD ((0, (0, (0, ([], ([], []))))), (0, 0)) f x11)) fun x33 =>
 letm ((mhas f x11)) fun x34 =>
 bnd (m_cache_MaxAge x31.1) fun x35 =>
 bnd (β := Bool) (letm ((!x34)) fun x36 =>
 cond x36 (some true)
  (letm ((w64 (x33.2.1 + x33.2.2))) fun x37 =>
 letm (decide (x37 ≤ x9)) fun x38 =>
 cond x38 (some true)
  (letm ((w64 (x33.2.1 + x33.2.2))) fun x39 =>
 letm ((w64 (x39 - x9))) fun x40 =>
 letm ((x35 != x40)) fun x41 =>
 cond x41 (some true)
  (letm ((x31.1.2.2.2.2.2 != x33.1.2.2.2.2.2)) fun x42 =>
 cond x42 (some true)
  (letm ((x31.1.2.1 != x33.1.2.1)) fun x43 =>
 some x43))))) fun v44 =>
 cond v44 (some (.inl (.inl false)))
  (some (.inr (f, (c, x12.2)))))))
def FPost (self6 : FSx → Option (Bool ⊕ Unit)) (x9 : Int) (v45 : FY) : Option (Bool ⊕ Unit) :=
 bnd (β := Bool) (letm (decide (16 < (v45.2.1.length : Int))) fun x46 =>
 cond x46 (some true)
  (bnd (m_cache_Valid v45.2.1) fun x47 =>
 letm ((!x47)) fun x48 =>
 some x48)) fun v49 =>
 cond v49 (some (.inl false))
  (self6 (v45.1, (v45.2.1, (x9, v45.2.2))))
def FB (self6 : FSx → Option (Bool ⊕ Unit)) (s5 : FSx) : Option (Bool ⊕ Unit) :=
 bnd (m_coresecmake_Deck_Left s5.2.2.2) fun x7 =>
 cond x7.1 (bnd (m_coresecmake_Deck_Next x7.2 15) fun x8 =>
 letm ((w64 (s5.2.2.1 + x8.1))) fun x9 =>
 bnd (m_coresecmake_Deck_Next x8.2 20) fun x10 =>
 letm ((toU8 x10.1)) fun x11 =>
 bndS (ρ := (Bool ⊕ Unit)) (ρ' := (Bool ⊕ Unit)) (Y := FY) (FMid self6 s5.1 s5.2.1 x9 x11 x10.2) (fun q => q) fun v45 => FPost self6 x9 v45)
  (some (.inr ()))
theorem fresh_loop (a0 : List Int) : m_coreseclaw20_CacheFresh a0 = (bnd (m_coresecmake_Few a0) fun x1 => letm ((!x1)) fun x2 => cond x2 (bnd (m_coreseclaw20_awake) fun x3 => some x3)
  (bnd (m_coresecmake_New a0) fun x4 => bndS (ρ := Bool) (ρ' := Bool) (Y := Unit) (loopF FB FUEL ([], ([], (0, x4)))) (fun q => q) fun _ => bnd (m_coreseclaw20_awake) fun x51 => some x51)) := rfl
theorem key1 (k : UInt8) : keyB [k] = true := rfl
theorem post_eq (self : FSx → Option (Bool ⊕ Unit)) (t : Int) {v : FY} (h : ValC v.2.1) : FPost self t v = self (v.1, (v.2.1, (t, v.2.2))) := by
  unfold FPost
  have := h.len
  rw [letm_e, decide_eq_false (by omega), cd_f, cvalid_eq, validC_iff.2 h]
  rfl
theorem set_valid {c : List S_api_Cached} (h : ValC c) {i : Nat} {x y : S_api_Cached} (hx : c[i]? = some x) (hk : y.1 = x.1) (he : elemB y = true) : ValC (c.set i y) := by
  refine ⟨by rw [List.length_set]; exact h.len, fun z hz => ?_, ?_⟩
  · rcases List.mem_or_eq_of_mem_set hz with hz | rfl
    · exact h.el z hz
    · exact he
  · have : (c.set i y).map (·.1) = c.map (·.1) := by
      rw [List.map_set, hk]
      obtain ⟨hi, e⟩ := List.getElem?_eq_some_iff.1 hx
      apply List.ext_getElem (by simp)
      intro j h1 h2
      rw [List.getElem_set]
      split
      · rename_i hj; subst hj; simp [e]
      · rfl
    rw [this]; exact h.nd
theorem fresh_mid (self : FSx → Option (Bool ⊕ Unit)) {f : List (UInt8 × S_coreseclaw20_entry)} {c : List S_api_Cached} {t : Int} {L0 : List Int} {p0 : Int} {d : S_coresecmake_Deck} (H : Hist c f t) (h0 : 0 ≤ t) (h1 : t ≤ 1000000) (hd : DeckP L0 p0 d) (k : UInt8) :
    (∃ f' c' d', FMid self f c t k d = some (.inr (f', (c', d'))) ∧ Hist c' f' t ∧ DeckP L0 p0 d') ∨ (∃ d', FMid self f c t k d = (bnd (self (f, (c, (t, d')))) fun r => some (.inl r)) ∧ DeckP L0 p0 d') := by
  unfold FMid
  obtain ⟨v, d1, e1, l1, u1, hd1⟩ := next_someP hd (n := 4) (by omega) (by omega)
  have e15 : (letm (v == 0) fun x13 => cond x13 (some true) (letm (v == 1) fun x14 => some x14)) = some ((v == 0) || (v == 1)) := by
    cases v == 0 <;> rfl
  simp only [e1, bnd_s, e15]
  cases (v == 0) || (v == 1) with
  | true =>
    left
    obtain ⟨m, d2, e2, hd2, hz⟩ := response_someP hd1
    rw [cd_t, e2, bnd_s]
    simp only [(insert_eq c [k] m t).1, stor_eq, bnd_s, letm_e]
    unfold insS
    rw [validC_iff.2 H.val, key1, decide_eq_false (show ¬ t < 0 by omega), decide_eq_false (show ¬ 1073741824 < t by omega)]
    cases hs : storB m with
    | false => exact ⟨f, c, d2, rfl, H, hd2⟩
    | true =>
      simp only [Bool.not_false, Bool.and_true, cond_true, age_eq (hz.len (by omega)).2.1, bnd_s, letm_e]
      refine ⟨_, _, d2, rfl, ?_, hd2⟩
      exact Hist.put (n := newE [k] m t) (m := m) H (outS_valid H.val (newE_ok (key1 k) hs h0)) outS_mem.1 outS_mem.2 rfl ⟨Int.le_refl _, ageS_le m⟩ rfl rfl
  | false =>
    rw [cd_f, letm_e]
    cases v == 2 with
    | true =>
      left
      obtain ⟨m, d2, e2, hd2, hz⟩ := response_someP hd1
      rw [cd_t, e2, bnd_s]
      obtain ⟨r, er, hr⟩ := refresh_cases H.val (key1 k) (m := (m.1, (67, m.2.2))) h0 (show t ≤ 1073741824 by omega)
      simp only [er, bnd_s, letm_e]
      rcases hr with hr | ⟨i, x, hi, hx, rfl⟩
      · rw [hr, cd_f]
        exact ⟨f, c, d2, rfl, H, hd2⟩
      · have hm := List.mem_of_getElem? hi
        obtain ⟨m0, hf, hp, hc⟩ := H.said x hm k hx
        have hg : mgetD ((0, (0, (0, ([], ([], []))))), (0, 0)) f k = (m0, (x.2.2.1, x.2.2.2)) := by unfold mgetD; rw [hf]
        have ha : m_cache_MaxAge (m.1, (67, m.2.2)) = some (ageS (m.1, (67, m.2.2))) := age_eq (hz.len (by omega)).2.1
        simp only [hg, ha, bnd_s]
        refine ⟨_, _, d2, rfl, ?_, hd2⟩
        have he := elemB_iff.1 (H.val.el x hm)
        have hj := (List.getElem?_eq_some_iff.1 hi).1
        refine Hist.put (n := (x.1, (x.2.1, (t, ageS (m.1, (67, m.2.2)))))) (m := m0) H (set_valid H.val hi rfl (elemB_iff.2 ⟨he.key, h0, ageS_nn _, he.val, he.ty, he.id, he.tok, he.resp⟩)) (List.mem_set hj _) (fun y hy => (List.mem_or_eq_of_mem_set hy).symm) hx ⟨Int.le_refl _, ageS_le _⟩ hp hc
    | false =>
      rw [cd_f]
      obtain ⟨r, er, hr⟩ := lookup_cases H.val [k] (fun x hx => (H.bd x hx).2) h0 (show t ≤ 1073741824 by omega)
      rw [er, bnd_s, letm_e]
      rcases hr with hr | ⟨x, hm, hx, hr, ht, hq, hl, ha, hp, hc⟩
      · right
        rw [hr]
        exact ⟨d1, rfl, hd1⟩
      · left
        obtain ⟨m0, hf, hp0, hc0⟩ := H.said x hm k hx
        have hg : mgetD ((0, (0, (0, ([], ([], []))))), (0, 0)) f k = (m0, (x.2.2.1, x.2.2.2)) := by unfold mgetD; rw [hf]
        have hh : mhas f k = true := by unfold mhas; rw [hf]
        have he := elemB_iff.1 (H.val.el x hm)
        have := he.at0
        have := (H.bd x hm).2
        have e1 : (r.1.2.2.2.2.2 != m0.2.2.2.2.2) = false := by rw [hp, hp0]; exact bne_self_eq_false _
        have e2 : (r.1.2.1 != m0.2.1) = false := by rw [hc, hc0]; exact bne_self_eq_false _
        have e3 : (ageS r.1 != (x.2.2.1 + x.2.2.2 - t)) = false := by rw [ha, show x.2.2.2 - (t - x.2.2.1) = x.2.2.1 + x.2.2.2 - t by omega]; exact bne_self_eq_false _
        simp only [hr, hg, hh, age_eq hl, bnd_s, letm_e, Bool.not_true, cd_f, w64_of (x := x.2.2.1 + x.2.2.2) (by omega) (by omega), w64_of (x := x.2.2.1 + x.2.2.2 - t) (by omega) (by omega), decide_eq_false (show ¬ x.2.2.1 + x.2.2.2 ≤ t by omega), e1, e2, e3]
        exact ⟨f, c, d1, rfl, H, hd1⟩
theorem fresh_go (L0 : List Int) : ∀ (n f : Nat) (fm : List (UInt8 × S_coreseclaw20_entry)) (c : List S_api_Cached) (t : Int) (d : S_coresecmake_Deck), n < f → DeckOK d → d.1 = L0 → (L0.length : Int) - d.2 ≤ (n : Int) → 0 ≤ t → t + 15 * ((L0.length : Int) - d.2) ≤ 1000000 → Hist c fm t → loopF FB f (fm, (c, (t, d))) = some (.inr ()) := by
  intro n
  induction n with
  | zero =>
    intro f fm c t d hf hd hL hn h0 h1 H
    obtain ⟨f, rfl⟩ : ∃ g, f = g + 1 := ⟨f - 1, by omega⟩
    rw [loopF_succ]
    unfold FB m_coresecmake_Deck_Left
    have e : decide (d.2 < (d.1.length : Int)) = false := decide_eq_false (by rw [hL]; omega)
    simp only [letm_e, e, bnd_s, cd_f]
  | succ n ih =>
    intro f fm c t d hf hd hL hn h0 h1 H
    obtain ⟨f, rfl⟩ : ∃ g, f = g + 1 := ⟨f - 1, by omega⟩
    rw [loopF_succ]
    generalize hs : loopF FB f = self
    unfold FB m_coresecmake_Deck_Left
    simp only [letm_e, bnd_s]
    by_cases hl : d.2 < (d.1.length : Int)
    · rw [decide_eq_true hl, cd_t]
      obtain ⟨v, d1, e1, l1, u1, hd1⟩ := next_more hd hl (n := 15) (by omega) (by omega)
      rw [e1, bnd_s]
      obtain ⟨k, d2, e2, l2, u2, hd2⟩ := next_someP hd1 (n := 20) (by omega) (by omega)
      rw [e2, bnd_s]
      have hb := hd.hi
      rw [hL] at hl hd2
      simp only [w64_of (x := t + v) (by omega) (by omega)]
      rcases fresh_mid self (H.later (t := t + v) (by omega)) (by omega) (by omega) hd2 (toU8 k) with ⟨f', c', d', e, H', hd'⟩ | ⟨d', e, hd'⟩
      · rw [e, bndS_r, post_eq _ _ H'.val, ← hs]
        have := hd'.on
        exact ih f f' c' (t + v) d' (by omega) hd'.ok hd'.same (by omega) (by omega) (by omega) H'
      · have := hd'.on
        rw [e, ← hs, ih f fm c (t + v) d' (by omega) hd'.ok hd'.same (by omega) (by omega) (by omega) (H.later (by omega)), bnd_s, bndS_l]
    · rw [decide_eq_false hl, cd_f]
theorem CacheFresh_true (a0 : List Int) (h0 : List.length a0 ≤ maxLen) : m_coreseclaw20_CacheFresh a0 = some true := by
  rw [fresh_loop, few_eq, bnd_s, letm_e, awake_true]
  by_cases hl : (a0.length : Int) ≤ 300
  · rw [decide_eq_true hl, Bool.not_true, cd_f, show m_coresecmake_New a0 = some (a0, 0) from rfl, bnd_s]
    rw [fresh_go a0 a0.length FUEL [] [] 0 (a0, 0) (by rw [fuel_eq]; omega) (new_ok h0) rfl (by show (a0.length : Int) - 0 ≤ _; omega) (by omega) (by show 0 + 15 * ((a0.length : Int) - 0) ≤ _; omega) ⟨⟨by simp, by simp, by simp⟩, by simp, by simp⟩]
    rfl
  · rw [decide_eq_false hl]; rfl
end Go.Proofs.Ytdiidghfmpobaaa
