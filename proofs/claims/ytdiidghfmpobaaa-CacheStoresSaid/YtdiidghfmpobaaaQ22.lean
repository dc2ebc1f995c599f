/-
  Caches, plain facts: lookups, refreshing, removing, and comparing. Of the models alone; no program; no condition but those told.
-/
import Derived.Test.YtdiidghfmpobaaaQ21
namespace Go.Proofs.Ytdiidghfmpobaaa
open Go.Gk Go.RowKit
theorem lookup_eq {l : List S_api_Cached} (h : ValC l) (key : List UInt8) (now : Int) : ∃ r, m_cache_Lookup l key now = some r ∧ m_coresecref20_Lookup l key now = some r := by
  unfold m_cache_Lookup m_coresecref20_Lookup
  rw [find_eq, at_eq, bnd_s, bnd_s, letm_e, letm_e]
  rcases find_cases l key with ⟨h1, h2⟩ | ⟨i, x, h1, h2, h3, h4, h5⟩
  · rw [h2]; exact ⟨_, rfl, rfl⟩
  · have d1 : decide ((i : Int) < 0) = false := decide_eq_false (by omega)
    rw [h2, d1]
    have he := elemB_iff.1 (h.el x (List.mem_of_getElem? h3))
    simp only [cd_f, idx_some' h3, letm_e, bnd_s]
    obtain ⟨v, e1, e2, e3⟩ := fromUint_any (w64 (x.2.2.2 - w64 (now - x.2.2.1)))
    have hl := he.len
    have s1 := set_eq (n := 14) (vs := [v]) hl (by have := (valM_snd he.val).ol; omega) (by simp) (by simp; omega)
    have s2 := set_ref (n := 14) (vs := [v]) hl (by have := (valM_snd he.val).ol; omega) (by simp) (by simp; omega)
    simp only [e1, e2, s1, s2, bnd_s]
    cases decide (now < x.2.2.1) <;> cases decide (x.2.2.2 ≤ w64 (now - x.2.2.1)) <;> exact ⟨_, rfl, rfl⟩
theorem tag_eq {l : List S_api_Cached} (h : ValC l) (key : List UInt8) : ∃ r, m_cache_Tag l key = some r ∧ m_coresecref20_Tag l key = some r := by
  unfold m_cache_Tag m_coresecref20_Tag
  rw [find_eq, at_eq, bnd_s, bnd_s, letm_e, letm_e]
  rcases find_cases l key with ⟨h1, h2⟩ | ⟨i, x, h1, h2, h3, h4, h5⟩
  · rw [h2]; exact ⟨_, rfl, rfl⟩
  · have d1 : decide ((i : Int) < 0) = false := decide_eq_false (by omega)
    have hl := (elemB_iff.1 (h.el x (List.mem_of_getElem? h3))).len
    rw [h2, d1, cd_f, cd_f, idx_some' h3, bnd_s, bnd_s, get_eq hl.2.1, get_ref hl.2.1]
    exact ⟨_, rfl, rfl⟩
theorem filter_erase {key : List UInt8} : ∀ {l : List S_api_Cached} {i : Nat}, (l.map (·.1)).Nodup → l.findIdx? (fun c => c.1 == key) = some i → l.filter (fun c => !(c.1 == key)) = l.take i ++ l.drop (i + 1)
  | [], i, _, h => by cases h
  | c :: l, i, hn, h => by
    rw [List.findIdx?_cons] at h
    rw [List.map_cons, List.nodup_cons] at hn
    rw [List.filter_cons]
    cases hc : c.1 == key with
    | true =>
      rw [hc] at h
      cases h
      have hk : c.1 = key := by simpa using hc
      have : l.filter (fun c => !(c.1 == key)) = l := List.filter_eq_self.2 fun d hd => by
        have : d.1 ≠ key := fun e => hn.1 (List.mem_map.2 ⟨d, hd, by rw [e, hk]⟩)
        simpa using this
      simp [this]
    | false =>
      rw [hc] at h
      cases hq : l.findIdx? (fun c => c.1 == key) with
      | none => rw [hq] at h; cases h
      | some j =>
        rw [hq] at h
        cases h
        have := filter_erase hn.2 hq
        simp [this]
theorem remove_eq {l : List S_api_Cached} (h : ValC l) (key : List UInt8) : ∃ r, m_cache_Remove l key = some r ∧ m_coresecref20_Remove l key = some r := by
  have hlen := h.len
  have h1 : m_cache_Remove l key = some (l.filter fun c => !(c.1 == key)) := by
    unfold m_cache_Remove
    rw [loopL_filterMap (fun c : S_api_Cached => cond (c.1 == key) none (some c)) _ _ _ (by simp; omega) fun c hc k s self => ?_]
    · have : ∀ l : List S_api_Cached, l.filterMap (fun c : S_api_Cached => cond (c.1 == key) none (some c)) = l.filter fun c => !(c.1 == key) := by
        intro l
        induction l with
        | nil => rfl
        | cons x l ih => rw [List.filterMap_cons, List.filter_cons]; cases x.1 == key <;> simp [ih]
      rw [this]; rfl
    · unfold m_bytes_Equal
      rw [letm_e, bnd_s, (elemB_iff.1 (h.el c hc)).elt, bnd_s]
      cases c.1 == key
      · simp only [cd_f]; cases app s [c] <;> rfl
      · rfl
  have h2 : m_coresecref20_Remove l key = some (l.filter fun c => !(c.1 == key)) := by
    unfold m_coresecref20_Remove
    rw [(copy_id h).2, bnd_s, at_eq, bnd_s, letm_e]
    rcases find_cases l key with ⟨h1, h2⟩ | ⟨i, x, h1, h2, h3, h4, h5⟩
    · rw [h2]
      rw [List.findIdx?_eq_none_iff] at h1
      have : l.filter (fun c => !(c.1 == key)) = l := List.filter_eq_self.2 fun d hd => by have := h1 d hd; simpa using this
      rw [this]; rfl
    · rw [h2, decide_eq_true (by omega), cd_t, cut_take (Nat.le_of_lt h5), bnd_s, app_nil_some (by simp; omega), bnd_s, letm_e, w64_of (by omega) (by omega), show ((i : Int) + 1) = ((i + 1 : Nat) : Int) by omega, cut_drop (by omega), bnd_s, app_some' (by simp; omega), bnd_s, filter_erase h.nd h1]
  exact ⟨_, h1, h2⟩
theorem refresh_eq (l : List S_api_Cached) (key : List UInt8) (m : S_api_Message) (now : Int) : ∃ r, m_cache_Refresh l key m now = some r ∧ m_coresecref20_Refresh l key m now = some r := by
  unfold m_cache_Refresh m_coresecref20_Refresh
  simp only [argument_eq, rvalid_eq, keyed_ref, coap_valid_eq, ref_valid_eq, find_eq, at_eq, letm_e, bnd_s]
  cases hv : validC l with
  | false => exact ⟨_, rfl, rfl⟩
  | true =>
  cases hk : keyB key with
  | false => exact ⟨_, rfl, rfl⟩
  | true =>
  cases decide (now < 0) with
  | true => exact ⟨_, rfl, rfl⟩
  | false =>
  cases decide (1073741824 < now) with
  | true => exact ⟨_, rfl, rfl⟩
  | false =>
  cases hm : valM m with
  | false => exact ⟨_, rfl, rfl⟩
  | true =>
  have hV := validC_iff.1 hv
  have hl := (valM_snd hm).len
  have z1 : ((0 : Int) != 0) = false := rfl
  simp only [Bool.not_true, Bool.not_false, Bool.and_true, cond_true, cd_f, z1]
  cases m.2.1 != 67 with
  | true => exact ⟨_, rfl, rfl⟩
  | false =>
  simp only [cd_f]
  rcases find_cases l key with ⟨h1, h2⟩ | ⟨i, x, h1, h2, h3, h4, h5⟩
  · rw [h2]; exact ⟨_, rfl, rfl⟩
  · have d1 : decide ((i : Int) < 0) = false := decide_eq_false (by omega)
    have hx := (elemB_iff.1 (hV.el x (List.mem_of_getElem? h3))).len
    have ht : m_coresecref20_Tag l key = some (getS x.2.1.2.2.2.2.1 4) := by
      unfold m_coresecref20_Tag
      rw [at_eq, bnd_s, letm_e, h2, d1, cd_f, idx_some' h3, bnd_s, get_ref hx.2.1, bnd_s]
    rw [h2]
    simp only [d1, cd_f, idx_some' h3, ht, get_eq hx.2.1, get_eq hl.2.1, get_ref hl.2.1, age_eq hl.2.1, age_ref hl.2.1, (all_id hV).1, (copy_id hV).1, find_eq, at_eq, h2, bnd_s, Int.toNat_natCast]
    unfold m_bytes_Equal
    simp only [letm_e, bnd_s, bne]
    have hs : ∀ y : S_api_Cached, idx (l.set i y) (i : Int) = some y := fun y => idx_some' (by rw [List.getElem?_set_self h5])
    simp only [hs, bnd_s]
    cases (getS x.2.1.2.2.2.2.1 4).2 <;> cases (getS m.2.2.2.2.1 4).2 <;> cases (getS x.2.1.2.2.2.2.1 4).1 == (getS m.2.2.2.2.1 4).1 <;> exact ⟨_, rfl, rfl⟩
/-! ### Comparing -/
theorem same15_go (l : List S_api_Option) : ∀ (rest : List S_api_Option) (k : Nat), l.drop k = rest → loopL (R := Bool) (S := Unit) (α := S_api_Option) (fun _ _ => some true) (fun x10 k11 _ self13 =>
    bnd (idx l (k11 : Int)) fun x14 => letm ((x10.1 != x14.1)) fun x15 => cond x15 (some false) (bnd (idx l (k11 : Int)) fun x16 => letm ((x10.2 != x16.2)) fun x17 => cond x17 (some false) (self13 ()))) rest k () = some true
  | [], _, _ => rfl
  | x :: r, k, h => by
    have hk : l[k]? = some x := by have := congrArg (fun l => l[0]?) h; simpa using this
    have hd : l.drop (k + 1) = r := by have := congrArg (fun l => l.drop 1) h; simpa using this
    rw [loopL_cons, idx_some' hk, bnd_s, letm_e, bnd_s, letm_e, same15_go l r (k + 1) hd]
    simp
theorem same15 (m : S_api_Message) : m_coresecref15_Same m m = some true := by
  unfold m_coresecref15_Same
  rw [same15_go m.2.2.2.2.1 m.2.2.2.2.1 0 rfl]
  simp [letm_e]
theorem same20_go (l : List S_api_Cached) : ∀ (rest : List S_api_Cached) (k : Nat), l.drop k = rest → loopL (R := Bool) (S := Unit) (α := S_api_Cached) (fun _ _ => some true) (fun x5 k6 _ self8 =>
    bnd (idx l (k6 : Int)) fun x9 => letm ((x5.1 != x9.1)) fun x10 => cond x10 (some false) (bnd (idx l (k6 : Int)) fun x11 => letm ((x5.2.2.1 != x11.2.2.1)) fun x12 => cond x12 (some false) (bnd (idx l (k6 : Int)) fun x13 => letm ((x5.2.2.2 != x13.2.2.2)) fun x14 => cond x14 (some false)
    (bnd (idx l (k6 : Int)) fun x15 => bnd (m_coresecref15_Same x5.2.1 x15.2.1) fun x16 => letm ((!x16)) fun x17 => cond x17 (some false) (self8 ()))))) rest k () = some true
  | [], _, _ => rfl
  | x :: r, k, h => by
    have hk : l[k]? = some x := by have := congrArg (fun l => l[0]?) h; simpa using this
    have hd : l.drop (k + 1) = r := by have := congrArg (fun l => l.drop 1) h; simpa using this
    rw [loopL_cons, idx_some' hk, same20_go l r (k + 1) hd]
    simp only [bnd_s, letm_e, same15]
    simp
theorem same20 (l : List S_api_Cached) : m_coresecref20_Same l l = some true := by
  unfold m_coresecref20_Same
  rw [same20_go l l 0 rfl]
  simp [letm_e]
/-! ### The laws' own parts -/
theorem awake_true : m_coreseclaw20_awake = some true := by kernel_rfl
set_option maxRecDepth 100000 in
theorem store_go (k : Nat) : ∀ (f : Nat) (l : List S_api_Cached) (t : Int) (d : S_coresecmake_Deck), k < f → k ≤ 1000 → ValC l → 0 ≤ t → t + 30 * (k : Int) ≤ 1000000 → DeckOK d → ∃ l' t' d', loopF (R := ((List S_api_Cached) × (Int × S_coresecmake_Deck))) (S := ((List S_api_Cached) × (Int × (Int × S_coresecmake_Deck)))) (fun self3 s2 =>
     letm (decide (0 < s2.2.2.1)) fun x4 => cond x4 (bnd (β := ((List S_api_Cached) × (Int × S_coresecmake_Deck))) (bnd (m_coresecmake_Deck_Next s2.2.2.2 30) fun x5 => letm ((w64 (s2.2.1 + x5.1))) fun x6 => bnd (m_coresecmake_Deck_Next x5.2 6) fun x7 => letm ((toU8 x7.1)) fun x8 => bnd (m_coresecmake_Deck_Response x7.2) fun x9 => bnd (m_coresecref20_Insert s2.1 [x8] x9.1 x6) fun x10 => letm ((x10.2 == 0)) fun x11 => cond x11 (some (x10.1, (x6, x9.2))) (some (s2.1, (x6, x9.2)))) fun v12 => letm ((w64 (s2.2.2.1 - 1))) fun x13 => self3 (v12.1, (v12.2.1, (x13, v12.2.2)))) (some (s2.1, (s2.2.1, s2.2.2.2)))) f (l, (t, ((k : Int), d))) = some (l', (t', d')) ∧ ValC l' ∧ 0 ≤ t' ∧ t' ≤ 1000000 ∧ DeckOK d' := by
  induction k with
  | zero =>
    intro f l t d hf _ hl h0 h1 hd
    obtain ⟨f, rfl⟩ : ∃ g, f = g + 1 := ⟨f - 1, by omega⟩
    refine ⟨l, t, d, ?_, hl, h0, by omega, hd⟩
    have d0 : decide ((0 : Int) < ((0 : Nat) : Int)) = false := rfl
    rw [loopF_succ, letm_e]
    simp only [d0, cd_f]
  | succ k ih =>
    intro f l t d hf hk hl h0 h1 hd
    obtain ⟨f, rfl⟩ : ∃ g, f = g + 1 := ⟨f - 1, by omega⟩
    obtain ⟨v1, d1, e1, l1, u1, hd1⟩ := next_some hd (n := 30) (by omega) (by omega)
    obtain ⟨v2, d2, e2, l2, u2, hd2⟩ := next_some hd1 (n := 6) (by omega) (by omega)
    obtain ⟨m, d3, e3, hd3, _⟩ := response_some hd2
    have dk : decide ((0 : Int) < ((k + 1 : Nat) : Int)) = true := decide_eq_true (by omega)
    have wk : w64 (((k + 1 : Nat) : Int) - 1) = (k : Int) := by rw [w64_of (by omega) (by omega)]; omega
    rw [loopF_succ]
    simp only [letm_e, dk, cd_t, e1, e2, e3, bnd_s, wk, w64_of (x := t + v1) (by omega) (by omega), (insert_eq l [toU8 v2] m (t + v1)).2]
    cases hz : (insS l [toU8 v2] m (t + v1)).2 == 0 with
    | true =>
      have hz : (insS l [toU8 v2] m (t + v1)).2 = 0 := by simpa using hz
      simp only [cd_t, bnd_s]
      obtain ⟨l', t', d', g1, g2⟩ := ih f (insS l [toU8 v2] m (t + v1)).1 (t + v1) d3 (by omega) (by omega) (insS_valid hz) (by omega) (by omega) hd3
      simp only [letm_e] at g1
      exact ⟨l', t', d', g1, g2⟩
    | false =>
      simp only [cd_f, bnd_s]
      obtain ⟨l', t', d', g1, g2⟩ := ih f l (t + v1) d3 (by omega) (by omega) hl (by omega) (by omega) hd3
      simp only [letm_e] at g1
      exact ⟨l', t', d', g1, g2⟩
theorem store_some {d : S_coresecmake_Deck} (h : DeckOK d) : ∃ l t d', m_coreseclaw20_store d = some (l, (t, d')) ∧ ValC l ∧ 0 ≤ t ∧ t ≤ 1000000 ∧ DeckOK d' := by
  unfold m_coreseclaw20_store
  obtain ⟨v, d1, e1, l1, u1, h1⟩ := next_some h (n := 14) (by omega) (by omega)
  rw [e1, bnd_s]
  obtain ⟨k, rfl⟩ : ∃ k : Nat, v = (k : Int) := ⟨v.toNat, by omega⟩
  exact store_go k FUEL [] 0 d1 (by rw [fuel_eq]; omega) (by omega) ⟨by simp, by simp, by simp⟩ (by omega) (by omega) h1
theorem light_go (L : Bool) : ∀ (l : List S_api_Cached) (k : Nat), ∃ b, loopL (R := Bool) (S := Unit) (α := S_api_Cached) (fun _ _ => some L) (fun x4 _ _ self7 =>
    letm (decide (20 < (x4.2.1.2.2.2.2.1.length : Int))) fun x8 => cond x8 (some false) (bnd (m_coresecmake_Short x4.1) fun x9 => letm ((!x9)) fun x10 => cond x10 (some false) (self7 ()))) l k () = some b
  | [], _ => ⟨L, rfl⟩
  | x :: r, k => by
    obtain ⟨b, hb⟩ := light_go L r (k + 1)
    rw [loopL_cons, hb]
    unfold m_coresecmake_Short
    simp only [letm_e, bnd_s]
    cases decide (20 < (x.2.1.2.2.2.2.1.length : Int)) <;> cases decide ((x.1.length : Int) ≤ 600) <;> exact ⟨_, rfl⟩
theorem light_some (l : List S_api_Cached) : ∃ b, m_coreseclaw20_light l = some b := by
  unfold m_coreseclaw20_light
  exact light_go _ l 0
theorem same_self (b : Bool) : (b != b) = false := by cases b <;> rfl
theorem CacheReads_true (a0 : List S_api_Cached) (a1 : S_api_Message) (a2 : List Int) (a3 : Int) (h2 : List.length a2 ≤ maxLen) : m_coreseclaw20_CacheReads a0 a1 a2 a3 = some true := by
  unfold m_coreseclaw20_CacheReads
  obtain ⟨b, hb⟩ := light_some a0
  rw [hb, bnd_s, letm_e, letm_e, awake_true, bnd_s]
  cases b with
  | false => rfl
  | true =>
    simp only [Bool.not_true, cd_f]
    cases decide (30 < (a1.2.2.2.2.1.length : Int)) with
    | true => rfl
    | false =>
    rw [cd_f]
    obtain ⟨m, d1, e1, hd1, _⟩ := response_some (new_ok h2)
    obtain ⟨x, t, d2, e2, hx, t0, t1, hd2⟩ := store_some hd1
    have hlen := hx.len
    have e0 : m_coresecmake_New a2 = some (a2, 0) := rfl
    rw [e0, bnd_s, e1, bnd_s]
    simp only [e2, bnd_s]
    rw [app_nil_some (by omega), bnd_s, app_some' (by omega), bnd_s, letm_e]
    -- what is compared first
    obtain ⟨e3, he3⟩ : ∃ e3 : Option (Bool ⊕ Unit), cond (decide (0 < (x.length : Int))) (bnd (m_coresecref20_Copy_o x) fun x15 => bnd (m_coresecmake_Mod a3 (x15.length : Int)) fun x16 => bnd (m_coresecmake_Mod a3 2) fun x17 => bnd (idx x15 x16) fun x18 => bnd (idx x15 ((x16).toNat : Int)) fun x19 => letm ((x15.set (x16).toNat (x19.1, ((x19.2.1.1, (x19.2.1.2.1, (x17, x19.2.1.2.2.2))), x19.2.2)))) fun x20 => bnd (m_cache_Valid x20) fun x21 => bnd (m_coresecref20_Valid x20) fun x22 => letm ((x21 != x22)) fun x23 => cond x23 (some (.inl false)) (some (.inr ()))) (some (.inr ())) = e3 ∧ e3 = some (.inr ()) := by
      refine ⟨_, rfl, ?_⟩
      cases hp : decide (0 < (x.length : Int)) with
      | false => rfl
      | true =>
        have hp := of_decide_eq_true hp
        obtain ⟨y, hy, y0, y1⟩ := mod_some a3 (m := (x.length : Int)) hp (by omega)
        obtain ⟨z, hz, _⟩ := mod_some a3 (m := 2) (by omega) (by omega)
        obtain ⟨i, rfl⟩ : ∃ i : Nat, y = (i : Int) := ⟨y.toNat, by omega⟩
        have hi : i < x.length := by omega
        rw [cd_t, (copy_id hx).1, bnd_s, hy, bnd_s, hz, bnd_s, idx_some' (List.getElem?_eq_getElem hi), bnd_s, Int.toNat_natCast, idx_some' (List.getElem?_eq_getElem hi), bnd_s, letm_e, cvalid_eq, rvalid_eq, bnd_s, bnd_s, letm_e, same_self]; rfl
    rw [he3.1, he3.2, bndS_r]
    -- the two messages
    have hm : ∀ k : S_api_Message, (∀ self : Unit → Option Bool, (bnd (m_coresecref15_Valid k) fun x39 => cond x39 (bnd (m_cache_MaxAge k) fun x40 => bnd (m_coresecref20_MaxAge k) fun x41 => letm ((x40 != x41)) fun x42 => cond x42 (some false) (bnd (m_cache_Storable k) fun x43 => bnd (m_coresecref20_Storable k) fun x44 => letm ((x43 != x44)) fun x45 => cond x45 (some false) (self ()))) (bnd (m_cache_Storable k) fun x46 => bnd (m_coresecref20_Storable k) fun x47 => letm ((x46 != x47)) fun x48 => cond x48 (some false) (self ()))) = self ()) := fun k self => by
      rw [ref_valid_eq, bnd_s, stor_eq, stor_ref, bnd_s, bnd_s, letm_e, same_self, cd_f]
      cases hv : valM k with
      | false => rfl
      | true =>
        have hl := (valM_snd hv).len.2.1
        rw [age_eq hl, age_ref hl, bnd_s, bnd_s, letm_e, cd_t]
        simp [cd_f]
    rw [loopL_cons, hm, loopL_cons, hm, loopL_nil]
    rw [cvalid_eq, rvalid_eq, bnd_s, bnd_s, letm_e, cvalid_eq, cvalid_eq, rvalid_eq, bnd_s, bnd_s, bnd_s, letm_e]
    simp [validC_iff.2 hx]
end Go.Proofs.Ytdiidghfmpobaaa
