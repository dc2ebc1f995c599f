/-
  Caches, plain facts: what is found was stored or refreshed for this key, over a whole history (CacheFresh). Of the models alone; no program; no condition but the length told.
-/
import Derived.Test.YtdiidghfmpobaaaQDp
namespace Go.Proofs.Ytdiidghfmpobaaa
open Go.Gk Go.RowKit
theorem mfind_set {α : Type} (k : UInt8) (v : α) : ∀ f : List (UInt8 × α), mfind (mset f k v) k = some v
  | [] => by show (bif k == k then some v else mfind [] k) = _; rw [beq_self_eq_true]; rfl
  | x :: f => by
    show mfind (bif x.1 == k then (k, v) :: f else x :: mset f k v) k = some v
    cases h : x.1 == k with
    | true => rw [cond_true]; show (bif k == k then some v else _) = _; rw [beq_self_eq_true]; rfl
    | false => rw [cond_false]; show (bif x.1 == k then some x.2 else mfind (mset f k v) k) = _; rw [h, cond_false, mfind_set k v f]
theorem mfind_other {α : Type} {k q : UInt8} (v : α) (hne : (k == q) = false) : ∀ f : List (UInt8 × α), mfind (mset f k v) q = mfind f q
  | [] => by show (bif k == q then some v else mfind [] q) = _; rw [hne]; rfl
  | x :: f => by
    show mfind (bif x.1 == k then (k, v) :: f else x :: mset f k v) q = (bif x.1 == q then some x.2 else mfind f q)
    cases h : x.1 == k with
    | true =>
      rw [cond_true]
      have hx := beq_iff_eq.1 h
      show (bif k == q then some v else mfind f q) = _
      rw [hx, hne]
      rfl
    | false =>
      rw [cond_false]
      show (bif x.1 == q then some x.2 else mfind (mset f k v) q) = _
      rw [mfind_other v hne f]
theorem nodup_key {l : List S_api_Cached} (h : (l.map (·.1)).Nodup) {x y : S_api_Cached} (hx : x ∈ l) (hy : y ∈ l) (he : x.1 = y.1) : x = y := by
  induction l with
  | nil => simp at hx
  | cons z l ih =>
    rw [List.map_cons, List.nodup_cons] at h
    rcases List.mem_cons.1 hx with hx1 | hx1 <;> rcases List.mem_cons.1 hy with hy1 | hy1
    · rw [hx1, hy1]
    · exact absurd (List.mem_map.2 ⟨y, hy1, by rw [← he, hx1]⟩) h.1
    · exact absurd (List.mem_map.2 ⟨x, hx1, by rw [he, hy1]⟩) h.1
    · exact ih h.2 hx1 hy1
/-- What holds of a cache and of what was written down of it. -/
structure Hist (c : List S_api_Cached) (f : List (UInt8 × S_coreseclaw20_entry)) (now : Int) : Prop where
  val : ValC c
  bd : ∀ x ∈ c, x.2.2.1 ≤ now ∧ x.2.2.2 ≤ 4294967295
  said : ∀ x ∈ c, ∀ k : UInt8, x.1 = [k] → ∃ m, mfind f k = some (m, (x.2.2.1, x.2.2.2)) ∧ x.2.1.2.2.2.2.2 = m.2.2.2.2.2 ∧ x.2.1.2.1 = m.2.1
theorem ageS_le (m : S_api_Message) : ageS m ≤ 4294967295 := by
  unfold ageS
  have := uintN_rng (getS m.2.2.2.2.1 14).1 0 (by omega)
  cases !(getS m.2.2.2.2.1 14).2 <;> cases decide (4 < ((getS m.2.2.2.2.1 14).1.length : Int)) <;> simp only [cond_true, cond_false] <;> omega
theorem Hist.later {c : List S_api_Cached} {f : List (UInt8 × S_coreseclaw20_entry)} {now t : Int} (h : Hist c f now) (ht : now ≤ t) : Hist c f t := ⟨h.val, fun x hx => ⟨by have := (h.bd x hx).1; omega, (h.bd x hx).2⟩, h.said⟩
/-- A cache in which one key's element is new. -/
theorem Hist.put {c c' : List S_api_Cached} {f : List (UInt8 × S_coreseclaw20_entry)} {now : Int} {k : UInt8} {n : S_api_Cached} {m : S_api_Message} (h : Hist c f now) (hv : ValC c') (hn : n ∈ c') (hs : ∀ x ∈ c', x = n ∨ x ∈ c) (hk : n.1 = [k]) (ha : n.2.2.1 ≤ now ∧ n.2.2.2 ≤ 4294967295)
    (hp : n.2.1.2.2.2.2.2 = m.2.2.2.2.2) (hc : n.2.1.2.1 = m.2.1) : Hist c' (mset f k (m, (n.2.2.1, n.2.2.2))) now := by
  refine ⟨hv, fun x hx => ?_, fun x hx q hq => ?_⟩
  · rcases hs x hx with rfl | hx
    · exact ha
    · exact h.bd x hx
  · cases hkq : k == q with
    | true =>
      have := beq_iff_eq.1 hkq
      subst this
      obtain rfl := nodup_key hv.nd hx hn (hq.trans hk.symm)
      exact ⟨m, mfind_set _ _ _, hp, hc⟩
    | false =>
      rw [mfind_other _ hkq]
      rcases hs x hx with rfl | hx
      · rw [hk] at hq
        injection hq with hq
        rw [hq, beq_self_eq_true] at hkq; cases hkq
      · exact h.said x hx q hq
theorem outS_mem {l : List S_api_Cached} {n : S_api_Cached} : n ∈ outS l n ∧ ∀ x ∈ outS l n, x = n ∨ x ∈ l := by
  unfold outS
  cases hf : l.findIdx? (fun c => c.1 == n.1) with
  | some i =>
    obtain ⟨hi, _, _⟩ := List.findIdx?_eq_some_iff_getElem.1 hf
    exact ⟨List.mem_set hi n, fun x hx => (List.mem_or_eq_of_mem_set hx).symm⟩
  | none =>
    refine ⟨by simp, fun x hx => ?_⟩
    rcases List.mem_append.1 hx with hx | hx
    · right
      by_cases hd : 16 ≤ (l.length : Int)
      · rw [decide_eq_true hd, cond_true] at hx
        rcases List.mem_append.1 hx with hx | hx
        · exact List.mem_of_mem_take hx
        · exact List.mem_of_mem_drop hx
      · rw [decide_eq_false hd, cond_false] at hx
        exact hx
    · exact .inl (List.mem_singleton.1 hx)
theorem refresh_cases {l : List S_api_Cached} (hV : ValC l) {key : List UInt8} (hk : keyB key = true) {m : S_api_Message} {now : Int} (h0 : 0 ≤ now) (h1 : now ≤ 1073741824) : ∃ r, m_cache_Refresh l key m now = some r ∧ ((r.2 == 0) = false ∨ ∃ i x, l[i]? = some x ∧ x.1 = key ∧ r = (l.set i (x.1, (x.2.1, (now, ageS m))), 0)) := by
  unfold m_cache_Refresh
  have hv : validC l = true := validC_iff.2 hV
  simp only [argument_eq, coap_valid_eq, find_eq, letm_e, bnd_s, hv, hk, decide_eq_false (show ¬ now < 0 by omega), decide_eq_false (show ¬ 1073741824 < now by omega), Bool.not_false, Bool.and_true, cond_true]
  have z1 : ((0 : Int) != 0) = false := rfl
  cases hm : valM m with
  | false => exact ⟨_, rfl, .inl rfl⟩
  | true =>
  have hl := (valM_snd hm).len
  simp only [z1, cd_f, bnd_s, Bool.not_true]
  cases m.2.1 != 67 with
  | true => exact ⟨_, rfl, .inl rfl⟩
  | false =>
  simp only [cd_f]
  rcases find_cases l key with ⟨h1, h2⟩ | ⟨i, x, h1, h2, h3, h4, h5⟩
  · rw [h2]; exact ⟨_, rfl, .inl rfl⟩
  · have d1 : decide ((i : Int) < 0) = false := decide_eq_false (by omega)
    have hx := (elemB_iff.1 (hV.el x (List.mem_of_getElem? h3))).len
    rw [h2]
    simp only [d1, cd_f, idx_some' h3, get_eq hx.2.1, get_eq hl.2.1, age_eq hl.2.1, (all_id hV).1, bnd_s, Int.toNat_natCast]
    unfold m_bytes_Equal
    simp only [letm_e, bnd_s]
    have hs : ∀ y : S_api_Cached, idx (l.set i y) (i : Int) = some y := fun y => idx_some' (by rw [List.getElem?_set_self h5])
    simp only [hs, bnd_s, List.set_set]
    have good : ∃ r, some (l.set i (x.1, (x.2.1, (now, ageS m))), (0 : Int)) = some r ∧ ((r.2 == 0) = false ∨ ∃ i x, l[i]? = some x ∧ x.1 = key ∧ r = (l.set i (x.1, (x.2.1, (now, ageS m))), 0)) := ⟨_, rfl, .inr ⟨i, x, h3, h4, rfl⟩⟩
    cases (getS x.2.1.2.2.2.2.1 4).2 <;> cases (getS m.2.2.2.2.1 4).2 <;> cases (getS x.2.1.2.2.2.2.1 4).1 == (getS m.2.2.2.2.1 4).1 <;> first | exact ⟨_, rfl, .inl rfl⟩ | exact good
theorem get_set (l : List S_api_Option) (n : Int) (v : List UInt8) : getS (setO l n [v]) n = (v, true) := by
  have h1 : (l.filter fun o => decide (o.1 < n)).find? (fun o => o.1 == n) = none := by
    rw [List.find?_eq_none]
    intro o ho
    have := of_decide_eq_true (List.mem_filter.1 ho).2
    simp; omega
  unfold getS setO
  rw [List.append_assoc, List.find?_append, h1]
  simp
theorem lookup_cases {l : List S_api_Cached} (h : ValC l) (key : List UInt8) {now : Int} (hb : ∀ x ∈ l, x.2.2.2 ≤ 4294967295) (h0 : 0 ≤ now) (h1 : now ≤ 1073741824) : ∃ r, m_cache_Lookup l key now = some r ∧ (r.2 = false ∨ ∃ x, x ∈ l ∧ x.1 = key ∧ r.2 = true ∧ x.2.2.1 ≤ now ∧ now - x.2.2.1 < x.2.2.2 ∧ LenO r.1.2.2.2.2.1 ∧ ageS r.1 = x.2.2.2 - (now - x.2.2.1) ∧ r.1.2.2.2.2.2 = x.2.1.2.2.2.2.2 ∧ r.1.2.1 = x.2.1.2.1) := by
  unfold m_cache_Lookup
  rw [find_eq, bnd_s, letm_e]
  rcases find_cases l key with ⟨h1, h2⟩ | ⟨i, x, h1, h2, h3, h4, h5⟩
  · rw [h2]; exact ⟨_, rfl, .inl rfl⟩
  · have d1 : decide ((i : Int) < 0) = false := decide_eq_false (by omega)
    have hxm := List.mem_of_getElem? h3
    have he := elemB_iff.1 (h.el x hxm)
    have ha := he.at0; have hg := he.age0; have hbx := hb x hxm
    rw [h2, d1]
    simp only [cd_f, idx_some' h3, letm_e, bnd_s]
    have hl := he.len
    by_cases hn : now < x.2.2.1
    · rw [decide_eq_true hn]; exact ⟨_, rfl, .inl rfl⟩
    rw [decide_eq_false hn, cd_f, w64_of (x := now - x.2.2.1) (by omega) (by omega)]
    by_cases hq : x.2.2.2 ≤ now - x.2.2.1
    · rw [decide_eq_true hq]; exact ⟨_, rfl, .inl rfl⟩
    rw [decide_eq_false hq, bnd_s, cd_f, w64_of (x := x.2.2.2 - (now - x.2.2.1)) (by omega) (by omega)]
    obtain ⟨n, hnn⟩ : ∃ n : Nat, x.2.2.2 - (now - x.2.2.1) = (n : Int) := ⟨(x.2.2.2 - (now - x.2.2.1)).toNat, by omega⟩
    obtain ⟨v, e1, _, e3⟩ := fromUint_any (n : Int)
    obtain ⟨v', e4, e5⟩ := fromUint_back n (by omega)
    rw [e1] at e4
    have e4 := Option.some.inj e4
    subst e4
    have s1 := set_eq (n := 14) (vs := [v]) hl (by have := (valM_snd he.val).ol; omega) (by simp) (by simp; omega)
    rw [hnn, e1, bnd_s, s1, bnd_s]
    refine ⟨_, rfl, .inr ⟨x, hxm, h4, rfl, by omega, by omega, LenO.set (by have := (valM_snd he.val).ol; omega) hl.2.1.2 (by simp) (by simp; omega), ?_, rfl, rfl⟩⟩
    show ageS (withO x.2.1 (setO x.2.1.2.2.2.2.1 14 [v])) = x.2.2.2 - (now - x.2.2.1)
    rw [hnn]
    unfold ageS
    have eg : getS (withO x.2.1 (setO x.2.1.2.2.2.2.1 14 [v])).2.2.2.2.1 14 = (v, true) := get_set _ _ _
    rw [uint_eq] at e5
    have e5 := Option.some.inj e5
    rw [eg]
    show (bif !true then (60 : Int) else bif decide (4 < (v.length : Int)) then 0 else (uintN 0 v).1) = _
    rw [Bool.not_true, cond_false, decide_eq_false (by omega), cond_false, e5]
theorem few_eq (l : List Int) : m_coresecmake_Few l = some (decide ((l.length : Int) ≤ 300)) := rfl
end Go.Proofs.Ytdiidghfmpobaaa
