/-
  Scopes: what both or one of two permit (ScopeLattice). Of the models alone; no program; no condition but the ranges told.
-/
import Derived.Test.YtmnbkcpopfmpdaaDoorQ83
namespace Go.Proofs.YtmnbkcpopfmpdaaDoor
open Go.Gk Go.RowKit
/-- What two permits permit together. -/
def mtS (p q : S_api_Permit) : Option S_api_Permit :=
  match (bif incK (ky q) (ky p) then some p else bif incK (ky p) (ky q) then some q else none : Option S_api_Permit) with
  | some v => bif ibit .and p.2.2 q.2.2 != 0 then some (v.1, (v.2.1, ibit .and p.2.2 q.2.2)) else none
  | none => none
def meetL (a b : List S_api_Permit) : List S_api_Permit := a.flatMap fun p => b.filterMap (mtS p)
theorem mt_some {p q x : S_api_Permit} (h : mtS p q = some x) : ∃ v, (v = p ∧ incK (ky q) (ky p) = true ∨ v = q ∧ incK (ky p) (ky q) = true) ∧ x = (v.1, (v.2.1, ibit .and p.2.2 q.2.2)) ∧ ibit .and p.2.2 q.2.2 ≠ 0 := by
  unfold mtS at h
  cases h1 : incK (ky q) (ky p) with
  | true =>
    rw [h1] at h
    simp only [cond_true] at h
    cases h3 : (ibit .and p.2.2 q.2.2 != 0) with
    | true => rw [h3] at h; cases h; exact ⟨p, .inl ⟨rfl, rfl⟩, rfl, by simpa using h3⟩
    | false => rw [h3] at h; cases h
  | false =>
    cases h2 : incK (ky p) (ky q) with
    | true =>
      rw [h1, h2] at h
      simp only [cond_true, cond_false] at h
      cases h3 : (ibit .and p.2.2 q.2.2 != 0) with
      | true => rw [h3] at h; cases h; exact ⟨q, .inr ⟨rfl, rfl⟩, rfl, by simpa using h3⟩
      | false => rw [h3] at h; cases h
    | false => rw [h1, h2] at h; cases h
theorem mt_of {p q : S_api_Permit} {c : Int} (hp : Mr p.2.2) (hq : Mr q.2.2) (b1 : bitS p.2.2 c = true) (b2 : bitS q.2.2 c = true) (h : incK (ky p) (ky q) = true ∨ incK (ky q) (ky p) = true) : ∃ x, mtS p q = some x ∧ (ky x = ky p ∨ ky x = ky q) ∧ bitS x.2.2 c = true := by
  have hb : bitS (ibit .and p.2.2 q.2.2) c = true := by rw [(bit_and hp hq).1, b1, b2]; rfl
  have hne : (ibit .and p.2.2 q.2.2 != 0) = true := by rw [bne_iff_ne]; exact bit_none hb
  unfold mtS
  cases h1 : incK (ky q) (ky p) with
  | true => simp only [cond_true]; rw [hne]; exact ⟨_, rfl, .inl rfl, hb⟩
  | false =>
    have h2 : incK (ky p) (ky q) = true := by
      rcases h with h | h
      · exact h
      · rw [h1] at h; cases h
    rw [h2]
    simp only [cond_true, cond_false]
    rw [hne]; exact ⟨_, rfl, .inr rfl, hb⟩
theorem meet_gd {a b : List S_api_Permit} (ha : Gd a) (hb : Gd b) : Gd (meetL a b) := fun x hx => by
  obtain ⟨p, hp, hx⟩ := List.mem_flatMap.1 hx
  obtain ⟨q, hq, hx⟩ := List.mem_filterMap.1 hx
  obtain ⟨v, hv, rfl, hne⟩ := mt_some hx
  have hm := (bit_and (c := 1) (ha.mr hp) (hb.mr hq)).2
  refine ⟨by have := hm.1; show 1 ≤ ibit .and p.2.2 q.2.2; omega, hm.2, ?_⟩
  rcases hv with ⟨rfl, _⟩ | ⟨rfl, _⟩
  · exact (ha _ hp).2.2
  · exact (hb _ hq).2.2
theorem meet_key {a b : List S_api_Permit} {x : S_api_Permit} (hx : x ∈ meetL a b) : ∃ v, (v ∈ a ∨ v ∈ b) ∧ ky v = ky x := by
  obtain ⟨p, hp, hx⟩ := List.mem_flatMap.1 hx
  obtain ⟨q, hq, hx⟩ := List.mem_filterMap.1 hx
  obtain ⟨v, hv, rfl, _⟩ := mt_some hx
  rcases hv with ⟨rfl, _⟩ | ⟨rfl, _⟩
  · exact ⟨v, .inl hp, rfl⟩
  · exact ⟨v, .inr hq, rfl⟩
theorem meet_lo {a b : List S_api_Permit} (ha : Gd a) (hb : Gd b) {k : Ky} {c : Int} (h : hasP (meetL a b) k c) : (∃ kp, hasP a kp c ∧ incK kp k = true) ∧ ∃ kq, hasP b kq c ∧ incK kq k = true := by
  obtain ⟨x, hx, rfl, hbit⟩ := h
  obtain ⟨p, hp, hx⟩ := List.mem_flatMap.1 hx
  obtain ⟨q, hq, hx⟩ := List.mem_filterMap.1 hx
  obtain ⟨v, hv, rfl, _⟩ := mt_some hx
  have hbit : bitS (ibit .and p.2.2 q.2.2) c = true := hbit
  rw [(bit_and (ha.mr hp) (hb.mr hq)).1, Bool.and_eq_true] at hbit
  rcases hv with ⟨rfl, hi⟩ | ⟨rfl, hi⟩
  · exact ⟨⟨ky v, ⟨v, hp, rfl, hbit.1⟩, incK_refl _⟩, ky q, ⟨q, hq, rfl, hbit.2⟩, hi⟩
  · exact ⟨⟨ky p, ⟨p, hp, rfl, hbit.1⟩, hi⟩, ky v, ⟨v, hq, rfl, hbit.2⟩, incK_refl _⟩
theorem meet_hi {a b : List S_api_Permit} (ha : Gd a) (hb : Gd b) {kp kq : Ky} {c : Int} (h : hasP a kp c) (h2 : hasP b kq c) (hc : incK kp kq = true ∨ incK kq kp = true) : ∃ k, hasP (meetL a b) k c ∧ (k = kp ∨ k = kq) := by
  obtain ⟨p, hp, rfl, b1⟩ := h
  obtain ⟨q, hq, rfl, b2⟩ := h2
  obtain ⟨x, hx, hk, hbx⟩ := mt_of (ha.mr hp) (hb.mr hq) b1 b2 hc
  exact ⟨ky x, ⟨x, List.mem_flatMap.2 ⟨p, hp, List.mem_filterMap.2 ⟨q, hq, hx⟩⟩, rfl, hbx⟩, hk⟩
theorem limited_eq {l : List S_api_Permit} (hg : Gd l) (hn : l.length ≤ 1000000) : ∃ r, NF l r ∧ m_scope_normal l = some r ∧ m_scope_limited l = some (bif decide (8 < (r.length : Int)) then ([], 8) else (r, 0)) := by
  obtain ⟨r, h1, h2⟩ := normal_nf hg hn
  refine ⟨r, h2, h1, ?_⟩
  unfold m_scope_limited
  rw [h1, bnd_s, letm_e]
  cases decide (8 < (r.length : Int)) <;> rfl
theorem bothv (a b : List S_api_Permit) : (bnd (β := Bool) (bnd (m_scope_Valid a) fun x2 => letm ((!x2)) fun x3 => cond x3 (some true) (bnd (m_scope_Valid b) fun x4 => letm ((!x4)) fun x5 => some x5)) fun v6 => some v6) = some (!(validS a && validS b)) := by
  simp only [valid39, bnd_s, letm_e]
  cases validS a <;> cases validS b <;> rfl
theorem join_gd {a b : List S_api_Permit} (ha : Gd a) (hb : Gd b) : Gd (a ++ b) := fun p hp => by
  rcases List.mem_append.1 hp with hp | hp
  · exact ha p hp
  · exact hb p hp
theorem Join_eq {a b : List S_api_Permit} (va : validS a = true) (vb : validS b = true) : ∃ r, NF (a ++ b) r ∧ m_scope_normal (a ++ b) = some r ∧ m_scope_Join a b = some (bif decide (8 < (r.length : Int)) then ([], 8) else (r, 0)) := by
  have la := (validS_mem va).1
  have lb := (validS_mem vb).1
  obtain ⟨r, h1, h2, h3⟩ := limited_eq (join_gd (validS_gd va) (validS_gd vb)) (by simp; omega)
  refine ⟨r, h1, h2, ?_⟩
  unfold m_scope_Join
  have hv := bothv a b
  rw [bnd_id] at hv
  rw [hv, bnd_s, va, vb, Bool.and_self, Bool.not_true, cd_f, app_some' (by simp; omega), bnd_s, List.nil_append, app_some' (by omega), bnd_s, h3, bnd_s]
theorem Meet_eq {a b : List S_api_Permit} (va : validS a = true) (vb : validS b = true) : ∃ r, NF (meetL a b) r ∧ m_scope_normal (meetL a b) = some r ∧ m_scope_Meet a b = some (bif decide (8 < (r.length : Int)) then ([], 8) else (r, 0)) := by
  have la := (validS_mem va).1
  have lb := (validS_mem vb).1
  have ga := validS_gd va
  have gb := validS_gd vb
  have hfl : ∀ p, (b.filterMap (mtS p)).length ≤ 8 := fun p => by have := List.length_filterMap_le (mtS p) b; omega
  have hln : ∀ l : List S_api_Permit, (l.flatMap fun p => b.filterMap (mtS p)).length ≤ 8 * l.length := fun l => by
    induction l with
    | nil => simp
    | cons x l ih => rw [List.flatMap_cons, List.length_append, List.length_cons]; have := hfl x; omega
  obtain ⟨r, h1, h2, h3⟩ := limited_eq (meet_gd ga gb) (by have := hln a; unfold meetL; omega)
  refine ⟨r, h1, h2, ?_⟩
  unfold m_scope_Meet
  have hv := bothv a b
  rw [bnd_id] at hv
  rw [hv, bnd_s, va, vb, Bool.and_self, Bool.not_true, cd_f]
  obtain ⟨e1, _⟩ := loopL_fold (R := (List S_api_Permit) × Int) (bn := fun _ s8 => bnd (m_scope_limited s8) fun x9 => some (x9.1, x9.2)) (bs := fun x10 _ s12 self13 =>
    loopL (R := ((List S_api_Permit) × Int)) (S := (List S_api_Permit)) (α := S_api_Permit) (fun _ s15 => self13 s15)
     (fun x16 _ s18 self19 =>
    bnd (β := (List S_api_Permit)) (bndS (ρ := (List S_api_Permit)) (ρ' := (List S_api_Permit)) (Y := S_api_Permit) (bnd (m_scope_includes x16 x10) fun x20 =>
    letm ((!x20)) fun x21 =>
    cond x21 (bnd (m_scope_includes x10 x16) fun x22 =>
    letm ((!x22)) fun x23 =>
    cond x23 (some (.inl s18)) (some (.inr x16)))
     (some (.inr x10))) (fun q => q) fun v24 =>
    letm ((ibit .and x10.2.2 x16.2.2)) fun x25 =>
    letm ((x25 != 0)) fun x26 =>
    cond x26 (bnd (app s18 [(v24.1, (v24.2.1, x25))]) fun x27 => some x27)
     (some s18)) fun v28 =>
    self19 v28) b 0 s12) (fun acc p => acc ++ b.filterMap (mtS p)) (fun k s => s.length ≤ 8 * k) a 0 [] (fun i p s self hx hJ => by
      have hi : i < a.length := (List.getElem?_eq_some_iff.1 hx).1
      have hpa := List.mem_of_getElem? hx
      refine ⟨?_, by have := hfl p; rw [List.length_append]; omega⟩
      refine (loopL_filterMap (mtS p) b 0 s (by omega) fun q hq k s self => ?_)
      rw [includes_eq (by have := (gb q hq).2.2; omega), bnd_s, includes_eq (by have := (ga p hpa).2.2; omega), letm_e, bnd_s, letm_e]
      unfold mtS
      cases incK (ky q) (ky p) with
      | true =>
        simp only [Bool.not_true, cd_f, bndS_r, letm_e, cond_true]
        cases (ibit .and p.2.2 q.2.2 != 0) with
        | true => rw [cd_t, bnd_id]; rfl
        | false => rfl
      | false =>
        cases incK (ky p) (ky q) with
        | true =>
          simp only [Bool.not_true, Bool.not_false, cd_f, cd_t, bndS_r, letm_e, cond_true, cond_false]
          cases (ibit .and p.2.2 q.2.2 != 0) with
          | true => rw [cd_t, bnd_id]; rfl
          | false => rfl
        | false => rfl) (Nat.zero_le _)
  refine e1.trans ?_
  have hfm : ∀ (l acc : List S_api_Permit), l.foldl (fun acc p => acc ++ b.filterMap (mtS p)) acc = acc ++ l.flatMap fun p => b.filterMap (mtS p) := fun l => by
    induction l with
    | nil => intro acc; simp
    | cons x l ih => intro acc; rw [List.foldl_cons, ih, List.flatMap_cons, List.append_assoc]
  rw [hfm, List.nil_append]
  show bnd (m_scope_limited (meetL a b)) _ = _
  rw [h3, bnd_s]
theorem nf_valid {l r : List S_api_Permit} (h : NF l r) (hl : ∀ q ∈ l, wrS q.1 = true) (hn : r.length ≤ 8) : validS r = true := by
  unfold validS
  rw [decide_eq_true (by omega), Bool.true_and]
  refine List.all_eq_true.2 fun p hp => ?_
  obtain ⟨q, hq, hk⟩ := h.key hp
  have hpq : q.1 = p.1 := congrArg (fun k : Ky => k.1) hk
  obtain ⟨m1, m2⟩ := h.mr p hp
  unfold fineS
  rw [← hpq, hl q hq, decide_eq_true m1, decide_eq_true m2]; rfl
theorem valid_wr {l : List S_api_Permit} (h : validS l = true) : ∀ q ∈ l, wrS q.1 = true := fun q hq => ((validS_mem h).2 q hq).1
/-- A normal form permits the same. -/
theorem nf_perm {l r : List S_api_Permit} (h : NF l r) {c : Int} (hc : Cr c) (p : List UInt8) : (∃ k, hasP r k c ∧ covK k p = true) ↔ ∃ k, hasP l k c ∧ covK k p = true := by
  constructor
  · rintro ⟨k, h1, h2⟩; exact ⟨k, h.sub hc h1, h2⟩
  · rintro ⟨k, h1, h2⟩
    obtain ⟨k', h3, h4⟩ := h.up hc h1
    exact ⟨k', h4, incK_cov h3 h2⟩
section
variable {a b c m j x : List S_api_Permit}
theorem meet_perm (va : validS a = true) (vb : validS b = true) (vm : validS m = true) (h : NF (meetL a b) m) {d : Int} (hd : Cr d) (p : List UInt8) : permS m p d = (permS a p d && permS b p d) := by
  rw [Bool.eq_iff_iff, Bool.and_eq_true, perm_iff vm hd, perm_iff va hd, perm_iff vb hd, nf_perm h hd]
  constructor
  · rintro ⟨k, h1, h2⟩
    obtain ⟨⟨kp, h3, h4⟩, kq, h5, h6⟩ := meet_lo (validS_gd va) (validS_gd vb) h1
    exact ⟨⟨kp, h3, incK_cov h4 h2⟩, kq, h5, incK_cov h6 h2⟩
  · rintro ⟨⟨kp, h1, h2⟩, kq, h3, h4⟩
    obtain ⟨k, h5, h6⟩ := meet_hi (validS_gd va) (validS_gd vb) h1 h3 (cov_cmp h2 h4)
    refine ⟨k, h5, ?_⟩
    rcases h6 with rfl | rfl
    · exact h2
    · exact h4
theorem join_perm (va : validS a = true) (vb : validS b = true) (vj : validS j = true) (h : NF (a ++ b) j) {d : Int} (hd : Cr d) (p : List UInt8) : permS j p d = (permS a p d || permS b p d) := by
  rw [Bool.eq_iff_iff, Bool.or_eq_true, perm_iff vj hd, perm_iff va hd, perm_iff vb hd, nf_perm h hd]
  constructor
  · rintro ⟨k, h1, h2⟩
    rcases has_app.1 h1 with h1 | h1
    · exact .inl ⟨k, h1, h2⟩
    · exact .inr ⟨k, h1, h2⟩
  · rintro (⟨k, h1, h2⟩ | ⟨k, h1, h2⟩)
    · exact ⟨k, has_app.2 (.inl h1), h2⟩
    · exact ⟨k, has_app.2 (.inr h1), h2⟩
theorem norm_perm (va : validS a = true) (vx : validS x = true) (h : NF a x) {d : Int} (hd : Cr d) (p : List UInt8) : permS x p d = permS a p d := by
  rw [Bool.eq_iff_iff, perm_iff vx hd, perm_iff va hd, nf_perm h hd]
theorem meet_in (va : validS a = true) (vb : validS b = true) (vm : validS m = true) (h : NF (meetL a b) m) : withS m a = true ∧ withS m b = true := by
  refine ⟨(with_iff vm va).2 fun k d hd hk => ?_, (with_iff vm vb).2 fun k d hd hk => ?_⟩
  · obtain ⟨⟨kp, h3, h4⟩, _⟩ := meet_lo (validS_gd va) (validS_gd vb) (h.sub hd hk)
    exact ⟨kp, h4, h3⟩
  · obtain ⟨_, kq, h3, h4⟩ := meet_lo (validS_gd va) (validS_gd vb) (h.sub hd hk)
    exact ⟨kq, h4, h3⟩
theorem meet_great (va : validS a = true) (vb : validS b = true) (vc : validS c = true) (vm : validS m = true) (h : NF (meetL a b) m) (hca : withS c a = true) : withS c b = withS c m := by
  rw [Bool.eq_iff_iff]
  constructor
  · intro hcb
    refine (with_iff vc vm).2 fun k d hd hk => ?_
    obtain ⟨kp, h1, h2⟩ := (with_iff vc va).1 hca k d hd hk
    obtain ⟨kq, h3, h4⟩ := (with_iff vc vb).1 hcb k d hd hk
    obtain ⟨k', h5, h6⟩ := meet_hi (validS_gd va) (validS_gd vb) h2 h4 (inc_cmp h1 h3)
    have h7 : incK k' k = true := by
      rcases h6 with rfl | rfl
      · exact h1
      · exact h3
    obtain ⟨k2, h8, h9⟩ := h.up hd h5
    exact ⟨k2, incK_trans h8 h7, h9⟩
  · intro hcm; exact with_trans vc vm vb hcm (meet_in va vb vm h).2
theorem join_in (va : validS a = true) (vb : validS b = true) (vj : validS j = true) (h : NF (a ++ b) j) : withS a j = true ∧ withS b j = true :=
  ⟨(with_iff va vj).2 fun _ _ hd hk => h.up hd (has_app.2 (.inl hk)), (with_iff vb vj).2 fun _ _ hd hk => h.up hd (has_app.2 (.inr hk))⟩
theorem join_least (va : validS a = true) (vb : validS b = true) (vc : validS c = true) (vj : validS j = true) (h : NF (a ++ b) j) (hac : withS a c = true) : withS b c = withS j c := by
  rw [Bool.eq_iff_iff]
  constructor
  · intro hbc
    refine (with_iff vj vc).2 fun k d hd hk => ?_
    rcases has_app.1 (h.sub hd hk) with h1 | h1
    · exact (with_iff va vc).1 hac k d hd h1
    · exact (with_iff vb vc).1 hbc k d hd h1
  · intro hjc; exact with_trans vb vj vc (join_in va vb vj h).2 hjc
theorem norm_norm (h : NF a x) : NF x x :=
  ⟨h.srt, h.mr, Nat.le_refl _, fun k c hc => ⟨fun hk => ⟨hk, fun ⟨k', h1, h2, h3⟩ => ((h.has k c hc).1 hk).2 ⟨k', h1, h2, h.sub hc h3⟩⟩, fun h => h.1⟩⟩
end
end Go.Proofs.YtmnbkcpopfmpdaaDoor
