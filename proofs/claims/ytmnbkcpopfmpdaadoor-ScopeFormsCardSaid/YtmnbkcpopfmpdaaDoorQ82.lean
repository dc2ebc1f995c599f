/-
  Scopes, plain facts: what the normal form is. Of the models alone; no program; no condition but the ranges told.
-/
import Derived.Test.YtmnbkcpopfmpdaaDoorQ81
namespace Go.Proofs.YtmnbkcpopfmpdaaDoor
open Go.Gk Go.RowKit
/-- A normal form: in order, each key once, and of each key what no other key includes. -/
structure NF (l r : List S_api_Permit) : Prop where
  srt : r.Pairwise fun a b => lt_sort a b = true
  mr : ∀ p ∈ r, 1 ≤ p.2.2 ∧ p.2.2 ≤ 127
  len : r.length ≤ l.length
  has : ∀ k c, Cr c → (hasP r k c ↔ hasP l k c ∧ ¬ ∃ k', k' ≠ k ∧ incK k' k = true ∧ hasP l k' c)
theorem NF.uniq {l l' r r' : List S_api_Permit} (h : NF l r) (h' : NF l' r') (he : ∀ k c, Cr c → (hasP l k c ↔ hasP l' k c)) : r = r' := by
  refine srt_eq h.srt h'.srt h.mr h'.mr fun k c hc => ?_
  rw [h.has k c hc, h'.has k c hc, he k c hc]
  constructor
  · rintro ⟨a, b⟩; exact ⟨a, fun ⟨k', x, y, z⟩ => b ⟨k', x, y, (he k' c hc).2 z⟩⟩
  · rintro ⟨a, b⟩; exact ⟨a, fun ⟨k', x, y, z⟩ => b ⟨k', x, y, (he k' c hc).1 z⟩⟩
theorem NF.sub {l r : List S_api_Permit} (h : NF l r) {k : Ky} {c : Int} (hc : Cr c) (hk : hasP r k c) : hasP l k c := ((h.has k c hc).1 hk).1
/-- What a list has lies within what its normal form has. -/
theorem NF.top {l r : List S_api_Permit} (h : NF l r) {c : Int} (hc : Cr c) : ∀ (n : Nat) (k : Ky), kht k < n → hasP l k c → ∃ k', incK k' k = true ∧ hasP r k' c
  | 0, k, hn, _ => by omega
  | n + 1, k, hn, hk => by
    by_cases hx : ∃ k', k' ≠ k ∧ incK k' k = true ∧ hasP l k' c
    · obtain ⟨k', h1, h2, h3⟩ := hx
      have := incK_ht h2 h1
      obtain ⟨k2, h4, h5⟩ := h.top hc n k' (by omega) h3
      exact ⟨k2, incK_trans h4 h2, h5⟩
    · exact ⟨k, incK_refl k, (h.has k c hc).2 ⟨hk, hx⟩⟩
theorem NF.up {l r : List S_api_Permit} (h : NF l r) {k : Ky} {c : Int} (hc : Cr c) (hk : hasP l k c) : ∃ k', incK k' k = true ∧ hasP r k' c := h.top hc _ k (Nat.lt_succ_self _) hk
theorem NF.key {l r : List S_api_Permit} (h : NF l r) {p : S_api_Permit} (hp : p ∈ r) : ∃ q ∈ l, ky q = ky p := by
  obtain ⟨m1, m2⟩ := h.mr p hp
  obtain ⟨c, hc, hb⟩ := bit_some (m := p.2.2) ⟨by omega, m2⟩ (by omega)
  obtain ⟨q, hq, e, _⟩ := h.sub hc ⟨p, hp, rfl, hb⟩
  exact ⟨q, hq, e⟩
/-! ### First: equal keys are made one -/
structure Sm (zs s : List S_api_Permit) : Prop where
  srt : s.Pairwise fun a b => lt_sort a b = true
  gd : ∀ p ∈ s, 1 ≤ p.2.2 ∧ p.2.2 ≤ 127
  has : ∀ k c, Cr c → (hasP s k c ↔ hasP zs k c)
  len : s.length ≤ zs.length
  last : (zs = [] ∧ s = []) ∨ ∃ s0 e z, s = s0 ++ [e] ∧ z ∈ zs ∧ ky e = ky z ∧ ∀ y ∈ s0, lt_sort y e = true
def sumF (s : List S_api_Permit) (p : S_api_Permit) : List S_api_Permit :=
  match s.getLast? with
  | some e => bif ky e == ky p then s.set (s.length - 1) (e.1, (e.2.1, ibit .or e.2.2 p.2.2)) else s ++ [p]
  | none => s ++ [p]
theorem or_ne {m n : Int} (hm : 1 ≤ m ∧ m ≤ 127) (hn : Mr n) : 1 ≤ ibit .or m n ∧ ibit .or m n ≤ 127 := by
  have hmr : Mr m := ⟨by omega, hm.2⟩
  obtain ⟨c, hc, hb⟩ := bit_some hmr (by omega)
  have h := bit_or (c := c) hmr hn
  have h2 := h.2
  have : ibit .or m n ≠ 0 := bit_none (c := c) (by rw [h.1, hb]; rfl)
  exact ⟨by have := h2.1; omega, h2.2⟩
theorem has_app {l l' : List S_api_Permit} {k : Ky} {c : Int} : hasP (l ++ l') k c ↔ hasP l k c ∨ hasP l' k c := by
  unfold hasP
  constructor
  · rintro ⟨p, hp, h⟩
    rcases List.mem_append.1 hp with hp | hp
    · exact .inl ⟨p, hp, h⟩
    · exact .inr ⟨p, hp, h⟩
  · rintro (⟨p, hp, h⟩ | ⟨p, hp, h⟩)
    · exact ⟨p, List.mem_append.2 (.inl hp), h⟩
    · exact ⟨p, List.mem_append.2 (.inr hp), h⟩
theorem has_one {p : S_api_Permit} {k : Ky} {c : Int} : hasP [p] k c ↔ ky p = k ∧ bitS p.2.2 c = true := by
  unfold hasP; simp
theorem Sm.put {zs s : List S_api_Permit} {p : S_api_Permit} (h : Sm zs s) (hp : 1 ≤ p.2.2 ∧ p.2.2 ≤ 127) (hz : ∀ z ∈ zs, lt_sort p z = false) : Sm (zs ++ [p]) (sumF s p) := by
  have hpm : Mr p.2.2 := ⟨by omega, hp.2⟩
  rcases h.last with ⟨rfl, rfl⟩ | ⟨s0, e, z, rfl, hzm, hez, hs0⟩
  · exact ⟨List.pairwise_singleton _ _, fun q hq => by rw [show q = p from List.mem_singleton.1 hq]; exact hp, fun k c _ => Iff.rfl, Nat.le_refl _, .inr ⟨[], p, p, rfl, by simp, rfl, fun y hy => by simp at hy⟩⟩
  · have hlast : (s0 ++ [e]).getLast? = some e := by simp
    have hpe : lt_sort p e = false := by rw [lt_ky (a' := p) (b' := z) rfl hez]; exact hz z hzm
    have hem := h.gd e (by simp)
    have hemr : Mr e.2.2 := ⟨by omega, hem.2⟩
    unfold sumF
    rw [hlast]
    simp only
    cases hk : (ky e == ky p) with
    | true =>
      have hk := eq_of_beq hk
      have hset : (s0 ++ [e]).set ((s0 ++ [e]).length - 1) (e.1, (e.2.1, ibit .or e.2.2 p.2.2)) = s0 ++ [(e.1, (e.2.1, ibit .or e.2.2 p.2.2))] := by
        rw [List.length_append, List.length_singleton, Nat.add_sub_cancel, List.set_append_right _ _ (Nat.le_refl _), Nat.sub_self]; rfl
      rw [cond_true, hset]
      have hke : ky (e.1, (e.2.1, ibit .or e.2.2 p.2.2)) = ky e := rfl
      refine ⟨?_, fun q hq => ?_, fun k c hc => ?_, ?_, .inr ⟨s0, _, z, rfl, by simp [hzm], hez, fun y hy => by rw [lt_ky (a' := y) rfl hke]; exact hs0 y hy⟩⟩
      · have hs := h.srt
        rw [List.pairwise_append] at hs ⊢
        refine ⟨hs.1, List.pairwise_singleton _ _, fun a ha b hb => ?_⟩
        rw [List.mem_singleton.1 hb, lt_ky (a' := a) rfl hke]; exact hs0 a ha
      · rcases List.mem_append.1 hq with hq | hq
        · exact h.gd q (by simp [hq])
        · rw [List.mem_singleton.1 hq]; exact or_ne hem hpm
      · have h1 := h.has k c hc
        rw [has_app, has_one] at h1
        rw [has_app, has_app, has_one, has_one, ← h1, hke]
        have hb := (bit_or (c := c) hemr hpm).1
        show _ ∨ (ky e = k ∧ bitS (ibit .or e.2.2 p.2.2) c = true) ↔ _
        rw [hb, Bool.or_eq_true, ← hk]
        constructor
        · rintro (h | ⟨h, h' | h'⟩)
          · exact .inl (.inl h)
          · exact .inl (.inr ⟨h, h'⟩)
          · exact .inr ⟨h, h'⟩
        · rintro ((h | ⟨h, h'⟩) | ⟨h, h'⟩)
          · exact .inl h
          · exact .inr ⟨h, .inl h'⟩
          · exact .inr ⟨h, .inr h'⟩
      · have := h.len; simp at this ⊢; omega
    | false =>
      have hk : ky e ≠ ky p := fun e' => by rw [e', beq_self_eq_true] at hk; cases hk
      rw [cond_false]
      have hep : lt_sort e p = true := by
        cases hx : lt_sort e p with
        | true => rfl
        | false => exact absurd (lt_tri hx hpe) hk
      have hall : ∀ a ∈ s0 ++ [e], lt_sort a p = true := fun a ha => by
        rcases List.mem_append.1 ha with ha | ha
        · exact swo_sort.trans _ _ _ (hs0 a ha) hep
        · rw [List.mem_singleton.1 ha]; exact hep
      refine ⟨?_, fun q hq => ?_, fun k c hc => ?_, ?_, .inr ⟨s0 ++ [e], p, p, rfl, by simp, rfl, hall⟩⟩
      · rw [List.pairwise_append]
        exact ⟨h.srt, List.pairwise_singleton _ _, fun a ha b hb => by rw [List.mem_singleton.1 hb]; exact hall a ha⟩
      · rcases List.mem_append.1 hq with hq | hq
        · exact h.gd q hq
        · rw [List.mem_singleton.1 hq]; exact hp
      · rw [has_app (l := s0 ++ [e]), has_app (l := zs), h.has k c hc]
      · have := h.len; simp at this ⊢; omega
theorem Sm.all : ∀ {ys zs s : List S_api_Permit}, Sm zs s → (∀ p ∈ ys, 1 ≤ p.2.2 ∧ p.2.2 ≤ 127) → ys.Pairwise (fun a b => lt_sort b a = false) → (∀ z ∈ zs, ∀ p ∈ ys, lt_sort p z = false) → Sm (zs ++ ys) (ys.foldl sumF s)
  | [], zs, s, h, _, _, _ => by simpa using h
  | p :: ys, zs, s, h, hg, hp, hz => by
    obtain ⟨p1, p2⟩ := List.pairwise_cons.1 hp
    have h1 := h.put (hg p (by simp)) fun z hz' => hz z hz' p (by simp)
    have h2 := Sm.all h1 (fun q hq => hg q (by simp [hq])) p2 fun z hz' q hq => by
      rcases List.mem_append.1 hz' with hz' | hz'
      · exact hz z hz' q (by simp [hq])
      · rw [List.mem_singleton.1 hz']; exact p1 q hq
    rw [List.append_assoc] at h2
    exact h2
/-! ### Then: what others include goes -/
def redF (p q : S_api_Permit) : S_api_Permit := bif !(ky p == ky q) && incK (ky q) (ky p) then (p.1, (p.2.1, ibit .andNot p.2.2 q.2.2)) else p
def red (s : List S_api_Permit) (p : S_api_Permit) : S_api_Permit := s.foldl redF p
theorem redF_ky (p q : S_api_Permit) : ky (redF p q) = ky p := by
  unfold redF
  cases (!(ky p == ky q) && incK (ky q) (ky p)) <;> rfl
theorem redF_mr {p q : S_api_Permit} (hp : Mr p.2.2) (hq : Mr q.2.2) : Mr (redF p q).2.2 := by
  unfold redF
  cases (!(ky p == ky q) && incK (ky q) (ky p)) with
  | true => exact not_mr hp hq
  | false => exact hp
theorem red_ok : ∀ {s : List S_api_Permit} {p : S_api_Permit}, (∀ q ∈ s, Mr q.2.2) → Mr p.2.2 → ky (red s p) = ky p ∧ Mr (red s p).2.2 ∧ ∀ c, Cr c → bitS (red s p).2.2 c = (bitS p.2.2 c && !(s.any fun q => !(ky p == ky q) && incK (ky q) (ky p) && bitS q.2.2 c))
  | [], p, _, hp => ⟨rfl, hp, fun c _ => by simp [red]⟩
  | q :: s, p, hs, hp => by
    have hq := hs q (by simp)
    obtain ⟨h1, h2, h3⟩ := red_ok (s := s) (p := redF p q) (fun x hx => hs x (by simp [hx])) (redF_mr hp hq)
    refine ⟨h1.trans (redF_ky p q), h2, fun c hc => (h3 c hc).trans ?_⟩
    rw [redF_ky, List.any_cons]
    unfold redF
    cases (!(ky p == ky q) && incK (ky q) (ky p)) with
    | true =>
      show (bitS (ibit .andNot p.2.2 q.2.2) c && _) = _
      rw [bit_not hp hq hc, Bool.true_and]
      cases bitS p.2.2 c <;> cases bitS q.2.2 c <;> rfl
    | false => rfl
def outF (s acc : List S_api_Permit) (p : S_api_Permit) : List S_api_Permit := bif (red s p).2.2 != 0 then acc ++ [red s p] else acc
theorem outF_all (s : List S_api_Permit) : ∀ (ys acc : List S_api_Permit), ys.foldl (outF s) acc = acc ++ (ys.map (red s)).filter (fun p => p.2.2 != 0)
  | [], acc => by simp
  | y :: ys, acc => by
    rw [List.foldl_cons, outF_all s ys, List.map_cons, List.filter_cons]
    unfold outF
    cases ((red s y).2.2 != 0) <;> simp
theorem nf_of {zs s : List S_api_Permit} (h : Sm zs s) : NF zs (s.foldl (outF s) []) := by
  have hmr : ∀ q ∈ s, Mr q.2.2 := fun q hq => ⟨by have := (h.gd q hq).1; omega, (h.gd q hq).2⟩
  rw [outF_all, List.nil_append]
  refine ⟨?_, fun p hp => ?_, ?_, fun k c hc => ?_⟩
  · refine List.Pairwise.filter _ (List.pairwise_map.2 ?_)
    refine List.Pairwise.imp_of_mem (fun {a b} ha hb hab => ?_) h.srt
    rw [lt_ky (red_ok hmr (hmr a ha)).1 (red_ok hmr (hmr b hb)).1]; exact hab
  · obtain ⟨hp, hne⟩ := List.mem_filter.1 hp
    obtain ⟨q, hq, rfl⟩ := List.mem_map.1 hp
    have h2 := (red_ok hmr (hmr q hq)).2.1
    have h3 : (red s q).2.2 ≠ 0 := by simpa using hne
    exact ⟨by have := h2.1; omega, h2.2⟩
  · have := List.length_filter_le (fun p : S_api_Permit => p.2.2 != 0) (s.map (red s))
    rw [List.length_map] at this
    have := h.len
    omega
  · have hex : (∃ k', k' ≠ k ∧ incK k' k = true ∧ hasP zs k' c) ↔ (s.any fun q => !(k == ky q) && incK (ky q) k && bitS q.2.2 c) = true := by
      rw [List.any_eq_true]
      constructor
      · rintro ⟨k', h1, h2, h3⟩
        obtain ⟨q, hq, rfl, hb⟩ := (h.has k' c hc).2 h3
        refine ⟨q, hq, ?_⟩
        have : (k == ky q) = false := by rw [beq_eq_false_iff_ne]; exact Ne.symm h1
        rw [this, h2, hb]; rfl
      · rintro ⟨q, hq, h4⟩
        simp only [Bool.and_eq_true, Bool.not_eq_true', beq_eq_false_iff_ne] at h4
        exact ⟨ky q, Ne.symm h4.1.1, h4.1.2, (h.has _ c hc).1 ⟨q, hq, rfl, h4.2⟩⟩
    rw [hex, ← h.has k c hc]
    constructor
    · rintro ⟨p, hp, rfl, hb⟩
      obtain ⟨hp, _⟩ := List.mem_filter.1 hp
      obtain ⟨q, hq, rfl⟩ := List.mem_map.1 hp
      obtain ⟨h1, h2, h3⟩ := red_ok hmr (hmr q hq)
      rw [h3 c hc, Bool.and_eq_true, Bool.not_eq_true'] at hb
      rw [h1]
      exact ⟨⟨q, hq, rfl, hb.1⟩, by rw [hb.2]; exact Bool.false_ne_true⟩
    · rintro ⟨⟨q, hq, rfl, hb⟩, hno⟩
      obtain ⟨h1, h2, h3⟩ := red_ok hmr (hmr q hq)
      have hb2 : bitS (red s q).2.2 c = true := by
        rw [h3 c hc, hb]
        cases hx : (s.any fun q' => !(ky q == ky q') && incK (ky q') (ky q) && bitS q'.2.2 c) with
        | true => exact absurd hx hno
        | false => rfl
      refine ⟨red s q, List.mem_filter.2 ⟨List.mem_map.2 ⟨q, hq, rfl⟩, ?_⟩, h1, hb2⟩
      have := bit_none hb2
      simpa using this
/-! ### The function -/
theorem sort_ex (l : List S_api_Permit) : ∃ ys, rel_sort l ys := by
  refine ⟨l.mergeSort (fun a b => !lt_sort b a), List.mergeSort_perm _ _, ?_⟩
  have h := List.pairwise_mergeSort (le := fun a b => !lt_sort b a) (fun a b c h1 h2 => ?_) (fun a b => ?_) l
  · exact h.imp fun {a b} hab => by simpa using hab
  · simp only [Bool.not_eq_true'] at h1 h2 ⊢
    exact swo_sort.ntrans _ _ _ h2 h1
  · cases h1 : lt_sort b a with
    | false => rfl
    | true =>
      cases h2 : lt_sort a b with
      | false => simp
      | true => have := swo_sort.trans _ _ _ h1 h2; rw [swo_sort.irrefl] at this; cases this
theorem rng_n {n : Nat} (h : n ≤ 1000000) : rng (n : Int) = some n := by
  unfold rng
  rw [if_pos (by omega)]
  simp
theorem loopN_fold {R S α : Type} {bn : Nat → S → Option R} {bs : Nat → S → (S → Option R) → Option R} (xs : List α) (f : S → α → S) (J : Nat → S → Prop) (h : ∀ k x s self, xs[k]? = some x → J k s → bs k s self = self (f s x) ∧ J (k + 1) (f s x)) : ∀ (ys : List α) (k : Nat) (s : S), xs.drop k = ys → J k s → loopN bn bs ys.length k s = bn (k + ys.length) (ys.foldl f s)
  | [], k, s, _, _ => rfl
  | y :: ys, k, s, hk, hj => by
    have hy : xs[k]? = some y := by have := congrArg (fun z => z[0]?) hk; simpa using this
    have hd : xs.drop (k + 1) = ys := by have := congrArg (fun z => z.drop 1) hk; simpa using this
    obtain ⟨h1, h2⟩ := h k y s (loopN bn bs ys.length (k + 1)) hy hj
    rw [List.length_cons, loopN_succ, h1, loopN_fold xs f J h ys (k + 1) _ hd h2, show k + 1 + ys.length = k + (ys.length + 1) by omega]
    rfl
theorem sumF_gd {s : List S_api_Permit} {p : S_api_Permit} (hs : ∀ q ∈ s, q.1.length ≤ 64) (hp : p.1.length ≤ 64) : (sumF s p).length ≤ s.length + 1 ∧ ∀ q ∈ sumF s p, q.1.length ≤ 64 := by
  have happ : (s ++ [p]).length ≤ s.length + 1 ∧ ∀ q ∈ s ++ [p], q.1.length ≤ 64 := ⟨by simp, fun q hq => by
    rcases List.mem_append.1 hq with hq | hq
    · exact hs q hq
    · rw [List.mem_singleton.1 hq]; exact hp⟩
  unfold sumF
  cases he : s.getLast? with
  | none => exact happ
  | some e =>
    simp only
    cases (ky e == ky p) with
    | false => exact happ
    | true =>
      rw [cond_true]
      refine ⟨by rw [List.length_set]; omega, fun q hq => ?_⟩
      rcases List.mem_or_eq_of_mem_set hq with hq | rfl
      · exact hs q hq
      · exact hs e (List.mem_of_getLast? he)
theorem normal_run {ys : List S_api_Permit} (hg : Gd ys) (hn : ys.length ≤ 1000000) : (loopL (R := (List S_api_Permit)) (S := (List S_api_Permit)) (α := S_api_Permit) (fun k3 s4 =>
    bnd (rng (s4.length : Int)) fun j29 =>
    loopN (R := (List S_api_Permit)) (S := (List S_api_Permit)) (fun k5 s6 => some s6)
     (fun k7 s8 self9 =>
    bnd (β := (List S_api_Permit)) (bnd (idx s4 (k7 : Int)) fun x10 =>
    bnd (idx s4 ((((k7 : Int) : Int)).toNat : Int)) fun x11 =>
    bnd (rng (s4.length : Int)) fun j27 =>
    loopN (R := (List S_api_Permit)) (S := S_api_Permit) (fun k12 s13 =>
    letm ((s13.2.2 != 0)) fun x14 =>
    cond x14 (bnd (app s8 [s13]) fun x15 => some x15) (some s8))
     (fun k16 s17 self18 =>
    bnd (β := S_api_Permit) (bnd (idx s4 (k16 : Int)) fun x19 =>
    bnd (idx s4 ((((k16 : Int) : Int)).toNat : Int)) fun x20 =>
    bnd (β := Bool) (bnd (m_scope_compare s17 x20) fun x21 =>
    letm ((x21 != 0)) fun x22 =>
    cond x22 (bnd (m_scope_includes x20 s17) fun x23 => some x23) (some false)) fun v24 =>
    cond v24 (letm ((ibit .andNot s17.2.2 x20.2.2)) fun x25 => some (s17.1, (s17.2.1, x25))) (some s17)) fun v26 =>
    self18 v26) j27 0 x11) fun v28 =>
    self9 v28) j29 0 [])
     (fun x30 k31 s32 self33 =>
    bnd (β := (List S_api_Permit)) (bnd (β := Bool) (letm (decide (0 < (s32.length : Int))) fun x34 =>
    cond x34 (letm ((w64 ((s32.length : Int) - 1))) fun x35 =>
    bnd (idx s32 x35) fun x36 =>
    bnd (idx s32 (((x35 : Int)).toNat : Int)) fun x37 =>
    bnd (m_scope_compare x37 x30) fun x38 =>
    letm ((x38 == 0)) fun x39 => some x39)
     (some false)) fun v40 =>
    cond v40 (letm ((w64 ((s32.length : Int) - 1))) fun x41 =>
    bnd (idx s32 x41) fun x42 =>
    bnd (idx s32 (((x41 : Int)).toNat : Int)) fun x43 =>
    letm ((ibit .or x43.2.2 x30.2.2)) fun x44 =>
    bnd (idx s32 x41) fun x45 =>
    bnd (idx s32 (((x41 : Int)).toNat : Int)) fun x46 =>
    letm ((s32.set ((x41 : Int)).toNat (x46.1, (x46.2.1, x44)))) fun x47 => some x47)
     (bnd (app s32 [x30]) fun x48 => some x48)) fun v49 =>
    self33 v49) ys 0 []) = some ((ys.foldl sumF []).foldl (outF (ys.foldl sumF [])) []) := by
  obtain ⟨h1, h2, h3⟩ := loopL_fold (R := List S_api_Permit) (bn := fun k3 s4 =>
    bnd (rng (s4.length : Int)) fun j29 =>
    loopN (R := (List S_api_Permit)) (S := (List S_api_Permit)) (fun k5 s6 => some s6)
     (fun k7 s8 self9 =>
    bnd (β := (List S_api_Permit)) (bnd (idx s4 (k7 : Int)) fun x10 =>
    bnd (idx s4 ((((k7 : Int) : Int)).toNat : Int)) fun x11 =>
    bnd (rng (s4.length : Int)) fun j27 =>
    loopN (R := (List S_api_Permit)) (S := S_api_Permit) (fun k12 s13 =>
    letm ((s13.2.2 != 0)) fun x14 =>
    cond x14 (bnd (app s8 [s13]) fun x15 => some x15) (some s8))
     (fun k16 s17 self18 =>
    bnd (β := S_api_Permit) (bnd (idx s4 (k16 : Int)) fun x19 =>
    bnd (idx s4 ((((k16 : Int) : Int)).toNat : Int)) fun x20 =>
    bnd (β := Bool) (bnd (m_scope_compare s17 x20) fun x21 =>
    letm ((x21 != 0)) fun x22 =>
    cond x22 (bnd (m_scope_includes x20 s17) fun x23 => some x23) (some false)) fun v24 =>
    cond v24 (letm ((ibit .andNot s17.2.2 x20.2.2)) fun x25 => some (s17.1, (s17.2.1, x25))) (some s17)) fun v26 =>
    self18 v26) j27 0 x11) fun v28 =>
    self9 v28) j29 0 []) (bs := fun x30 k31 s32 self33 =>
    bnd (β := (List S_api_Permit)) (bnd (β := Bool) (letm (decide (0 < (s32.length : Int))) fun x34 =>
    cond x34 (letm ((w64 ((s32.length : Int) - 1))) fun x35 =>
    bnd (idx s32 x35) fun x36 =>
    bnd (idx s32 (((x35 : Int)).toNat : Int)) fun x37 =>
    bnd (m_scope_compare x37 x30) fun x38 =>
    letm ((x38 == 0)) fun x39 => some x39)
     (some false)) fun v40 =>
    cond v40 (letm ((w64 ((s32.length : Int) - 1))) fun x41 =>
    bnd (idx s32 x41) fun x42 =>
    bnd (idx s32 (((x41 : Int)).toNat : Int)) fun x43 =>
    letm ((ibit .or x43.2.2 x30.2.2)) fun x44 =>
    bnd (idx s32 x41) fun x45 =>
    bnd (idx s32 (((x41 : Int)).toNat : Int)) fun x46 =>
    letm ((s32.set ((x41 : Int)).toNat (x46.1, (x46.2.1, x44)))) fun x47 => some x47)
     (bnd (app s32 [x30]) fun x48 => some x48)) fun v49 =>
    self33 v49) sumF (fun k s => s.length ≤ k ∧ ∀ q ∈ s, q.1.length ≤ 64) ys 0 [] (fun i p s self hx hJ => by
      have hi : i < ys.length := (List.getElem?_eq_some_iff.1 hx).1
      obtain ⟨j1, j2⟩ := hJ
      have hpl : p.1.length ≤ 64 := (hg p (List.mem_of_getElem? hx)).2.2
      obtain ⟨g1, g2⟩ := sumF_gd j2 hpl
      refine ⟨?_, by omega, g2⟩
      have happ : app s [p] = some (s ++ [p]) := app_some' (by simp; omega)
      rcases List.eq_nil_or_concat s with rfl | ⟨s0, e, rfl⟩
      · simp only [List.length_nil]
        rw [letm_e, decide_eq_false (by omega), cd_f, bnd_s, cd_f, happ, bnd_s, bnd_s]; rfl
      · rw [List.concat_eq_append] at *
        have hl : ((s0 ++ [e]).length : Int) = (s0.length : Int) + 1 := by simp
        have hl2 : (s0 ++ [e]).length = s0.length + 1 := by simp
        have hw : w64 (((s0 ++ [e]).length : Int) - 1) = (s0.length : Int) := by rw [hl, w64_of (by omega) (by omega)]; omega
        have hix : idx (s0 ++ [e]) (s0.length : Int) = some e := idx_some' (by simp)
        obtain ⟨c, hc, hce⟩ := cmp_zero e p
        have hlast : (s0 ++ [e]).getLast? = some e := by simp
        rw [letm_e, decide_eq_true (by omega), cd_t, hw, letm_e, hix, bnd_s, show (((s0.length : Int)).toNat : Int) = (s0.length : Int) from rfl, hix, bnd_s, hc, bnd_s, letm_e, bnd_s, hce]
        unfold sumF
        rw [hlast]
        simp only
        cases (ky e == ky p) with
        | false => rw [cd_f, happ, bnd_s, bnd_s]; rfl
        | true =>
          rw [cd_t, hl2]
          simp only [letm_e, bnd_s, Int.toNat_natCast, hix]
          rfl) ⟨Nat.le_refl _, fun q hq => by simp at hq⟩
  refine h1.trans ?_
  generalize ys.foldl sumF [] = S at h2 h3
  have hS : S.length ≤ 1000000 := by omega
  rw [rng_n hS, bnd_s]
  refine (loopN_fold S (outF S) (fun k acc => acc.length ≤ k) (fun k p acc self hk hJ => ?_) S 0 [] (List.drop_zero) (Nat.le_refl _)).trans rfl
  have hlt : k < S.length := (List.getElem?_eq_some_iff.1 hk).1
  have hix : idx S (k : Int) = some p := idx_some' hk
  have hpm := List.mem_of_getElem? hk
  refine ⟨?_, by unfold outF; cases ((red S p).2.2 != 0) <;> simp <;> omega⟩
  rw [hix, bnd_s, show (((k : Int)).toNat : Int) = (k : Int) from rfl, hix, bnd_s, bnd_s]
  rw [loopN_fold S redF (fun _ _ => True) (fun j q s self hj _ => ⟨?_, trivial⟩) S 0 p (List.drop_zero) trivial]
  · show bnd (letm ((red S p).2.2 != 0) _) _ = _
    rw [letm_e]
    unfold outF
    cases ((red S p).2.2 != 0) with
    | true => rw [cd_t, app_some' (by simp; omega), bnd_s, bnd_s]; rfl
    | false => rfl
  · have hjx : idx S (j : Int) = some q := idx_some' hj
    have hql := h3 q (List.mem_of_getElem? hj)
    obtain ⟨c, hc, hce⟩ := cmp_zero s q
    rw [hjx, bnd_s, show (((j : Int)).toNat : Int) = (j : Int) from rfl, hjx, bnd_s, hc, bnd_s, letm_e, includes_eq (by omega), bnd_s]
    have hne : (c != 0) = !(ky s == ky q) := by rw [← hce]; rfl
    rw [hne]
    unfold redF
    cases (ky s == ky q) <;> cases incK (ky q) (ky s) <;> rfl
theorem normal_nf {l : List S_api_Permit} (hg : Gd l) (hn : l.length ≤ 1000000) : ∃ r, m_scope_normal l = some r ∧ NF l r := by
  have key : ∀ ys, rel_sort l ys → Sm ys (ys.foldl sumF []) ∧ Gd ys ∧ ys.length = l.length ∧ ∀ k c, hasP ys k c ↔ hasP l k c := fun ys hy => by
    have hgy : Gd ys := fun p hp => hg p (hy.1.mem_iff.1 hp)
    refine ⟨?_, hgy, hy.1.length_eq, fun k c => ?_⟩
    · have h0 : Sm [] [] := ⟨List.Pairwise.nil, fun p hp => by simp at hp, fun k c _ => Iff.rfl, Nat.le_refl _, .inl ⟨rfl, rfl⟩⟩
      have := h0.all (ys := ys) (fun p hp => ⟨(hgy p hp).1, (hgy p hp).2.1⟩) hy.2 (fun z hz => by simp at hz)
      simpa using this
    · unfold hasP
      constructor
      · rintro ⟨p, hp, h⟩; exact ⟨p, hy.1.mem_iff.1 hp, h⟩
      · rintro ⟨p, hp, h⟩; exact ⟨p, hy.1.mem_iff.2 hp, h⟩
  have nf : ∀ ys, rel_sort l ys → NF l ((ys.foldl sumF []).foldl (outF (ys.foldl sumF [])) []) := fun ys hy => by
    obtain ⟨h1, _, h3, h4⟩ := key ys hy
    have h := nf_of h1
    refine ⟨h.srt, h.mr, by rw [← h3]; exact h.len, fun k c hc => ?_⟩
    rw [h.has k c hc, h4]
    constructor
    · rintro ⟨a, b⟩; exact ⟨a, fun ⟨k', x, y, z⟩ => b ⟨k', x, y, (h4 k' c).2 z⟩⟩
    · rintro ⟨a, b⟩; exact ⟨a, fun ⟨k', x, y, z⟩ => b ⟨k', x, y, (h4 k' c).1 z⟩⟩
  obtain ⟨y0, hy0⟩ := sort_ex l
  refine ⟨_, ?_, nf y0 hy0⟩
  unfold m_scope_normal
  rw [app_some' (by simp; omega), bnd_s, List.nil_append, show Nat.ble (List.length l) 4294967296 = true from Nat.ble_eq_true_of_le (by omega), cd_t]
  refine anyS_eq (fun ys hy => ?_) ⟨y0, hy0⟩
  obtain ⟨_, h2, h3, _⟩ := key ys hy
  rw [(nf y0 hy0).uniq (nf ys hy) fun _ _ _ => Iff.rfl]
  exact normal_run h2 (by omega)
end Go.Proofs.YtmnbkcpopfmpdaaDoor
