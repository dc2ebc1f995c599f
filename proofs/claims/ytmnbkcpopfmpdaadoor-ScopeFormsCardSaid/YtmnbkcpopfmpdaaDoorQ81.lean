/-
  Scopes, plain facts: what lies within what, and the normal form. Of the models alone; no program; no condition but the ranges told.
-/
import Derived.Test.YtmnbkcpopfmpdaaDoorQ80
namespace Go.Proofs.YtmnbkcpopfmpdaaDoor
open Go.Gk Go.RowKit
theorem loopL_run {R S α : Type} {bn : Nat → S → Option R} {bs : α → Nat → S → (S → Option R) → Option R} (f : S → α → S) (J : S → Prop) : ∀ (xs : List α) (k : Nat) (s : S), J s → (∀ x, x ∈ xs → ∀ k s self, J s → bs x k s self = self (f s x) ∧ J (f s x)) → loopL bn bs xs k s = bn (k + xs.length) (xs.foldl f s)
  | [], k, s, _, _ => rfl
  | x :: xs, k, s, hj, h => by
    obtain ⟨h1, h2⟩ := h x (by simp) k s (loopL bn bs xs (k + 1)) hj
    rw [loopL_cons, h1, loopL_run f J xs (k + 1) _ h2 fun y hy => h y (by simp [hy]), List.length_cons, show k + 1 + xs.length = k + (xs.length + 1) by omega]
    rfl
theorem loopN_run {R S α : Type} {bn : Nat → S → Option R} {bs : Nat → S → (S → Option R) → Option R} (xs : List α) (f : S → α → S) (J : S → Prop) (h : ∀ k x s self, xs[k]? = some x → J s → bs k s self = self (f s x) ∧ J (f s x)) : ∀ (ys : List α) (k : Nat) (s : S), xs.drop k = ys → J s → loopN bn bs ys.length k s = bn (k + ys.length) (ys.foldl f s)
  | [], k, s, _, _ => rfl
  | y :: ys, k, s, hk, hj => by
    have hy : xs[k]? = some y := by have := congrArg (fun z => z[0]?) hk; simpa using this
    have hd : xs.drop (k + 1) = ys := by have := congrArg (fun z => z.drop 1) hk; simpa using this
    obtain ⟨h1, h2⟩ := h k y s (loopN bn bs ys.length (k + 1)) hy hj
    rw [List.length_cons, loopN_succ, h1, loopN_run xs f J h ys (k + 1) _ hd h2, show k + 1 + ys.length = k + (ys.length + 1) by omega]
    rfl
theorem includes_eq {a b : S_api_Permit} (h : a.1.length ≤ 1000000) : m_scope_includes a b = some (incK (ky a) (ky b)) := by
  unfold m_scope_includes incK
  rw [below_eq h, covers_eq h]
  simp only [letm_e, bnd_s]
  show cond b.2.1 _ _ = some (bif b.2.1 then a.2.1 && ((a.1 == b.1) || belowS b.1 a.1) else covS a b.1)
  cases b.2.1 <;> cases a.2.1 <;> cases (a.1 == b.1) <;> rfl
/-- Methods that count, and paths that are not too long. -/
def Gd (l : List S_api_Permit) : Prop := ∀ p ∈ l, 1 ≤ p.2.2 ∧ p.2.2 ≤ 127 ∧ p.1.length ≤ 64
theorem Gd.mr {l : List S_api_Permit} (h : Gd l) {p : S_api_Permit} (hp : p ∈ l) : Mr p.2.2 := ⟨by have := (h p hp).1; omega, (h p hp).2.1⟩
theorem validS_gd {l : List S_api_Permit} (h : validS l = true) : Gd l := fun p hp => ⟨((validS_mem h).2 p hp).2.1, ((validS_mem h).2 p hp).2.2.1, ((validS_mem h).2 p hp).2.2.2⟩
/-- A key has a code. -/
def hasP (l : List S_api_Permit) (k : Ky) (c : Int) : Prop := ∃ p ∈ l, ky p = k ∧ bitS p.2.2 c = true
/-! ### Within -/
def restM (p : S_api_Permit) (b : List S_api_Permit) (s : Int) : Int := b.foldl (fun s q => bif incK (ky q) (ky p) then ibit .andNot s q.2.2 else s) s
theorem restM_ok {p : S_api_Permit} : ∀ {b : List S_api_Permit} {s : Int}, (∀ q ∈ b, Mr q.2.2) → Mr s → Mr (restM p b s) ∧ ∀ c, Cr c → bitS (restM p b s) c = (bitS s c && !(b.any fun q => incK (ky q) (ky p) && bitS q.2.2 c))
  | [], s, _, hs => ⟨hs, fun c _ => by simp [restM]⟩
  | q :: b, s, hb, hs => by
    have hq := hb q (by simp)
    have hs' : Mr (bif incK (ky q) (ky p) then ibit .andNot s q.2.2 else s) := by
      cases incK (ky q) (ky p) with
      | true => exact not_mr hs hq
      | false => exact hs
    obtain ⟨h1, h2⟩ := restM_ok (p := p) (b := b) (fun x hx => hb x (by simp [hx])) hs'
    refine ⟨h1, fun c hc => (h2 c hc).trans ?_⟩
    rw [List.any_cons]
    cases incK (ky q) (ky p) with
    | true =>
      rw [cond_true, bit_not hs hq hc, Bool.true_and]
      cases bitS s c <;> cases bitS q.2.2 c <;> rfl
    | false => rfl
def withS (a b : List S_api_Permit) : Bool := validS a && validS b && a.all fun p => restM p b p.2.2 == 0
theorem within_eq (a b : List S_api_Permit) : m_scope_Within a b = some (withS a b) := by
  unfold m_scope_Within withS
  simp only [valid39, bnd_s, letm_e, cd_or]
  cases ha : validS a with
  | false => rfl
  | true =>
    cases hb : validS b with
    | false => rfl
    | true =>
      have gb := validS_gd hb
      rw [Bool.not_true, Bool.or_false, cd_f]
      refine (loopL_any (fun p => !(restM p b p.2.2 == 0)) (some false) a 0 fun x _ k self => ?_).trans ?_
      · rw [loopL_run (fun s q => bif incK (ky q) (ky x) then ibit .andNot s q.2.2 else s) (fun _ => True) b 0 x.2.2 trivial fun q hq k s self _ => ⟨?_, trivial⟩]
        · rfl
        · rw [includes_eq (by have := (gb q hq).2.2; omega), bnd_s]
          cases incK (ky q) (ky x) <;> rfl
      · rw [any_not]
        cases (a.all fun p => restM p b p.2.2 == 0) <;> rfl
theorem with_iff {a b : List S_api_Permit} (ha : validS a = true) (hb : validS b = true) : withS a b = true ↔ ∀ k c, Cr c → hasP a k c → ∃ k', incK k' k = true ∧ hasP b k' c := by
  have ga := validS_gd ha
  have gb := validS_gd hb
  unfold withS
  rw [ha, hb, Bool.true_and, Bool.true_and, List.all_eq_true]
  constructor
  · rintro h k c hc ⟨p, hp, rfl, hbit⟩
    have h0 := eq_of_beq (h p hp)
    have h2 := (restM_ok (p := p) (fun q hq => gb.mr hq) (ga.mr hp)).2 c hc
    rw [h0, bit_zero, hbit, Bool.true_and] at h2
    have h3 : (b.any fun q => incK (ky q) (ky p) && bitS q.2.2 c) = true := by
      cases hx : (b.any fun q => incK (ky q) (ky p) && bitS q.2.2 c) with
      | true => rfl
      | false => rw [hx] at h2; cases h2
    obtain ⟨q, hq, h4⟩ := List.any_eq_true.1 h3
    rw [Bool.and_eq_true] at h4
    exact ⟨ky q, h4.1, q, hq, rfl, h4.2⟩
  · intro h p hp
    rw [beq_iff_eq]
    obtain ⟨h1, h2⟩ := restM_ok (p := p) (fun q hq => gb.mr hq) (ga.mr hp)
    refine bit_ext h1 ⟨by omega, by omega⟩ fun c hc => ?_
    rw [h2 c hc, bit_zero]
    cases hbit : bitS p.2.2 c with
    | false => rfl
    | true =>
      obtain ⟨k', hk, q, hq, rfl, hqb⟩ := h (ky p) c hc ⟨p, hp, rfl, hbit⟩
      have : (b.any fun q => incK (ky q) (ky p) && bitS q.2.2 c) = true := List.any_eq_true.2 ⟨q, hq, by rw [hk, hqb]; rfl⟩
      rw [this]; rfl
/-! ### The order of keys -/
theorem lt_ky {a b a' b' : S_api_Permit} (h1 : ky a = ky a') (h2 : ky b = ky b') : lt_sort a b = lt_sort a' b' := by
  rw [lt_val, lt_val]
  have e1 : a.1 = a'.1 := congrArg (fun k : Ky => k.1) h1
  have e2 : a.2.1 = a'.2.1 := congrArg (fun k : Ky => k.2) h1
  have e3 : b.1 = b'.1 := congrArg (fun k : Ky => k.1) h2
  have e4 : b.2.1 = b'.2.1 := congrArg (fun k : Ky => k.2) h2
  rw [e1, e2, e3, e4]
theorem lt_tri {a b : S_api_Permit} (h1 : lt_sort a b = false) (h2 : lt_sort b a = false) : ky a = ky b := by
  rw [lt_val] at h1 h2
  simp only [Bool.or_eq_false_iff, Bool.and_eq_false_iff, beq_eq_false_iff_ne] at h1 h2
  have e1 : a.1 = b.1 := st_tri _ _ h1.1 h2.1
  have e2 : a.2.1 = b.2.1 := by
    rcases h1.2 with h | h | h
    · exact absurd e1 h
    · rcases h2.2 with h' | h' | h'
      · exact absurd e1.symm h'
      · simp at h h'; rw [h, h']
      · simp at h; rw [h] at h'; cases h'
    · rcases h2.2 with h' | h' | h'
      · exact absurd e1.symm h'
      · simp at h'; rw [h] at h'; cases h'
      · rw [h, h']
  exact Prod.ext e1 e2
theorem lt_ne {a b : S_api_Permit} (h : lt_sort a b = true) : ky a ≠ ky b := fun e => by
  rw [lt_ky (b := b) e rfl, swo_sort.irrefl] at h; cases h
theorem cmp_zero (a b : S_api_Permit) : ∃ c, m_scope_compare a b = some c ∧ (c == 0) = (ky a == ky b) := by
  refine ⟨_, cmp_val a b, ?_⟩
  have hk : (ky a == ky b) = ((a.1 == b.1) && (a.2.1 == b.2.1)) := rfl
  rw [hk]
  cases h1 : (a.1 == b.1) with
  | false => cases strLt a.1 b.1 <;> rfl
  | true =>
    rw [eq_of_beq h1, st_irr]
    cases (a.2.1 == b.2.1) <;> cases b.2.1 <;> rfl
/-- Lists in order that say the same are the same. -/
theorem srt_eq : ∀ {r r' : List S_api_Permit}, r.Pairwise (fun a b => lt_sort a b = true) → r'.Pairwise (fun a b => lt_sort a b = true) → (∀ p ∈ r, 1 ≤ p.2.2 ∧ p.2.2 ≤ 127) → (∀ p ∈ r', 1 ≤ p.2.2 ∧ p.2.2 ≤ 127) → (∀ k c, Cr c → (hasP r k c ↔ hasP r' k c)) → r = r'
  | [], [], _, _, _, _, _ => rfl
  | [], p :: r', _, _, _, hm, h => by
    obtain ⟨m1, m2⟩ := hm p (by simp)
    obtain ⟨c, hc, hb⟩ := bit_some (m := p.2.2) ⟨by omega, m2⟩ (by omega)
    obtain ⟨q, hq, _⟩ := (h (ky p) c hc).2 ⟨p, by simp, rfl, hb⟩
    simp at hq
  | p :: r, [], _, _, hm, _, h => by
    obtain ⟨m1, m2⟩ := hm p (by simp)
    obtain ⟨c, hc, hb⟩ := bit_some (m := p.2.2) ⟨by omega, m2⟩ (by omega)
    obtain ⟨q, hq, _⟩ := (h (ky p) c hc).1 ⟨p, by simp, rfl, hb⟩
    simp at hq
  | p :: r, p' :: r', hs, hs', hm, hm', h => by
    obtain ⟨s1, s2⟩ := List.pairwise_cons.1 hs
    obtain ⟨s1', s2'⟩ := List.pairwise_cons.1 hs'
    obtain ⟨m1, m2⟩ := hm p (by simp)
    obtain ⟨m1', m2'⟩ := hm' p' (by simp)
    have key : ky p = ky p' := by
      obtain ⟨c, hc, hb⟩ := bit_some (m := p.2.2) ⟨by omega, m2⟩ (by omega)
      obtain ⟨c', hc', hb'⟩ := bit_some (m := p'.2.2) ⟨by omega, m2'⟩ (by omega)
      obtain ⟨q, hq, e1, _⟩ := (h (ky p) c hc).1 ⟨p, by simp, rfl, hb⟩
      obtain ⟨q', hq', e1', _⟩ := (h (ky p') c' hc').2 ⟨p', by simp, rfl, hb'⟩
      rcases List.mem_cons.1 hq with rfl | hq
      · exact e1.symm
      · rcases List.mem_cons.1 hq' with rfl | hq'
        · exact e1'
        · have a1 : lt_sort p' p = true := by rw [← lt_ky (a := p') rfl e1]; exact s1' q hq
          have a2 : lt_sort p p' = true := by rw [← lt_ky (a := p) rfl e1']; exact s1 q' hq'
          have := swo_sort.trans _ _ _ a1 a2
          rw [swo_sort.irrefl] at this; cases this
    have own : ∀ {x : S_api_Permit} {l : List S_api_Permit} {c : Int}, (∀ y ∈ l, lt_sort x y = true) → (hasP (x :: l) (ky x) c ↔ bitS x.2.2 c = true) := fun {x l c} hl => by
      constructor
      · rintro ⟨q, hq, e, hb⟩
        rcases List.mem_cons.1 hq with rfl | hq
        · exact hb
        · exact absurd e.symm (lt_ne (hl q hq))
      · exact fun hb => ⟨x, by simp, rfl, hb⟩
    have hme : p.2.2 = p'.2.2 := bit_ext ⟨by omega, m2⟩ ⟨by omega, m2'⟩ fun c hc => by
      rw [Bool.eq_iff_iff, ← own s1, ← own s1', ← key]; exact h _ c hc
    have hp : p = p' := by
      obtain ⟨x1, x2, x3⟩ := p
      obtain ⟨y1, y2, y3⟩ := p'
      have e1 : x1 = y1 := congrArg (fun k : Ky => k.1) key
      have e2 : x2 = y2 := congrArg (fun k : Ky => k.2) key
      have e3 : x3 = y3 := hme
      rw [e1, e2, e3]
    have tl : ∀ {x : S_api_Permit} {l : List S_api_Permit} {k : Ky} {c : Int}, (∀ y ∈ l, lt_sort x y = true) → (hasP l k c ↔ k ≠ ky x ∧ hasP (x :: l) k c) := fun {x l k c} hl => by
      constructor
      · rintro ⟨q, hq, rfl, hb⟩
        exact ⟨fun e => lt_ne (hl q hq) e.symm, q, by simp [hq], rfl, hb⟩
      · rintro ⟨hne, q, hq, rfl, hb⟩
        rcases List.mem_cons.1 hq with rfl | hq
        · exact absurd rfl hne
        · exact ⟨q, hq, rfl, hb⟩
    subst hp
    rw [srt_eq s2 s2' (fun q hq => hm q (by simp [hq])) (fun q hq => hm' q (by simp [hq])) fun k c hc => by rw [tl s1, tl s1', h k c hc]]
end Go.Proofs.YtmnbkcpopfmpdaaDoor
