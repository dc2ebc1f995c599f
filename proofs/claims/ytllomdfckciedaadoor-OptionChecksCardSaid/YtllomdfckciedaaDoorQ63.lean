/-
  Options, plain facts: which options are acceptable, by both texts (OptionChecks). Of the models alone; no program; no condition but the length told.
-/
import Derived.Test.YtllomdfckciedaaDoorQ62
namespace Go.Proofs.YtllomdfckciedaaDoor
open Go.Gk Go.RowKit
/-- Two loops that go the same way. -/
theorem two_any {R α : Type} {bn bn' : Nat → Unit → Option R} {bs bs' : α → Nat → Unit → (Unit → Option R) → Option R} (v : Nat → Option R) : ∀ (xs : List α) (k : Nat), (∀ i x, xs[i]? = some x → ∃ b, (∀ self, bs x (k + i) () self = cond b (v (k + i)) (self ())) ∧ ∀ self, bs' x (k + i) () self = cond b (v (k + i)) (self ())) →
    (∀ k, ∃ r, v k = some r) → (∃ r, bn (k + xs.length) () = some r ∧ bn' (k + xs.length) () = some r) → ∃ r, loopL bn bs xs k () = some r ∧ loopL bn' bs' xs k () = some r
  | [], k, _, _, hb => hb
  | x :: xs, k, h, hv, hb => by
    obtain ⟨b, h1, h2⟩ := h 0 x rfl
    rw [loopL_cons, loopL_cons]
    have h1 := h1 (loopL bn bs xs (k + 1)); have h2 := h2 (loopL bn' bs' xs (k + 1))
    rw [Nat.add_zero] at h1 h2
    rw [h1, h2]
    cases b with
    | true => obtain ⟨r, hr⟩ := hv k; exact ⟨r, hr, hr⟩
    | false =>
      refine two_any v xs (k + 1) (fun i y hy => ?_) hv (by rw [show k + 1 + xs.length = k + (x :: xs).length by simp; omega]; exact hb)
      obtain ⟨b, h1, h2⟩ := h (i + 1) y hy
      exact ⟨b, fun s => by have := h1 s; rwa [show k + (i + 1) = k + 1 + i by omega] at this, fun s => by have := h2 s; rwa [show k + (i + 1) = k + 1 + i by omega] at this⟩
theorem two_filter {R α : Type} {bn bn' : Nat → List α → Option R} {bs bs' : α → Nat → List α → (List α → Option R) → Option R} : ∀ (xs : List α) (k : Nat) (s : List α), (∀ i x, xs[i]? = some x → ∃ b, (∀ s self, bs x (k + i) s self = cond b (bnd (app s [x]) self) (self s)) ∧ ∀ s self, bs' x (k + i) s self = cond b (bnd (app s [x]) self) (self s)) →
    s.length + xs.length ≤ 1000000 → ∃ l, l.length ≤ s.length + xs.length ∧ (∀ x ∈ l, x ∈ s ∨ x ∈ xs) ∧ loopL bn bs xs k s = bn (k + xs.length) l ∧ loopL bn' bs' xs k s = bn' (k + xs.length) l
  | [], k, s, _, _ => ⟨s, by simp, fun x hx => .inl hx, rfl, rfl⟩
  | x :: xs, k, s, h, hl => by
    obtain ⟨b, h1, h2⟩ := h 0 x rfl
    rw [loopL_cons, loopL_cons]
    have h1 := h1 s (loopL bn bs xs (k + 1)); have h2 := h2 s (loopL bn' bs' xs (k + 1))
    rw [Nat.add_zero] at h1 h2
    rw [h1, h2]
    simp only [List.length_cons] at hl ⊢
    have ih := fun (t : List α) (ht : t.length + xs.length ≤ 1000000) => two_filter (bn := bn) (bn' := bn') (bs := bs) (bs' := bs') xs (k + 1) t (fun i y hy => by
      obtain ⟨b, h1, h2⟩ := h (i + 1) y hy
      exact ⟨b, fun s z => by have := h1 s z; rwa [show k + (i + 1) = k + 1 + i by omega] at this, fun s z => by have := h2 s z; rwa [show k + (i + 1) = k + 1 + i by omega] at this⟩) ht
    cases b with
    | true =>
      rw [cond_true, cond_true, app_some' (by simp; omega), bnd_s, bnd_s]
      obtain ⟨l, a1, a2, a3, a4⟩ := ih (s ++ [x]) (by simp; omega)
      refine ⟨l, by simp at a1; omega, fun y hy => ?_, by rw [a3, show k + 1 + xs.length = k + (xs.length + 1) by omega], by rw [a4, show k + 1 + xs.length = k + (xs.length + 1) by omega]⟩
      rcases a2 y hy with hy | hy
      · rcases List.mem_append.1 hy with hy | hy
        · exact .inl hy
        · rw [List.mem_singleton.1 hy]; exact .inr (by simp)
      · exact .inr (by simp [hy])
    | false =>
      rw [cond_false, cond_false]
      obtain ⟨l, a1, a2, a3, a4⟩ := ih s (by omega)
      exact ⟨l, by omega, fun y hy => (a2 y hy).elim .inl fun hy => .inr (by simp [hy]), by rw [a3, show k + 1 + xs.length = k + (xs.length + 1) by omega], by rw [a4, show k + 1 + xs.length = k + (xs.length + 1) by omega]⟩
/-- In a list in order, a number comes twice where it comes twice in a row. -/
theorem dup_prev {l : List S_api_Option} (hs : l.Pairwise (fun a b => a.1 ≤ b.1)) {i : Nat} {o p : S_api_Option} (ho : l[i + 1]? = some o) (hp : l[i]? = some p) : (l.take (i + 1)).any (fun q => q.1 == o.1) = (p.1 == o.1) := by
  have hi : i < l.length := (List.getElem?_eq_some_iff.1 hp).1
  have hi1 : i + 1 < l.length := (List.getElem?_eq_some_iff.1 ho).1
  have ep : l[i] = p := (List.getElem?_eq_some_iff.1 hp).2
  have eo : l[i + 1] = o := (List.getElem?_eq_some_iff.1 ho).2
  have hpw := List.pairwise_iff_getElem.1 hs
  rw [Bool.eq_iff_iff, List.any_eq_true]
  constructor
  · rintro ⟨q, hq, he⟩
    obtain ⟨j, hj, rfl⟩ := List.getElem_of_mem hq
    rw [List.getElem_take] at he
    rw [List.length_take] at hj
    have h1 : l[j].1 ≤ l[i].1 := by
      rcases Nat.lt_or_ge j i with h | h
      · exact hpw j i (by omega) hi h
      · have : j = i := by omega
        subst this; exact Int.le_refl _
    have h2 := hpw i (i + 1) hi hi1 (by omega)
    have he := beq_iff_eq.1 he
    rw [beq_iff_eq, ← ep, ← eo]
    rw [← eo] at he
    omega
  · intro h
    refine ⟨p, ?_, h⟩
    rw [← ep]
    exact List.mem_take_iff_getElem.2 ⟨i, by omega, rfl⟩
theorem no_rep {l : List S_api_Option} {i : Nat} {o : S_api_Option} (ho : l[i]? = some o) (rp : Bool) {q : List S_api_Option} : loopL (R := Bool) (S := Unit) (α := S_api_Option) (fun _ _ => some true) (fun x16 _ _ self19 => bnd (β := Bool) (bnd (idx l (i : Int)) fun x20 => letm ((x16.1 == x20.1)) fun x21 => cond x21 (letm ((!rp)) fun x22 => some x22) (some false)) fun v23 => cond v23 (some false) (self19 ())) q 0 () = some (rp || !q.any (fun z => z.1 == o.1)) := by
  have key : ∀ (q : List S_api_Option) (k : Nat), loopL (R := Bool) (S := Unit) (α := S_api_Option) (fun _ _ => some true) (fun x16 _ _ self19 => bnd (β := Bool) (bnd (idx l (i : Int)) fun x20 => letm ((x16.1 == x20.1)) fun x21 => cond x21 (letm ((!rp)) fun x22 => some x22) (some false)) fun v23 => cond v23 (some false) (self19 ())) q k () = some (rp || !q.any (fun z => z.1 == o.1)) := by
    intro q
    induction q with
    | nil => intro k; rw [loopL_nil]; simp
    | cons x q ih =>
      intro k
      rw [loopL_cons, ih (k + 1), idx_some' ho, bnd_s, letm_e, letm_e, List.any_cons]
      cases (x.1 == o.1) <;> cases rp <;> rfl
  exact key q 0
theorem acc_both {m : S_api_Message} (hs : m.2.2.2.2.1.Pairwise (fun a b => a.1 ≤ b.1)) (hl : m.2.2.2.2.1.length ≤ 1000) (hv : ∀ o ∈ m.2.2.2.2.1, o.2.length ≤ 1000000) {i : Nat} (hi : i < m.2.2.2.2.1.length) :
    ∃ v, m_option_acceptable m.2.2.2.2.1 (i : Int) = some v ∧ m_coresecref16_acceptable m (i : Int) = some v := by
  generalize hq : (m.2.2.2.2.1 : List S_api_Option) = l at hs hl hv hi
  obtain ⟨o, ho⟩ : ∃ o, l[i]? = some o := ⟨l[i], List.getElem?_eq_getElem hi⟩
  obtain ⟨r, k1, k2⟩ := known_eq o.1
  obtain ⟨u, hu⟩ := utf8_ex (hv o (List.mem_of_getElem? ho))
  have hix : idx l (i : Int) = some o := idx_some' ho
  unfold m_option_acceptable m_coresecref16_acceptable
  have hq' : m.2.2.2.2.1 = l := hq
  simp only [hq', hix, bnd_s, letm_e, k1, k2, hu]
  have hcut : Gk.cut l 0 (i : Int) = some (l.take i) := by
    unfold Gk.cut
    rw [if_pos (by omega)]; simp
  have e1 : (bnd (β := Bool) (cond (!r.2) (some true) (cond (decide ((o.2.length : Int) < r.1.2.1)) (some true) (cond (decide (r.1.2.2.1 < (o.2.length : Int))) (some true) (cond (r.1.1 == 4) (some (!u)) (some false))))) (fun v => some v)) = some (!r.2 || (decide ((o.2.length : Int) < r.1.2.1) || (decide (r.1.2.2.1 < (o.2.length : Int)) || ((r.1.1 == 4) && !u)))) := by
    rw [bnd_id, cd_and, cd_or, cd_or, cd_or]
  rw [bnd_id] at e1
  rw [e1, bnd_s, bnd_s]
  cases (!r.2 || (decide ((o.2.length : Int) < r.1.2.1) || (decide (r.1.2.2.1 < (o.2.length : Int)) || ((r.1.1 == 4) && !u)))) with
  | true => exact ⟨false, rfl, rfl⟩
  | false =>
    rw [cd_f, cd_f, hcut, bnd_s]
    have nr := no_rep ho r.1.2.2.2 (q := l.take i)
    simp only [hix, bnd_s, letm_e] at nr
    rw [nr]
    refine ⟨_, rfl, ?_⟩
    cases hr : r.1.2.2.2 with
    | true => rfl
    | false =>
      rw [cd_f, Bool.false_or]
      cases i with
      | zero => rfl
      | succ i =>
        obtain ⟨p, hp⟩ : ∃ p, l[i]? = some p := ⟨l[i], List.getElem?_eq_getElem (by omega)⟩
        have hz : (((i + 1 : Nat) : Int) == 0) = false := by rw [beq_eq_false_iff_ne]; omega
        rw [hz, cd_f, w64_of (by omega) (by omega), show (((i + 1 : Nat) : Int) - 1) = (i : Int) by omega, idx_some' hp, bnd_s, bnd_s, dup_prev hs ho hp]
        rfl
theorem OptionChecks_true (a0 : List Int) (h0 : a0.length ≤ maxLen) : m_coreseclaw16_OptionChecks a0 = some true := by
  obtain ⟨m, em, gm⟩ := message_some h0
  have hL := gm.len (by omega) (by omega)
  have hol := gm.ol
  have hacc := fun (i : Nat) (hi : i < m.2.2.2.2.1.length) => acc_both (m := m) gm.srt.srt (by omega) (fun o ho => by have := gm.srt.val o ho; omega) hi
  unfold m_coreseclaw16_OptionChecks
  rw [em, bnd_s, awake16]
  obtain ⟨r, c1, c2⟩ : ∃ r, m_option_Check m = some r ∧ m_coresecref16_Check m = some r := by
    unfold m_option_Check m_coresecref16_Check
    refine two_any (fun k => some ((k : Int), 14)) _ 0 (fun i x hx => ?_) (fun k => ⟨_, rfl⟩) ⟨_, rfl, rfl⟩
    rw [Nat.zero_add]
    obtain ⟨v, v1, v2⟩ := hacc i (List.getElem?_eq_some_iff.1 hx).1
    obtain ⟨b, hb⟩ := crit_some x.1
    refine ⟨b && !v, fun self => ?_, fun self => ?_⟩
    · rw [hb, bnd_s, v1, bnd_s, letm_e, cd_and, bnd_s]
    · rw [crit_eq, hb, bnd_s, v2, bnd_s, letm_e, cd_and, bnd_s]
  rw [c1, c2, bnd_s, bnd_s, letm_e, beq_self_eq_true, cd_t, letm_e, beq_self_eq_true, cd_t]
  obtain ⟨l, h1, h2, c3, c4⟩ : ∃ l : List S_api_Option, l.length ≤ 0 + m.2.2.2.2.1.length ∧ (∀ x ∈ l, x ∈ ([] : List S_api_Option) ∨ x ∈ m.2.2.2.2.1) ∧ m_option_Clean m = (bnd (m_option_owned m l) fun x3 => some x3) ∧ m_coresecref16_Clean m = (bnd (m_coresecref16_with m l) fun x3 => some x3) := by
    unfold m_option_Clean m_coresecref16_Clean
    refine two_filter (R := S_api_Message) (bn := fun _ s2 => bnd (m_option_owned m s2) fun x3 => some x3) (bn' := fun _ s2 => bnd (m_coresecref16_with m s2) fun x3 => some x3) m.2.2.2.2.1 0 [] (fun i x hx => ?_) (by simp; omega)
    rw [Nat.zero_add]
    obtain ⟨v, v1, v2⟩ := hacc i (List.getElem?_eq_some_iff.1 hx).1
    obtain ⟨b, hb⟩ := crit_some x.1
    refine ⟨b || v, fun s self => ?_, fun s self => ?_⟩
    · rw [hb, bnd_s, v1, bnd_s, cd_or, bnd_s]
      cases (b || v) with
      | true => rw [cd_t, cd_t, bnd_id]
      | false => rw [cd_f, cd_f, bnd_s]
    · rw [crit_eq, hb, bnd_s, v2, bnd_s, cd_or, bnd_s]
      cases (b || v) with
      | true => rw [cd_t, cd_t, bnd_id]
      | false => rw [cd_f, cd_f, bnd_s]
  have hO : LenO l := ⟨by omega, fun o ho => by
    rcases h2 o ho with h | h
    · simp at h
    · have := gm.srt.val o h; omega⟩
  rw [c3, c4, owned_eq hL hO, with_ref hL hO, bnd_s, bnd_s, bnd_s, same15, bnd_s, cd_t]
  rfl
end Go.Proofs.YtllomdfckciedaaDoor
