/-
  Options, plain facts: options in order; setting, reading. Of the models alone; no program; no condition but the lengths told.
-/
import Derived.Test.YtllomdfckciedaaDoorQMk
import Derived.Test.YtllomdfckciedaaDoorQ17
namespace Go.Proofs.YtllomdfckciedaaDoor
open Go.Gk Go.RowKit
theorem bnd_of {α β : Type} {X : Option β} {K : β → Option α} {y : β} {r : Option α} (h : X = some y) (h2 : K y = r) : bnd X K = r := by rw [h]; exact h2
theorem loopF_inv {S R : Type} {b : (S → Option R) → S → Option R} (I : Nat → S → Prop) (v : R) (h0 : ∀ s self, I 0 s → b self s = some v)
    (hs : ∀ n s self, I (n + 1) s → (∀ s', I n s' → self s' = some v) → b self s = some v) : ∀ (n f : Nat) (s : S), n < f → I n s → loopF b f s = some v
  | 0, f + 1, s, _, h => by rw [loopF_succ]; exact h0 s _ h
  | n + 1, f + 1, s, hf, h => by rw [loopF_succ]; exact hs n s _ h fun s' h' => loopF_inv I v h0 hs n f s' (by omega) h'
theorem bnd_ex {α β : Type} {X : Option β} {K : β → Option α} (P : β → Prop) {Q : α → Prop} (h : ∃ y, X = some y ∧ P y) (k : ∀ y, P y → ∃ r, K y = some r ∧ Q r) : ∃ r, bnd X K = some r ∧ Q r := by
  obtain ⟨y, rfl, hp⟩ := h
  exact k y hp
theorem same15_go (l : List S_api_Option) : ∀ (rest : List S_api_Option) (k : Nat), l.drop k = rest → loopL (R := Bool) (S := Unit) (α := S_api_Option) (fun _ _ => some true) (fun x11 k12 _ self14 =>
    bnd (bnd (idx l (k12 : Int)) fun x15 => letm ((x11.1 != x15.1)) fun x16 => cond x16 (some true) (bnd (idx l (k12 : Int)) fun x17 => letm ((x11.2 != x17.2)) fun x18 => some x18)) fun v19 => cond v19 (some false) (self14 ())) rest k () = some true
  | [], _, _ => rfl
  | x :: r, k, h => by
    have hk : l[k]? = some x := by have := congrArg (fun l => l[0]?) h; simpa using this
    have hd : l.drop (k + 1) = r := by have := congrArg (fun l => l.drop 1) h; simpa using this
    rw [loopL_cons, idx_some' hk, bnd_s, letm_e, same15_go l r (k + 1) hd]
    simp [letm_e, bnd_s]
theorem same15 (m : S_api_Message) : m_coresecref15_Same m m = some true := by
  unfold m_coresecref15_Same
  rw [same15_go m.2.2.2.2.1 m.2.2.2.2.1 0 rfl]
  simp [letm_e, bnd_s]
theorem allS_len (l : List S_api_Option) (n : Int) : (allS l n).length ≤ l.length := List.length_filterMap_le _ _
theorem allS_mem {l : List S_api_Option} {n : Int} {v : List UInt8} (h : v ∈ allS l n) : ∃ o ∈ l, o.2 = v := by
  unfold allS at h
  obtain ⟨o, ho, h⟩ := List.mem_filterMap.1 h
  refine ⟨o, ho, ?_⟩
  cases hq : o.1 == n with
  | true => rw [hq] at h; simpa using h
  | false => rw [hq] at h; cases h
theorem all_o (m : S_api_Message) (n : Int) : m_coresecref16_All_o m n = m_coresecref16_All m n := rfl
/-- The options without those of a number. -/
def noO (l : List S_api_Option) (n : Int) : List S_api_Option := l.filter fun o => !(o.1 == n)
theorem pw_all {α : Type} {R : α → α → Prop} (h : ∀ a b, R a b) : ∀ l : List α, l.Pairwise R
  | [] => .nil
  | x :: l => .cons (fun b _ => h x b) (pw_all h l)
theorem setO_nil_eq (l : List S_api_Option) (n : Int) : setO l n [] = l.filter (fun o => decide (o.1 < n)) ++ l.filter (fun o => decide (n < o.1)) := by
  unfold setO; simp
/-- What is set to nothing is left out. -/
theorem setO_no : ∀ {l : List S_api_Option} {n : Int}, (noO l n).Pairwise (fun a b => a.1 ≤ b.1) → setO l n [] = noO l n
  | [], _, _ => rfl
  | x :: l, n, h => by
    have ih := @setO_no l n
    rw [setO_nil_eq] at ih ⊢
    unfold noO at h ih ⊢
    simp only [List.filter_cons] at h ⊢
    rcases Int.lt_trichotomy x.1 n with hx | hx | hx
    · have a1 : decide (x.1 < n) = true := decide_eq_true hx
      have a2 : decide (n < x.1) = false := decide_eq_false (by omega)
      have a3 : (!(x.1 == n)) = true := by rw [Bool.not_eq_true', beq_eq_false_iff_ne]; omega
      simp only [a1, a2, a3, if_true, if_false, Bool.false_eq_true, List.cons_append] at h ⊢
      rw [ih (List.pairwise_cons.1 h).2]
    · have a1 : decide (x.1 < n) = false := decide_eq_false (by omega)
      have a2 : decide (n < x.1) = false := decide_eq_false (by omega)
      have a3 : (!(x.1 == n)) = false := by rw [Bool.not_eq_false', beq_iff_eq]; exact hx
      simp only [a1, a2, a3, if_false, Bool.false_eq_true] at h ⊢
      exact ih h
    · have a1 : decide (x.1 < n) = false := decide_eq_false (by omega)
      have a2 : decide (n < x.1) = true := decide_eq_true hx
      have a3 : (!(x.1 == n)) = true := by rw [Bool.not_eq_true', beq_eq_false_iff_ne]; omega
      simp only [a1, a2, a3, if_true, if_false, Bool.false_eq_true] at h ⊢
      obtain ⟨h1, h2⟩ := List.pairwise_cons.1 h
      have e := ih h2
      have : l.filter (fun o => decide (o.1 < n)) = [] := by
        rw [List.filter_eq_nil_iff]
        intro o ho hc
        have hc' := of_decide_eq_true hc
        have := h1 o (List.mem_filter.2 ⟨ho, by rw [Bool.not_eq_true', beq_eq_false_iff_ne]; omega⟩)
        omega
      rw [this] at e ⊢
      rw [List.nil_append] at e ⊢
      rw [e]
theorem noO_set (l : List S_api_Option) (n : Int) (vs : List (List UInt8)) : noO (setO l n vs) n = setO l n [] := by
  unfold noO setO
  simp only [List.filter_append, List.map_nil, List.append_nil]
  have e1 : ∀ v : List UInt8, (!((n, v).1 == n)) = false := fun v => by simp
  have e2 : (vs.map (fun v => (n, v))).filter (fun o : S_api_Option => !(o.1 == n)) = [] := by
    rw [List.filter_eq_nil_iff]
    intro o ho
    obtain ⟨v, _, rfl⟩ := List.mem_map.1 ho
    simp
  rw [e2, List.append_nil]
  congr 1
  · rw [List.filter_eq_self]
    intro o ho
    have := of_decide_eq_true (List.mem_filter.1 ho).2
    rw [Bool.not_eq_true', beq_eq_false_iff_ne]; omega
  · rw [List.filter_eq_self]
    intro o ho
    have := of_decide_eq_true (List.mem_filter.1 ho).2
    rw [Bool.not_eq_true', beq_eq_false_iff_ne]; omega
theorem allS_set_same (l : List S_api_Option) (n : Int) (vs : List (List UInt8)) : allS (setO l n vs) n = vs := by
  unfold allS setO
  simp only [List.filterMap_append]
  have e1 : ∀ p : S_api_Option → Bool, (∀ o, p o = true → (o.1 == n) = false) → (l.filter p).filterMap (fun o : S_api_Option => cond (o.1 == n) (some o.2) none) = [] := by
    intro p hp
    rw [List.filterMap_eq_nil_iff]
    intro o ho
    rw [hp o (List.mem_filter.1 ho).2]; rfl
  rw [e1 _ (fun o h => by have := of_decide_eq_true h; rw [beq_eq_false_iff_ne]; omega), e1 _ (fun o h => by have := of_decide_eq_true h; rw [beq_eq_false_iff_ne]; omega)]
  rw [List.nil_append, List.append_nil, List.filterMap_map]
  induction vs with
  | nil => rfl
  | cons v vs ih => rw [List.filterMap_cons]; simp only [Function.comp_apply, beq_self_eq_true, cond_true]; rw [ih]
theorem allS_no {l : List S_api_Option} {n : Int} (h : allS l n = []) : noO l n = l := by
  unfold allS at h
  rw [List.filterMap_eq_nil_iff] at h
  unfold noO
  rw [List.filter_eq_self]
  intro o ho
  cases hq : o.1 == n with
  | false => rfl
  | true => have := h o ho; rw [hq] at this; cases this
theorem optsB_srt : ∀ {l : List S_api_Option} {n : Int}, optsB n l = true → l.Pairwise (fun a b => a.1 ≤ b.1)
  | [], _, _ => List.Pairwise.nil
  | x :: l, n, h => by
    simp only [optsB, Bool.and_eq_true, Bool.not_eq_true', decide_eq_false_iff_not] at h
    obtain ⟨⟨⟨h1, h2⟩, h3⟩, h4⟩ := h
    exact List.pairwise_cons.2 ⟨fun o ho => by have := (optsB_len h4 o ho).2.1; omega, optsB_srt h4⟩
theorem bytes_le {d : S_coresecmake_Deck} (h : DeckOK d) {n : Nat} (h1 : n ≤ 1000) : ∃ b d', m_coresecmake_Deck_Bytes d n = some (b, d') ∧ b.length ≤ n ∧ DeckOK d' := by
  unfold m_coresecmake_Deck_Bytes
  rw [letm_e, w64_of (by omega) (by omega)]
  obtain ⟨v, d1, h2, v0, v1, h3⟩ := next_some h (n := (n : Int) + 1) (by omega) (by omega)
  rw [h2, bnd_s]
  obtain ⟨k, rfl⟩ : ∃ k : Nat, v = (k : Int) := ⟨v.toNat, by omega⟩
  obtain ⟨z, d', h4, h5, h6⟩ := bytes_go k FUEL [] d1 (by rw [fuel_eq]; omega) h3 (by simp; omega)
  exact ⟨z, d', h4, by simp at h5; omega, h6⟩
/-- One value more of a number: one option more at most. -/
theorem setO_more (l : List S_api_Option) (x : Int) (b : List UInt8) : (setO l x (allS l x ++ [b])).length ≤ l.length + 1 := by
  unfold setO allS
  simp only [List.length_append, List.length_map, List.length_singleton]
  have : ∀ l : List S_api_Option, (l.filter fun o => decide (o.1 < x)).length + (l.filterMap fun o => cond (o.1 == x) (some o.2) none).length + (l.filter fun o => decide (x < o.1)).length ≤ l.length := by
    intro l
    induction l with
    | nil => simp
    | cons o l ih =>
      simp only [List.filter_cons, List.filterMap_cons]
      rcases Int.lt_trichotomy o.1 x with h | h | h
      · have h2 : ¬ x < o.1 := by omega
        have h3 : (o.1 == x) = false := by rw [beq_eq_false_iff_ne]; omega
        simp [h, h2, h3]; omega
      · have h1 : ¬ o.1 < x := by omega
        have h2 : ¬ x < o.1 := by omega
        simp [h]; omega
      · have h2 : ¬ o.1 < x := by omega
        have h3 : (o.1 == x) = false := by rw [beq_eq_false_iff_ne]; omega
        simp [h, h2, h3]; omega
  have := this l
  omega
/-- Options in order, with values of at most b bytes. -/
structure SrtB (b : Nat) (l : List S_api_Option) : Prop where
  srt : l.Pairwise (fun a b => a.1 ≤ b.1)
  num : ∀ o ∈ l, 0 ≤ o.1 ∧ o.1 ≤ 65535
  val : ∀ o ∈ l, o.2.length ≤ b
theorem SrtB.set {B : Nat} {l : List S_api_Option} (h : SrtB B l) {n : Int} (h0 : 0 ≤ n) (h1 : n ≤ 65535) {vs : List (List UInt8)} (hv : ∀ v ∈ vs, v.length ≤ B) : SrtB B (setO l n vs) := by
  refine ⟨?_, fun o ho => ?_, fun o ho => ?_⟩
  · unfold setO
    refine List.pairwise_append.2 ⟨List.pairwise_append.2 ⟨h.srt.filter _, ?_, ?_⟩, h.srt.filter _, ?_⟩
    · rw [List.pairwise_map]
      exact pw_all (fun _ _ => Int.le_refl _) vs
    · intro a ha b hb
      obtain ⟨v, _, rfl⟩ := List.mem_map.1 hb
      have := of_decide_eq_true (List.mem_filter.1 ha).2
      show a.1 ≤ n
      omega
    · intro a ha b hb
      have hb' := of_decide_eq_true (List.mem_filter.1 hb).2
      rcases List.mem_append.1 ha with ha | ha
      · have := of_decide_eq_true (List.mem_filter.1 ha).2
        omega
      · obtain ⟨v, _, rfl⟩ := List.mem_map.1 ha
        show n ≤ b.1
        omega
  · rcases setO_mem ho with ho | ⟨v, _, rfl⟩
    · exact h.num o ho
    · exact ⟨h0, h1⟩
  · rcases setO_mem ho with ho | ⟨v, hv', rfl⟩
    · exact h.val o ho
    · exact hv v hv'
theorem SrtB.opts : ∀ {B : Nat} (hB : B ≤ 1034) {l : List S_api_Option} {n : Int}, SrtB B l → (∀ o ∈ l, n ≤ o.1) → optsB n l = true
  | _, _, [], _, _, _ => rfl
  | B, hB, x :: l, n, h, hn => by
    obtain ⟨h1, h2⟩ := List.pairwise_cons.1 h.srt
    obtain ⟨a, b⟩ := h.num x (by simp)
    have c := h.val x (by simp)
    have := hn x (by simp)
    have ih := @SrtB.opts B hB l x.1 ⟨h2, fun o ho => h.num o (by simp [ho]), fun o ho => h.val o (by simp [ho])⟩ h1
    simp only [optsB, ih, Bool.and_true, Bool.and_eq_true, Bool.not_eq_true', decide_eq_false_iff_not]
    exact ⟨⟨by omega, by omega⟩, by omega⟩
theorem copy15 {m : S_api_Message} (h : LenM m) : m_coresecref15_Copy m = some m := by
  unfold m_coresecref15_Copy
  rw [app_nil_some h.1, bnd_s, app_nil_some h.2.2, bnd_s]
  rw [loopL_map (fun o => o) _ _ _ (by have := h.2.1.1; simp; omega) fun o ho k s self => ?_]
  · rw [List.map_id']; rfl
  · rw [app_nil_some (h.2.1.2 o ho)]; rfl
end Go.Proofs.YtllomdfckciedaaDoor
