/-
  Responses that decks give, plain facts. Of the models alone; no program; no condition but the lengths told.
-/
import Derived.Test.YtcbkmlfkfhfliaaDoorQ17
import Derived.Test.YtcbkmlfkfhfliaaDoorQMk
namespace Go.Proofs.YtcbkmlfkfhfliaaDoor
open Go.Gk Go.RowKit
theorem both_cond {α : Type} {b : Bool} {x y x' y' : Option α} (h1 : ∃ r, x = some r ∧ x' = some r) (h2 : ∃ r, y = some r ∧ y' = some r) : ∃ r, cond b x y = some r ∧ cond b x' y' = some r := by
  cases b
  · exact h2
  · exact h1
theorem both_cond_q {α : Type} {Q : α → Prop} {b : Bool} {x y x' y' : Option α} (h1 : ∃ r, x = some r ∧ x' = some r ∧ Q r) (h2 : ∃ r, y = some r ∧ y' = some r ∧ Q r) : ∃ r, cond b x y = some r ∧ cond b x' y' = some r ∧ Q r := by
  cases b
  · exact h2
  · exact h1
theorem shl16 (n : Nat) : Gk.shl 16 (n : Int) = some (w64 (16 * 2 ^ min n 64)) := by
  unfold Gk.shl
  rw [if_neg (by omega), Int.toNat_natCast]
/-! ### What decks give -/
theorem allS_len (l : List S_api_Option) (n : Int) : (allS l n).length ≤ l.length := List.length_filterMap_le _ _
theorem allS_mem {l : List S_api_Option} {n : Int} {v : List UInt8} (h : v ∈ allS l n) : ∃ o ∈ l, o.2 = v := by
  unfold allS at h
  obtain ⟨o, ho, h⟩ := List.mem_filterMap.1 h
  refine ⟨o, ho, ?_⟩
  cases hq : o.1 == n with
  | true => rw [hq] at h; simpa using h
  | false => rw [hq] at h; cases h
theorem all_o (m : S_api_Message) (n : Int) : m_coresecref16_All_o m n = m_coresecref16_All m n := rfl
theorem dressed_go : ∀ (k f : Nat) (j : Nat) (d : S_coresecmake_Deck) (m : S_api_Message), k < f → k ≤ 5 → j ≤ 2 ^ (5 - k) → DeckOK d → Sz j m → ∃ m' d', loopF (R := (S_api_Message × S_coresecmake_Deck)) (S := (Int × (S_coresecmake_Deck × S_api_Message))) (fun self4 s3 =>
    letm (decide (0 < s3.1)) fun x5 => cond x5 (bnd (m_coresecmake_Deck_Next s3.2.1 19) fun x6 => bnd (idx [1, 3, 4, 6, 7, 11, 12, 14, 15, 16, 17, 23, 27, 39, 60, 252, 258, 292, 300] x6.1) fun x7 => bnd (m_coresecref16_All_o s3.2.2 x7) fun x8 => bnd (m_coresecmake_Deck_Bytes x6.2 4) fun x9 => bnd (app x8 [x9.1]) fun x10 => bnd (m_coresecref16_Set s3.2.2 x7 x10) fun x11 => letm ((w64 (s3.1 - 1))) fun x12 => self4 (x12, (x9.2, x11))) (some (s3.2.2, s3.2.1))) f ((k : Int), (d, m)) = some (m', d') ∧ DeckOK d' ∧ Sz 200 m' := by
  intro k
  induction k with
  | zero =>
    intro f j d m hf _ hj hd hm
    obtain ⟨f, rfl⟩ : ∃ g, f = g + 1 := ⟨f - 1, by omega⟩
    refine ⟨m, d, ?_, hd, hm.tok, by have := hm.ol; omega, hm.ov, hm.pay⟩
    have d0 : decide ((0 : Int) < ((0 : Nat) : Int)) = false := rfl
    rw [loopF_succ, letm_e]
    simp only [d0, cd_f]
  | succ k ih =>
    intro f j d m hf hk hj hd hm
    obtain ⟨f, rfl⟩ : ∃ g, f = g + 1 := ⟨f - 1, by omega⟩
    have hp : 2 ^ (5 - k) = 2 * 2 ^ (5 - (k + 1)) := by rw [show 5 - k = (5 - (k + 1)) + 1 by omega, Nat.pow_succ]; omega
    have hp1 : 1 ≤ 2 ^ (5 - (k + 1)) := Nat.one_le_two_pow
    have hp2 : 2 ^ (5 - (k + 1)) ≤ 2 ^ 5 := Nat.pow_le_pow_right (by omega) (by omega)
    obtain ⟨v, d1, e1, l1, u1, h1⟩ := next_some hd (n := 19) (by omega) (by omega)
    obtain ⟨x, e2, _⟩ := idx_lit ([1, 3, 4, 6, 7, 11, 12, 14, 15, 16, 17, 23, 27, 39, 60, 252, 258, 292, 300] : List Int) l1 (by show v < 19; omega)
    obtain ⟨b, d2, e3, l3, h3⟩ := bytes_some h1 (n := 4) (by omega) (by omega)
    have hal := allS_len m.2.2.2.2.1 x
    have hol := hm.ol
    have e4 : m_coresecref16_All_o m x = some (allS m.2.2.2.2.1 x) := by rw [all_o, all_ref (hm.len (by omega)).2.1]
    obtain ⟨e5, z5⟩ := hm.set x (vs := allS m.2.2.2.2.1 x ++ [b]) (j := j + 1) (by omega) (by simp; omega) (fun w hw => by
      rcases List.mem_append.1 hw with hw | hw
      · obtain ⟨o, ho, rfl⟩ := allS_mem hw; exact hm.ov o ho
      · rw [List.mem_singleton.1 hw]; exact l3)
    have dk : decide ((0 : Int) < ((k + 1 : Nat) : Int)) = true := decide_eq_true (by omega)
    have wk : w64 (((k + 1 : Nat) : Int) - 1) = (k : Int) := by rw [w64_of (by omega) (by omega)]; omega
    have ea : app (allS m.2.2.2.2.1 x) [b] = some (allS m.2.2.2.2.1 x ++ [b]) := app_some' (by simp; omega)
    rw [loopF_succ]
    simp only [letm_e, dk, cd_t, e1, e2, e3, e4, ea, e5, bnd_s, wk]
    have z6 : Sz (2 ^ (5 - k)) (withO m (setO m.2.2.2.2.1 x (allS m.2.2.2.2.1 x ++ [b]))) := ⟨z5.tok, by
      -- no more than one option more
      have key : (setO m.2.2.2.2.1 x (allS m.2.2.2.2.1 x ++ [b])).length ≤ m.2.2.2.2.1.length + 1 := by
        unfold setO allS
        simp only [List.length_append, List.length_map, List.length_singleton]
        have : ∀ l : List S_api_Option, (l.filter fun o => decide (o.1 < x)).length + (l.filterMap fun o => cond (o.1 == x) (some o.2) none).length + (l.filter fun o => decide (x < o.1)).length ≤ l.length := by
          intro l
          induction l with
          | nil => simp
          | cons o l ih =>
            simp only [List.filter_cons, List.filterMap_cons]
            rcases Int.lt_trichotomy o.1 x with h | h | h
            · have h2 : ¬ x < o.1 := by omega
              have h3 : (o.1 == x) = false := by rw [beq_eq_false_iff_ne]; omega
              simp [h, h2, h3]; omega
            · have h1 : ¬ o.1 < x := by omega
              have h2 : ¬ x < o.1 := by omega
              simp [h]; omega
            · have h2 : ¬ o.1 < x := by omega
              have h3 : (o.1 == x) = false := by rw [beq_eq_false_iff_ne]; omega
              simp [h, h2, h3]; omega
        have := this m.2.2.2.2.1
        omega
      show (setO m.2.2.2.2.1 x (allS m.2.2.2.2.1 x ++ [b])).length ≤ _
      omega, z5.ov, z5.pay⟩
    obtain ⟨m', d', g1, g2, g3⟩ := ih f _ d2 _ (by omega) (by omega) (Nat.le_refl _) h3 z6
    simp only [letm_e] at g1
    exact ⟨m', d', g1, g2, g3⟩
theorem dressed_some {d : S_coresecmake_Deck} (h : DeckOK d) {m : S_api_Message} (hm : Sz 0 m) : ∃ m' d', m_coresecmake2_dressed d m = some (m', d') ∧ DeckOK d' ∧ Sz 200 m' := by
  unfold m_coresecmake2_dressed
  obtain ⟨v, d1, e1, l1, u1, h1⟩ := next_some h (n := 6) (by omega) (by omega)
  obtain ⟨k, rfl⟩ : ∃ k : Nat, v = (k : Int) := ⟨v.toNat, by omega⟩
  rw [e1, bnd_s]
  exact dressed_go k FUEL 0 d1 m (by rw [fuel_eq]; omega) (by omega) (Nat.zero_le _) h1 hm
theorem response2_some {d : S_coresecmake_Deck} (h : DeckOK d) : ∃ m d', m_coresecmake2_Response d = some (m, d') ∧ DeckOK d' ∧ Sz 200 m := by
  unfold m_coresecmake2_Response
  obtain ⟨v1, d1, e1, _, _, h1⟩ := next_some h (n := 3) (by omega) (by omega)
  obtain ⟨v2, d2, e2, l2, u2, h2⟩ := next_some h1 (n := 7) (by omega) (by omega)
  obtain ⟨x3, e3, _⟩ := idx_lit ([69, 68, 65, 132, 129, 160, 95] : List Int) l2 (by show v2 < 7; omega)
  obtain ⟨v4, d4, e4, _, _, h4⟩ := next_some h2 (n := 65536) (by omega) (by omega)
  obtain ⟨b5, d5, e5, l5, h5⟩ := bytes_some h4 (n := 4) (by omega) (by omega)
  obtain ⟨b6, d6, e6, l6, h6⟩ := bytes_some h5 (n := 20) (by omega) (by omega)
  obtain ⟨m, d7, e7, h7, z7⟩ := dressed_some h6 (m := (v1, (x3, (v4, (b5, ([], b6)))))) ⟨l5, by simp, by simp, l6⟩
  simp only [e1, e2, e3, e4, e5, e6, e7, bnd_s]
  exact ⟨m, d7, rfl, h7, z7⟩
/-- Options in order, none of them long. -/
structure SrtO (l : List S_api_Option) : Prop where
  srt : l.Pairwise (fun a b => a.1 ≤ b.1)
  num : ∀ o ∈ l, 0 ≤ o.1 ∧ o.1 ≤ 65535
  val : ∀ o ∈ l, o.2.length ≤ 20
/-- The options without those of a number. -/
def noO (l : List S_api_Option) (n : Int) : List S_api_Option := l.filter fun o => !(o.1 == n)
theorem pw_all {α : Type} {R : α → α → Prop} (h : ∀ a b, R a b) : ∀ l : List α, l.Pairwise R
  | [] => .nil
  | x :: l => .cons (fun b _ => h x b) (pw_all h l)
theorem SrtO.set {l : List S_api_Option} (h : SrtO l) {n : Int} (h0 : 0 ≤ n) (h1 : n ≤ 65535) {vs : List (List UInt8)} (hv : ∀ v ∈ vs, v.length ≤ 20) : SrtO (setO l n vs) := by
  refine ⟨?_, fun o ho => ?_, fun o ho => ?_⟩
  · unfold setO
    refine List.pairwise_append.2 ⟨List.pairwise_append.2 ⟨h.srt.filter _, ?_, ?_⟩, h.srt.filter _, ?_⟩
    · rw [List.pairwise_map]
      exact pw_all (fun _ _ => Int.le_refl _) vs
    · intro a ha b hb
      obtain ⟨v, _, rfl⟩ := List.mem_map.1 hb
      have := of_decide_eq_true (List.mem_filter.1 ha).2
      show a.1 ≤ n
      omega
    · intro a ha b hb
      have hb' := of_decide_eq_true (List.mem_filter.1 hb).2
      rcases List.mem_append.1 ha with ha | ha
      · have := of_decide_eq_true (List.mem_filter.1 ha).2
        omega
      · obtain ⟨v, _, rfl⟩ := List.mem_map.1 ha
        show n ≤ b.1
        omega
  · rcases setO_mem ho with ho | ⟨v, _, rfl⟩
    · exact h.num o ho
    · exact ⟨h0, h1⟩
  · rcases setO_mem ho with ho | ⟨v, hv', rfl⟩
    · exact h.val o ho
    · exact hv v hv'
theorem setO_nil_eq (l : List S_api_Option) (n : Int) : setO l n [] = l.filter (fun o => decide (o.1 < n)) ++ l.filter (fun o => decide (n < o.1)) := by
  unfold setO; simp
/-- What is set to nothing is left out. -/
theorem setO_no : ∀ {l : List S_api_Option} {n : Int}, (noO l n).Pairwise (fun a b => a.1 ≤ b.1) → setO l n [] = noO l n
  | [], _, _ => rfl
  | x :: l, n, h => by
    have ih := @setO_no l n
    rw [setO_nil_eq] at ih ⊢
    unfold noO at h ih ⊢
    simp only [List.filter_cons] at h ⊢
    rcases Int.lt_trichotomy x.1 n with hx | hx | hx
    · have a1 : decide (x.1 < n) = true := decide_eq_true hx
      have a2 : decide (n < x.1) = false := decide_eq_false (by omega)
      have a3 : (!(x.1 == n)) = true := by rw [Bool.not_eq_true', beq_eq_false_iff_ne]; omega
      simp only [a1, a2, a3, if_true, if_false, Bool.false_eq_true, List.cons_append] at h ⊢
      rw [ih (List.pairwise_cons.1 h).2]
    · have a1 : decide (x.1 < n) = false := decide_eq_false (by omega)
      have a2 : decide (n < x.1) = false := decide_eq_false (by omega)
      have a3 : (!(x.1 == n)) = false := by rw [Bool.not_eq_false', beq_iff_eq]; exact hx
      simp only [a1, a2, a3, if_false, Bool.false_eq_true] at h ⊢
      exact ih h
    · have a1 : decide (x.1 < n) = false := decide_eq_false (by omega)
      have a2 : decide (n < x.1) = true := decide_eq_true hx
      have a3 : (!(x.1 == n)) = true := by rw [Bool.not_eq_true', beq_eq_false_iff_ne]; omega
      simp only [a1, a2, a3, if_true, if_false, Bool.false_eq_true] at h ⊢
      obtain ⟨h1, h2⟩ := List.pairwise_cons.1 h
      have e := ih h2
      have : l.filter (fun o => decide (o.1 < n)) = [] := by
        rw [List.filter_eq_nil_iff]
        intro o ho hc
        have hc' := of_decide_eq_true hc
        have := h1 o (List.mem_filter.2 ⟨ho, by rw [Bool.not_eq_true', beq_eq_false_iff_ne]; omega⟩)
        omega
      rw [this] at e ⊢
      rw [List.nil_append] at e ⊢
      rw [e]
theorem noO_set (l : List S_api_Option) (n : Int) (vs : List (List UInt8)) : noO (setO l n vs) n = setO l n [] := by
  unfold noO setO
  simp only [List.filter_append, List.map_nil, List.append_nil]
  have e1 : ∀ v : List UInt8, (!((n, v).1 == n)) = false := fun v => by simp
  have e2 : (vs.map (fun v => (n, v))).filter (fun o : S_api_Option => !(o.1 == n)) = [] := by
    rw [List.filter_eq_nil_iff]
    intro o ho
    obtain ⟨v, _, rfl⟩ := List.mem_map.1 ho
    simp
  rw [e2, List.append_nil]
  congr 1
  · rw [List.filter_eq_self]
    intro o ho
    have := of_decide_eq_true (List.mem_filter.1 ho).2
    rw [Bool.not_eq_true', beq_eq_false_iff_ne]; omega
  · rw [List.filter_eq_self]
    intro o ho
    have := of_decide_eq_true (List.mem_filter.1 ho).2
    rw [Bool.not_eq_true', beq_eq_false_iff_ne]; omega
theorem allS_set_same (l : List S_api_Option) (n : Int) (vs : List (List UInt8)) : allS (setO l n vs) n = vs := by
  unfold allS setO
  simp only [List.filterMap_append]
  have e1 : ∀ p : S_api_Option → Bool, (∀ o, p o = true → (o.1 == n) = false) → (l.filter p).filterMap (fun o : S_api_Option => cond (o.1 == n) (some o.2) none) = [] := by
    intro p hp
    rw [List.filterMap_eq_nil_iff]
    intro o ho
    rw [hp o (List.mem_filter.1 ho).2]; rfl
  rw [e1 _ (fun o h => by have := of_decide_eq_true h; rw [beq_eq_false_iff_ne]; omega), e1 _ (fun o h => by have := of_decide_eq_true h; rw [beq_eq_false_iff_ne]; omega)]
  rw [List.nil_append, List.append_nil, List.filterMap_map]
  induction vs with
  | nil => rfl
  | cons v vs ih => rw [List.filterMap_cons]; simp only [Function.comp_apply, beq_self_eq_true, cond_true]; rw [ih]
theorem allS_set_other (l : List S_api_Option) {n k : Int} (hk : k ≠ n) (vs : List (List UInt8)) (h : allS l k = []) : allS (setO l n vs) k = [] := by
  unfold allS at h ⊢
  rw [List.filterMap_eq_nil_iff] at h ⊢
  intro o ho
  rcases setO_mem ho with ho | ⟨v, _, rfl⟩
  · exact h o ho
  · have : (((n, v) : S_api_Option).1 == k) = false := by rw [beq_eq_false_iff_ne]; exact fun e => hk e.symm
    rw [this]; rfl
theorem allS_no {l : List S_api_Option} {n : Int} (h : allS l n = []) : noO l n = l := by
  unfold allS at h
  rw [List.filterMap_eq_nil_iff] at h
  unfold noO
  rw [List.filter_eq_self]
  intro o ho
  cases hq : o.1 == n with
  | false => rfl
  | true => have := h o ho; rw [hq] at this; cases this
theorem SrtO.no {l : List S_api_Option} (h : SrtO l) (n : Int) : SrtO (noO l n) :=
  ⟨h.srt.filter _, fun o ho => h.num o (List.mem_filter.1 ho).1, fun o ho => h.val o (List.mem_filter.1 ho).1⟩
theorem SrtO.opts : ∀ {l : List S_api_Option} {n : Int}, SrtO l → (∀ o ∈ l, n ≤ o.1) → optsB n l = true
  | [], _, _, _ => rfl
  | x :: l, n, h, hn => by
    obtain ⟨h1, h2⟩ := List.pairwise_cons.1 h.srt
    obtain ⟨a, b⟩ := h.num x (by simp)
    have c := h.val x (by simp)
    have := hn x (by simp)
    have ih := @SrtO.opts l x.1 ⟨h2, fun o ho => h.num o (by simp [ho]), fun o ho => h.val o (by simp [ho])⟩ h1
    simp only [optsB, ih, Bool.and_true, Bool.and_eq_true, Bool.not_eq_true', decide_eq_false_iff_not]
    exact ⟨⟨by omega, by omega⟩, by omega⟩
theorem optsB_srt : ∀ {l : List S_api_Option} {n : Int}, optsB n l = true → l.Pairwise (fun a b => a.1 ≤ b.1)
  | [], _, _ => List.Pairwise.nil
  | x :: l, n, h => by
    simp only [optsB, Bool.and_eq_true, Bool.not_eq_true', decide_eq_false_iff_not] at h
    obtain ⟨⟨⟨h1, h2⟩, h3⟩, h4⟩ := h
    exact List.pairwise_cons.2 ⟨fun o ho => by have := (optsB_len h4 o ho).2.1; omega, optsB_srt h4⟩
/-! ### Requests -/
theorem bytes_le {d : S_coresecmake_Deck} (h : DeckOK d) {n : Nat} (h1 : n ≤ 1000) : ∃ b d', m_coresecmake_Deck_Bytes d n = some (b, d') ∧ b.length ≤ n ∧ DeckOK d' := by
  unfold m_coresecmake_Deck_Bytes
  rw [letm_e, w64_of (by omega) (by omega)]
  obtain ⟨v, d1, h2, v0, v1, h3⟩ := next_some h (n := (n : Int) + 1) (by omega) (by omega)
  rw [h2, bnd_s]
  obtain ⟨k, rfl⟩ : ∃ k : Nat, v = (k : Int) := ⟨v.toNat, by omega⟩
  obtain ⟨z, d', h4, h5, h6⟩ := bytes_go k FUEL [] d1 (by rw [fuel_eq]; omega) h3 (by simp; omega)
  exact ⟨z, d', h4, by simp at h5; omega, h6⟩
/-- A message with few options, in order. -/
structure OkM (k : Nat) (m : S_api_Message) : Prop where
  t0 : 0 ≤ m.1
  t1 : m.1 ≤ 2
  cl : m.2.1 ∈ ([69, 68, 65, 132, 129, 160, 95] : List Int)
  i0 : 0 ≤ m.2.2.1
  i1 : m.2.2.1 ≤ 65535
  tok : m.2.2.2.1.length ≤ 8
  ol : m.2.2.2.2.1.length ≤ k
  srt : SrtO m.2.2.2.2.1
  pay : m.2.2.2.2.2.length ≤ 100
theorem OkM.sz {k : Nat} {m : S_api_Message} (h : OkM k m) : Sz k m :=
  ⟨by have := h.tok; omega, h.ol, fun o ho => by have := h.srt.val o ho; omega, by have := h.pay; omega⟩
theorem OkM.len {k : Nat} {m : S_api_Message} (h : OkM k m) (hk : k ≤ 1000) : LenM m := h.sz.len (by omega)
theorem OkM.set {k j : Nat} {m : S_api_Message} (h : OkM k m) {n : Int} (h0 : 0 ≤ n) (h1 : n ≤ 65535) {vs : List (List UInt8)} (hk : k ≤ 1000) (hvl : vs.length ≤ 1000) (hj : (setO m.2.2.2.2.1 n vs).length ≤ j) (hv : ∀ v ∈ vs, v.length ≤ 20) :
    m_coresecref16_Set m n vs = some (withO m (setO m.2.2.2.2.1 n vs)) ∧ OkM j (withO m (setO m.2.2.2.2.1 n vs)) :=
  ⟨(h.sz.set n (j := vs.length) (by omega) (Nat.le_refl _) fun v hv' => by have := hv v hv'; omega).1, h.t0, h.t1, h.cl, h.i0, h.i1, h.tok, hj, h.srt.set h0 h1 hv, h.pay⟩
/-- One value more of a number: one option more at most. -/
theorem setO_more (l : List S_api_Option) (x : Int) (b : List UInt8) : (setO l x (allS l x ++ [b])).length ≤ l.length + 1 := by
  unfold setO allS
  simp only [List.length_append, List.length_map, List.length_singleton]
  have : ∀ l : List S_api_Option, (l.filter fun o => decide (o.1 < x)).length + (l.filterMap fun o => cond (o.1 == x) (some o.2) none).length + (l.filter fun o => decide (x < o.1)).length ≤ l.length := by
    intro l
    induction l with
    | nil => simp
    | cons o l ih =>
      simp only [List.filter_cons, List.filterMap_cons]
      rcases Int.lt_trichotomy o.1 x with h | h | h
      · have h2 : ¬ x < o.1 := by omega
        have h3 : (o.1 == x) = false := by rw [beq_eq_false_iff_ne]; omega
        simp [h, h2, h3]; omega
      · have h1 : ¬ o.1 < x := by omega
        have h2 : ¬ x < o.1 := by omega
        simp [h]; omega
      · have h2 : ¬ o.1 < x := by omega
        have h3 : (o.1 == x) = false := by rw [beq_eq_false_iff_ne]; omega
        simp [h, h2, h3]; omega
  have := this l
  omega
theorem dressed_ok_go : ∀ (k f : Nat) (j : Nat) (d : S_coresecmake_Deck) (m : S_api_Message), k < f → k + j ≤ 5 → DeckOK d → OkM j m → ∃ m' d', loopF (R := (S_api_Message × S_coresecmake_Deck)) (S := (Int × (S_coresecmake_Deck × S_api_Message))) (fun self4 s3 =>
    letm (decide (0 < s3.1)) fun x5 => cond x5 (bnd (m_coresecmake_Deck_Next s3.2.1 19) fun x6 => bnd (idx [1, 3, 4, 6, 7, 11, 12, 14, 15, 16, 17, 23, 27, 39, 60, 252, 258, 292, 300] x6.1) fun x7 => bnd (m_coresecref16_All_o s3.2.2 x7) fun x8 => bnd (m_coresecmake_Deck_Bytes x6.2 4) fun x9 => bnd (app x8 [x9.1]) fun x10 => bnd (m_coresecref16_Set s3.2.2 x7 x10) fun x11 => letm ((w64 (s3.1 - 1))) fun x12 => self4 (x12, (x9.2, x11))) (some (s3.2.2, s3.2.1))) f ((k : Int), (d, m)) = some (m', d') ∧ DeckOK d' ∧ OkM 5 m' := by
  intro k
  induction k with
  | zero =>
    intro f j d m hf hj hd hm
    obtain ⟨f, rfl⟩ : ∃ g, f = g + 1 := ⟨f - 1, by omega⟩
    refine ⟨m, d, ?_, hd, hm.t0, hm.t1, hm.cl, hm.i0, hm.i1, hm.tok, by have := hm.ol; omega, hm.srt, hm.pay⟩
    have d0 : decide ((0 : Int) < ((0 : Nat) : Int)) = false := rfl
    rw [loopF_succ, letm_e]
    simp only [d0, cd_f]
  | succ k ih =>
    intro f j d m hf hj hd hm
    obtain ⟨f, rfl⟩ : ∃ g, f = g + 1 := ⟨f - 1, by omega⟩
    obtain ⟨v, d1, e1, l1, u1, h1⟩ := next_some hd (n := 19) (by omega) (by omega)
    obtain ⟨x, e2, hx⟩ := idx_lit ([1, 3, 4, 6, 7, 11, 12, 14, 15, 16, 17, 23, 27, 39, 60, 252, 258, 292, 300] : List Int) l1 (by show v < 19; omega)
    have hx2 : 0 ≤ x ∧ x ≤ 65535 := by
      have : ∀ y ∈ ([1, 3, 4, 6, 7, 11, 12, 14, 15, 16, 17, 23, 27, 39, 60, 252, 258, 292, 300] : List Int), 0 ≤ y ∧ y ≤ 65535 := by decide
      exact this x hx
    obtain ⟨b, d2, e3, l3, h3⟩ := bytes_le h1 (n := 4) (by omega)
    have e3' : m_coresecmake_Deck_Bytes d1 4 = some (b, d2) := e3
    have hal := allS_len m.2.2.2.2.1 x
    have hol := hm.ol
    have e4 : m_coresecref16_All_o m x = some (allS m.2.2.2.2.1 x) := by rw [all_o, all_ref (hm.len (by omega)).2.1]
    obtain ⟨e5, z5⟩ := hm.set hx2.1 hx2.2 (vs := allS m.2.2.2.2.1 x ++ [b]) (j := j + 1) (by omega) (by simp; omega) (by have := setO_more m.2.2.2.2.1 x b; omega) (fun w hw => by
      rcases List.mem_append.1 hw with hw | hw
      · obtain ⟨o, ho, rfl⟩ := allS_mem hw; exact hm.srt.val o ho
      · rw [List.mem_singleton.1 hw]; omega)
    have dk : decide ((0 : Int) < ((k + 1 : Nat) : Int)) = true := decide_eq_true (by omega)
    have wk : w64 (((k + 1 : Nat) : Int) - 1) = (k : Int) := by rw [w64_of (by omega) (by omega)]; omega
    have ea : app (allS m.2.2.2.2.1 x) [b] = some (allS m.2.2.2.2.1 x ++ [b]) := app_some' (by simp; omega)
    rw [loopF_succ]
    simp only [letm_e, dk, cd_t, e1, e2, e3', e4, ea, e5, bnd_s, wk]
    obtain ⟨m', d', g1, g2, g3⟩ := ih f _ d2 _ (by omega) (by omega) h3 z5
    simp only [letm_e] at g1
    exact ⟨m', d', g1, g2, g3⟩
theorem response_ok {d : S_coresecmake_Deck} (h : DeckOK d) : ∃ m d', m_coresecmake2_Response d = some (m, d') ∧ DeckOK d' ∧ OkM 5 m := by
  unfold m_coresecmake2_Response
  obtain ⟨v1, d1, e1, l1, u1, h1⟩ := next_some h (n := 3) (by omega) (by omega)
  obtain ⟨v2, d2, e2, l2, u2, h2⟩ := next_some h1 (n := 7) (by omega) (by omega)
  obtain ⟨x3, e3, hx3⟩ := idx_lit ([69, 68, 65, 132, 129, 160, 95] : List Int) l2 (by show v2 < 7; omega)
  obtain ⟨v4, d4, e4, l4, u4, h4⟩ := next_some h2 (n := 65536) (by omega) (by omega)
  obtain ⟨b5, d5, e5, l5, h5⟩ := bytes_le h4 (n := 4) (by omega)
  obtain ⟨b6, d6, e6, l6, h6⟩ := bytes_le h5 (n := 20) (by omega)
  have e5' : m_coresecmake_Deck_Bytes d4 4 = some (b5, d5) := e5
  have e6' : m_coresecmake_Deck_Bytes d5 20 = some (b6, d6) := e6
  have hm : OkM 0 (v1, (x3, (v4, (b5, ([], b6))))) := ⟨l1, by show v1 ≤ 2; omega, hx3, l4, by show v4 ≤ 65535; omega, by show b5.length ≤ 8; omega, by simp, ⟨List.Pairwise.nil, by simp, by simp⟩, by show b6.length ≤ 100; omega⟩
  obtain ⟨v, d7, e7, l7, u7, h7⟩ := next_some h6 (n := 6) (by omega) (by omega)
  obtain ⟨k, rfl⟩ : ∃ k : Nat, v = (k : Int) := ⟨v.toNat, by omega⟩
  obtain ⟨m, d8, e8, h8, z8⟩ := dressed_ok_go k FUEL 0 d7 (v1, (x3, (v4, (b5, ([], b6))))) (by rw [fuel_eq]; omega) (by omega) h7 hm
  have ed : m_coresecmake2_dressed d6 (v1, (x3, (v4, (b5, ([], b6))))) = some (m, d8) := by
    unfold m_coresecmake2_dressed
    rw [e7, bnd_s]; exact e8
  simp only [e1, e2, e3, e4, e5', e6', ed, bnd_s]
  exact ⟨m, d8, rfl, h8, z8⟩
/-- Such a message is valid. -/
theorem OkM.snd {m : S_api_Message} (h : OkM 5 m) : sndM m = true := by
  have ho : optsB 0 m.2.2.2.2.1 = true := h.srt.opts fun o ho => (h.srt.num o ho).1
  have hc : 64 ≤ m.2.1 ∧ m.2.1 ≤ 191 ∧ clsB (m.2.1 / 32) = true := by
    have : ∀ y ∈ ([69, 68, 65, 132, 129, 160, 95] : List Int), 64 ≤ y ∧ y ≤ 191 ∧ clsB (y / 32) = true := by decide
    exact this _ h.cl
  have h1 := h.t0; have h2 := h.t1; have h3 := h.i0; have h4 := h.i1; have h5 := h.tok; have h6 := h.ol; have h7 := h.pay
  have e1 : (m.2.1 == 0) = false := by rw [beq_eq_false_iff_ne]; omega
  have e2 : (m.1 == 3) = false := by rw [beq_eq_false_iff_ne]; omega
  unfold sndM
  rw [ho, hc.2.2, e1, e2]
  simp only [Bool.false_and, Bool.not_false, Bool.and_true, Bool.and_eq_true, Bool.not_eq_true', decide_eq_false_iff_not, decide_eq_true_eq]
  omega
end Go.Proofs.YtcbkmlfkfhfliaaDoor
