/-
  Options, plain facts: the messages that chapter 16 draws; which values options have and what is set (OptionSets). Of the models alone; no program; no condition but the length told.
-/
import Derived.Test.YtllomdfckciedaaDoorQOpt
import Derived.Test.YtllomdfckciedaaDoorQ50
namespace Go.Proofs.YtllomdfckciedaaDoor
open Go.Gk Go.RowKit
theorem text_go : ∀ (k f : Nat) (b : List UInt8) (d : S_coresecmake_Deck), k < f → DeckOK d → b.length + 3 * k ≤ 1000000 → ∃ z d', loopF (R := ((List UInt8) × S_coresecmake_Deck)) (S := ((List UInt8) × (Int × S_coresecmake_Deck))) (fun self5 s4 =>
     letm (decide (0 < s4.2.1)) fun x6 => cond x6 (bnd (m_coresecmake_Deck_Next s4.2.2 10) fun x7 => bnd (idx [[97], [98], [47], [34], [92], [10], [127], [37], [195, 169], [226, 130, 172]] x7.1) fun x8 => bnd (app s4.1 x8) fun x9 => letm ((w64 (s4.2.1 - 1))) fun x10 => self5 (x9, (x10, x7.2))) (some (s4.1, s4.2.2))) f (b, ((k : Int), d)) = some (z, d') ∧ z.length ≤ b.length + 3 * k ∧ DeckOK d'
  | 0, f + 1, b, d, _, hd, _ => ⟨b, d, rfl, by omega, hd⟩
  | k + 1, f + 1, b, d, hf, hd, hl => by
    obtain ⟨v, d1, h1, v0, v1, h2⟩ := next_some hd (n := 10) (by omega) (by omega)
    obtain ⟨x, e2, hx⟩ := idx_lit ([[97], [98], [47], [34], [92], [10], [127], [37], [195, 169], [226, 130, 172]] : List (List UInt8)) v0 (by show v < 10; omega)
    have hx3 : x.length ≤ 3 := by
      have : ∀ y ∈ ([[97], [98], [47], [34], [92], [10], [127], [37], [195, 169], [226, 130, 172]] : List (List UInt8)), y.length ≤ 3 := by decide
      exact this x hx
    rw [loopF_succ, letm_e]
    have e1 : decide ((0 : Int) < ((k + 1 : Nat) : Int)) = true := decide_eq_true (by omega)
    simp only [e1, cd_t]
    rw [h1, bnd_s, e2, bnd_s, app_some' (by omega), bnd_s, letm_e, w64_of (by omega) (by omega), show (((k + 1 : Nat) : Int) - 1) = (k : Int) by omega]
    obtain ⟨z, d', h3, h4, h5⟩ := text_go k f (b ++ x) d1 (by omega) h2 (by simp; omega)
    exact ⟨z, d', h3, by simp at h4; omega, h5⟩
theorem text_some {d : S_coresecmake_Deck} (h : DeckOK d) {n : Nat} (h1 : n ≤ 1000) : ∃ b d', m_coresecmake_Deck_Text d n = some (b, d') ∧ b.length ≤ 3 * n ∧ DeckOK d' := by
  unfold m_coresecmake_Deck_Text
  rw [letm_e, w64_of (by omega) (by omega)]
  obtain ⟨v, d1, h2, v0, v1, h3⟩ := next_some h (n := (n : Int) + 1) (by omega) (by omega)
  rw [h2, bnd_s]
  obtain ⟨k, rfl⟩ : ∃ k : Nat, v = (k : Int) := ⟨v.toNat, by omega⟩
  obtain ⟨z, d', h4, h5, h6⟩ := text_go k FUEL [] d1 (by rw [fuel_eq]; omega) h3 (by simp; omega)
  exact ⟨z, d', h4, by simp at h5; omega, h6⟩
/-- A message of chapter 16: at most k options, in order, with values of at most b bytes. -/
structure Mg (k b : Nat) (m : S_api_Message) : Prop where
  t0 : 0 ≤ m.1
  t1 : m.1 ≤ 1
  cd : m.2.1 ∈ ([1, 2, 5, 69, 132] : List Int)
  i0 : 0 ≤ m.2.2.1
  i1 : m.2.2.1 ≤ 65535
  tok : m.2.2.2.1.length ≤ 4
  ol : m.2.2.2.2.1.length ≤ k
  srt : SrtB b m.2.2.2.2.1
  pay : m.2.2.2.2.2.length ≤ 20
theorem Mg.len {k b : Nat} {m : S_api_Message} (h : Mg k b m) (hk : k ≤ 100000) (hb : b ≤ 100000) : LenM m :=
  ⟨by have := h.tok; omega, ⟨by have := h.ol; omega, fun o ho => by have := h.srt.val o ho; omega⟩, by have := h.pay; omega⟩
theorem Mg.set {k j b : Nat} {m : S_api_Message} (h : Mg k b m) {n : Int} (h0 : 0 ≤ n) (h1 : n ≤ 65535) {vs : List (List UInt8)} (hk : k ≤ 1000) (hb : b ≤ 100000) (hvl : vs.length ≤ 1000) (hj : (setO m.2.2.2.2.1 n vs).length ≤ j) (hv : ∀ v ∈ vs, v.length ≤ b) :
    m_coresecref16_Set m n vs = some (withO m (setO m.2.2.2.2.1 n vs)) ∧ Mg j b (withO m (setO m.2.2.2.2.1 n vs)) :=
  ⟨set_ref (h.len (by omega) hb) (by have := h.ol; omega) (by omega) fun v hv' => by have := hv v hv'; omega, h.t0, h.t1, h.cd, h.i0, h.i1, h.tok, hj, h.srt.set h0 h1 hv, h.pay⟩
theorem SrtB.mono {b c : Nat} (h : b ≤ c) {l : List S_api_Option} (s : SrtB b l) : SrtB c l := ⟨s.srt, s.num, fun o ho => by have := s.val o ho; omega⟩
theorem Mg.mono {k b j c : Nat} {m : S_api_Message} (h : Mg k b m) (h1 : k ≤ j) (h2 : b ≤ c) : Mg j c m := ⟨h.t0, h.t1, h.cd, h.i0, h.i1, h.tok, by have := h.ol; omega, h.srt.mono h2, h.pay⟩
theorem options_go : ∀ (k f : Nat) (j : Nat) (d : S_coresecmake_Deck) (l : List S_api_Option), k < f → k + j ≤ 5 → DeckOK d → l.length ≤ j → SrtB 5 l → ∃ l' d', loopF (R := ((List S_api_Option) × S_coresecmake_Deck)) (S := (Int × (S_coresecmake_Deck × S_api_Message))) (fun self5 s4 =>
    letm (decide (0 < s4.1)) fun x6 => cond x6 (bnd (m_coresecmake_numbers ) fun x7 => bnd (m_coresecmake_Deck_Next s4.2.1 24) fun x8 => bnd (idx x7 x8.1) fun x9 => bnd (m_coresecref16_All_o s4.2.2 x9) fun x10 => bnd (m_coresecmake_Deck_Bytes x8.2 5) fun x11 => bnd (app x10 [x11.1]) fun x12 => bnd (m_coresecref16_Set s4.2.2 x9 x12) fun x13 => letm ((w64 (s4.1 - 1))) fun x14 => self5 (x14, (x11.2, x13))) (some (s4.2.2.2.2.2.2.1, s4.2.1))) f ((k : Int), (d, ((0, (0, (0, ([], (l, []))))) : S_api_Message))) = some (l', d') ∧ DeckOK d' ∧ l'.length ≤ 5 ∧ SrtB 5 l' := by
  intro k
  induction k with
  | zero =>
    intro f j d l hf hj hd hl hs
    obtain ⟨f, rfl⟩ : ∃ g, f = g + 1 := ⟨f - 1, by omega⟩
    refine ⟨l, d, ?_, hd, by omega, hs⟩
    have d0 : decide ((0 : Int) < ((0 : Nat) : Int)) = false := rfl
    rw [loopF_succ, letm_e]
    simp only [d0, cd_f]
  | succ k ih =>
    intro f j d l hf hj hd hl hs
    obtain ⟨f, rfl⟩ : ∃ g, f = g + 1 := ⟨f - 1, by omega⟩
    obtain ⟨v, d1, e1, l1, u1, h1⟩ := next_some hd (n := 24) (by omega) (by omega)
    obtain ⟨x, e2, hx⟩ := idx_lit ([1, 3, 4, 6, 8, 11, 11, 12, 14, 15, 17, 23, 27, 28, 35, 60, 252, 258, 292, 9, 2, 13, 300, 65535] : List Int) l1 (by show v < 24; omega)
    have hx2 : 0 ≤ x ∧ x ≤ 65535 := by
      have : ∀ y ∈ ([1, 3, 4, 6, 8, 11, 11, 12, 14, 15, 17, 23, 27, 28, 35, 60, 252, 258, 292, 9, 2, 13, 300, 65535] : List Int), 0 ≤ y ∧ y ≤ 65535 := by decide
      exact this x hx
    obtain ⟨b, d2, e3, l3, h3⟩ := bytes_le h1 (n := 5) (by omega)
    have e3' : m_coresecmake_Deck_Bytes d1 5 = some (b, d2) := e3
    have hal := allS_len l x
    have hL : LenM ((0, (0, (0, ([], (l, []))))) : S_api_Message) := ⟨by simp, ⟨by show l.length ≤ 1000000; omega, fun o ho => by have := hs.val o ho; omega⟩, by simp⟩
    have e4 : m_coresecref16_All_o ((0, (0, (0, ([], (l, []))))) : S_api_Message) x = some (allS l x) := by rw [all_o, all_ref hL.2.1]
    have hvs : ∀ w ∈ allS l x ++ [b], w.length ≤ 5 := fun w hw => by
      rcases List.mem_append.1 hw with hw | hw
      · obtain ⟨o, ho, rfl⟩ := allS_mem hw; exact hs.val o ho
      · rw [List.mem_singleton.1 hw]; omega
    have e5 : m_coresecref16_Set ((0, (0, (0, ([], (l, []))))) : S_api_Message) x (allS l x ++ [b]) = some (0, (0, (0, ([], (setO l x (allS l x ++ [b]), []))))) :=
      set_ref hL (by show l.length ≤ 400000; omega) (by simp; omega) fun w hw => by have := hvs w hw; omega
    have dk : decide ((0 : Int) < ((k + 1 : Nat) : Int)) = true := decide_eq_true (by omega)
    have wk : w64 (((k + 1 : Nat) : Int) - 1) = (k : Int) := by rw [w64_of (by omega) (by omega)]; omega
    have ea : app (allS l x) [b] = some (allS l x ++ [b]) := app_some' (by simp; omega)
    rw [loopF_succ]
    unfold m_coresecmake_numbers
    simp only [letm_e, dk, cd_t, e1, e2, e3', e4, ea, e5, bnd_s, wk]
    obtain ⟨m', d', g1, g2, g3⟩ := ih f (j + 1) d2 _ (by omega) (by omega) h3 (by have := setO_more l x b; omega) (hs.set hx2.1 hx2.2 hvs)
    unfold m_coresecmake_numbers at g1
    simp only [letm_e, bnd_s] at g1
    exact ⟨m', d', g1, g2, g3⟩
theorem options_some {d : S_coresecmake_Deck} (h : DeckOK d) : ∃ l d', m_coresecmake_Deck_Options d 5 = some (l, d') ∧ DeckOK d' ∧ l.length ≤ 5 ∧ SrtB 5 l := by
  unfold m_coresecmake_Deck_Options
  rw [letm_e, w64_of (by omega) (by omega)]
  obtain ⟨v, d1, h2, v0, v1, h3⟩ := next_some h (n := (5 : Int) + 1) (by omega) (by omega)
  rw [h2, bnd_s]
  obtain ⟨k, rfl⟩ : ∃ k : Nat, v = (k : Int) := ⟨v.toNat, by omega⟩
  exact options_go k FUEL 0 d1 [] (by rw [fuel_eq]; omega) (by omega) h3 (by simp) ⟨List.Pairwise.nil, by simp, by simp⟩
theorem deckMessage_some {d : S_coresecmake_Deck} (h : DeckOK d) {c : Int} (hc : c ∈ ([1, 2, 5, 69, 132] : List Int)) : ∃ m d', m_coresecmake_Deck_Message d c = some (m, d') ∧ DeckOK d' ∧ Mg 5 5 m := by
  unfold m_coresecmake_Deck_Message
  obtain ⟨v2, d2, e2, l2, u2, h2⟩ := next_some h (n := 2) (by omega) (by omega)
  obtain ⟨v3, d3, e3, l3, u3, h3⟩ := next_some h2 (n := 65536) (by omega) (by omega)
  obtain ⟨b4, d4, e4, l4, h4⟩ := bytes_le h3 (n := 4) (by omega)
  have e4' : m_coresecmake_Deck_Bytes d3 4 = some (b4, d4) := e4
  obtain ⟨l5, d5, e5, h5, s5, t5⟩ := options_some h4
  obtain ⟨b6, d6, e6, l6, h6⟩ := bytes_le h5 (n := 20) (by omega)
  have e6' : m_coresecmake_Deck_Bytes d5 20 = some (b6, d6) := e6
  have hm : Mg 5 5 (v2, (c, (v3, (b4, (l5, b6))))) := ⟨l2, by show v2 ≤ 1; omega, hc, l3, by show v3 ≤ 65535; omega, l4, s5, t5, l6⟩
  have c0 : (c == 0) = false := by
    rw [beq_eq_false_iff_ne]
    rintro rfl
    revert hc; decide
  simp only [e2, e3, e4', e5, e6', c0, letm_e, cd_f, bnd_s, copy15 (hm.len (by omega) (by omega))]
  exact ⟨_, _, rfl, h6, hm⟩
theorem message_some {a0 : List Int} (h : a0.length ≤ maxLen) : ∃ m, m_coreseclaw16_message a0 = some m ∧ Mg 7 256 m := by
  unfold m_coreseclaw16_message
  have e1 : m_coresecmake_New a0 = some (a0, 0) := rfl
  have h1 := new_ok h
  obtain ⟨v2, d2, e2, l2, u2, h2⟩ := next_some h1 (n := 5) (by omega) (by omega)
  obtain ⟨x3, e3, m3⟩ := idx_lit ([1, 2, 5, 69, 132] : List Int) l2 (by show v2 < 5; omega)
  obtain ⟨m4, d4, e4, h4, g4⟩ := deckMessage_some h2 m3
  obtain ⟨v5, d5, e5, l5, u5, h5⟩ := next_some h4 (n := 6) (by omega) (by omega)
  have g4' : Mg 5 256 m4 := g4.mono (by omega) (by omega)
  have sl : ∀ (n : Int) (p q : List UInt8), (setO m4.2.2.2.2.1 n [p, q]).length ≤ 7 := fun n p q => by
    have := setO_len m4.2.2.2.2.1 n [p, q]
    have := g4.ol
    simp at *; omega
  rw [e1, bnd_s, e2, bnd_s, e3, bnd_s, e4, bnd_s]
  simp only [e5, bnd_s, letm_e]
  cases v5 == 0 with
  | true =>
    obtain ⟨b7, d7, e7, l7, h7⟩ := bytes_le h5 (n := 3) (by omega)
    have e7' : m_coresecmake_Deck_Bytes d5 3 = some (b7, d7) := e7
    obtain ⟨v8, d8, e8, l8, u8, h8⟩ := next_some h7 (n := 2) (by omega) (by omega)
    have e10 : mkl (w64 (255 + v8)) (0 : UInt8) = some (List.replicate (255 + v8).toNat 0) := by
      rw [w64_of (by omega) (by omega)]
      obtain ⟨n, hn⟩ : ∃ n : Nat, 255 + v8 = (n : Int) := ⟨(255 + v8).toNat, by omega⟩
      rw [hn]
      unfold mkl
      rw [show (decide (0 ≤ (n : Int)) && decide ((n : Int) ≤ 65536)) = true by simp; omega]; rfl
    obtain ⟨s1, s2⟩ := g4'.set (n := 11) (vs := [b7, List.replicate (255 + v8).toNat 0]) (j := 7) (by omega) (by omega) (by omega) (by omega) (by simp) (sl _ _ _) (fun v hv => by
      simp only [List.mem_cons, List.not_mem_nil, or_false] at hv
      rcases hv with rfl | rfl
      · omega
      · rw [List.length_replicate]; omega)
    simp only [cd_t, e7', e8, e10, s1, bnd_s]
    exact ⟨_, rfl, s2⟩
  | false =>
    rw [cd_f]
    cases v5 == 1 with
    | true =>
      obtain ⟨b7, d7, e7, l7, h7⟩ := text_some h5 (n := 2) (by omega)
      have e7' : m_coresecmake_Deck_Text d5 2 = some (b7, d7) := e7
      obtain ⟨s1, s2⟩ := g4'.set (n := 3) (vs := [b7, [255]]) (j := 7) (by omega) (by omega) (by omega) (by omega) (by simp) (sl _ _ _) (fun v hv => by
        simp only [List.mem_cons, List.not_mem_nil, or_false] at hv
        rcases hv with rfl | rfl
        · omega
        · simp)
      simp only [cd_t, e7', app_nil_some (show b7.length ≤ 1000000 by omega), s1, bnd_s]
      exact ⟨_, rfl, s2⟩
    | false =>
      rw [cd_f]
      cases v5 == 2 with
      | true =>
        obtain ⟨b7, d7, e7, l7, h7⟩ := bytes_le h5 (n := 3) (by omega)
        have e7' : m_coresecmake_Deck_Bytes d5 3 = some (b7, d7) := e7
        obtain ⟨b8, d8, e8, l8, h8⟩ := bytes_le h7 (n := 3) (by omega)
        have e8' : m_coresecmake_Deck_Bytes d7 3 = some (b8, d8) := e8
        obtain ⟨s1, s2⟩ := g4'.set (n := 12) (vs := [b7, b8]) (j := 7) (by omega) (by omega) (by omega) (by omega) (by simp) (sl _ _ _) (fun v hv => by
          simp only [List.mem_cons, List.not_mem_nil, or_false] at hv
          rcases hv with rfl | rfl <;> omega)
        simp only [cd_t, e7', e8', s1, bnd_s]
        exact ⟨_, rfl, s2⟩
      | false =>
        rw [cd_f, bnd_s]
        exact ⟨_, rfl, g4'.mono (by omega) (by omega)⟩
/-- A loop that stops at a value that is too long. -/
theorem loopL_short {R : Type} {N : Nat} {bn : Nat → Unit → Option R} {v : Option R} : ∀ (xs : List (List UInt8)) (k : Nat),
    (loopL (R := R) (S := Unit) (α := List UInt8) bn (fun x _ _ self => letm (decide ((N : Int) < (x.length : Int))) fun x41 => cond x41 v (self ())) xs k () = v) ∨
    ((∀ x ∈ xs, x.length ≤ N) ∧ loopL (R := R) (S := Unit) (α := List UInt8) bn (fun x _ _ self => letm (decide ((N : Int) < (x.length : Int))) fun x41 => cond x41 v (self ())) xs k () = bn (k + xs.length) ())
  | [], k => .inr ⟨by simp, rfl⟩
  | x :: xs, k => by
    by_cases hx : x.length ≤ N
    · have d : decide ((N : Int) < (x.length : Int)) = false := decide_eq_false (by omega)
      rcases loopL_short (bn := bn) (v := v) xs (k + 1) with h | ⟨h1, h2⟩
      · left
        rw [loopL_cons, letm_e, d, cd_f]; exact h
      · right
        refine ⟨fun y hy => ?_, ?_⟩
        · rcases List.mem_cons.1 hy with rfl | hy
          · exact hx
          · exact h1 y hy
        · rw [loopL_cons, letm_e, d, cd_f, h2]
          simp only [List.length_cons]
          rw [show k + 1 + xs.length = k + (xs.length + 1) by omega]
    · left
      have d : decide ((N : Int) < (x.length : Int)) = true := decide_eq_true (by omega)
      rw [loopL_cons, letm_e, d, cd_t]
/-- A list compared with itself. -/
theorem loopL_same {R : Type} {bn : Nat → Unit → Option R} {v : Option R} (l : List (List UInt8)) : ∀ (rest : List (List UInt8)) (k : Nat), l.drop k = rest →
    loopL (R := R) (S := Unit) (α := List UInt8) bn (fun x31 k32 _ self34 => bnd (idx l (k32 : Int)) fun x35 => letm ((x31 != x35)) fun x36 => cond x36 v (self34 ())) rest k () = bn (k + rest.length) ()
  | [], k, _ => rfl
  | x :: r, k, h => by
    have hk : l[k]? = some x := by have := congrArg (fun l => l[0]?) h; simpa using this
    have hd : l.drop (k + 1) = r := by have := congrArg (fun l => l.drop 1) h; simpa using this
    rw [loopL_cons, idx_some' hk, bnd_s, letm_e, bne_self_eq_false, cd_f, loopL_same l r (k + 1) hd]
    simp only [List.length_cons]
    rw [show k + 1 + r.length = k + (r.length + 1) by omega]
end Go.Proofs.YtllomdfckciedaaDoor
