/-
  Blocks inside messages, plain facts: the law FragmentAgrees. Of the models alone; no program; no condition but that a list of numbers is not longer than memory.
-/
import Derived.Test.YtdgpkkfkloapbaaQ33
namespace Go.Proofs.Ytdgpkkfkloapbaa
open Go.Gk Go.RowKit
def cmpS : List UInt8 → List UInt8 → Int
  | [], [] => 0
  | [], _ :: _ => -1
  | _ :: _, [] => 1
  | x :: xs, y :: ys => bif ((UInt8.toNat x : Int) != (UInt8.toNat y : Int)) then (bif decide ((UInt8.toNat x : Int) < (UInt8.toNat y : Int)) then -1 else 1) else cmpS xs ys
theorem cmpS_cc (x y : UInt8) (xs ys : List UInt8) : cmpS (x :: xs) (y :: ys) = bif ((UInt8.toNat x : Int) != (UInt8.toNat y : Int)) then (bif decide ((UInt8.toNat x : Int) < (UInt8.toNat y : Int)) then -1 else 1) else cmpS xs ys := rfl
theorem cmpS_zero : ∀ (a b : List UInt8), (cmpS a b == 0) = (a == b)
  | [], [] => rfl
  | [], _ :: _ => rfl
  | _ :: _, [] => rfl
  | x :: xs, y :: ys => by
    rw [cmpS_cc]
    have ih := cmpS_zero xs ys
    by_cases h : x = y
    · subst h
      rw [show ((UInt8.toNat x : Int) != (UInt8.toNat x : Int)) = false from by simp, cond_false, ih]
      simp
    · have h2 : ((UInt8.toNat x : Int) != (UInt8.toNat y : Int)) = true := by
        rw [bne_iff_ne]; intro e; exact h (UInt8.toNat_inj.1 (by omega))
      rw [h2, cond_true]
      have h3 : ((x :: xs) == (y :: ys)) = false := by simp [h]
      rw [h3]
      cases decide ((UInt8.toNat x : Int) < (UInt8.toNat y : Int)) <;> rfl
theorem drop_cons {α : Type} {l : List α} {k : Nat} (h : k < l.length) : l.drop k = l[k] :: l.drop (k + 1) := List.drop_eq_getElem_cons h
theorem cmp_go (a b : List UInt8) (ha : a.length ≤ 1000000000) : ∀ (n k f : Nat), n + k = a.length → k ≤ b.length → n < f → loopF (R := Int) (S := Int) (fun self3 s2 => letm (decide (s2 < (a.length : Int))) fun x4 => cond x4 (letm (decide (s2 < (b.length : Int))) fun x5 => cond x5 (bnd (idx a s2) fun x6 => bnd (idx b s2) fun x7 => letm (((UInt8.toNat x6 : Int) != (UInt8.toNat x7 : Int))) fun x8 => cond x8 (bnd (idx a s2) fun x9 => bnd (idx b s2) fun x10 => letm (decide ((UInt8.toNat x9 : Int) < (UInt8.toNat x10 : Int))) fun x11 => cond x11 (some (-1)) (some 1)) (letm ((w64 (s2 + 1))) fun x12 => self3 x12))
    (letm (decide ((a.length : Int) < (b.length : Int))) fun x13 => cond x13 (some (-1)) (letm (decide ((b.length : Int) < (a.length : Int))) fun x14 => cond x14 (some 1) (some 0)))) (letm (decide ((a.length : Int) < (b.length : Int))) fun x15 => cond x15 (some (-1)) (letm (decide ((b.length : Int) < (a.length : Int))) fun x16 => cond x16 (some 1) (some 0)))) f (k : Int) = some (cmpS (a.drop k) (b.drop k)) := by
  intro n
  induction n with
  | zero =>
    intro k f hk hkb hf
    obtain ⟨f, rfl⟩ : ∃ g, f = g + 1 := ⟨f - 1, by omega⟩
    have d1 : decide ((k : Int) < (a.length : Int)) = false := decide_eq_false (by omega)
    have hda : a.drop k = [] := List.drop_of_length_le (by omega)
    rw [loopF_succ]
    simp only [letm_e, d1, cd_f, hda]
    rcases Nat.lt_or_ge k b.length with h | h
    · rw [drop_cons h, decide_eq_true (show (a.length : Int) < (b.length : Int) by omega)]; rfl
    · rw [List.drop_of_length_le h, decide_eq_false (show ¬ (a.length : Int) < (b.length : Int) by omega), decide_eq_false (show ¬ (b.length : Int) < (a.length : Int) by omega)]; rfl
  | succ n ih =>
    intro k f hk hkb hf
    obtain ⟨f, rfl⟩ : ∃ g, f = g + 1 := ⟨f - 1, by omega⟩
    have hlt : k < a.length := by omega
    have d1 : decide ((k : Int) < (a.length : Int)) = true := decide_eq_true (by omega)
    have wk : w64 ((k : Int) + 1) = ((k + 1 : Nat) : Int) := by rw [w64_of (by omega) (by omega)]; omega
    rw [loopF_succ, drop_cons hlt]
    rcases Nat.lt_or_ge k b.length with h | h
    · have d2 : decide ((k : Int) < (b.length : Int)) = true := decide_eq_true (by omega)
      have := ih (k + 1) f (by omega) (by omega) (by omega)
      simp only [letm_e] at this
      simp only [letm_e, d1, d2, cd_t, idx_some' (List.getElem?_eq_getElem hlt), idx_some' (List.getElem?_eq_getElem h), bnd_s, wk]
      rw [drop_cons h, this, cmpS_cc]
      cases ((UInt8.toNat a[k] : Int) != (UInt8.toNat b[k] : Int)) <;> cases decide ((UInt8.toNat a[k] : Int) < (UInt8.toNat b[k] : Int)) <;> rfl
    · have d2 : decide ((k : Int) < (b.length : Int)) = false := decide_eq_false (by omega)
      simp only [letm_e, d1, d2, cd_t, cd_f]
      rw [List.drop_of_length_le h, decide_eq_false (show ¬ (a.length : Int) < (b.length : Int) by omega), decide_eq_true (show (b.length : Int) < (a.length : Int) by omega)]; rfl
theorem equal26 {a b : List UInt8} (h : a.length ≤ 1000000000) : m_coresecref26_Equal a b = some (a == b) := by
  unfold m_coresecref26_Equal m_coresecref01_Compare
  have := cmp_go a b h a.length 0 FUEL rfl (Nat.zero_le _) (by rw [fuel_eq]; omega)
  rw [show ((0 : Nat) : Int) = 0 from rfl] at this
  rw [this, bnd_s, letm_e, List.drop_zero, List.drop_zero, cmpS_zero, letm_e]
  cases hab : a == b with
  | false => rfl
  | true =>
    have : a = b := by simpa using hab
    subst this
    simp
theorem copied_some {a : List UInt8} (h : a.length ≤ 1000000) : m_fragment_copied_o a = some a ∧ m_coresecref26_Copy_o a = some a ∧ m_fragment_copied a = some a := by
  unfold m_fragment_copied_o m_coresecref26_Copy_o m_fragment_copied
  rw [app_nil_some h]
  exact ⟨rfl, rfl, rfl⟩
theorem getS_len {l : List S_api_Option} (h : LenO l) (n : Int) : (getS l n).1.length ≤ 1000000 := by
  rcases allS_get l n with ⟨_, h2⟩ | ⟨v, r, h1, h2⟩
  · rw [h2]; simp
  · rw [h2]
    have : v ∈ allS l n := by rw [h1]; simp
    obtain ⟨o, ho, rfl⟩ := allS_mem this
    exact h.2 o ho
def LenR (r : List UInt8 × (List UInt8 × (Bool × Int))) : Prop := r.1.length ≤ 2000000 ∧ r.2.1.length ≤ 2000000
theorem collect_eq {p q : S_api_Message} (h1 : LenM p) (h2 : LenM q) {a t : List UInt8} (ha : a.length ≤ 1000000) : ∃ r, m_fragment_Collect a t p q = some r ∧ m_coresecref33_Collect a t p q = some r ∧ LenR r := by
  obtain ⟨e, e1, e2⟩ := agree_eq h1.2.1 h2.2.1
  have hg := getS_len h2.2.1 4
  have hpq := h2.2.2
  have ep : app a q.2.2.2.2.2 = some (a ++ q.2.2.2.2.2) := app_some' (by omega)
  have el : (a ++ q.2.2.2.2.2).length ≤ 2000000 := by simp; omega
  unfold m_fragment_Collect m_coresecref33_Collect
  simp only [e1, e2, sound33 h2.2.1, sound33_ref h2.2.1, pos_eq, pos_ref, get_eq h2.2.1, get_ref h2.2.1, equal26 (show (getS q.2.2.2.2.1 4).1.length ≤ 1000000000 by omega), (copied_some ha).1, (copied_some ha).2.1, (copied_some hg).1, (copied_some hg).2.1, ep, bnd_s, letm_e, bne]
  repeat (first | exact ⟨_, rfl, rfl, el, Nat.le_trans hg (by decide)⟩ | exact ⟨_, rfl, rfl, Nat.zero_le _, Nat.zero_le _⟩ | apply both_cond_q)
/-! ### The law -/
theorem awake33 : m_coreseclaw33_awake = some true := by kernel_rfl
theorem small_eq (l : List UInt8) : m_coresecmake2_Small l = some (decide ((l.length : Int) ≤ 900)) := rfl
def smallM (m : S_api_Message) : Bool := (m.2.2.2.2.1.all fun o => decide ((o.2.length : Int) ≤ 900)) && (decide ((m.2.2.2.2.1.length : Int) ≤ 20) && (decide ((m.2.2.2.1.length : Int) ≤ 900) && decide ((m.2.2.2.2.2.length : Int) ≤ 900)))
theorem message_go (c : Bool) : ∀ (l : List S_api_Option) (k : Nat), loopL (R := Bool) (S := Unit) (α := S_api_Option) (fun _ _ => some c) (fun x6 _ _ self9 => bnd (m_coresecmake2_Small x6.2) fun x10 => letm ((!x10)) fun x11 => cond x11 (some false) (self9 ())) l k () = some ((l.all fun o => decide ((o.2.length : Int) ≤ 900)) && c)
  | [], _ => rfl
  | o :: l, k => by
    rw [loopL_cons, message_go c l (k + 1), small_eq, bnd_s, letm_e, List.all_cons]
    cases decide ((o.2.length : Int) ≤ 900) <;> rfl
theorem message_eq (m : S_api_Message) : m_coresecmake2_Message m = some (smallM m) := by
  unfold m_coresecmake2_Message smallM
  have : (letm (decide ((m.2.2.2.2.1.length : Int) ≤ 20)) fun x3 => cond x3 (bnd (m_coresecmake2_Small m.2.2.2.1) fun x4 => cond x4 (bnd (m_coresecmake2_Small m.2.2.2.2.2) fun x5 => some x5) (some false)) (some false)) = some (decide ((m.2.2.2.2.1.length : Int) ≤ 20) && (decide ((m.2.2.2.1.length : Int) ≤ 900) && decide ((m.2.2.2.2.2.length : Int) ≤ 900))) := by
    rw [letm_e, small_eq, small_eq, bnd_s, bnd_s]
    cases decide ((m.2.2.2.2.1.length : Int) ≤ 20) <;> cases decide ((m.2.2.2.1.length : Int) ≤ 900) <;> rfl
  rw [this]
  exact message_go _ _ 0
theorem smallM_len {m : S_api_Message} (h : smallM m = true) : LenM m ∧ m.2.2.2.2.1.length ≤ 20 := by
  unfold smallM at h
  simp only [Bool.and_eq_true, List.all_eq_true, decide_eq_true_eq] at h
  obtain ⟨h1, h2, h3, h4⟩ := h
  exact ⟨⟨by omega, ⟨by omega, fun o ho => by have := h1 o ho; omega⟩, by omega⟩, by omega⟩
theorem all2_eq (x y : List UInt8) : m_coresecmake2_All [x, y] = some (decide ((x.length : Int) ≤ 900) && decide ((y.length : Int) ≤ 900)) := by
  unfold m_coresecmake2_All
  simp only [loopL_cons, loopL_nil, small_eq, bnd_s, letm_e]
  cases decide ((x.length : Int) ≤ 900) <;> cases decide ((y.length : Int) ≤ 900) <;> rfl
/-- What is compared of one request and one response. -/
theorem pair_ok {p q : S_api_Message} (hp : LenM p) (hq : LenM q) (Z : Option Bool) (bs ts : List (List UInt8)) (hb : ∀ b ∈ bs, b.length ≤ 1000000) :
    (bnd (m_fragment_Agree p q) fun x51 => bnd (m_coresecref33_Agree p q) fun x52 => letm ((x51 != x52)) fun x53 => cond x53 (some false) (loopL (R := Bool) (S := Unit) (α := (List UInt8)) (fun _ _ => Z) (fun x56 _ _ self59 => loopL (R := Bool) (S := Unit) (α := (List UInt8)) (fun _ _ => self59 ()) (fun x62 _ _ self65 => bnd (m_fragment_Collect x56 x62 p q) fun x66 => bnd (m_coresecref33_Collect x56 x62 p q) fun x67 => letm ((x66.2.2.1 != x67.2.2.1)) fun x68 => cond x68 (some false) (letm ((x66.2.2.2 != x67.2.2.2)) fun x69 => cond x69 (some false)
      (bnd (m_coresecref26_Equal x66.1 x67.1) fun x70 => letm ((!x70)) fun x71 => cond x71 (some false) (bnd (m_coresecref26_Equal x66.2.1 x67.2.1) fun x72 => letm ((!x72)) fun x73 => cond x73 (some false) (self65 ()))))) ts 0 ()) bs 0 ())) = Z := by
  obtain ⟨e, e1, e2⟩ := agree_eq hp.2.1 hq.2.1
  rw [e1, bnd_s, e2, bnd_s, letm_e, bne_self_eq_false, cd_f]
  have inner : ∀ (a : List UInt8), a.length ≤ 1000000 → ∀ (Y : Option Bool) (ts : List (List UInt8)) (k : Nat), loopL (R := Bool) (S := Unit) (α := (List UInt8)) (fun _ _ => Y) (fun x62 _ _ self65 => bnd (m_fragment_Collect a x62 p q) fun x66 => bnd (m_coresecref33_Collect a x62 p q) fun x67 => letm ((x66.2.2.1 != x67.2.2.1)) fun x68 => cond x68 (some false) (letm ((x66.2.2.2 != x67.2.2.2)) fun x69 => cond x69 (some false)
      (bnd (m_coresecref26_Equal x66.1 x67.1) fun x70 => letm ((!x70)) fun x71 => cond x71 (some false) (bnd (m_coresecref26_Equal x66.2.1 x67.2.1) fun x72 => letm ((!x72)) fun x73 => cond x73 (some false) (self65 ()))))) ts k () = Y := by
    intro a ha Y ts
    induction ts with
    | nil => intro k; rfl
    | cons t ts ih =>
      intro k
      obtain ⟨r, r1, r2, r3, r4⟩ := collect_eq (t := t) hp hq ha
      rw [loopL_cons, ih (k + 1), r1, bnd_s, r2, bnd_s, letm_e, bne_self_eq_false, cd_f, letm_e, bne_self_eq_false, cd_f, equal_self (by omega), bnd_s, letm_e, equal_self (by omega), bnd_s, letm_e]; rfl
  have outer : ∀ (bs : List (List UInt8)), (∀ b ∈ bs, b.length ≤ 1000000) → ∀ k : Nat, loopL (R := Bool) (S := Unit) (α := (List UInt8)) (fun _ _ => Z) (fun x56 _ _ self59 => loopL (R := Bool) (S := Unit) (α := (List UInt8)) (fun _ _ => self59 ()) (fun x62 _ _ self65 => bnd (m_fragment_Collect x56 x62 p q) fun x66 => bnd (m_coresecref33_Collect x56 x62 p q) fun x67 => letm ((x66.2.2.1 != x67.2.2.1)) fun x68 => cond x68 (some false) (letm ((x66.2.2.2 != x67.2.2.2)) fun x69 => cond x69 (some false)
      (bnd (m_coresecref26_Equal x66.1 x67.1) fun x70 => letm ((!x70)) fun x71 => cond x71 (some false) (bnd (m_coresecref26_Equal x66.2.1 x67.2.1) fun x72 => letm ((!x72)) fun x73 => cond x73 (some false) (self65 ()))))) ts 0 ()) bs k () = Z := by
    intro bs
    induction bs with
    | nil => intro _ k; rfl
    | cons b bs ih =>
      intro hb k
      rw [loopL_cons, inner b (hb b (by simp)), ih (fun x hx => hb x (by simp [hx])) (k + 1)]
  exact outer bs hb 0
theorem FragmentAgrees_true (a0 a1 : S_api_Message) (a2 : List Int) (a3 a4 : List UInt8) (h2 : List.length a2 ≤ maxLen) : m_coreseclaw33_FragmentAgrees a0 a1 a2 a3 a4 = some true := by
  unfold m_coreseclaw33_FragmentAgrees
  rw [message_eq, bnd_s, letm_e, awake33, bnd_s, message_eq, bnd_s, letm_e, all2_eq, bnd_s, letm_e]
  cases hs0 : smallM a0 with
  | false => rfl
  | true =>
  cases hs1 : smallM a1 with
  | false => rfl
  | true =>
  cases h3 : decide ((a3.length : Int) ≤ 900) with
  | false => rfl
  | true =>
  cases h4 : decide ((a4.length : Int) ≤ 900) with
  | false => rfl
  | true =>
    have h3 := of_decide_eq_true h3
    have h4 := of_decide_eq_true h4
    obtain ⟨l0, n0⟩ := smallM_len hs0
    obtain ⟨l1, n1⟩ := smallM_len hs1
    have e0 : m_coresecmake_New a2 = some (a2, 0) := rfl
    obtain ⟨v, d1, e1, lv, uv, hd1⟩ := next_some (new_ok h2) (n := 3) (by omega) (by omega)
    obtain ⟨mq, d2, e2, hd2, z2⟩ := request_some hd1
    obtain ⟨b3, d3, e3, hd3, lb3⟩ := block_some hd2 v
    obtain ⟨e4, z4⟩ := z2.set 23 (vs := [b3]) (j := 1) (by omega) (by simp) (by simp; omega)
    obtain ⟨mr, d5, e5, hd5, z5⟩ := response2_some hd3
    obtain ⟨v6, d6, e6, l6, u6, hd6⟩ := next_some hd5 (n := 3) (by omega) (by omega)
    obtain ⟨v7, d7, e7, l7, u7, hd7⟩ := next_some hd6 (n := 4) (by omega) (by omega)
    obtain ⟨x8, e8, _⟩ := idx_lit ([v, v, v, v6] : List Int) l7 (by show v7 < 4; omega)
    obtain ⟨b9, d9, e9, hd9, lb9⟩ := block_some hd7 x8
    obtain ⟨e10, z10⟩ := z5.set 23 (vs := [b9]) (j := 1) (by omega) (by simp) (by simp; omega)
    obtain ⟨v11, d11, e11, l11, u11, hd11⟩ := next_some hd9 (n := 70) (by omega) (by omega)
    obtain ⟨v12, d12, e12, l12, u12, hd12⟩ := next_some hd11 (n := 5) (by omega) (by omega)
    obtain ⟨x13, e13, m13⟩ := idx_lit ([16, 16, 32, 64, v11] : List Int) l12 (by show v12 < 5; omega)
    have hx13 : x13 ≤ 100 := by
      simp only [List.mem_cons, List.not_mem_nil, or_false] at m13
      omega
    obtain ⟨s14, e14, l14⟩ := some_some 9 x13 (by omega)
    obtain ⟨v15, d15, e15, _, _, hd15⟩ := next_some hd12 (n := 2) (by omega) (by omega)
    generalize hw : withO mr (setO mr.2.2.2.2.1 23 [b9]) = wr at e10 z10
    have zz : Sz 201 (wr.1, (wr.2.1, (wr.2.2.1, (wr.2.2.2.1, (wr.2.2.2.2.1, s14))))) := ⟨z10.tok, z10.ol, z10.ov, by show s14.length ≤ 1000; omega⟩
    obtain ⟨e16, z16⟩ := zz.set 4 (vs := [[toU8 v15]]) (j := 1) (by omega) (by simp) (by simp)
    obtain ⟨v17, d17, e17, l17, u17, hd17⟩ := next_some hd15 (n := 3) (by omega) (by omega)
    obtain ⟨x18, e18, m18⟩ := idx_lit ([16, 32, 64] : List Int) l17 (by show v17 < 3; omega)
    have hx18 : 0 ≤ x18 ∧ x18 ≤ 64 := by
      simp only [List.mem_cons, List.not_mem_nil, or_false] at m18
      omega
    have hmul : 0 ≤ x18 * v ∧ x18 * v ≤ 64 * 3 := ⟨Int.mul_nonneg hx18.1 lv, Int.mul_le_mul hx18.2 (by omega) lv (by omega)⟩
    obtain ⟨s19, e19, l19⟩ := some_some 3 (w64 (x18 * v)) (by rw [w64_of (by omega) (by omega)]; omega)
    have hs19 : s19.length ≤ 1000 := by rw [l19, w64_of (by omega) (by omega)]; omega
    generalize hx : withO mq (setO mq.2.2.2.2.1 23 [b3]) = x at e4 z4
    obtain ⟨e20, z20⟩ := z4.set 23 (vs := []) (j := 0) (by omega) (by simp) (by simp)
    generalize hy : withO (wr.1, (wr.2.1, (wr.2.2.1, (wr.2.2.2.1, (wr.2.2.2.2.1, s14))))) (setO wr.2.2.2.2.1 4 [[toU8 v15]]) = y at e16 z16
    obtain ⟨e21, z21⟩ := z16.set 23 (vs := []) (j := 0) (by omega) (by simp) (by simp)
    generalize withO x (setO x.2.2.2.2.1 23 []) = x2 at e20 z20
    generalize withO y (setO y.2.2.2.2.1 23 []) = y2 at e21 z21
    have hbs : ∀ b ∈ [a3, s19, []], b.length ≤ 1000000 := by
      intro b hb
      simp only [List.mem_cons, List.not_mem_nil, or_false] at hb
      rcases hb with rfl | rfl | rfl
      · omega
      · omega
      · simp
    have hr3 : ∀ a b c : S_api_Message, rng ([a, b, c].length : Int) = some 3 := fun a b c => rng_some' (by show (3 : Int) ≤ _; omega)
    have hi0 : ∀ a b c : S_api_Message, idx [a, b, c] ((0 : Nat) : Int) = some a := fun a b c => rfl
    have hi1 : ∀ a b c : S_api_Message, idx [a, b, c] ((0 + 1 : Nat) : Int) = some b := fun a b c => rfl
    have hi2 : ∀ a b c : S_api_Message, idx [a, b, c] ((0 + 1 + 1 : Nat) : Int) = some c := fun a b c => rfl
    have L := fun (p q : S_api_Message) (hp : LenM p) (hq : LenM q) (Z : Option Bool) => pair_ok hp hq Z [a3, s19, []] [a4, [0]] hbs
    have lx := z4.len (by omega)
    have lx2 := z20.len (by omega)
    have ly := z16.len (by omega)
    have ly2 := z21.len (by omega)
    simp only [Bool.not_true, Bool.and_self, cd_f, e0, bnd_s, e1, e2, e3, e4, e5, e6, e7, e8, e9, e10, e11, e12, e13, e14, e15]
    rw [letm_e]
    simp only [e16, bnd_s, e17, e18]
    rw [letm_e]
    simp only [e19, e20, bnd_s, hr3]
    rw [loopN_succ, loopN_succ, loopN_succ, loopN_zero, hi0, hi1, hi2]
    simp only [bnd_s, e21, hr3]
    simp only [loopN_succ, loopN_zero, hi0, hi1, hi2, bnd_s]
    rw [L a0 a1 l0 l1, L a0 y l0 ly, L a0 y2 l0 ly2, L x a1 lx l1, L x y lx ly, L x y2 lx ly2, L x2 a1 lx2 l1, L x2 y lx2 ly, L x2 y2 lx2 ly2]
end Go.Proofs.Ytdgpkkfkloapbaa
