/-
  Proxies, plain facts. Of the models alone; no program; no condition but the ranges told.
-/
import Derived.Test.YtcbkmlfkfhfliaaGreatDoorQZ2
import Derived.Test.YtcbkmlfkfhfliaaGreatDoorQZ3
namespace Go.Proofs.YtcbkmlfkfhfliaaGreatDoor
open Go.Gk Go.RowKit
theorem copied_some {b : List UInt8} (h : b.length ≤ 1000000) : m_relay_copied b = some b := by
  unfold m_relay_copied
  rw [app_some' (by simp; omega), bnd_s]; rfl
/-- A message whose lists are not long. -/
structure LM (m : S_api_Message) : Prop where
  tok : m.2.2.2.1.length ≤ 1000000
  ol : m.2.2.2.2.1.length ≤ 1000000
  ov : ∀ o ∈ m.2.2.2.2.1, o.2.length ≤ 1000000
  pay : m.2.2.2.2.2.length ≤ 1000000
theorem msg_go (s1 : S_api_Message) : ∀ (xs : List S_api_Option) (k : Nat) (acc : List S_api_Option), (∀ o ∈ xs, o.2.length ≤ 1000000) → acc.length + xs.length ≤ 1000000 →
    loopL (R := S_api_Message) (S := (S_api_Message × (List S_api_Option))) (α := S_api_Option) (fun _ s4 => some (s4.1.1, (s4.1.2.1, (s4.1.2.2.1, (s4.1.2.2.2.1, (s4.2, s4.1.2.2.2.2.2))))))
      (fun x5 _ s7 self8 => bnd (m_relay_copied x5.2) fun x9 => bnd (app s7.2 [(x5.1, x9)]) fun x10 => self8 (s7.1, x10)) xs k (s1, acc) = some (s1.1, (s1.2.1, (s1.2.2.1, (s1.2.2.2.1, (acc ++ xs, s1.2.2.2.2.2)))))
  | [], k, acc, _, _ => by rw [loopL_nil, List.append_nil]
  | o :: xs, k, acc, h, hl => by
    rw [List.length_cons] at hl
    have ih := msg_go s1 xs (k + 1) (acc ++ [o]) (fun q hq => h q (by simp [hq])) (by simp; omega)
    have e1 := copied_some (b := o.2) (h o (by simp))
    have e2 : app acc [(o.1, o.2)] = some (acc ++ [o]) := app_some' (by simp; omega)
    rw [loopL_cons]
    simp only [e1, e2, bnd_s]
    rw [ih, List.append_assoc]; rfl
theorem message_some {m : S_api_Message} (h : LM m) : m_relay_message m = some m := by
  have h1 := copied_some h.tok
  have h2 := copied_some h.pay
  have h4 := msg_go (m.1, (m.2.1, (m.2.2.1, (m.2.2.2.1, ([], m.2.2.2.2.2))))) m.2.2.2.2.1 0 [] h.ov (by have := h.ol; simp; omega)
  unfold m_relay_message
  simp only [h1, h2, bnd_s]
  exact h4
/-- A proxy whose lists are not long. -/
structure LP (p : S_api_Proxy) : Prop where
  hl : p.2.1.length ≤ 1000000
  hv : ∀ h ∈ p.2.1, h.2.1.length ≤ 1000000 ∧ h.2.2.1.length ≤ 1000000 ∧ h.2.2.2.1.length ≤ 1000000
  sl : p.2.2.1.length ≤ 1000000
  sv : ∀ c ∈ p.2.2.1, c.1.length ≤ 1000000 ∧ LM c.2.1
theorem hops_go {R : Type} (K : Nat → (S_api_Proxy × (List S_api_Hop)) → Option R) (q : S_api_Proxy) : ∀ (xs : List S_api_Hop) (k : Nat) (acc : List S_api_Hop), (∀ h ∈ xs, h.2.1.length ≤ 1000000 ∧ h.2.2.1.length ≤ 1000000 ∧ h.2.2.2.1.length ≤ 1000000) → acc.length + xs.length ≤ 1000000 →
    loopL (R := R) (S := (S_api_Proxy × (List S_api_Hop))) (α := S_api_Hop) K (fun x12 _ s14 self15 => bnd (m_relay_copied x12.2.1) fun x16 => bnd (m_relay_copied x12.2.2.1) fun x17 => bnd (m_relay_copied x12.2.2.2.1) fun x18 => bnd (app s14.2 [(x12.1, (x16, (x17, (x18, x12.2.2.2.2))))]) fun x19 => self15 (s14.1, x19)) xs k (q, acc) = K (k + xs.length) (q, acc ++ xs)
  | [], k, acc, _, _ => by rw [loopL_nil, List.append_nil]; rfl
  | o :: xs, k, acc, h, hl => by
    rw [List.length_cons] at hl
    have ih := hops_go K q xs (k + 1) (acc ++ [o]) (fun q hq => h q (by simp [hq])) (by simp; omega)
    obtain ⟨h1, h2, h3⟩ := h o (by simp)
    have e2 : app acc [(o.1, (o.2.1, (o.2.2.1, (o.2.2.2.1, o.2.2.2.2))))] = some (acc ++ [o]) := app_some' (by simp; omega)
    rw [loopL_cons]
    simp only [copied_some h1, copied_some h2, copied_some h3, e2, bnd_s]
    rw [ih, List.append_assoc, List.length_cons, show k + 1 + xs.length = k + (xs.length + 1) by omega]; rfl
theorem stored_go {R : Type} (K : Nat → (S_api_Proxy × (List S_api_Cached)) → Option R) (q : S_api_Proxy) : ∀ (xs : List S_api_Cached) (k : Nat) (acc : List S_api_Cached), (∀ c ∈ xs, c.1.length ≤ 1000000 ∧ LM c.2.1) → acc.length + xs.length ≤ 1000000 →
    loopL (R := R) (S := (S_api_Proxy × (List S_api_Cached))) (α := S_api_Cached) K (fun x5 _ s7 self8 => bnd (m_relay_copied x5.1) fun x9 => bnd (m_relay_message x5.2.1) fun x10 => bnd (app s7.2 [(x9, (x10, x5.2.2))]) fun x11 => self8 (s7.1, x11)) xs k (q, acc) = K (k + xs.length) (q, acc ++ xs)
  | [], k, acc, _, _ => by rw [loopL_nil, List.append_nil]; rfl
  | o :: xs, k, acc, h, hl => by
    rw [List.length_cons] at hl
    have ih := stored_go K q xs (k + 1) (acc ++ [o]) (fun q hq => h q (by simp [hq])) (by simp; omega)
    obtain ⟨h1, h2⟩ := h o (by simp)
    have e2 : app acc [(o.1, (o.2.1, o.2.2))] = some (acc ++ [o]) := app_some' (by simp; omega)
    rw [loopL_cons]
    simp only [copied_some h1, message_some h2, e2, bnd_s]
    rw [ih, List.append_assoc, List.length_cons, show k + 1 + xs.length = k + (xs.length + 1) by omega]; rfl
theorem clonedo_some {p : S_api_Proxy} (h : LP p) : m_relay_cloned_o p = some ((p.1, ([], (p.2.2.1, p.2.2.2))), p.2.1) := by
  unfold m_relay_cloned_o
  rw [hops_go _ _ _ 0 [] h.hv (by have := h.hl; simp; omega)]
  dsimp only
  rw [stored_go _ _ _ 0 [] h.sv (by have := h.sl; simp; omega)]
  rfl
theorem cloned_some {p : S_api_Proxy} (h : LP p) : m_relay_cloned p = some p := by
  unfold m_relay_cloned
  rw [hops_go _ _ _ 0 [] h.hv (by have := h.hl; simp; omega)]
  dsimp only
  rw [stored_go _ _ _ 0 [] h.sv (by have := h.sl; simp; omega)]
  rfl
theorem copyo_some {p : S_api_Proxy} (h : LP p) : m_coresecref34_Copy_o p = some ((p.1, ([], (p.2.2.1, p.2.2.2))), p.2.1) := by
  have h1 : app [] p.2.1 = some p.2.1 := by rw [app_some' (by have := h.hl; simp; omega)]; rfl
  have h2 : app [] p.2.2.1 = some p.2.2.1 := by rw [app_some' (by have := h.sl; simp; omega)]; rfl
  unfold m_coresecref34_Copy_o
  rw [h1, bnd_s, h2, bnd_s]
theorem copy_some {p : S_api_Proxy} (h : LP p) : m_coresecref34_Copy p = some p := by
  have h1 : app [] p.2.1 = some p.2.1 := by rw [app_some' (by have := h.hl; simp; omega)]; rfl
  have h2 : app [] p.2.2.1 = some p.2.2.1 := by rw [app_some' (by have := h.sl; simp; omega)]; rfl
  unfold m_coresecref34_Copy
  rw [h1, bnd_s, h2, bnd_s]
def cmpS : List UInt8 → List UInt8 → Int
  | [], [] => 0
  | [], _ :: _ => -1
  | _ :: _, [] => 1
  | x :: xs, y :: ys => bif ((UInt8.toNat x : Int) != (UInt8.toNat y : Int)) then (bif decide ((UInt8.toNat x : Int) < (UInt8.toNat y : Int)) then -1 else 1) else cmpS xs ys
theorem cmpS_cc (x y : UInt8) (xs ys : List UInt8) : cmpS (x :: xs) (y :: ys) = bif ((UInt8.toNat x : Int) != (UInt8.toNat y : Int)) then (bif decide ((UInt8.toNat x : Int) < (UInt8.toNat y : Int)) then -1 else 1) else cmpS xs ys := rfl
theorem cmpS_zero : ∀ (a b : List UInt8), (cmpS a b == 0) = (a == b)
  | [], [] => rfl
  | [], _ :: _ => rfl
  | _ :: _, [] => rfl
  | x :: xs, y :: ys => by
    rw [cmpS_cc]
    have ih := cmpS_zero xs ys
    by_cases h : x = y
    · subst h
      rw [show ((UInt8.toNat x : Int) != (UInt8.toNat x : Int)) = false from by simp, cond_false, ih]
      simp
    · have h2 : ((UInt8.toNat x : Int) != (UInt8.toNat y : Int)) = true := by
        rw [bne_iff_ne]; intro e; exact h (UInt8.toNat_inj.1 (by omega))
      rw [h2, cond_true]
      have h3 : ((x :: xs) == (y :: ys)) = false := by simp [h]
      rw [h3]
      cases decide ((UInt8.toNat x : Int) < (UInt8.toNat y : Int)) <;> rfl
theorem drop_cons {α : Type} {l : List α} {k : Nat} (h : k < l.length) : l.drop k = l[k] :: l.drop (k + 1) := List.drop_eq_getElem_cons h
theorem cmp_go (a b : List UInt8) (ha : a.length ≤ 1000000000) : ∀ (n k f : Nat), n + k = a.length → k ≤ b.length → n < f → loopF (R := Int) (S := Int) (fun self3 s2 => cond (decide (s2 < (a.length : Int)) && decide (s2 < (b.length : Int))) (bnd (idx a s2) fun x7 => bnd (idx b s2) fun x8 => cond (((UInt8.toNat x7 : Int) != (UInt8.toNat x8 : Int))) (bnd (idx a s2) fun x10 => bnd (idx b s2) fun x11 => cond (decide ((UInt8.toNat x10 : Int) < (UInt8.toNat x11 : Int))) (some (-1)) (some 1)) (self3 (w64 (s2 + 1))))
    (cond (decide ((a.length : Int) < (b.length : Int))) (some (-1)) (cond (decide ((b.length : Int) < (a.length : Int))) (some 1) (some 0)))) f (k : Int) = some (cmpS (a.drop k) (b.drop k)) := by
  intro n
  induction n with
  | zero =>
    intro k f hk hkb hf
    obtain ⟨f, rfl⟩ : ∃ g, f = g + 1 := ⟨f - 1, by omega⟩
    have d1 : decide ((k : Int) < (a.length : Int)) = false := decide_eq_false (by omega)
    have hda : a.drop k = [] := List.drop_of_length_le (by omega)
    rw [loopF_succ]
    simp only [d1, Bool.false_and, cd_f, hda]
    rcases Nat.lt_or_ge k b.length with h | h
    · rw [drop_cons h, decide_eq_true (show (a.length : Int) < (b.length : Int) by omega)]; rfl
    · rw [List.drop_of_length_le h, decide_eq_false (show ¬ (a.length : Int) < (b.length : Int) by omega), decide_eq_false (show ¬ (b.length : Int) < (a.length : Int) by omega)]; rfl
  | succ n ih =>
    intro k f hk hkb hf
    obtain ⟨f, rfl⟩ : ∃ g, f = g + 1 := ⟨f - 1, by omega⟩
    have hlt : k < a.length := by omega
    have d1 : decide ((k : Int) < (a.length : Int)) = true := decide_eq_true (by omega)
    have wk : w64 ((k : Int) + 1) = ((k + 1 : Nat) : Int) := by rw [w64_of (by omega) (by omega)]; omega
    rw [loopF_succ, drop_cons hlt]
    rcases Nat.lt_or_ge k b.length with h | h
    · have d2 : decide ((k : Int) < (b.length : Int)) = true := decide_eq_true (by omega)
      have := ih (k + 1) f (by omega) (by omega) (by omega)
      simp only [d1, d2, Bool.and_true, cd_t, idx_some' (List.getElem?_eq_getElem hlt), idx_some' (List.getElem?_eq_getElem h), bnd_s, wk]
      rw [drop_cons h, this, cmpS_cc]
      cases ((UInt8.toNat a[k] : Int) != (UInt8.toNat b[k] : Int)) <;> cases decide ((UInt8.toNat a[k] : Int) < (UInt8.toNat b[k] : Int)) <;> rfl
    · have d2 : decide ((k : Int) < (b.length : Int)) = false := decide_eq_false (by omega)
      simp only [d1, d2, Bool.and_false, cd_f]
      rw [List.drop_of_length_le h, decide_eq_false (show ¬ (a.length : Int) < (b.length : Int) by omega), decide_eq_true (show (b.length : Int) < (a.length : Int) by omega)]; rfl
theorem equal26 {a b : List UInt8} (h : a.length ≤ 1000000000) : m_coresecref26_Equal a b = some (a == b) := by
  unfold m_coresecref26_Equal m_coresecref01_Compare
  have := cmp_go a b h a.length 0 FUEL rfl (Nat.zero_le _) (by rw [fuel_eq]; omega)
  rw [show ((0 : Nat) : Int) = 0 from rfl] at this
  simp only [letm_e, cd_and, bnd_s]
  rw [this, bnd_s, List.drop_zero, List.drop_zero, cmpS_zero]
  refine congrArg some ?_
  cases hab : a == b with
  | false => rfl
  | true =>
    have : a = b := by simpa using hab
    subst this
    simp
def fndS (l : List S_api_Hop) (b : List UInt8) : Int := match l.findIdx? (fun h => h.2.2.1 == b) with | some i => (i : Int) | none => -1
theorem fnd_eq (l : List S_api_Hop) (b : List UInt8) : m_relay_find l b = some (fndS l b) := by
  unfold m_relay_find
  rw [loopL_search (fun h : S_api_Hop => h.2.2.1 == b) (fun _ k => some (k : Int)) l 0 (fun x _ k self => by rw [letm_e])]
  unfold fndS
  cases h : l.findIdx? (fun h => h.2.2.1 == b) with
  | none => rfl
  | some i =>
    obtain ⟨hi, _⟩ := List.findIdx?_eq_some_iff_getElem.1 h
    simp [List.getElem?_eq_getElem hi]
theorem fndS_any (l : List S_api_Hop) (b : List UInt8) : decide (0 ≤ fndS l b) = l.any (fun h => h.2.2.1 == b) := by
  unfold fndS
  cases h : l.findIdx? (fun h => h.2.2.1 == b) with
  | none =>
    rw [List.findIdx?_eq_none_iff] at h
    have : l.any (fun c => c.2.2.1 == b) = false := by
      rw [List.any_eq_false]; intro x hx; simpa using h x hx
    rw [this]; rfl
  | some i =>
    obtain ⟨hi, h1, _⟩ := List.findIdx?_eq_some_iff_getElem.1 h
    have : l.any (fun c => c.2.2.1 == b) = true := List.any_eq_true.2 ⟨l[i], List.getElem_mem hi, h1⟩
    rw [this]; simp
/-- One hop, by itself; and hops of which no two have one inner token. -/
def hopB (x : S_api_Hop) : Bool := !decide (x.1 < 0) && !decide (65536 < x.1) && !decide (8 < (x.2.1.length : Int)) && !((x.2.2.1.length : Int) != 2)
def goodH : List S_api_Hop → List S_api_Hop → Bool
  | _, [] => true
  | pre, x :: r => hopB x && !(pre.any fun d => d.2.2.1 == x.2.2.1) && goodH (pre ++ [x]) r
theorem hv_go (l : List S_api_Hop) : ∀ (rest pre : List S_api_Hop), l = pre ++ rest → loopL (R := Bool) (S := Unit) (α := S_api_Hop) (fun _ _ => some true) (fun x11 k12 _ self14 =>
 bnd (β := Bool) (letm (decide (x11.1 < 0)) fun x15 =>
 cond x15 (some true)
  (letm (decide (65536 < x11.1)) fun x16 =>
 cond x16 (some true)
  (letm (decide (8 < (x11.2.1.length : Int))) fun x17 =>
 cond x17 (some true)
  (letm (((x11.2.2.1.length : Int) != 2)) fun x18 =>
 cond x18 (some true)
  (bnd (Gk.cut l 0 (k12 : Int)) fun x19 =>
 bnd (m_relay_find x19 x11.2.2.1) fun x20 =>
 letm (decide (0 ≤ x20)) fun x21 =>
 some x21))))) fun v22 =>
 cond v22 (some false)
  (self14 ())) rest pre.length () = some (goodH pre rest)
  | [], pre, _ => rfl
  | c :: rest, pre, h => by
    have ih := hv_go l rest (pre ++ [c]) (by rw [h]; simp)
    rw [List.length_append, List.length_singleton] at ih
    rw [loopL_cons, ih]
    have hc : Gk.cut l 0 (pre.length : Int) = some pre := by rw [h]; exact cut_pre
    simp only [letm_e, hc, bnd_s, fnd_eq, fndS_any]
    show _ = some (hopB c && !(pre.any fun d => d.2.2.1 == c.2.2.1) && goodH (pre ++ [c]) rest)
    generalize goodH (pre ++ [c]) rest = G
    unfold hopB
    cases decide (c.1 < 0) <;> cases decide (65536 < c.1) <;> cases decide (8 < (c.2.1.length : Int)) <;> cases ((c.2.2.1.length : Int) != 2) <;> cases (pre.any fun d => d.2.2.1 == c.2.2.1) <;> rfl
def validP (p : S_api_Proxy) : Bool := !decide (p.1 < 0) && !decide (65535 < p.1) && !decide (8 < (p.2.1.length : Int)) && !decide (p.2.2.2 < -1) && !decide (6 < p.2.2.2) && validC p.2.2.1 && goodH [] p.2.1
theorem valid34_eq (p : S_api_Proxy) : m_relay_Valid p = some (validP p) := by
  have h := hv_go p.2.1 p.2.1 [] rfl
  rw [List.length_nil] at h
  unfold m_relay_Valid validP
  rw [h, cvalid_eq]
  simp only [letm_e, bnd_s]
  cases decide (p.1 < 0) <;> cases decide (65535 < p.1) <;> cases decide (8 < (p.2.1.length : Int)) <;> cases decide (p.2.2.2 < -1) <;> cases decide (6 < p.2.2.2) <;> cases validC p.2.2.1 <;> rfl
theorem inner_go {l : List S_api_Hop} (hb : ∀ h ∈ l, h.2.2.1.length ≤ 1000000) (key : List UInt8) (Z : Option Bool) {m : Nat} (hm : m ≤ l.length) (hl : l.length ≤ 1000000) : ∀ (n j f : Nat), n + j = m → n < f → loopF (R := Bool) (S := Int) (fun self21 s20 =>
 letm (decide (s20 < (m : Int))) fun x22 =>
 cond x22 (bnd (idx l s20) fun x23 =>
 bnd (m_coresecref26_Equal x23.2.2.1 key) fun x24 =>
 cond x24 (some false)
  (letm ((w64 (s20 + 1))) fun x25 =>
 self21 x25))
  Z) f (j : Int) = cond (((l.take m).drop j).any fun h => h.2.2.1 == key) (some false) Z := by
  intro n
  induction n with
  | zero =>
    intro j f hj hf
    obtain ⟨f, rfl⟩ : ∃ g, f = g + 1 := ⟨f - 1, by omega⟩
    have d1 : decide ((j : Int) < (m : Int)) = false := decide_eq_false (by omega)
    rw [loopF_succ, letm_e, d1, cd_f, List.drop_of_length_le (by simp; omega)]
    rfl
  | succ n ih =>
    intro j f hj hf
    obtain ⟨f, rfl⟩ : ∃ g, f = g + 1 := ⟨f - 1, by omega⟩
    have d1 : decide ((j : Int) < (m : Int)) = true := decide_eq_true (by omega)
    have hlt : j < l.length := by omega
    have wk : w64 ((j : Int) + 1) = ((j + 1 : Nat) : Int) := by rw [w64_of (by omega) (by omega)]; omega
    have hj2 : j < (l.take m).length := by simp; omega
    have e1 := equal26 (a := l[j].2.2.1) (b := key) (by have := hb l[j] (List.getElem_mem hlt); omega)
    rw [loopF_succ, letm_e, d1, cd_t, idx_some' (List.getElem?_eq_getElem hlt), bnd_s, e1, bnd_s, letm_e, wk, ih (j + 1) f (by omega) (by omega), List.drop_eq_getElem_cons hj2, List.any_cons, List.getElem_take]
    cases l[j].2.2.1 == key <;> rfl
theorem rv_go {l : List S_api_Hop} (hb : ∀ h ∈ l, h.2.2.1.length ≤ 1000000) (hl : l.length ≤ 1000000) : ∀ (rest pre : List S_api_Hop), l = pre ++ rest → loopL (R := Bool) (S := Unit) (α := S_api_Hop) (fun _ _ => some true) (fun x11 k12 _ self14 =>
 bnd (β := Bool) (letm (decide (x11.1 < 0)) fun x15 =>
 cond x15 (some true)
  (letm (decide (65536 < x11.1)) fun x16 =>
 cond x16 (some true)
  (letm (decide (8 < (x11.2.1.length : Int))) fun x17 =>
 cond x17 (some true)
  (letm (((x11.2.2.1.length : Int) != 2)) fun x18 =>
 some x18)))) fun v19 =>
 cond v19 (some false)
  (loopF (R := Bool) (S := Int) (fun self21 s20 =>
 letm (decide (s20 < (k12 : Int))) fun x22 =>
 cond x22 (bnd (idx l s20) fun x23 =>
 bnd (m_coresecref26_Equal x23.2.2.1 x11.2.2.1) fun x24 =>
 cond x24 (some false)
  (letm ((w64 (s20 + 1))) fun x25 =>
 self21 x25))
  (self14 ())) FUEL 0)) rest pre.length () = some (goodH pre rest)
  | [], pre, _ => rfl
  | c :: rest, pre, h => by
    have ih := rv_go hb hl rest (pre ++ [c]) (by rw [h]; simp)
    rw [List.length_append, List.length_singleton] at ih
    have hpl : pre.length ≤ l.length := by rw [h]; simp
    have hin := inner_go hb c.2.2.1 (some (goodH (pre ++ [c]) rest)) hpl hl pre.length 0 FUEL rfl (by rw [fuel_eq]; omega)
    have htk : l.take pre.length = pre := by rw [h]; simp
    rw [htk, List.drop_zero] at hin
    rw [loopL_cons, ih]
    show _ = some (hopB c && !(pre.any fun d => d.2.2.1 == c.2.2.1) && goodH (pre ++ [c]) rest)
    generalize goodH (pre ++ [c]) rest = G at hin ⊢
    rw [show ((0 : Nat) : Int) = 0 from rfl] at hin
    rw [hin]
    simp only [letm_e]
    unfold hopB
    cases decide (c.1 < 0) <;> cases decide (65536 < c.1) <;> cases decide (8 < (c.2.1.length : Int)) <;> cases ((c.2.2.1.length : Int) != 2) <;> cases (pre.any fun d => d.2.2.1 == c.2.2.1) <;> rfl
theorem rvalid34_eq {p : S_api_Proxy} (hp : LP p) : m_coresecref34_Valid p = some (validP p) := by
  have h := rv_go (fun h hh => (hp.hv h hh).2.1) hp.hl p.2.1 [] rfl
  rw [List.length_nil] at h
  unfold m_coresecref34_Valid validP
  rw [h, rvalid_eq]
  simp only [letm_e, bnd_s]
  cases decide (p.1 < 0) <;> cases decide (65535 < p.1) <;> cases decide (8 < (p.2.1.length : Int)) <;> cases decide (p.2.2.2 < -1) <;> cases decide (6 < p.2.2.2) <;> cases validC p.2.2.1 <;> rfl
def nbI (s : Int) : List UInt8 := [toU8 (s / 256), toU8 s]
theorem inner1 (s : Int) : m_relay_Forward_1_o (some s) = some (nbI s) := by
  unfold m_relay_Forward_1_o
  rw [bnd_s, shr8, bnd_s, letm_e, bnd_s, letm_e]; rfl
def freeB (l : List S_api_Hop) (self : Int → Option Int) (s : Int) : Option Int := cond (l.any fun h => h.2.2.1 == nbI s) (self ((s + 1) % 65536)) (some s)
theorem nx_eq {s : Int} (h0 : 0 ≤ s) (h1 : s < 65536) : Gk.rem (w64 (s + 1)) 65536 = some ((s + 1) % 65536) := by
  obtain ⟨k, rfl⟩ : ∃ k : Nat, s = (k : Int) := ⟨s.toNat, by omega⟩
  have e : w64 ((k : Int) + 1) = ((k + 1 : Nat) : Int) := by rw [w64_of (by omega) (by omega)]; omega
  rw [e]
  have := rem_nat (a := k + 1) (b := 65536) (by omega)
  exact this
theorem free_relay (l : List S_api_Hop) : ∀ (f : Nat) (s : Int), 0 ≤ s → s < 65536 → loopF (R := Int) (S := Int) (fun self36 s35 =>
 bnd (m_relay_Forward_1_o (some s35)) fun x37 =>
 bnd (m_relay_find l x37) fun x38 =>
 letm (decide (0 ≤ x38)) fun x39 =>
 cond x39 (letm ((w64 (s35 + 1))) fun x40 =>
 bnd (Gk.rem x40 65536) fun x41 =>
 self36 x41)
  (some s35)) f s = loopF (R := Int) (S := Int) (freeB l) f s
  | 0, _, _, _ => rfl
  | f + 1, s, h0, h1 => by
    have ih := free_relay l f ((s + 1) % 65536) (by omega) (by omega)
    rw [loopF_succ, loopF_succ]
    simp only [inner1, bnd_s, fnd_eq, letm_e, fndS_any, nx_eq h0 h1]
    simp only [letm_e, inner1, bnd_s, fnd_eq, fndS_any] at ih
    rw [ih]; rfl
theorem num_eq (a b : UInt8) {s : Int} (h0 : 0 ≤ s) (h1 : s < 65536) : (w64 (w64 (w64 (UInt8.toNat a : Int) * 256) + w64 (UInt8.toNat b : Int)) == s) = ([a, b] == nbI s) := by
  have ha := a.toNat_lt; have hb := b.toNat_lt
  rw [w64_of (x := (a.toNat : Int)) (by omega) (by omega), w64_of (x := (b.toNat : Int)) (by omega) (by omega), w64_of (x := (a.toNat : Int) * 256) (by omega) (by omega), w64_of (by omega) (by omega)]
  have e1 := toU8_toNat (s / 256)
  have e2 := toU8_toNat s
  rw [Bool.eq_iff_iff, beq_iff_eq, beq_iff_eq]
  unfold nbI
  constructor
  · intro h
    rw [show a = toU8 (s / 256) from UInt8.toNat_inj.1 (by omega), show b = toU8 s from UInt8.toNat_inj.1 (by omega)]
  · intro h
    injection h with h2 h3
    injection h3 with h3 _
    subst h2 h3
    omega
theorem used_go {s : Int} (h0 : 0 ≤ s) (h1 : s < 65536) (K : Bool → Option Int) : ∀ (xs : List S_api_Hop) (k : Nat) (b : Bool), (∀ h ∈ xs, h.2.2.1.length = 2) → loopL (R := Int) (S := Bool) (α := S_api_Hop) (fun _ s5 => K s5)
  (fun x9 _ s11 self12 =>
 cond s11 (self12 true)
  (bnd (idx x9.2.2.1 0) fun x13 =>
 letm ((w64 (UInt8.toNat x13 : Int))) fun x14 =>
 letm ((w64 (x14 * 256))) fun x15 =>
 bnd (idx x9.2.2.1 1) fun x16 =>
 letm ((w64 (UInt8.toNat x16 : Int))) fun x17 =>
 letm ((w64 (x15 + x17))) fun x18 =>
 letm ((x18 == s)) fun x19 =>
 self12 x19)) xs k b = K (b || xs.any fun h => h.2.2.1 == nbI s)
  | [], k, b, _ => by rw [loopL_nil, List.any_nil, Bool.or_false]
  | x :: xs, k, b, h => by
    have hx := h x (by simp)
    have ih := fun b => used_go h0 h1 K xs (k + 1) b fun q hq => h q (by simp [hq])
    simp only [letm_e] at ih
    rw [loopL_cons, List.any_cons]
    cases b with
    | true => simp only [cd_t, letm_e, ih, Bool.true_or]
    | false =>
      obtain ⟨a, c, e⟩ : ∃ a c, x.2.2.1 = [a, c] := by
        match hq : x.2.2.1, hx with
        | [a, c], _ => exact ⟨a, c, rfl⟩
      have i0 : idx [a, c] (0 : Int) = some a := rfl
      have i1 : idx [a, c] (1 : Int) = some c := rfl
      simp only [cd_f, e, i0, i1, bnd_s, letm_e, num_eq a c h0 h1, ih, Bool.false_or]
theorem free_ref (l : List S_api_Hop) (hl : ∀ h ∈ l, h.2.2.1.length = 2) : ∀ (f : Nat) (s : Int), 0 ≤ s → s < 65536 → loopF (R := Int) (S := Int) (fun self3 s2 =>
 loopL (R := Int) (S := Bool) (α := S_api_Hop) (fun _ s5 =>
 letm ((!s5)) fun x6 =>
 cond x6 (some s2)
  (letm ((w64 (s2 + 1))) fun x7 =>
 bnd (Gk.rem x7 65536) fun x8 =>
 self3 x8))
  (fun x9 _ s11 self12 =>
 cond s11 (self12 true)
  (bnd (idx x9.2.2.1 0) fun x13 =>
 letm ((w64 (UInt8.toNat x13 : Int))) fun x14 =>
 letm ((w64 (x14 * 256))) fun x15 =>
 bnd (idx x9.2.2.1 1) fun x16 =>
 letm ((w64 (UInt8.toNat x16 : Int))) fun x17 =>
 letm ((w64 (x15 + x17))) fun x18 =>
 letm ((x18 == s2)) fun x19 =>
 self12 x19)) l 0 false) f s = loopF (R := Int) (S := Int) (freeB l) f s
  | 0, _, _, _ => rfl
  | f + 1, s, h0, h1 => by
    have ih := free_ref l hl f ((s + 1) % 65536) (by omega) (by omega)
    rw [loopF_succ, loopF_succ, used_go h0 h1 _ l 0 false hl, letm_e, Bool.false_or]
    unfold freeB
    cases l.any (fun h => h.2.2.1 == nbI s) with
    | false => rfl
    | true =>
      rw [letm_e, nx_eq h0 h1, Bool.not_true, cd_f, cd_t, bnd_s, ih]
      rfl
theorem len_sub {α : Type} [BEq α] [LawfulBEq α] : ∀ (xs ys : List α), xs.Nodup → (∀ x ∈ xs, x ∈ ys) → xs.length ≤ ys.length
  | [], _, _, _ => Nat.zero_le _
  | x :: xs, ys, hn, hs => by
    obtain ⟨h1, h2⟩ := List.nodup_cons.1 hn
    have hm := hs x (by simp)
    have h3 := len_sub xs (ys.erase x) h2 fun y hy => (List.mem_erase_of_ne (by rintro rfl; exact h1 hy)).2 (hs y (by simp [hy]))
    rw [List.length_erase_of_mem hm] at h3
    have := List.length_pos_of_mem hm
    rw [List.length_cons]; omega
theorem nbI_inj {s t : Int} (h0 : 0 ≤ s) (h1 : s < 65536) (h2 : 0 ≤ t) (h3 : t < 65536) (h : nbI s = nbI t) : s = t := by
  unfold nbI at h
  injection h with h4 h5
  injection h5 with h5 _
  have e1 := toU8_toNat (s / 256); have e2 := toU8_toNat s; have e3 := toU8_toNat (t / 256); have e4 := toU8_toNat t
  rw [h4] at e1; rw [h5] at e2
  omega
def nums (s : Int) (j : Nat) : List (List UInt8) := (List.range j).map fun (i : Nat) => nbI ((s + (i : Int)) % 65536)
theorem nums_nodup {s : Int} {j : Nat} (hj : j ≤ 65536) : (nums s j).Nodup := by
  unfold nums
  refine List.pairwise_map.2 (List.Pairwise.imp_of_mem (R := fun a b : Nat => a ≠ b) (fun {a b} ha hb hne h => hne ?_) (List.nodup_range (n := j)))
  have ha := List.mem_range.1 ha; have hb := List.mem_range.1 hb
  have := nbI_inj (by omega) (by omega) (by omega) (by omega) h
  omega
theorem free_go {l : List S_api_Hop} (hl : l.length ≤ 8) (s : Int) : ∀ (k f j : Nat), k + j = l.length + 1 → k < f → (∀ x ∈ nums s j, x ∈ l.map fun h => h.2.2.1) → ∃ v, loopF (R := Int) (S := Int) (freeB l) f ((s + (j : Int)) % 65536) = some v ∧ 0 ≤ v ∧ v < 65536 ∧ (l.any fun h => h.2.2.1 == nbI v) = false := by
  intro k
  induction k with
  | zero =>
    intro f j hj _ hs
    have := len_sub _ _ (nums_nodup (s := s) (j := j) (by omega)) hs
    simp [nums] at this
    omega
  | succ k ih =>
    intro f j hj hf hs
    obtain ⟨f, rfl⟩ : ∃ g, f = g + 1 := ⟨f - 1, by omega⟩
    rw [loopF_succ]
    unfold freeB
    cases hu : l.any (fun h => h.2.2.1 == nbI ((s + (j : Int)) % 65536)) with
    | false => exact ⟨_, rfl, by omega, by omega, hu⟩
    | true =>
      rw [cond_true, show ((s + (j : Int)) % 65536 + 1) % 65536 = (s + ((j + 1 : Nat) : Int)) % 65536 by omega]
      refine ih f (j + 1) (by omega) (by omega) fun x hx => ?_
      unfold nums at hx
      rw [List.range_succ, List.map_append] at hx
      rcases List.mem_append.1 hx with hx | hx
      · exact hs x hx
      · obtain ⟨h, hm, he⟩ := List.any_eq_true.1 hu
        have hx : x = nbI ((s + (j : Int)) % 65536) := by simpa using hx
        rw [hx]
        exact List.mem_map.2 ⟨h, hm, by simpa using he⟩
/-- A free number is found. -/
theorem free_some {l : List S_api_Hop} (hl : l.length ≤ 8) {s : Int} (h0 : 0 ≤ s) (h1 : s < 65536) : ∃ v, loopF (R := Int) (S := Int) (freeB l) FUEL s = some v ∧ 0 ≤ v ∧ v < 65536 ∧ (l.any fun h => h.2.2.1 == nbI v) = false := by
  have := free_go hl s (l.length + 1) FUEL 0 rfl (by rw [fuel_eq]; omega) (by intro x hx; simp [nums] at hx)
  rw [show (s + ((0 : Nat) : Int)) % 65536 = s by omega] at this
  exact this
def encS (x : S_api_Message) : List UInt8 × Int := bif valM x then (rawS x, 0) else ([], 1)
theorem coap_encS (x : S_api_Message) : m_coap_Encode x = some (encS x) := by
  unfold m_coap_Encode encS valM
  rw [sound_eq, bnd_s, letm_e]
  cases h : sndM x with
  | false => rfl
  | true =>
    have hs := sndM_facts h
    rw [Bool.not_true, cd_f, encode_raw x hs.t0 hs.t3 hs.tok, hs.raw, bnd_s, letm_e, Bool.true_and]
    have : decide (((rawS x).length : Int) ≤ 4096) = !decide (4096 < ((rawS x).length : Int)) := by
      by_cases h : 4096 < ((rawS x).length : Int)
      · rw [decide_eq_true h, decide_eq_false (by omega)]; rfl
      · rw [decide_eq_false h, decide_eq_true (by omega)]; rfl
    rw [this]
    cases decide (4096 < ((rawS x).length : Int)) <;> rfl
theorem ref_encS (x : S_api_Message) : m_coresecref15_Encode x = some (encS x) := by
  unfold m_coresecref15_Encode encS
  rw [ref_valid_eq, bnd_s, letm_e]
  cases h : valM x with
  | false => rfl
  | true => rw [Bool.not_true, cd_f, (valM_snd h).raw]; rfl
theorem has_eq {m : S_api_Message} (h : LenM m) (n : Int) : m_relay_has m n = some (getS m.2.2.2.2.1 n).2 := by
  unfold m_relay_has
  rw [get_eq h.2.1, bnd_s]
theorem prot_eq {m : S_api_Message} (h : LenM m) : m_relay_Protected m = some (getS m.2.2.2.2.1 9).2 := by
  unfold m_relay_Protected
  rw [has_eq h, bnd_s]
theorem prot_ref {m : S_api_Message} (h : LenM m) : m_coresecref34_Protected m = some (getS m.2.2.2.2.1 9).2 := by
  unfold m_coresecref34_Protected
  rw [get_ref h.2.1, bnd_s]
theorem copy26_some {b : List UInt8} (h : b.length ≤ 1000000) : m_coresecref26_Copy b = some b := by
  unfold m_coresecref26_Copy
  rw [app_nil_some h, bnd_s]
theorem LenM.lm {m : S_api_Message} (h : LenM m) : LM m := ⟨h.1, h.2.1.1, h.2.1.2, h.2.2⟩
theorem LM.len {m : S_api_Message} (h : LM m) : LenM m := ⟨h.tok, ⟨h.ol, h.ov⟩, h.pay⟩
/-- A valid message has keys. -/
theorem SndM.okK {m : S_api_Message} (h : SndM m) : OkK m := by
  refine ⟨h.c0, h.c255, ?_, h.pay⟩
  refine ⟨by have := h.ol; omega, fun o ho => ?_⟩
  have := optsB_len h.ob o ho
  omega
theorem lookup_both {l : List S_api_Cached} (h : ValC l) (key : List UInt8) (now : Int) : ∃ r, m_cache_Lookup l key now = some r ∧ m_coresecref20_Lookup l key now = some r ∧ LM r.1 := by
  have hz : LM ((0, (0, (0, ([], ([], []))))) : S_api_Message) := ⟨by simp, by simp, by simp, by simp⟩
  unfold m_cache_Lookup m_coresecref20_Lookup
  simp only [find_eq, at_eq, bnd_s, letm_e]
  rcases find_cases l key with ⟨h1, h2⟩ | ⟨i, x, h1, h2, h3, h4, h5⟩
  · rw [h2]; exact ⟨_, rfl, rfl, hz⟩
  · have d1 : decide ((i : Int) < 0) = false := decide_eq_false (by omega)
    rw [h2, d1]
    have he := elemB_iff.1 (h.el x (List.mem_of_getElem? h3))
    simp only [cd_f, idx_some' h3, letm_e, bnd_s]
    obtain ⟨v, e1, e2, e3⟩ := fromUint_any (w64 (x.2.2.2 - w64 (now - x.2.2.1)))
    have hl := he.len
    have hol := (valM_snd he.val).ol
    have s1 := set_eq (n := 14) (vs := [v]) hl (by omega) (by simp) (by simp; omega)
    have s2 := set_ref (n := 14) (vs := [v]) hl (by omega) (by simp) (by simp; omega)
    have hlm : LM (withO x.2.1 (setO x.2.1.2.2.2.2.1 14 [v])) := by
      refine ⟨hl.1, ?_, fun o ho => ?_, hl.2.2⟩
      · have a1 := List.length_filter_le (fun o : S_api_Option => decide (o.1 < 14)) x.2.1.2.2.2.2.1
        have a2 := List.length_filter_le (fun o : S_api_Option => decide (14 < o.1)) x.2.1.2.2.2.2.1
        show (setO x.2.1.2.2.2.2.1 14 [v]).length ≤ 1000000
        unfold setO
        simp only [List.length_append, List.length_map, List.length_singleton]
        omega
      · rcases setO_mem ho with ho | ⟨w, hw, rfl⟩
        · exact hl.2.1.2 o ho
        · rw [List.mem_singleton.1 hw]; show v.length ≤ 1000000; omega
    simp only [e1, e2, s1, s2, bnd_s]
    cases decide (now < x.2.2.1) <;> cases decide (x.2.2.2 ≤ w64 (now - x.2.2.1)) <;> first | exact ⟨_, rfl, rfl, hz⟩ | exact ⟨_, rfl, rfl, hlm⟩
theorem toU64_natI {n : Nat} (h : n < 18446744073709551616) : ((toU64 (n : Int)).toNat : Int) = (n : Int) := by
  unfold toU64
  rw [show ((n : Int) % 18446744073709551616).toNat = n by omega]
  simp
  omega
theorem cut_some' {α : Type} {xs : List α} {lo hi : Nat} (h : lo ≤ hi) (h' : hi ≤ xs.length) : Gk.cut xs (lo : Int) (hi : Int) = some ((xs.take hi).drop lo) := by
  unfold Gk.cut; rw [if_pos (by omega)]; simp
theorem or_add {a s : Nat} (hs : s < 16) : (a * 16) ||| s = a * 16 + s := by
  have := Nat.shiftLeft_add_eq_or_of_lt (b := s) (i := 4) (by omega) a
  rw [Nat.shiftLeft_eq] at this
  exact this.symm
def sndB (b : S_api_Block) : Bool := decide (0 ≤ b.1) && decide (b.1 ≤ 1048575) && decide (0 ≤ b.2.2) && decide (b.2.2 ≤ 6)
theorem sndB_iff {b : S_api_Block} : sndB b = true ↔ 0 ≤ b.1 ∧ b.1 ≤ 1048575 ∧ 0 ≤ b.2.2 ∧ b.2.2 ≤ 6 := by
  unfold sndB; simp only [Bool.and_eq_true, decide_eq_true_eq]
  constructor
  · rintro ⟨⟨⟨a, b⟩, c⟩, d⟩; exact ⟨a, b, c, d⟩
  · rintro ⟨a, b, c, d⟩; exact ⟨⟨⟨a, b⟩, c⟩, d⟩
theorem bsound_eq (b : S_api_Block) : m_block_sound b = some (sndB b) := by
  unfold m_block_sound sndB
  simp only [letm_e, cd_and, bnd_s, Bool.and_assoc]
theorem bvalid18_eq (b : S_api_Block) : m_coresecref18_valid b = some (sndB b) := by
  unfold m_coresecref18_valid sndB
  have : decide (b.1 < 1048576) = decide (b.1 ≤ 1048575) := decide_eq_decide.2 (by omega)
  simp only [letm_e, cd_and, bnd_s, Bool.and_assoc, this]
theorem blength {z : Nat} (h : z ≤ 6) : m_block_length (z : Int) = some ((16 * 2 ^ z : Nat) : Int) ∧ m_coresecref18_length (z : Int) = some ((16 * 2 ^ z : Nat) : Int) := by
  have h2 : 2 ^ z ≤ 2 ^ 6 := Nat.pow_le_pow_right (by omega) h
  have e : Gk.shl 16 (z : Int) = some ((16 * 2 ^ z : Nat) : Int) := by
    rw [shl16, Nat.min_eq_left (by omega)]
    have : ((16 : Int) * 2 ^ z) = ((16 * 2 ^ z : Nat) : Int) := by push_cast; rfl
    rw [this, w64_of (by omega) (by omega)]
  refine ⟨?_, ?_⟩
  · unfold m_block_length; rw [e]; rfl
  · unfold m_coresecref18_length
    have : ((toU64 (z : Int)).toNat : Int) = (z : Int) := by
      rw [toU64_natI (by omega)]
    rw [letm_e, this, e]; rfl
/-- A block of a body, its number and its size told. -/
def cutS (p : List UInt8) (n s : Nat) : List UInt8 × (Bool × Int) :=
  if p.length ≤ n * (16 * 2 ^ s) ∧ 0 < n * (16 * 2 ^ s) + p.length then ([], (false, 10))
  else ((p.take (min p.length (n * (16 * 2 ^ s) + 16 * 2 ^ s))).drop (n * (16 * 2 ^ s)), (decide (n * (16 * 2 ^ s) + 16 * 2 ^ s < p.length), 0))
theorem cut_both (p : List UInt8) (n s : Nat) (hp : p.length ≤ 100000) (hn : n ≤ 1000000) (hs : s ≤ 6) : m_block_Cut p n s = some (cutS p n s) ∧ m_coresecref18_Cut p n s = some (cutS p n s) := by
  have hsnd : sndB ((n : Int), (false, (s : Int))) = true := sndB_iff.2 ⟨by show (0 : Int) ≤ (n : Int); omega, by show (n : Int) ≤ 1048575; omega, by show (0 : Int) ≤ (s : Int); omega, by show (s : Int) ≤ 6; omega⟩
  obtain ⟨b1, b2⟩ := blength hs
  have h2 : 2 ^ s ≤ 2 ^ 6 := Nat.pow_le_pow_right (by omega) hs
  unfold m_block_Cut m_coresecref18_Cut cutS
  rw [bsound_eq, bvalid18_eq, hsnd, b1, b2]
  have hL : 16 * 2 ^ s ≤ 1024 := by omega
  generalize 16 * 2 ^ s = L at hL ⊢
  have hnL : n * L ≤ 1000000 * 1024 := Nat.mul_le_mul hn hL
  have w1 : w64 ((n : Int) * (L : Int)) = ((n * L : Nat) : Int) := by rw [← Int.natCast_mul, w64_of (by omega) (by omega)]
  simp only [letm_e, bnd_s, Bool.not_true, cd_f, w1, cd_and]
  have w2 : w64 (((n * L : Nat) : Int) + (p.length : Int)) = ((n * L + p.length : Nat) : Int) := by rw [w64_of (by omega) (by omega)]; omega
  have w3 : w64 (((n * L : Nat) : Int) + (L : Int)) = ((n * L + L : Nat) : Int) := by rw [w64_of (by omega) (by omega)]; omega
  rw [w2, w3]
  by_cases h : p.length ≤ n * L ∧ 0 < n * L + p.length
  · rw [if_pos h, decide_eq_true (show (p.length : Int) ≤ ((n * L : Nat) : Int) by omega), decide_eq_true (show 0 < ((n * L + p.length : Nat) : Int) by omega)]
    exact ⟨rfl, rfl⟩
  · rw [if_neg h]
    have hb : (decide ((p.length : Int) ≤ ((n * L : Nat) : Int)) && decide (0 < ((n * L + p.length : Nat) : Int))) = false := by
      cases h1 : decide ((p.length : Int) ≤ ((n * L : Nat) : Int)) with
      | false => rfl
      | true =>
        have := of_decide_eq_true h1
        rw [decide_eq_false (show ¬ 0 < ((n * L + p.length : Nat) : Int) by omega)]; rfl
    rw [hb]
    have hm : min (p.length : Int) ((n * L + L : Nat) : Int) = ((min p.length (n * L + L) : Nat) : Int) := by omega
    have hc : Gk.cut p ((n * L : Nat) : Int) ((min p.length (n * L + L) : Nat) : Int) = some ((p.take (min p.length (n * L + L))).drop (n * L)) := cut_some' (by omega) (by omega)
    have hd : decide (((min p.length (n * L + L) : Nat) : Int) < (p.length : Int)) = decide (n * L + L < p.length) := decide_eq_decide.2 (by omega)
    rw [hm, hc]
    have hl : ((p.take (min p.length (n * L + L))).drop (n * L)).length ≤ 1000000 := by rw [List.length_drop, List.length_take]; omega
    simp only [cd_f, bnd_s, clone_some hl, app_nil_some hl, hd]
    exact ⟨trivial, trivial⟩
theorem value_both (b : S_api_Block) : ∃ r, m_block_Value b = some r ∧ m_coresecref18_Value b = some r := by
  unfold m_block_Value m_coresecref18_Value
  rw [bsound_eq, bvalid18_eq, bnd_some', bnd_some']
  simp only [letm]
  cases hs : sndB b with
  | false =>
    exact ⟨_, rfl, rfl⟩
  | true =>
    obtain ⟨h1, h2, h3, h4⟩ := sndB_iff.1 hs
    obtain ⟨num, more, size⟩ := b
    simp only at h1 h2 h3 h4
    obtain ⟨a, rfl⟩ : ∃ a : Nat, num = (a : Int) := ⟨num.toNat, by omega⟩
    obtain ⟨s, rfl⟩ : ∃ s : Nat, size = (s : Int) := ⟨size.toNat, by omega⟩
    have e1 : shl (a : Int) ((4 : UInt64).toNat : Int) = some ((a * 16 : Nat) : Int) := Go.Gk.shl_nat (b := 4) (by omega) (by omega)
    have e2 : w64 (16 * (a : Int)) = ((a * 16 : Nat) : Int) := by rw [w64_of (by omega) (by omega)]; omega
    have e3 : w64 (((a * 16 : Nat) : Int) + (s : Int)) = ((a * 16 + s : Nat) : Int) := by rw [w64_of (by omega) (by omega)]; omega
    have e4 : ibit .or ((a * 16 : Nat) : Int) (s : Int) = ((a * 16 + s : Nat) : Int) := by rw [or_nat (by omega) (by omega), or_add (by omega)]
    have e5 : ibit .or ((a * 16 + s : Nat) : Int) 8 = ((a * 16 + s + 8 : Nat) : Int) := by
      have := or_nat (a := a * 16 + s) (b := 8) (by omega) (by omega)
      rw [show ((8 : Nat) : Int) = 8 from rfl] at this
      rw [this, ← or_add (by omega : s < 16), Nat.or_assoc]
      have h8 : ∀ s < 7, s ||| 8 = s + 8 := by decide
      rw [h8 s (by omega), or_add (by omega), or_add (by omega)]
      omega
    have e6 : w64 (((a * 16 + s : Nat) : Int) + 8) = ((a * 16 + s + 8 : Nat) : Int) := by rw [w64_of (by omega) (by omega)]; omega
    simp only [Bool.not_true, cond_false, e1, e2, e3, e4, bnd_some', e5, e6]
    cases more with
    | false =>
      obtain ⟨l, g1, g2, _⟩ := fromUint_eq (a * 16 + s) (by omega)
      simp only [cond_false, bnd_some', g1, g2]
      exact ⟨_, rfl, rfl⟩
    | true =>
      obtain ⟨l, g1, g2, _⟩ := fromUint_eq (a * 16 + s + 8) (by omega)
      simp only [cond_true, bnd_some', g1, g2]
      exact ⟨_, rfl, rfl⟩
theorem value_ok {b : S_api_Block} (hs : sndB b = true) : ∃ v, m_block_Value b = some (v, 0) ∧ m_coresecref18_Value b = some (v, 0) ∧ v.length ≤ 4 := by
  unfold m_block_Value m_coresecref18_Value
  rw [bsound_eq, bvalid18_eq, bnd_some', bnd_some']
  simp only [letm]
  · rw [hs]
    obtain ⟨h1, h2, h3, h4⟩ := sndB_iff.1 hs
    obtain ⟨num, more, size⟩ := b
    simp only at h1 h2 h3 h4
    obtain ⟨a, rfl⟩ : ∃ a : Nat, num = (a : Int) := ⟨num.toNat, by omega⟩
    obtain ⟨s, rfl⟩ : ∃ s : Nat, size = (s : Int) := ⟨size.toNat, by omega⟩
    have e1 : shl (a : Int) ((4 : UInt64).toNat : Int) = some ((a * 16 : Nat) : Int) := Go.Gk.shl_nat (b := 4) (by omega) (by omega)
    have e2 : w64 (16 * (a : Int)) = ((a * 16 : Nat) : Int) := by rw [w64_of (by omega) (by omega)]; omega
    have e3 : w64 (((a * 16 : Nat) : Int) + (s : Int)) = ((a * 16 + s : Nat) : Int) := by rw [w64_of (by omega) (by omega)]; omega
    have e4 : ibit .or ((a * 16 : Nat) : Int) (s : Int) = ((a * 16 + s : Nat) : Int) := by rw [or_nat (by omega) (by omega), or_add (by omega)]
    have e5 : ibit .or ((a * 16 + s : Nat) : Int) 8 = ((a * 16 + s + 8 : Nat) : Int) := by
      have := or_nat (a := a * 16 + s) (b := 8) (by omega) (by omega)
      rw [show ((8 : Nat) : Int) = 8 from rfl] at this
      rw [this, ← or_add (by omega : s < 16), Nat.or_assoc]
      have h8 : ∀ s < 7, s ||| 8 = s + 8 := by decide
      rw [h8 s (by omega), or_add (by omega), or_add (by omega)]
      omega
    have e6 : w64 (((a * 16 + s : Nat) : Int) + 8) = ((a * 16 + s + 8 : Nat) : Int) := by rw [w64_of (by omega) (by omega)]; omega
    simp only [Bool.not_true, cond_false, e1, e2, e3, e4, bnd_some', e5, e6]
    cases more with
    | false =>
      obtain ⟨l, g1, g2, g3⟩ := fromUint_eq (a * 16 + s) (by omega)
      simp only [cond_false, bnd_some', g1, g2]
      exact ⟨l, rfl, rfl, g3⟩
    | true =>
      obtain ⟨l, g1, g2, g3⟩ := fromUint_eq (a * 16 + s + 8) (by omega)
      simp only [cond_true, bnd_some', g1, g2]
      exact ⟨l, rfl, rfl, g3⟩
theorem fmessage_some {m : S_api_Message} (h : LM m) : m_fragment_message m = some m := message_some h
theorem fcopied_some {b : List UInt8} (h : b.length ≤ 1000000) : m_fragment_copied b = some b := copied_some h
theorem sound_some {m : S_api_Message} (h : LenM m) (n : Int) : ∃ a b, m_coresecref33_Sound m n = some (a, (!((allS m.2.2.2.2.1 n).length == 0), b)) := by
  unfold m_coresecref33_Sound
  rw [all_ref h.2.1, bnd_s, letm_e]
  cases hx : allS m.2.2.2.2.1 n with
  | nil => exact ⟨_, _, rfl⟩
  | cons x r =>
    have h0 : (((x :: r).length : Int) == 0) = false := by rw [beq_eq_false_iff_ne, List.length_cons]; omega
    have h1 : idx (x :: r) (0 : Int) = some x := idx_some' (i := 0) rfl
    have h2 : (!((x :: r).length == 0)) = true := rfl
    rw [h0, cd_f, h1, bnd_s, (parse_eq x).2, bnd_s, h2]
    simp only [letm_e]
    cases (parseS x).2 != 0 <;> cases decide (1 < ((x :: r).length : Int)) <;> exact ⟨_, _, rfl⟩
theorem cut34 {m : S_api_Message} (hm : LenM m) (hol : m.2.2.2.2.1.length ≤ 400000) (hp : m.2.2.2.2.2.length ≤ 100000) (n s : Nat) (hn : n ≤ 1000000) (hs : s ≤ 6) :
    ∃ r, m_fragment_Cut m 27 n s = some r ∧ m_coresecref33_Cut m 27 n s = some r := by
  have e1 : m_fragment_numbered 27 = some true := by kernel_rfl
  have d1 : ((27 : Int) != 27) = false := rfl
  obtain ⟨a, b, e2⟩ := sound_some hm 27
  obtain ⟨c1, c2⟩ := cut_both m.2.2.2.2.2 n s hp hn hs
  have hsnd : ∀ more, sndB ((n : Int), (more, (s : Int))) = true := fun more => sndB_iff.2 ⟨by show (0 : Int) ≤ (n : Int); omega, by show (n : Int) ≤ 1048575; omega, by show (0 : Int) ≤ (s : Int); omega, by show (s : Int) ≤ 6; omega⟩
  obtain ⟨v, v1, v2, v3⟩ := value_ok (hsnd (cutS m.2.2.2.2.2 n s).2.1)
  have s1 := set_eq (n := 27) (vs := [v]) hm hol (by simp) (by simp; omega)
  have s2 := set_ref (n := 27) (vs := [v]) hm hol (by simp) (by simp; omega)
  have hlm : LM (withO m (setO m.2.2.2.2.1 27 [v])) := by
    refine ⟨hm.1, ?_, fun o ho => ?_, hm.2.2⟩
    · have a1 := List.length_filter_le (fun o : S_api_Option => decide (o.1 < 27)) m.2.2.2.2.1
      have a2 := List.length_filter_le (fun o : S_api_Option => decide (27 < o.1)) m.2.2.2.2.1
      show (setO m.2.2.2.2.1 27 [v]).length ≤ 1000000
      unfold setO
      simp only [List.length_append, List.length_map, List.length_singleton]
      omega
    · rcases setO_mem ho with ho | ⟨w, hw, rfl⟩
      · exact hm.2.1.2 o ho
      · rw [List.mem_singleton.1 hw]; show v.length ≤ 1000000; omega
  have hcl : (cutS m.2.2.2.2.2 n s).1.length ≤ 1000000 := by
    unfold cutS
    split
    · simp
    · simp only [List.length_drop, List.length_take]; omega
  have hd : decide (0 < ((allS m.2.2.2.2.1 27).length : Int)) = !((allS m.2.2.2.2.1 27).length == 0) := by
    cases allS m.2.2.2.2.1 27 with
    | nil => rfl
    | cons x r => rw [decide_eq_true (by rw [List.length_cons]; omega)]; rfl
  unfold m_fragment_Cut m_coresecref33_Cut
  rw [e1, bnd_s, all_eq hm.2.1, e2]
  simp only [letm_e, d1, cd_f, bnd_s, Bool.not_true, hd]
  cases !((allS m.2.2.2.2.1 27).length == 0) with
  | true => exact ⟨_, rfl, rfl⟩
  | false =>
    simp only [cd_f, c1, c2, bnd_s]
    cases (cutS m.2.2.2.2.2 n s).2.2 != 0 with
    | true => exact ⟨_, rfl, rfl⟩
    | false =>
      simp only [cd_f, v1, v2, bnd_s, bne_self_eq_false, s1, s2, fmessage_some hlm, fcopied_some hcl]
      exact ⟨_, rfl, rfl⟩
end Go.Proofs.YtcbkmlfkfhfliaaGreatDoor
