/-
  Messages, options, blocks and decks, plain facts. Of the models alone; no program; no condition but the ranges told.
-/
import Derived.Test.YtcbkmlfkfhfliaaGreatDoorQ00
import Derived.Test.YtcbkmlfkfhfliaaGreatDoorMo
namespace Go.Proofs.YtcbkmlfkfhfliaaGreatDoor
open Go.Gk Go.RowKit
/-- The parts of an option's head. -/
theorem parts_ext (d : Int) : ∃ e : S_api_Option, m_coresecref15_extended d = some e ∧ m_coap_parts d = some (toU8 e.1, e.2) ∧ e.2.length ≤ 2 ∧ (0 ≤ d → 0 ≤ e.1 ∧ e.1 ≤ 14) := by
  unfold m_coresecref15_extended m_coap_parts
  simp only [letm_e]
  by_cases h : d < 13
  · have e1 : decide (d < 13) = true := decide_eq_true h
    rw [e1]
    exact ⟨(d, []), rfl, rfl, by simp, fun _ => ⟨by assumption, by show d ≤ 14; omega⟩⟩
  · have e1 : decide (d < 13) = false := decide_eq_false h
    rw [e1]
    simp only [cond_false]
    by_cases h2 : d < 269
    · have e2 : decide (d < 269) = true := decide_eq_true h2
      rw [e2]
      exact ⟨(13, _), rfl, rfl, by simp, fun _ => ⟨(by decide : (0 : Int) ≤ 13), (by decide : (13 : Int) ≤ 14)⟩⟩
    · have e2 : decide (d < 269) = false := decide_eq_false h2
      rw [e2]
      simp only [cond_false]
      rw [shr8]
      exact ⟨(14, _), rfl, rfl, by simp, fun _ => ⟨(by decide : (0 : Int) ≤ 14), (by decide : (14 : Int) ≤ 14)⟩⟩
/-- The first byte. -/
theorem head_byte (t : Int) (h0 : 0 ≤ t) (h3 : t ≤ 3) (n : Nat) (hn : n ≤ 8) : toU8 (ibit .or (ibit .or 64 (w64 (t * 16))) (n : Int)) = toU8 (w64 (w64 (64 + w64 (16 * t)) + (n : Int))) := by
  obtain ⟨a, rfl⟩ : ∃ a : Nat, t = (a : Int) := ⟨t.toNat, by omega⟩
  have ha3 : a ≤ 3 := by omega
  rw [w64_of (x := (a : Int) * 16) (by omega) (by omega), show (a : Int) * 16 = ((a * 16 : Nat) : Int) by omega]
  have e2 : ibit .or 64 ((a * 16 : Nat) : Int) = ((64 ||| a * 16 : Nat) : Int) := or_nat (a := 64) (by omega) (by omega)
  have hlt : 64 ||| a * 16 < 2 ^ 63 := Nat.or_lt_two_pow (by omega) (by omega)
  rw [e2, or_nat (by omega) (by omega)]
  have key : ∀ a, a ≤ 3 → ∀ n, n ≤ 8 → (64 ||| a * 16) ||| n = 64 + 16 * a + n := by decide
  rw [key a ha3 n hn, w64_of (x := 16 * (a : Int)) (by omega) (by omega), w64_of (x := 64 + 16 * (a : Int)) (by omega) (by omega), w64_of (by omega) (by omega)]
  congr 1
/-- The bytes of a message. -/
theorem encode_raw (m : S_api_Message) (h0 : 0 ≤ m.1) (h3 : m.1 ≤ 3) (ht : m.2.2.2.1.length ≤ 8) : m_coap_encode m = m_coresecref15_Raw m := by
  have hd := head_byte m.1 h0 h3 m.2.2.2.1.length ht
  unfold m_coap_encode m_coresecref15_Raw
  simp only [shl4, bnd_s, letm_e]
  rw [hd]
  congr 1; funext x6
  congr 1; funext x9
  refine loopL_congr _ _ _ (fun _ _ => rfl) fun o _ k s self => ?_
  obtain ⟨e, he1, he2, _⟩ := parts_ext (w64 (o.1 - s.2))
  obtain ⟨f, hf1, hf2, _, hf3⟩ := parts_ext (o.2.length : Int)
  rw [he1, he2, hf1, hf2]
  simp only [bnd_s]
  have hfr := hf3 (by omega)
  have hf4 : ((toU8 f.1).toNat : Int) = f.1 := by rw [toU8_toNat]; omega
  obtain ⟨y, hy, hz⟩ := nib e.1 (toU8 f.1) (by omega)
  refine (congrArg (fun z => bnd z _) hy).trans ?_
  show bnd (app s.1 [toU8 (bits .or .u8 (UInt8.toNat y) (UInt8.toNat (toU8 f.1)))]) _ = _
  rw [hz, hf4]
/-! ### Which messages may be -/
def optsB : Int → List S_api_Option → Bool
  | _, [] => true
  | n, o :: r => !(decide (o.1 < n)) && !(decide (65535 < o.1)) && !(decide (1034 < (o.2.length : Int))) && optsB o.1 r
theorem opts_loop {c : Option Bool} : ∀ (xs : List S_api_Option) (k : Nat) (s : Int), loopL (R := Bool) (S := Int) (α := S_api_Option) (fun _ _ => c)
    (fun x28 _k29 s30 self31 => cond (decide (x28.1 < s30) || (decide (65535 < x28.1) || decide (1034 < (x28.2.length : Int)))) (some false) (self31 x28.1)) xs k s
    = cond (optsB s xs) c (some false)
  | [], k, s => rfl
  | x :: xs, k, s => by
    rw [loopL_cons, opts_loop xs]
    simp only [optsB]
    cases decide (x.1 < s) <;> cases decide (65535 < x.1) <;> cases decide (1034 < (x.2.length : Int)) <;> rfl
def clsB (c : Int) : Bool := (c == 0) || (c == 2) || (c == 4) || (c == 5)
/-- What is asked of a message but for its length. -/
def sndM (m : S_api_Message) : Bool :=
  !(decide (m.1 < 0)) && !(decide (3 < m.1)) && !(decide (m.2.1 < 0)) && !(decide (255 < m.2.1)) && clsB (m.2.1 / 32) && !(decide (m.2.2.1 < 0)) && !(decide (65535 < m.2.2.1)) && !(decide (8 < (m.2.2.2.1.length : Int))) && !(decide (32 < (m.2.2.2.2.1.length : Int))) && optsB 0 m.2.2.2.2.1
   && !((m.2.1 == 0) && decide (0 < w64 (w64 ((m.2.2.2.1.length : Int) + (m.2.2.2.2.1.length : Int)) + (m.2.2.2.2.2.length : Int)))) && !((m.1 == 3) && !(m.2.1 == 0)) && decide ((m.2.2.2.2.2.length : Int) ≤ 4096)
theorem sound_eq (m : S_api_Message) : m_coap_sound m = some (sndM m) := by
  unfold m_coap_sound sndM clsB
  rw [shr5, bnd_s]
  generalize m.2.1 / 32 = x1
  simp only [letm_e, cd_or, cd_and, cd_nand, cd_x, bnd_s, opts_loop, bne]
  refine congrArg some ?_
  generalize decide (m.1 < 0) = b1
  generalize decide (3 < m.1) = b2
  generalize decide (m.2.1 < 0) = b3
  generalize decide (255 < m.2.1) = b4
  generalize decide (m.2.2.1 < 0) = b5
  generalize decide (65535 < m.2.2.1) = b6
  generalize decide (8 < (m.2.2.2.1.length : Int)) = b7
  generalize decide (32 < (m.2.2.2.2.1.length : Int)) = b8
  generalize optsB 0 m.2.2.2.2.1 = b9
  simp only [Bool.not_or, Bool.not_and, Bool.not_not, Bool.and_assoc]
  cases b1 <;> simp only [Bool.not_true, Bool.not_false, Bool.false_and, Bool.true_and]
  cases b2 <;> simp only [Bool.not_true, Bool.not_false, Bool.false_and, Bool.true_and]
  cases b3 <;> simp only [Bool.not_true, Bool.not_false, Bool.false_and, Bool.true_and]
  cases b4 <;> simp only [Bool.not_true, Bool.not_false, Bool.false_and, Bool.true_and]
  cases b5 <;> simp only [Bool.not_true, Bool.not_false, Bool.false_and, Bool.true_and, Bool.and_false]
  cases b6 <;> simp only [Bool.not_true, Bool.not_false, Bool.false_and, Bool.true_and, Bool.and_false]
  cases b7 <;> simp only [Bool.not_true, Bool.not_false, Bool.false_and, Bool.true_and, Bool.and_false]
  cases b8 <;> simp only [Bool.not_true, Bool.not_false, Bool.false_and, Bool.true_and, Bool.and_false]
  cases b9 <;> simp only [Bool.false_and, Bool.true_and, Bool.and_false]
  cases x1 == 0 <;> cases x1 == 2 <;> cases x1 == 4 <;> cases x1 == 5 <;> cases m.2.1 == 0 <;> cases m.1 == 3 <;> cases decide (0 < w64 (w64 ((m.2.2.2.1.length : Int) + (m.2.2.2.2.1.length : Int)) + (m.2.2.2.2.2.length : Int))) <;> rfl
def LenO (l : List S_api_Option) : Prop := l.length ≤ 1000000 ∧ ∀ o ∈ l, o.2.length ≤ 1000000
def LenM (m : S_api_Message) : Prop := m.2.2.2.1.length ≤ 1000000 ∧ LenO m.2.2.2.2.1 ∧ m.2.2.2.2.2.length ≤ 1000000
theorem clone_some {l : List UInt8} (h : l.length ≤ 1000000) : m_bytes_Clone l = some l := by
  unfold m_bytes_Clone; rw [app_some' (by simp; omega)]; rfl
theorem app_nil_some {α : Type} {l : List α} (h : l.length ≤ 1000000) : app [] l = some l := by
  rw [app_some' (by simp; omega)]; rfl
def getS (l : List S_api_Option) (n : Int) : List UInt8 × Bool := match l.find? (fun o => o.1 == n) with | some o => (o.2, true) | none => ([], false)
def allS (l : List S_api_Option) (n : Int) : List (List UInt8) := l.filterMap fun o => cond (o.1 == n) (some o.2) none
theorem get_go {n : Int} : ∀ (xs : List S_api_Option) (k : Nat), (∀ o ∈ xs, o.2.length ≤ 1000000) → loopL (R := ((List UInt8) × Bool)) (S := Unit) (α := S_api_Option) (fun _ _ => some ([], false))
    (fun x4 _ _ self7 => letm ((x4.1 == n)) fun x8 => cond x8 (bnd (m_bytes_Clone x4.2) fun x9 => some (x9, true)) (self7 ())) xs k () = some (getS xs n)
  | [], _, _ => rfl
  | x :: xs, k, h => by
    rw [loopL_cons, letm_e, clone_some (h x (by simp)), get_go xs (k + 1) fun o ho => h o (by simp [ho])]
    unfold getS
    rw [List.find?_cons]
    cases x.1 == n <;> rfl
theorem get_eq {m : S_api_Message} {n : Int} (h : LenO m.2.2.2.2.1) : m_option_Get m n = some (getS m.2.2.2.2.1 n) := get_go _ _ h.2
theorem all_eq {m : S_api_Message} {n : Int} (h : LenO m.2.2.2.2.1) : m_option_All m n = some (allS m.2.2.2.2.1 n) := by
  unfold m_option_All
  rw [loopL_filterMap (fun o : S_api_Option => cond (o.1 == n) (some o.2) none) _ _ _ (by have := h.1; simp; omega) fun o ho k s self => ?_]
  · rfl
  · rw [letm_e, clone_some (h.2 o ho)]
    cases o.1 == n
    · rfl
    · simp only [cd_t, bnd_s]
      cases app s [o.2] <;> rfl
theorem all_ref {m : S_api_Message} {n : Int} (h : LenO m.2.2.2.2.1) : m_coresecref16_All m n = some (allS m.2.2.2.2.1 n) := by
  unfold m_coresecref16_All
  rw [loopL_filterMap (fun o : S_api_Option => cond (o.1 == n) (some o.2) none) _ _ _ (by have := h.1; simp; omega) fun o ho k s self => ?_]
  · rfl
  · rw [letm_e, app_nil_some (h.2 o ho)]
    cases o.1 == n
    · rfl
    · simp only [cd_t, bnd_s]
      cases app s [o.2] <;> rfl
theorem allS_get (l : List S_api_Option) (n : Int) : (allS l n = [] ∧ getS l n = ([], false)) ∨ ∃ v r, allS l n = v :: r ∧ getS l n = (v, true) := by
  induction l with
  | nil => exact .inl ⟨rfl, rfl⟩
  | cons o l ih =>
    unfold allS getS at ih ⊢
    rw [List.filterMap_cons, List.find?_cons]
    cases o.1 == n with
    | true => exact .inr ⟨_, _, rfl, rfl⟩
    | false => exact ih
theorem get_ref {m : S_api_Message} {n : Int} (h : LenO m.2.2.2.2.1) : m_coresecref16_Get m n = some (getS m.2.2.2.2.1 n) := by
  unfold m_coresecref16_Get
  rw [all_ref h, bnd_s, letm_e]
  rcases allS_get m.2.2.2.2.1 n with ⟨h1, h2⟩ | ⟨v, r, h1, h2⟩
  · rw [h1, h2]; rfl
  · rw [h1, h2]
    have : (((v :: r).length : Int) == 0) = false := by simp; omega
    rw [this]; rfl
theorem uint_ref : m_option_Uint = m_coresecref16_Uint := rfl
def setO (l : List S_api_Option) (n : Int) (vs : List (List UInt8)) : List S_api_Option := l.filter (fun o => decide (o.1 < n)) ++ vs.map (fun v => (n, v)) ++ l.filter (fun o => decide (n < o.1))
def withO (m : S_api_Message) (l : List S_api_Option) : S_api_Message := (m.1, (m.2.1, (m.2.2.1, (m.2.2.2.1, (l, m.2.2.2.2.2)))))
theorem owned_eq {m : S_api_Message} {l : List S_api_Option} (h : LenM m) (hl : LenO l) : m_option_owned m l = some (withO m l) := by
  unfold m_option_owned
  rw [clone_some h.1, clone_some h.2.2, bnd_s, bnd_s]
  obtain ⟨h1, h2⟩ := loopL_fold (bn := fun k4 (s5 : S_api_Message × List S_api_Option) => some (s5.1.1, (s5.1.2.1, (s5.1.2.2.1, (s5.1.2.2.2.1, (s5.2, s5.1.2.2.2.2.2))))))
    (bs := fun (x6 : S_api_Option) k7 s8 self9 => bnd (m_bytes_Clone x6.2) fun x10 => bnd (app s8.2 [(x6.1, x10)]) fun x11 => self9 (s8.1, x11))
    (fun s o => (s.1, s.2 ++ [o])) (fun k s => s.2.length = k ∧ s.1 = (m.1, (m.2.1, (m.2.2.1, (m.2.2.2.1, ([], m.2.2.2.2.2)))))) l 0 ((m.1, (m.2.1, (m.2.2.1, (m.2.2.2.1, ([], m.2.2.2.2.2))))), [])
    (fun i x s self hx hs => by
      have hi := (List.getElem?_eq_some_iff.1 hx).1
      have := hl.1
      refine ⟨?_, by simp [hs.1], hs.2⟩
      rw [clone_some (hl.2 x (List.mem_of_getElem? hx)), bnd_s, app_some' (by simp only [List.length_cons, List.length_nil]; omega)]; rfl) ⟨rfl, rfl⟩
  rw [h1]
  have key : ∀ (l acc : List S_api_Option) (a : S_api_Message), l.foldl (fun (s : S_api_Message × List S_api_Option) o => (s.1, s.2 ++ [o])) (a, acc) = (a, acc ++ l) := by
    intro l
    induction l with
    | nil => intro acc a; simp
    | cons x l ih => intro acc a; rw [List.foldl_cons, ih]; simp
  rw [key]; rfl
theorem with_ref {m : S_api_Message} {l : List S_api_Option} (h : LenM m) (hl : LenO l) : m_coresecref16_with m l = some (withO m l) := by
  unfold m_coresecref16_with
  rw [app_nil_some h.1, app_nil_some h.2.2, bnd_s, bnd_s, loopL_map (fun o => o) _ _ _ (by have := hl.1; simp; omega) fun o ho k s self => ?_]
  · rw [List.map_id']; rfl
  · rw [app_nil_some (hl.2 o ho)]; rfl
theorem LenO.set {l : List S_api_Option} {n : Int} {vs : List (List UInt8)} (h1 : l.length ≤ 400000) (h2 : ∀ o ∈ l, o.2.length ≤ 1000000) (h3 : vs.length ≤ 400000) (h4 : ∀ v ∈ vs, v.length ≤ 1000000) : LenO (setO l n vs) := by
  refine ⟨?_, fun o ho => ?_⟩
  · unfold setO
    simp only [List.length_append, List.length_map]
    have a1 : (l.filter fun o => decide (o.1 < n)).length + (l.filter fun o => decide (n < o.1)).length ≤ l.length := by
      clear h1 h2
      induction l with
      | nil => simp
      | cons x l ih =>
        simp only [List.filter_cons]
        by_cases h : x.1 < n
        · have : ¬ n < x.1 := by omega
          simp [h, this]; omega
        · by_cases h' : n < x.1 <;> simp [h, h'] <;> omega
    omega
  · unfold setO at ho
    simp only [List.mem_append, List.mem_filter, List.mem_map] at ho
    rcases ho with (⟨ho, _⟩ | ⟨v, hv, rfl⟩) | ⟨ho, _⟩
    · exact h2 o ho
    · exact h4 v hv
    · exact h2 o ho
theorem set_eq {m : S_api_Message} {n : Int} {vs : List (List UInt8)} (h : LenM m) (h1 : m.2.2.2.2.1.length ≤ 400000) (h3 : vs.length ≤ 400000) (h4 : ∀ v ∈ vs, v.length ≤ 1000000) : m_option_Set m n vs = some (withO m (setO m.2.2.2.2.1 n vs)) := by
  have hL := LenO.set (n := n) h1 h.2.1.2 h3 h4
  unfold m_option_Set
  obtain ⟨e1, _, e2, e3⟩ := loopL_fold (bn := fun k3 (s4 : (List S_api_Option) × (List S_api_Option)) => loopL (R := S_api_Message) (S := (List S_api_Option)) (α := (List UInt8)) (fun k5 s6 => bnd (app s6 s4.2) fun x7 => bnd (m_option_owned m x7) fun x8 => some x8)
      (fun x9 k10 s11 self12 => bnd (app s11 [(n, x9)]) fun x13 => self12 x13) vs 0 s4.1)
    (bs := fun (x14 : S_api_Option) k15 s16 self17 => bnd (β := ((List S_api_Option) × (List S_api_Option))) (letm (decide (x14.1 < n)) fun x18 => cond x18 (bnd (app s16.1 [x14]) fun x19 => some (x19, s16.2)) (letm (decide (n < x14.1)) fun x20 => cond x20 (bnd (app s16.2 [x14]) fun x21 => some (s16.1, x21)) (some (s16.1, s16.2)))) fun v22 => self17 (v22.1, v22.2))
    (fun s o => (s.1 ++ [o].filter (fun o => decide (o.1 < n)), s.2 ++ [o].filter (fun o => decide (n < o.1)))) (fun k s => True ∧ s.1.length ≤ k ∧ s.2.length ≤ k) m.2.2.2.2.1 0 ([], [])
    (fun i x s self hx hs => by
      have hi := (List.getElem?_eq_some_iff.1 hx).1
      obtain ⟨_, hs1, hs2⟩ := hs
      simp only [letm_e, List.filter_cons, List.filter_nil]
      by_cases h : x.1 < n
      · have h' : ¬ n < x.1 := by omega
        simp only [h, h', decide_true, decide_false, cd_t, if_true]
        rw [app_some' (by simp; omega)]
        refine ⟨?_, trivial, by simp; omega, by simp; omega⟩
        simp [bnd_s]
      · by_cases h' : n < x.1
        · simp only [h, h', decide_true, decide_false, cd_t, cd_f, if_true]
          rw [app_some' (by simp; omega)]
          refine ⟨?_, trivial, by simp; omega, by simp; omega⟩
          simp [bnd_s]
        · simp only [h, h', decide_false, cd_f]
          refine ⟨?_, trivial, by simp; omega, by simp; omega⟩
          simp [bnd_s]) ⟨trivial, by simp, by simp⟩
  have key : ∀ (l : List S_api_Option) (a b : List S_api_Option), l.foldl (fun (s : (List S_api_Option) × (List S_api_Option)) o => (s.1 ++ [o].filter (fun o => decide (o.1 < n)), s.2 ++ [o].filter (fun o => decide (n < o.1)))) (a, b) = (a ++ l.filter (fun o => decide (o.1 < n)), b ++ l.filter (fun o => decide (n < o.1))) := by
    intro l
    induction l with
    | nil => intro a b; simp
    | cons x l ih =>
      intro a b
      rw [List.foldl_cons, ih]
      simp only [List.filter_cons, List.filter_nil]
      by_cases h : x.1 < n <;> by_cases h' : n < x.1 <;> simp [h, h']
  rw [e1]
  rw [key] at e2 e3 ⊢
  simp only [List.nil_append, Nat.zero_add] at e2 e3 ⊢
  have hl2 : (m.2.2.2.2.1.filter fun o => decide (o.1 < n)).length ≤ 400000 := by omega
  have hl3 : (m.2.2.2.2.1.filter fun o => decide (n < o.1)).length ≤ 400000 := by omega
  rw [loopL_map (fun v => (n, v)) vs 0 _ (by omega) fun v _ k s self => rfl]
  rw [app_some' (by simp only [List.length_append, List.length_map]; omega), bnd_s]
  show bnd (m_option_owned m (setO m.2.2.2.2.1 n vs)) _ = _
  rw [owned_eq h hL]; rfl
theorem set_ref {m : S_api_Message} {n : Int} {vs : List (List UInt8)} (h : LenM m) (h1 : m.2.2.2.2.1.length ≤ 400000) (h3 : vs.length ≤ 400000) (h4 : ∀ v ∈ vs, v.length ≤ 1000000) : m_coresecref16_Set m n vs = some (withO m (setO m.2.2.2.2.1 n vs)) := by
  have hL := LenO.set (n := n) h1 h.2.1.2 h3 h4
  unfold m_coresecref16_Set
  have fl : ∀ (p : S_api_Option → Bool) (l : List S_api_Option), l.filterMap (fun o => cond (p o) (some o) none) = l.filter p := by
    intro p l
    induction l with
    | nil => rfl
    | cons x l ih => rw [List.filterMap_cons, List.filter_cons]; cases p x <;> simp [ih]
  rw [loopL_filterMap (fun o : S_api_Option => cond (decide (o.1 < n)) (some o) none) _ _ _ (by simp; omega) fun o ho k s self => ?_]
  · rw [fl, loopL_map (fun v => (n, v)) vs 0 _ (by have := List.length_filter_le (fun o : S_api_Option => decide (o.1 < n)) m.2.2.2.2.1; simp only [List.length_append, List.length_nil, Nat.zero_add]; omega) fun v _ k s self => rfl]
    rw [loopL_filterMap (fun o : S_api_Option => cond (decide (n < o.1)) (some o) none) _ _ _ (by have := List.length_filter_le (fun o : S_api_Option => decide (o.1 < n)) m.2.2.2.2.1; simp only [List.length_append, List.length_nil, Nat.zero_add, List.length_map]; omega) fun o ho k s self => ?_]
    · rw [fl]
      show bnd (m_coresecref16_with m (setO m.2.2.2.2.1 n vs)) _ = _
      rw [with_ref h hL]; rfl
    · simp only [letm_e]
      cases decide (n < o.1)
      · rfl
      · simp only [cd_t]
        cases app s [o] <;> rfl
  · simp only [letm_e]
    cases decide (o.1 < n)
    · rfl
    · simp only [cd_t]
      cases app s [o] <;> rfl
/-! ### The shortest bytes of a number -/
theorem fuel6 : FUEL = 1180591620717411303418 + 1 + 1 + 1 + 1 + 1 + 1 := rfl
theorem fromUint_eq (n : Nat) (h : n ≤ 4294967295) : ∃ l, m_option_FromUint (n : Int) = some l ∧ m_coresecref16_FromUint (n : Int) = some l ∧ l.length ≤ 4 := by
  have t1 : decide ((n : Int) < 0) = false := decide_eq_false (by omega)
  have t2 : decide ((4294967295 : Int) < (n : Int)) = false := decide_eq_false (by omega)
  unfold m_option_FromUint m_coresecref16_FromUint
  simp only [letm_e, t1, t2, cd_f]
  generalize hA : (fun (self4 : (List UInt8) × Int → Option (List UInt8)) (s3 : (List UInt8) × Int) => cond (decide (0 ≤ s3.2)) (bnd (β := (List UInt8)) (bnd (Gk.shr (n : Int) s3.2) fun x6 => cond (decide (0 < x6)) (bnd (Gk.shr (n : Int) s3.2) fun x8 => bnd (app s3.1 [toU8 x8]) fun x10 => some x10) (some s3.1)) fun v11 => self4 (v11, w64 (s3.2 - 8))) (some s3.1)) = A
  generalize hB : (fun (self4 : S_api_Option → Option (List UInt8)) (s3 : S_api_Option) => cond (decide (0 < s3.1)) (bnd (app [toU8 s3.1] s3.2) fun x7 => bnd (Gk.shr s3.1 ((UInt64.toNat 8 : Nat) : Int)) fun x8 => self4 (x8, x7)) (some s3.2)) = B
  have fz : ∀ (f : Nat) (l : List UInt8), loopF B (f + 1) (0, l) = some l := fun f l => by rw [← hB]; rfl
  have f1 : ∀ (f k : Nat) (l : List UInt8), 0 < k → l.length ≤ 10 → loopF B (f + 1) ((k : Int), l) = loopF B f (((k / 256 : Nat) : Int), UInt8.ofNat k :: l) := fun f k l hk hl => by
    rw [loopF_succ]
    conv => lhs; rw [← hB]
    simp only [show decide ((0 : Int) < (k : Int)) = true from decide_eq_true (by omega), cd_t, toU8_ofNat]
    rw [hB, app_some' (by simp; omega), bnd_s, shr8, bnd_s, show (k : Int) / 256 = ((k / 256 : Nat) : Int) by omega]
    rfl
  have gz : ∀ (f : Nat) (l : List UInt8), loopF A (f + 1) (l, -8) = some l := fun f l => by rw [← hA]; rfl
  have g : ∀ (s : Nat) (f : Nat) (l : List UInt8), s ≤ 24 → l.length ≤ 10 → loopF A (f + 1) (l, (s : Int)) = loopF A f (if 0 < n / 2 ^ s then l ++ [UInt8.ofNat (n / 2 ^ s)] else l, (s : Int) - 8) := fun s f l hs hl => by
    rw [loopF_succ]
    conv => lhs; rw [← hA]
    have hsn := shr_nat (a := n) (b := s) (by omega)
    simp only [show decide ((0 : Int) ≤ (s : Int)) = true by simp, cd_t, hsn, bnd_s, w64_of (x := (s : Int) - 8) (by omega) (by omega)]
    rw [hA]
    by_cases hq : 0 < n / 2 ^ s
    · have : decide ((0 : Int) < ((n / 2 ^ s : Nat) : Int)) = true := by simp only [decide_eq_true_eq]; omega
      rw [this, cd_t, toU8_ofNat, app_some' (by simp; omega), bnd_s, bnd_s, if_pos hq]
    · have : decide ((0 : Int) < ((n / 2 ^ s : Nat) : Int)) = false := by simp only [decide_eq_false_iff_not]; omega
      rw [this, cd_f, bnd_s, if_neg hq]
  have q24 : ∀ (f : Nat) (l : List UInt8), l.length ≤ 10 → loopF A (f + 1) (l, 24) = loopF A f (if 0 < n / 16777216 then l ++ [UInt8.ofNat (n / 16777216)] else l, 16) := fun f l hl => g 24 f l (by omega) hl
  have q16 : ∀ (f : Nat) (l : List UInt8), l.length ≤ 10 → loopF A (f + 1) (l, 16) = loopF A f (if 0 < n / 65536 then l ++ [UInt8.ofNat (n / 65536)] else l, 8) := fun f l hl => g 16 f l (by omega) hl
  have q8 : ∀ (f : Nat) (l : List UInt8), l.length ≤ 10 → loopF A (f + 1) (l, 8) = loopF A f (if 0 < n / 256 then l ++ [UInt8.ofNat (n / 256)] else l, 0) := fun f l hl => g 8 f l (by omega) hl
  have q0 : ∀ (f : Nat) (l : List UInt8), l.length ≤ 10 → loopF A (f + 1) (l, 0) = loopF A f (if 0 < n / 1 then l ++ [UInt8.ofNat (n / 1)] else l, -8) := fun f l hl => g 0 f l (by omega) hl
  have il : ∀ (p : Prop) [Decidable p] (l : List UInt8) (x : UInt8) (k : Nat), l.length ≤ k → (if p then l ++ [x] else l).length ≤ k + 1 := fun p _ l x k h => by
    split
    · simp; omega
    · omega
  have l1 := il (0 < n / 16777216) [] (UInt8.ofNat (n / 16777216)) 0 (by simp)
  have l2 := il (0 < n / 65536) _ (UInt8.ofNat (n / 65536)) 1 l1
  have l3 := il (0 < n / 256) _ (UInt8.ofNat (n / 256)) 2 l2
  rw [fuel6, q24 _ [] (by simp), q16 _ _ (by omega), q8 _ _ (by omega), q0 _ _ (by omega), gz]
  clear l1 l2 l3 il
  rw [Nat.div_one]
  rcases Nat.lt_or_ge n 1 with h0 | h0
  · obtain rfl : n = 0 := by omega
    exact ⟨[], rfl, by rw [show ((0 : Nat) : Int) = 0 from rfl, fz]; rfl, by simp⟩
  rcases Nat.lt_or_ge n 256 with h1 | h1
  · simp only [if_neg (show ¬ 0 < n / 16777216 by omega), if_neg (show ¬ 0 < n / 65536 by omega), if_neg (show ¬ 0 < n / 256 by omega), if_pos (show 0 < n by omega)]
    refine ⟨_, rfl, ?_, by simp⟩
    rw [f1 _ n [] (by omega) (by simp), show n / 256 = 0 by omega, show ((0 : Nat) : Int) = 0 from rfl, fz]
    rfl
  rcases Nat.lt_or_ge n 65536 with h2 | h2
  · simp only [if_neg (show ¬ 0 < n / 16777216 by omega), if_neg (show ¬ 0 < n / 65536 by omega), if_pos (show 0 < n / 256 by omega), if_pos (show 0 < n by omega)]
    refine ⟨_, rfl, ?_, by simp⟩
    rw [f1 _ _ [] (by omega) (by simp), f1 _ _ _ (by omega) (by simp), show n / 256 / 256 = 0 by omega, show ((0 : Nat) : Int) = 0 from rfl, fz]
    rfl
  rcases Nat.lt_or_ge n 16777216 with h3 | h3
  · simp only [if_neg (show ¬ 0 < n / 16777216 by omega), if_pos (show 0 < n / 65536 by omega), if_pos (show 0 < n / 256 by omega), if_pos (show 0 < n by omega)]
    refine ⟨_, rfl, ?_, by simp⟩
    rw [f1 _ _ [] (by omega) (by simp), f1 _ _ _ (by omega) (by simp), f1 _ _ _ (by omega) (by simp), show n / 256 / 256 / 256 = 0 by omega, Nat.div_div_eq_div_mul, show ((0 : Nat) : Int) = 0 from rfl, fz]
    rfl
  · have ed : n / 256 / 256 / 256 = n / 16777216 := by omega
    have ed2 : n / 256 / 256 = n / 65536 := by omega
    simp only [if_pos (show 0 < n / 16777216 by omega), if_pos (show 0 < n / 65536 by omega), if_pos (show 0 < n / 256 by omega), if_pos (show 0 < n by omega)]
    refine ⟨_, rfl, ?_, by simp⟩
    rw [f1 _ _ [] (by omega) (by simp), f1 _ _ _ (by omega) (by simp), f1 _ _ _ (by omega) (by simp), f1 _ _ _ (by omega) (by simp), show n / 256 / 256 / 256 / 256 = 0 by omega, ed, ed2, show ((0 : Nat) : Int) = 0 from rfl, fz]
    rfl
/-- The shortest bytes of any number, none of one out of range. -/
theorem fromUint_any (n : Int) : ∃ l, m_option_FromUint n = some l ∧ m_coresecref16_FromUint n = some l ∧ l.length ≤ 4 := by
  by_cases h : n < 0
  · refine ⟨[], ?_, ?_, by simp⟩
    · unfold m_option_FromUint; rw [letm_e, decide_eq_true h]; rfl
    · unfold m_coresecref16_FromUint; rw [letm_e, decide_eq_true h]; rfl
  · by_cases h2 : 4294967295 < n
    · refine ⟨[], ?_, ?_, by simp⟩
      · unfold m_option_FromUint; rw [letm_e, decide_eq_false h, cd_f, letm_e, decide_eq_true h2]; rfl
      · unfold m_coresecref16_FromUint; rw [letm_e, decide_eq_false h, cd_f, letm_e, decide_eq_true h2]; rfl
    · obtain ⟨k, rfl⟩ : ∃ k : Nat, n = (k : Int) := ⟨n.toNat, by omega⟩
      exact fromUint_eq k (by omega)
theorem coap_valid_cond (m : S_api_Message) : m_coap_Valid m = cond (sndM m) (bnd (m_coap_encode m) fun x => some (decide ((x.length : Int) ≤ 4096))) (some false) := by
  unfold m_coap_Valid
  rw [sound_eq, bnd_s]; first | rfl | (cases sndM m <;> first | rfl | (cases m_coap_encode m <;> rfl))
theorem ref_valid_cond (m : S_api_Message) : m_coresecref15_Valid m = cond (sndM m) (bnd (m_coresecref15_Raw m) fun x => some (decide ((x.length : Int) ≤ 4096))) (some false) := by
  unfold m_coresecref15_Valid sndM clsB
  have hp : decide ((m.2.2.2.2.2.length : Int) ≤ 4096) = !(decide (4096 < (m.2.2.2.2.2.length : Int))) := by
    by_cases h : (m.2.2.2.2.2.length : Int) ≤ 4096
    · rw [decide_eq_true h, decide_eq_false (by omega)]; rfl
    · rw [decide_eq_false h, decide_eq_true (by omega)]; rfl
  rw [hp]
  simp only [letm_e, cd_or, cd_and, bnd_s, opts_loop, bne]
  by_cases hneg : m.2.1 < 0
  · simp only [decide_eq_true hneg, Bool.true_or, Bool.or_true, Bool.not_true, Bool.and_false, Bool.false_and, cd_f, cd_t]
  obtain ⟨c, hc⟩ : ∃ c : Nat, m.2.1 = (c : Int) := ⟨m.2.1.toNat, by omega⟩
  by_cases hbig : 255 < m.2.1
  · simp only [decide_eq_true hbig, Bool.true_or, Bool.or_true, Bool.not_true, Bool.and_false, Bool.false_and, cd_f, cd_t]
  have hq : quo m.2.1 32 = some (m.2.1 / 32) := by
    rw [hc]
    have := quo_nat (a := c) (b := 32) (by omega) (by omega)
    rw [show ((32 : Nat) : Int) = 32 from rfl] at this
    rw [this]; congr 1
  rw [hq]
  simp only [bnd_s]
  generalize m.2.1 / 32 = x1
  generalize (bnd (m_coresecref15_Raw m) fun x => some (decide ((x.length : Int) ≤ 4096))) = R
  simp only [decide_eq_false hneg, decide_eq_false hbig]
  generalize decide (m.1 < 0) = b1
  generalize decide (3 < m.1) = b2
  generalize decide (m.2.2.1 < 0) = b5
  generalize decide (65535 < m.2.2.1) = b6
  generalize decide (8 < (m.2.2.2.1.length : Int)) = b7
  generalize decide (32 < (m.2.2.2.2.1.length : Int)) = b8
  generalize optsB 0 m.2.2.2.2.1 = b9
  generalize decide (4096 < (m.2.2.2.2.2.length : Int)) = b10
  simp only [Bool.false_or, Bool.not_false, Bool.and_true]
  cases b1 <;> simp only [Bool.not_true, Bool.not_false, Bool.false_and, Bool.true_and, Bool.true_or, Bool.false_or, cd_t, cd_f]
  cases b2 <;> simp only [Bool.not_true, Bool.not_false, Bool.false_and, Bool.true_and, Bool.true_or, Bool.false_or, cd_t, cd_f]
  cases b5 <;> simp only [Bool.not_true, Bool.not_false, Bool.false_and, Bool.and_true, Bool.and_false, Bool.true_or, Bool.false_or, cd_t, cd_f]
  cases b6 <;> simp only [Bool.not_true, Bool.not_false, Bool.false_and, Bool.and_true, Bool.and_false, Bool.true_or, Bool.false_or, cd_t, cd_f]
  cases b7 <;> simp only [Bool.not_true, Bool.not_false, Bool.false_and, Bool.and_true, Bool.and_false, Bool.true_or, Bool.false_or, cd_t, cd_f]
  cases b8 <;> simp only [Bool.not_true, Bool.not_false, Bool.false_and, Bool.and_true, Bool.and_false, Bool.true_or, Bool.false_or, cd_t, cd_f]
  cases b10 <;> simp only [Bool.not_true, Bool.not_false, Bool.and_true, Bool.and_false, cd_t, cd_f]
  cases b9 <;> simp only [Bool.false_and, Bool.and_true, Bool.and_false, cd_t, cd_f]
  · cases x1 == 0 <;> cases x1 == 2 <;> cases x1 == 4 <;> cases x1 == 5 <;> rfl
  · cases x1 == 0 <;> cases x1 == 2 <;> cases x1 == 4 <;> cases x1 == 5 <;> cases m.2.1 == 0 <;> cases m.1 == 3 <;> cases decide (0 < w64 (w64 ((m.2.2.2.1.length : Int) + (m.2.2.2.2.1.length : Int)) + (m.2.2.2.2.2.length : Int))) <;> rfl
/-- What is known of a message that may be. -/
theorem optsB_len : ∀ {l : List S_api_Option} {n : Int}, optsB n l = true → ∀ o ∈ l, o.2.length ≤ 1034 ∧ 0 ≤ o.1 - n ∧ o.1 ≤ 65535
  | [], _, _, o, ho => by simp at ho
  | x :: l, n, h, o, ho => by
    simp only [optsB, Bool.and_eq_true, Bool.not_eq_true', decide_eq_false_iff_not] at h
    obtain ⟨⟨⟨h1, h2⟩, h3⟩, h4⟩ := h
    rcases List.mem_cons.1 ho with rfl | ho
    · exact ⟨by omega, by omega, by omega⟩
    · obtain ⟨a, b, c⟩ := optsB_len h4 o ho
      exact ⟨a, by omega, c⟩
structure SndM (m : S_api_Message) : Prop where
  t0 : 0 ≤ m.1
  t3 : m.1 ≤ 3
  c0 : 0 ≤ m.2.1
  c255 : m.2.1 ≤ 255
  i0 : 0 ≤ m.2.2.1
  i65535 : m.2.2.1 ≤ 65535
  tok : m.2.2.2.1.length ≤ 8
  ol : m.2.2.2.2.1.length ≤ 32
  ob : optsB 0 m.2.2.2.2.1 = true
  pay : m.2.2.2.2.2.length ≤ 4096
theorem sndM_facts {m : S_api_Message} (h : sndM m = true) : SndM m := by
  unfold sndM at h
  simp only [Bool.and_eq_true, Bool.not_eq_true', decide_eq_false_iff_not, decide_eq_true_eq] at h
  obtain ⟨⟨⟨⟨⟨⟨⟨⟨⟨⟨⟨⟨h1, h2⟩, h3⟩, h4⟩, _⟩, h5⟩, h6⟩, h7⟩, h8⟩, h9⟩, _⟩, _⟩, h10⟩ := h
  exact ⟨by omega, by omega, by omega, by omega, by omega, by omega, by omega, by omega, h9, by omega⟩
theorem SndM.len {m : S_api_Message} (h : SndM m) : LenM m := ⟨by have := h.tok; omega, ⟨by have := h.ol; omega, fun o ho => by have := (optsB_len h.ob o ho).1; omega⟩, by have := h.pay; omega⟩
theorem valid_same (m : S_api_Message) : m_coap_Valid m = m_coresecref15_Valid m := by
  rw [coap_valid_cond, ref_valid_cond]
  cases h : sndM m with
  | false => rfl
  | true =>
    have := sndM_facts h
    rw [encode_raw m this.t0 this.t3 this.tok]
/-! ### The bytes -/
def extS (d : Int) : S_api_Option := bif decide (d < 13) then (d, []) else bif decide (d < 269) then (13, [toU8 (w64 (d - 13))]) else (14, [toU8 (w64 (d - 269) / 256), toU8 (w64 (d - 269))])
theorem ext_eq (d : Int) : m_coresecref15_extended d = some (extS d) := by
  unfold m_coresecref15_extended extS
  simp only [letm_e, shr8, bnd_s]
  cases decide (d < 13) <;> cases decide (d < 269) <;> rfl
theorem extS_len (d : Int) : (extS d).2.length ≤ 2 := by
  unfold extS
  cases decide (d < 13) <;> cases decide (d < 269) <;> simp
def rawO : Int → List S_api_Option → List UInt8
  | _, [] => []
  | n, o :: r => toU8 (w64 (w64 (16 * (extS (w64 (o.1 - n))).1) + (extS (o.2.length : Int)).1)) :: ((extS (w64 (o.1 - n))).2 ++ ((extS (o.2.length : Int)).2 ++ (o.2 ++ rawO o.1 r)))
def rawT (p : List UInt8) : List UInt8 := bif decide (0 < (p.length : Int)) then 255 :: p else []
def rawS (m : S_api_Message) : List UInt8 :=
  [toU8 (w64 (w64 (64 + w64 (16 * m.1)) + (m.2.2.2.1.length : Int))), toU8 m.2.1, toU8 (m.2.2.1 / 256), toU8 m.2.2.1] ++ (m.2.2.2.1 ++ (rawO 0 m.2.2.2.2.1 ++ rawT m.2.2.2.2.2))
def szO (l : List S_api_Option) : Nat := (l.map fun o => o.2.length + 5).sum
theorem szO_cons (o : S_api_Option) (l : List S_api_Option) : szO (o :: l) = o.2.length + 5 + szO l := by unfold szO; simp
theorem szO_le {l : List S_api_Option} {b : Nat} (h : ∀ o ∈ l, o.2.length ≤ b) : szO l ≤ l.length * (b + 5) := by
  induction l with
  | nil => simp [szO]
  | cons o l ih =>
    have h1 := h o (by simp)
    have h2 := ih fun x hx => h x (by simp [hx])
    rw [szO_cons, List.length_cons, Nat.succ_mul]; omega
theorem rawO_len : ∀ (l : List S_api_Option) (n : Int), (rawO n l).length ≤ szO l
  | [], _ => by simp [rawO]
  | o :: l, n => by
    have h1 := extS_len (w64 (o.1 - n))
    have h2 := extS_len (o.2.length : Int)
    have h3 := rawO_len l o.1
    rw [szO_cons]
    simp only [rawO, List.length_cons, List.length_append]; omega
theorem raw_loop (p : List UInt8) (hp : p.length ≤ 1000000) : ∀ (xs : List S_api_Option) (k : Nat) (b : List UInt8) (n : Int), b.length + szO xs ≤ 1000000000 → loopL (R := (List UInt8)) (S := ((List UInt8) × Int)) (α := S_api_Option)
    (fun _ s11 => bnd (β := (List UInt8)) (letm (decide (0 < (p.length : Int))) fun x12 => cond x12 (bnd (app s11.1 [255]) fun x13 => bnd (app x13 p) fun x14 => some x14) (some s11.1)) fun v15 => some v15)
    (fun x16 _ s18 self19 => letm ((w64 (x16.1 - s18.2))) fun x20 => bnd (m_coresecref15_extended x20) fun x21 => bnd (m_coresecref15_extended (x16.2.length : Int)) fun x22 => letm ((w64 (16 * x21.1))) fun x23 => letm ((w64 (x23 + x22.1))) fun x24 => letm ((toU8 x24)) fun x25 =>
      bnd (app s18.1 [x25]) fun x26 => bnd (app x26 x21.2) fun x27 => bnd (app x27 x22.2) fun x28 => bnd (app x28 x16.2) fun x29 => self19 (x29, x16.1)) xs k (b, n) = some (b ++ (rawO n xs ++ rawT p))
  | [], k, b, n, h => by
    rw [loopL_nil, letm_e]
    unfold rawT
    cases hd : decide (0 < (p.length : Int)) with
    | false => simp [rawO, bnd_s, cd_f]
    | true =>
      rw [cd_t, app_some' (by simp; simp [szO] at h; omega), bnd_s, app_some' (by simp; simp [szO] at h; omega)]
      simp [rawO, bnd_s]
  | x :: xs, k, b, n, h => by
    rw [szO_cons] at h
    have h1 := extS_len (w64 (x.1 - n))
    have h2 := extS_len (x.2.length : Int)
    rw [loopL_cons]
    simp only [letm_e, ext_eq, bnd_s]
    rw [app_some' (by simp; omega), bnd_s, app_some' (by simp; omega), bnd_s, app_some' (by simp; omega), bnd_s, app_some' (by simp; omega), bnd_s]
    have ih := raw_loop p hp xs (k + 1) (b ++ [toU8 (w64 (w64 (16 * (extS (w64 (x.1 - n))).1) + (extS (x.2.length : Int)).1))] ++ (extS (w64 (x.1 - n))).2 ++ (extS (x.2.length : Int)).2 ++ x.2) x.1 (by simp; omega)
    simp only [letm_e, ext_eq, bnd_s] at ih
    rw [ih]
    simp [rawO]
theorem raw_eq {m : S_api_Message} (h1 : m.2.2.2.1.length ≤ 1000000) (h2 : szO m.2.2.2.2.1 ≤ 900000000) (h3 : m.2.2.2.2.2.length ≤ 1000000) : m_coresecref15_Raw m = some (rawS m) := by
  unfold m_coresecref15_Raw
  simp only [letm_e, shr8, bnd_s]
  rw [app_some' (by simp; omega), bnd_s]
  have := raw_loop m.2.2.2.2.2 h3 m.2.2.2.2.1 0 ([toU8 (w64 (w64 (64 + w64 (16 * m.1)) + (m.2.2.2.1.length : Int))), toU8 m.2.1, toU8 (m.2.2.1 / 256), toU8 m.2.2.1] ++ m.2.2.2.1) 0 (by simp; omega)
  simp only [letm_e] at this
  rw [this]
  unfold rawS
  simp
theorem SndM.sz {m : S_api_Message} (h : SndM m) : szO m.2.2.2.2.1 ≤ 33248 := by
  have h1 := szO_le (l := m.2.2.2.2.1) (b := 1034) fun o ho => (optsB_len h.ob o ho).1
  have h2 := Nat.mul_le_mul_right 1039 h.ol
  omega
theorem SndM.raw {m : S_api_Message} (h : SndM m) : m_coresecref15_Raw m = some (rawS m) := raw_eq (by have := h.tok; omega) (by have := h.sz; omega) (by have := h.pay; omega)
/-- Valid messages. -/
def valM (m : S_api_Message) : Bool := sndM m && decide (((rawS m).length : Int) ≤ 4096)
theorem ref_valid_eq (m : S_api_Message) : m_coresecref15_Valid m = some (valM m) := by
  rw [ref_valid_cond]
  unfold valM
  cases h : sndM m with
  | false => rfl
  | true => rw [cd_t, (sndM_facts h).raw, bnd_s, Bool.true_and]
theorem coap_valid_eq (m : S_api_Message) : m_coap_Valid m = some (valM m) := by rw [valid_same, ref_valid_eq]
theorem valM_snd {m : S_api_Message} (h : valM m = true) : SndM m := by
  unfold valM at h; rw [Bool.and_eq_true] at h; exact sndM_facts h.1
/-- A valid message of a code but 0 stays valid without type, number and token. -/
theorem valM_bare {m : S_api_Message} (h : valM m = true) (hc : (m.2.1 == 0) = false) : valM (0, (m.2.1, (0, ([], (m.2.2.2.2.1, m.2.2.2.2.2))))) = true := by
  unfold valM at h ⊢
  rw [Bool.and_eq_true] at h ⊢
  obtain ⟨h1, h2⟩ := h
  refine ⟨?_, ?_⟩
  · unfold sndM at h1 ⊢
    simp only [Bool.and_eq_true, Bool.not_eq_true', decide_eq_false_iff_not, decide_eq_true_eq] at h1 ⊢
    obtain ⟨⟨⟨⟨⟨⟨⟨⟨⟨⟨⟨⟨h1, h2⟩, h3⟩, h4⟩, h11⟩, h5⟩, h6⟩, h7⟩, h8⟩, h9⟩, _⟩, _⟩, h10⟩ := h1
    refine ⟨⟨⟨⟨⟨⟨⟨⟨⟨⟨⟨⟨by decide, by decide⟩, h3⟩, h4⟩, h11⟩, by decide⟩, by decide⟩, by simp⟩, h8⟩, h9⟩, ?_⟩, by rfl⟩, h10⟩
    rw [hc]; rfl
  · simp only [decide_eq_true_eq] at h2 ⊢
    have e : (rawS (0, (m.2.1, (0, ([], (m.2.2.2.2.1, m.2.2.2.2.2)))))).length ≤ (rawS m).length := by
      unfold rawS; simp
    omega
def uintN : Nat → List UInt8 → Int × Int
  | s, [] => ((s : Int), 0)
  | s, c :: r => bif decide (4294967295 < s * 256 + c.toNat) then (0, 8) else uintN (s * 256 + c.toNat) r
theorem or_byte {a b : Nat} (hb : b < 256) : (a * 256) ||| b = a * 256 + b := by
  have := Nat.shiftLeft_add_eq_or_of_lt (b := b) (i := 8) (by omega) a
  rw [Nat.shiftLeft_eq] at this
  exact this.symm
theorem uint_go : ∀ (xs : List UInt8) (k s : Nat), s ≤ 4294967295 → loopL (R := (Int × Int)) (S := Int) (α := UInt8) (fun _ s2 => some (s2, 0))
    (fun x3 _ s5 self6 => bnd (Gk.shl s5 ((UInt64.toNat 8 : Nat) : Int)) fun x7 => letm ((w64 (UInt8.toNat x3 : Int))) fun x8 => letm ((ibit .or x7 x8)) fun x9 => letm (decide (4294967295 < x9)) fun x10 => cond x10 (some (0, 8)) (self6 x9)) xs k (s : Int) = some (uintN s xs)
  | [], _, _, _ => rfl
  | c :: xs, k, s, h => by
    have hc : c.toNat < 256 := UInt8.toNat_lt c
    have e1 : Gk.shl (s : Int) ((UInt64.toNat 8 : Nat) : Int) = some ((s * 256 : Nat) : Int) := shl_nat (b := 8) (by omega) (by omega)
    have e2 : w64 (c.toNat : Int) = (c.toNat : Int) := w64_of (by omega) (by omega)
    rw [loopL_cons, e1, bnd_s, letm_e, letm_e, letm_e, e2, or_nat (by omega) (by omega), or_byte hc]
    unfold uintN
    by_cases hq : 4294967295 < s * 256 + c.toNat
    · rw [decide_eq_true (show (4294967295 : Int) < ((s * 256 + c.toNat : Nat) : Int) by omega), decide_eq_true hq]; rfl
    · rw [decide_eq_false (show ¬ (4294967295 : Int) < ((s * 256 + c.toNat : Nat) : Int) by omega), decide_eq_false hq]
      exact uint_go xs (k + 1) _ (by omega)
theorem uint_eq (l : List UInt8) : m_option_Uint l = some (uintN 0 l) := uint_go l 0 0 (by omega)
theorem uint_ref_eq (l : List UInt8) : m_coresecref16_Uint l = some (uintN 0 l) := uint_go l 0 0 (by omega)
theorem uintN_rng : ∀ (l : List UInt8) (s : Nat), s ≤ 4294967295 → 0 ≤ (uintN s l).1 ∧ (uintN s l).1 ≤ 4294967295
  | [], s, h => by unfold uintN; exact ⟨by show 0 ≤ (s : Int); omega, by show (s : Int) ≤ _; omega⟩
  | c :: l, s, h => by
    unfold uintN
    by_cases hq : 4294967295 < s * 256 + c.toNat
    · rw [decide_eq_true hq, cond_true]; exact ⟨by decide, by decide⟩
    · rw [decide_eq_false hq]; exact uintN_rng l _ (by omega)
theorem uintN_short : ∀ (l : List UInt8), l.length ≤ 3 → ∃ v : Nat, v < 16777216 ∧ uintN 0 l = ((v : Int), 0)
  | [], _ => ⟨0, by omega, rfl⟩
  | [a], _ => by
    have := UInt8.toNat_lt a
    refine ⟨0 * 256 + a.toNat, by omega, ?_⟩
    simp only [uintN]
    rw [decide_eq_false (by omega)]; rfl
  | [a, b], _ => by
    have h1 := UInt8.toNat_lt a
    have h2 := UInt8.toNat_lt b
    refine ⟨(0 * 256 + a.toNat) * 256 + b.toNat, by omega, ?_⟩
    simp only [uintN]
    rw [decide_eq_false (by omega), cond_false, decide_eq_false (by omega), cond_false]
  | [a, b, c], _ => by
    have h1 := UInt8.toNat_lt a
    have h2 := UInt8.toNat_lt b
    have h3 := UInt8.toNat_lt c
    refine ⟨((0 * 256 + a.toNat) * 256 + b.toNat) * 256 + c.toNat, by omega, ?_⟩
    simp only [uintN]
    rw [decide_eq_false (by omega), cond_false, decide_eq_false (by omega), cond_false, decide_eq_false (by omega), cond_false]
  | _ :: _ :: _ :: _ :: _, h => by simp at h
/-- What a block's value means. -/
def parseS (l : List UInt8) : S_api_Block × Int :=
  bif decide (3 < (l.length : Int)) then ((0, (false, 0)), 4) else
    bif ((uintN 0 l).1 % 8 == 7) then ((0, (false, 0)), 4) else (((uintN 0 l).1 / 16, ((uintN 0 l).1 / 8 % 2 == 1, (uintN 0 l).1 % 8)), 0)
theorem parse_eq (l : List UInt8) : m_block_Parse l = some (parseS l) ∧ m_coresecref18_Parse l = some (parseS l) := by
  unfold m_block_Parse m_coresecref18_Parse parseS
  rw [uint_eq, bnd_s, uint_ref_eq]
  by_cases hl : 3 < (l.length : Int)
  · simp only [letm_e, decide_eq_true hl]; exact ⟨rfl, rfl⟩
  · obtain ⟨v, hv, hu⟩ := uintN_short l (by omega)
    rw [hu]
    have a7 : ibit .and (v : Int) 7 = ((v % 8 : Nat) : Int) := by
      have := and_nat (a := v) (b := 7) (by omega) (by omega)
      rw [show ((7 : Nat) : Int) = 7 from rfl] at this
      rw [this, show (7 : Nat) = 2 ^ 3 - 1 from rfl, Nat.and_two_pow_sub_one_eq_mod]
    have a8 : ibit .and (v : Int) 8 = ((v / 8 % 2 * 8 : Nat) : Int) := by
      have := and_nat (a := v) (b := 8) (by omega) (by omega)
      rw [show ((8 : Nat) : Int) = 8 from rfl] at this
      rw [this]
      have h1 : v &&& 8 ≤ 8 := Nat.and_le_right
      have h2 : (v &&& 8) % 2 ^ 4 = (v % 2 ^ 4) &&& (8 % 2 ^ 4) := Nat.and_mod_two_pow
      have h3 : ∀ s < 16, s &&& (8 % 2 ^ 4) = s / 8 % 2 * 8 := by decide
      rw [h3 (v % 2 ^ 4) (Nat.mod_lt _ (by decide))] at h2
      omega
    have r8 : Gk.rem (v : Int) 8 = some ((v % 8 : Nat) : Int) := rem_nat (b := 8) (by omega)
    have q16 : quo (v : Int) 16 = some ((v / 16 : Nat) : Int) := quo_nat (b := 16) (by omega) (by omega)
    have q8 : quo (v : Int) 8 = some ((v / 8 : Nat) : Int) := quo_nat (b := 8) (by omega) (by omega)
    have r2 : Gk.rem ((v / 8 : Nat) : Int) 2 = some ((v / 8 % 2 : Nat) : Int) := rem_nat (b := 2) (by omega)
    have s4 : Gk.shr (v : Int) ((UInt64.toNat 4 : Nat) : Int) = some ((v / 16 : Nat) : Int) := shr_nat (b := 4) (by omega)
    have d0 : ((0 : Int) != 0) = false := rfl
    have m8 : (v : Int) % 8 = ((v % 8 : Nat) : Int) := by omega
    have d16 : (v : Int) / 16 = ((v / 16 : Nat) : Int) := by omega
    have d8 : (v : Int) / 8 % 2 = ((v / 8 % 2 : Nat) : Int) := by omega
    simp only [letm_e, decide_eq_false hl, cd_f, d0, a7, a8, r8, q16, q8, r2, s4, bnd_s, m8, d16, d8]
    cases h7 : ((v % 8 : Nat) : Int) == 7 with
    | true => exact ⟨rfl, rfl⟩
    | false =>
      have : v / 8 % 2 = 0 ∨ v / 8 % 2 = 1 := by omega
      rcases this with h | h <;> rw [h] <;> exact ⟨rfl, rfl⟩
theorem mod_some (a : Int) {m : Int} (h0 : 0 < m) (h1 : m < 4611686018427387904) : ∃ y, m_coresecmake_Mod a m = some y ∧ 0 ≤ y ∧ y < m := by
  obtain ⟨q, hq, l1, l2⟩ := rem_some (a := a) h0
  unfold m_coresecmake_Mod
  rw [hq, bnd_s, letm_e]
  by_cases h : q < 0
  · rw [decide_eq_true h, cd_t, letm_e, bnd_s, w64_of (by omega) (by omega)]
    exact ⟨_, rfl, by omega, by omega⟩
  · rw [decide_eq_false h, cd_f, bnd_s]
    exact ⟨_, rfl, by omega, by omega⟩
structure DeckOK (d : S_coresecmake_Deck) : Prop where
  lo : 0 ≤ d.2
  hi : d.2 ≤ (d.1.length : Int)
  len : d.1.length ≤ maxLen
theorem new_ok {l : List Int} (h : l.length ≤ maxLen) : DeckOK (l, 0) := ⟨Int.le_refl _, by show (0 : Int) ≤ (l.length : Int); omega, h⟩
theorem next_some {d : S_coresecmake_Deck} (h : DeckOK d) {n : Int} (h0 : 0 < n) (h1 : n < 4611686018427387904) : ∃ v d', m_coresecmake_Deck_Next d n = some (v, d') ∧ 0 ≤ v ∧ v < n ∧ DeckOK d' := by
  have hm : maxLen = 9223372036854775807 := rfl
  have a := h.lo
  have b := h.hi
  have c := h.len
  unfold m_coresecmake_Deck_Next
  rw [letm_e]
  by_cases hq : (d.1.length : Int) ≤ d.2
  · rw [decide_eq_true hq, cd_t]
    exact ⟨0, d, rfl, Int.le_refl _, h0, h⟩
  · rw [decide_eq_false hq, cd_f, letm_e, letm_e, w64_of (x := d.2 + 1) (by omega) (by omega), w64_of (by omega) (by omega)]
    obtain ⟨i, hi⟩ : ∃ i : Nat, d.2 + 1 - 1 = (i : Int) := ⟨d.2.toNat, by omega⟩
    have hlt : i < d.1.length := by omega
    rw [hi, idx_some' (List.getElem?_eq_getElem hlt), bnd_s]
    obtain ⟨y, hy, y0, y1⟩ := mod_some d.1[i] h0 h1
    rw [hy, bnd_s]
    exact ⟨_, _, rfl, y0, y1, by show 0 ≤ d.2 + 1; omega, by show d.2 + 1 ≤ (d.1.length : Int); omega, c⟩
theorem bytes_go : ∀ (k f : Nat) (b : List UInt8) (d : S_coresecmake_Deck), k < f → DeckOK d → b.length + k ≤ 1000000 → ∃ z d', loopF (R := ((List UInt8) × S_coresecmake_Deck)) (S := ((List UInt8) × (Int × S_coresecmake_Deck))) (fun self5 s4 =>
     letm (decide (0 < s4.2.1)) fun x6 => cond x6 (bnd (m_coresecmake_Deck_Next s4.2.2 256) fun x7 => letm ((toU8 x7.1)) fun x8 => bnd (app s4.1 [x8]) fun x9 => letm ((w64 (s4.2.1 - 1))) fun x10 => self5 (x9, (x10, x7.2))) (some (s4.1, s4.2.2))) f (b, ((k : Int), d)) = some (z, d') ∧ z.length = b.length + k ∧ DeckOK d'
  | 0, f + 1, b, d, _, hd, _ => ⟨b, d, rfl, rfl, hd⟩
  | k + 1, f + 1, b, d, hf, hd, hl => by
    obtain ⟨v, d1, h1, _, _, h2⟩ := next_some hd (n := 256) (by omega) (by omega)
    rw [loopF_succ, letm_e]
    have e1 : decide ((0 : Int) < ((k + 1 : Nat) : Int)) = true := decide_eq_true (by omega)
    simp only [e1, cd_t]
    rw [h1, bnd_s, letm_e, app_some' (by simp; omega), bnd_s, letm_e, w64_of (by omega) (by omega), show (((k + 1 : Nat) : Int) - 1) = (k : Int) by omega]
    obtain ⟨z, d', h3, h4, h5⟩ := bytes_go k f (b ++ [toU8 v]) d1 (by omega) h2 (by simp; omega)
    exact ⟨z, d', h3, by simp at h4; omega, h5⟩
theorem bytes_some {d : S_coresecmake_Deck} (h : DeckOK d) {n : Int} (h0 : 0 ≤ n) (h1 : n ≤ 1000) : ∃ b d', m_coresecmake_Deck_Bytes d n = some (b, d') ∧ b.length ≤ 1000 ∧ DeckOK d' := by
  unfold m_coresecmake_Deck_Bytes
  rw [letm_e, w64_of (by omega) (by omega)]
  obtain ⟨v, d1, h2, v0, v1, h3⟩ := next_some h (n := n + 1) (by omega) (by omega)
  rw [h2, bnd_s]
  obtain ⟨k, rfl⟩ : ∃ k : Nat, v = (k : Int) := ⟨v.toNat, by omega⟩
  obtain ⟨z, d', h4, h5, h6⟩ := bytes_go k FUEL [] d1 (by rw [fuel_eq]; omega) h3 (by simp; omega)
  exact ⟨z, d', h4, by simp at h5; omega, h6⟩
/-- A small message. -/
structure Sz (k : Nat) (m : S_api_Message) : Prop where
  tok : m.2.2.2.1.length ≤ 1000
  ol : m.2.2.2.2.1.length ≤ k
  ov : ∀ o ∈ m.2.2.2.2.1, o.2.length ≤ 1000
  pay : m.2.2.2.2.2.length ≤ 1000
theorem Sz.len {k : Nat} {m : S_api_Message} (h : Sz k m) (hk : k ≤ 1000000) : LenM m :=
  ⟨by have := h.tok; omega, ⟨by have := h.ol; omega, fun o ho => by have := h.ov o ho; omega⟩, by have := h.pay; omega⟩
theorem setO_len (l : List S_api_Option) (n : Int) (vs : List (List UInt8)) : (setO l n vs).length ≤ l.length + vs.length := by
  unfold setO
  simp only [List.length_append, List.length_map]
  have a1 : (l.filter fun o => decide (o.1 < n)).length + (l.filter fun o => decide (n < o.1)).length ≤ l.length := by
    induction l with
    | nil => simp
    | cons x l ih =>
      simp only [List.filter_cons]
      by_cases h : x.1 < n
      · have : ¬ n < x.1 := by omega
        simp [h, this]; omega
      · by_cases h' : n < x.1 <;> simp [h, h'] <;> omega
  omega
theorem setO_mem {l : List S_api_Option} {n : Int} {vs : List (List UInt8)} {o : S_api_Option} (h : o ∈ setO l n vs) : o ∈ l ∨ ∃ v ∈ vs, o = (n, v) := by
  unfold setO at h
  simp only [List.mem_append, List.mem_filter, List.mem_map] at h
  rcases h with (⟨h, _⟩ | ⟨v, hv, rfl⟩) | ⟨h, _⟩
  · exact .inl h
  · exact .inr ⟨v, hv, rfl⟩
  · exact .inl h
theorem Sz.set {k j : Nat} {m : S_api_Message} (h : Sz k m) (n : Int) {vs : List (List UInt8)} (hk : k + j ≤ 100000) (hj : vs.length ≤ j) (hv : ∀ v ∈ vs, v.length ≤ 1000) :
    m_coresecref16_Set m n vs = some (withO m (setO m.2.2.2.2.1 n vs)) ∧ Sz (k + j) (withO m (setO m.2.2.2.2.1 n vs)) := by
  refine ⟨set_ref (h.len (by omega)) (by have := h.ol; omega) (by omega) fun v hv' => by have := hv v hv'; omega, h.tok, ?_, fun o ho => ?_, h.pay⟩
  · have := setO_len m.2.2.2.2.1 n vs
    have := h.ol
    show (setO m.2.2.2.2.1 n vs).length ≤ k + j
    omega
  · rcases setO_mem ho with ho | ⟨v, hv', rfl⟩
    · exact h.ov o ho
    · exact hv v hv'
theorem value18_some (b : S_api_Block) : ∃ r, m_coresecref18_Value b = some r ∧ r.1.length ≤ 4 := by
  unfold m_coresecref18_Value m_coresecref18_valid
  simp only [letm_e]
  have fin : ∀ z : Int, ∃ r : (List UInt8) × Int, (bnd (m_coresecref16_FromUint z) fun x7 => some (x7, (0 : Int))) = some r ∧ r.1.length ≤ 4 := fun z => by
    obtain ⟨l, _, h, h2⟩ := fromUint_any z
    rw [h]; exact ⟨_, rfl, h2⟩
  have no : ∃ r : (List UInt8) × Int, some (([] : List UInt8), (1 : Int)) = some r ∧ r.1.length ≤ 4 := ⟨_, rfl, by simp⟩
  cases decide (0 ≤ b.1) <;> cases decide (b.1 < 1048576) <;> cases decide (0 ≤ b.2.2) <;> cases decide (b.2.2 ≤ 6) <;> first | exact no | skip
  cases b.2.1
  · exact fin _
  · exact fin _
theorem idx_lit {α : Type} (l : List α) {v : Int} (h0 : 0 ≤ v) (h1 : v < (l.length : Int)) : ∃ x, idx l v = some x ∧ x ∈ l := by
  obtain ⟨i, rfl⟩ : ∃ i : Nat, v = (i : Int) := ⟨v.toNat, by omega⟩
  have hi : i < l.length := by omega
  exact ⟨l[i], idx_some' (List.getElem?_eq_getElem hi), List.getElem_mem hi⟩
theorem response_some {d : S_coresecmake_Deck} (h : DeckOK d) : ∃ m d', m_coresecmake_Deck_Response d = some (m, d') ∧ DeckOK d' ∧ Sz 3 m := by
  unfold m_coresecmake_Deck_Response
  obtain ⟨v1, d1, e1, _, _, h1⟩ := next_some h (n := 3) (by omega) (by omega)
  rw [e1, bnd_s]
  obtain ⟨v2, d2, e2, l2, u2, h2⟩ := next_some h1 (n := 5) (by omega) (by omega)
  rw [e2, bnd_s]
  obtain ⟨x3, e3, _⟩ := idx_lit ([69, 69, 69, 132, 68] : List Int) l2 (by show v2 < 5; omega)
  rw [e3, bnd_s]
  obtain ⟨v4, d4, e4, _, _, h4⟩ := next_some h2 (n := 99) (by omega) (by omega)
  rw [e4, bnd_s]
  obtain ⟨b5, d5, e5, l5, h5⟩ := bytes_some h4 (n := 2) (by omega) (by omega)
  rw [e5, bnd_s]
  obtain ⟨b6, d6, e6, l6, h6⟩ := bytes_some h5 (n := 6) (by omega) (by omega)
  rw [e6, bnd_s]
  have z0 : Sz 0 (v1, (x3, (v4, (b5, (([] : List S_api_Option), b6))))) := ⟨l5, by simp, by simp, l6⟩
  -- Max-Age
  obtain ⟨v7, d7, e7, _, _, h7⟩ := next_some h6 (n := 2) (by omega) (by omega)
  simp only [e7, bnd_s, letm_e]
  obtain ⟨d8, m8, e8, h8, z8⟩ : ∃ d8 m8, (cond (v7 == 0) (bnd (m_coresecmake_Deck_Next d7 5) fun x9 => bnd (idx [0, 1, 5, 40, 300] x9.1) fun x10 => bnd (m_coresecref16_FromUint x10) fun x11 => bnd (m_coresecref16_Set (v1, (x3, (v4, (b5, ([], b6))))) 14 [x11]) fun x12 => some (x9.2, x12)) (some (d7, (v1, (x3, (v4, (b5, ([], b6)))))))) = some (d8, m8) ∧ DeckOK d8 ∧ Sz 1 m8 := by
    cases v7 == 0 with
    | false => exact ⟨_, _, rfl, h7, z0.tok, by simp, z0.ov, z0.pay⟩
    | true =>
      obtain ⟨v9, d9, e9, l9, u9, h9⟩ := next_some h7 (n := 5) (by omega) (by omega)
      rw [cd_t, e9, bnd_s]
      obtain ⟨x10, e10, _⟩ := idx_lit ([0, 1, 5, 40, 300] : List Int) l9 (by show v9 < 5; omega)
      rw [e10, bnd_s]
      obtain ⟨l11, _, e11, l11l⟩ := fromUint_any x10
      obtain ⟨e12, z12⟩ := z0.set 14 (vs := [l11]) (j := 1) (by omega) (by simp) (by simp; omega)
      rw [e11, bnd_s, e12, bnd_s]
      exact ⟨_, _, rfl, h9, z12⟩
  rw [e8, bnd_s]
  -- a tag
  obtain ⟨v14, d14, e14, _, _, h14⟩ := next_some h8 (n := 2) (by omega) (by omega)
  simp only [e14, bnd_s]
  obtain ⟨d15, m15, e15, h15, z15⟩ : ∃ d15 m15, (cond (v14 == 0) (bnd (m_coresecmake_Deck_Next d14 3) fun x16 => bnd (m_coresecref16_Set m8 4 [[toU8 x16.1]]) fun x18 => some (x16.2, x18)) (some (d14, m8))) = some (d15, m15) ∧ DeckOK d15 ∧ Sz 2 m15 := by
    cases v14 == 0 with
    | false => exact ⟨_, _, rfl, h14, z8.tok, by have := z8.ol; omega, z8.ov, z8.pay⟩
    | true =>
      obtain ⟨v16, d16, e16, _, _, h16⟩ := next_some h14 (n := 3) (by omega) (by omega)
      obtain ⟨e17, z17⟩ := z8.set 4 (vs := [[toU8 v16]]) (j := 1) (by omega) (by simp) (by simp)
      rw [cd_t, e16, bnd_s, e17, bnd_s]
      exact ⟨_, _, rfl, h16, z17⟩
  rw [e15, bnd_s]
  obtain ⟨v20, d20, e20, _, _, h20⟩ := next_some h15 (n := 8) (by omega) (by omega)
  simp only [e20, bnd_s]
  cases v20 == 0 with
  | true =>
    obtain ⟨e22, z22⟩ := z15.set 6 (vs := [[1]]) (j := 1) (by omega) (by simp) (by simp)
    rw [cd_t, e22, bnd_s, bnd_s]
    exact ⟨_, _, rfl, h20, z22⟩
  | false =>
    rw [cd_f]
    cases v20 == 1 with
    | false => exact ⟨_, _, rfl, h20, z15.tok, by have := z15.ol; show m15.2.2.2.2.1.length ≤ 3; omega, z15.ov, z15.pay⟩
    | true =>
      obtain ⟨v24, d24, e24, _, _, h24⟩ := next_some h20 (n := 2) (by omega) (by omega)
      obtain ⟨v25, d25, e25, _, _, h25⟩ := next_some h24 (n := 2) (by omega) (by omega)
      obtain ⟨r, er, lr⟩ := value18_some (v24, (v25 == 0, 2))
      obtain ⟨e28, z28⟩ := z15.set 23 (vs := [r.1]) (j := 1) (by omega) (by simp) (by simp; omega)
      rw [cd_t, e24, bnd_s, e25, bnd_s, er, bnd_s, e28, bnd_s, bnd_s]
      exact ⟨_, _, rfl, h25, z28⟩
end Go.Proofs.YtcbkmlfkfhfliaaGreatDoor
