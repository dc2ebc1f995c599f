/-
  Options of messages, plain facts: option and its reference. Of the models alone; no program; no condition but the lengths told.
-/
import Derived.Test.YtdiidghfmpobaaaQ15
namespace Go.Proofs.Ytdiidghfmpobaaa
open Go.Gk Go.RowKit
def LenO (l : List S_api_Option) : Prop := l.length ≤ 1000000 ∧ ∀ o ∈ l, o.2.length ≤ 1000000
def LenM (m : S_api_Message) : Prop := m.2.2.2.1.length ≤ 1000000 ∧ LenO m.2.2.2.2.1 ∧ m.2.2.2.2.2.length ≤ 1000000
theorem clone_some {l : List UInt8} (h : l.length ≤ 1000000) : m_bytes_Clone l = some l := by
  unfold m_bytes_Clone; rw [app_some' (by simp; omega)]; rfl
theorem app_nil_some {α : Type} {l : List α} (h : l.length ≤ 1000000) : app [] l = some l := by
  rw [app_some' (by simp; omega)]; rfl
def getS (l : List S_api_Option) (n : Int) : List UInt8 × Bool := match l.find? (fun o => o.1 == n) with | some o => (o.2, true) | none => ([], false)
def allS (l : List S_api_Option) (n : Int) : List (List UInt8) := l.filterMap fun o => cond (o.1 == n) (some o.2) none
theorem get_go {n : Int} : ∀ (xs : List S_api_Option) (k : Nat), (∀ o ∈ xs, o.2.length ≤ 1000000) → loopL (R := ((List UInt8) × Bool)) (S := Unit) (α := S_api_Option) (fun _ _ => some ([], false))
    (fun x4 _ _ self7 => letm ((x4.1 == n)) fun x8 => cond x8 (bnd (m_bytes_Clone x4.2) fun x9 => some (x9, true)) (self7 ())) xs k () = some (getS xs n)
  | [], _, _ => rfl
  | x :: xs, k, h => by
    rw [loopL_cons, letm_e, clone_some (h x (by simp)), get_go xs (k + 1) fun o ho => h o (by simp [ho])]
    unfold getS
    rw [List.find?_cons]
    cases x.1 == n <;> rfl
theorem get_eq {m : S_api_Message} {n : Int} (h : LenO m.2.2.2.2.1) : m_option_Get m n = some (getS m.2.2.2.2.1 n) := get_go _ _ h.2
theorem all_eq {m : S_api_Message} {n : Int} (h : LenO m.2.2.2.2.1) : m_option_All m n = some (allS m.2.2.2.2.1 n) := by
  unfold m_option_All
  rw [loopL_filterMap (fun o : S_api_Option => cond (o.1 == n) (some o.2) none) _ _ _ (by have := h.1; simp; omega) fun o ho k s self => ?_]
  · rfl
  · rw [letm_e, clone_some (h.2 o ho)]
    cases o.1 == n
    · rfl
    · simp only [cd_t, bnd_s]
      cases app s [o.2] <;> rfl
theorem all_ref {m : S_api_Message} {n : Int} (h : LenO m.2.2.2.2.1) : m_coresecref16_All m n = some (allS m.2.2.2.2.1 n) := by
  unfold m_coresecref16_All
  rw [loopL_filterMap (fun o : S_api_Option => cond (o.1 == n) (some o.2) none) _ _ _ (by have := h.1; simp; omega) fun o ho k s self => ?_]
  · rfl
  · rw [letm_e, app_nil_some (h.2 o ho)]
    cases o.1 == n
    · rfl
    · simp only [cd_t, bnd_s]
      cases app s [o.2] <;> rfl
theorem allS_get (l : List S_api_Option) (n : Int) : (allS l n = [] ∧ getS l n = ([], false)) ∨ ∃ v r, allS l n = v :: r ∧ getS l n = (v, true) := by
  induction l with
  | nil => exact .inl ⟨rfl, rfl⟩
  | cons o l ih =>
    unfold allS getS at ih ⊢
    rw [List.filterMap_cons, List.find?_cons]
    cases o.1 == n with
    | true => exact .inr ⟨_, _, rfl, rfl⟩
    | false => exact ih
theorem get_ref {m : S_api_Message} {n : Int} (h : LenO m.2.2.2.2.1) : m_coresecref16_Get m n = some (getS m.2.2.2.2.1 n) := by
  unfold m_coresecref16_Get
  rw [all_ref h, bnd_s, letm_e]
  rcases allS_get m.2.2.2.2.1 n with ⟨h1, h2⟩ | ⟨v, r, h1, h2⟩
  · rw [h1, h2]; rfl
  · rw [h1, h2]
    have : (((v :: r).length : Int) == 0) = false := by simp; omega
    rw [this]; rfl
theorem uint_ref : m_option_Uint = m_coresecref16_Uint := rfl
def setO (l : List S_api_Option) (n : Int) (vs : List (List UInt8)) : List S_api_Option := l.filter (fun o => decide (o.1 < n)) ++ vs.map (fun v => (n, v)) ++ l.filter (fun o => decide (n < o.1))
def withO (m : S_api_Message) (l : List S_api_Option) : S_api_Message := (m.1, (m.2.1, (m.2.2.1, (m.2.2.2.1, (l, m.2.2.2.2.2)))))
theorem owned_eq {m : S_api_Message} {l : List S_api_Option} (h : LenM m) (hl : LenO l) : m_option_owned m l = some (withO m l) := by
  unfold m_option_owned
  rw [clone_some h.1, clone_some h.2.2, bnd_s, bnd_s]
  obtain ⟨h1, h2⟩ := loopL_fold (bn := fun k4 (s5 : S_api_Message × List S_api_Option) => some (s5.1.1, (s5.1.2.1, (s5.1.2.2.1, (s5.1.2.2.2.1, (s5.2, s5.1.2.2.2.2.2))))))
    (bs := fun (x6 : S_api_Option) k7 s8 self9 => bnd (m_bytes_Clone x6.2) fun x10 => bnd (app s8.2 [(x6.1, x10)]) fun x11 => self9 (s8.1, x11))
    (fun s o => (s.1, s.2 ++ [o])) (fun k s => s.2.length = k ∧ s.1 = (m.1, (m.2.1, (m.2.2.1, (m.2.2.2.1, ([], m.2.2.2.2.2)))))) l 0 ((m.1, (m.2.1, (m.2.2.1, (m.2.2.2.1, ([], m.2.2.2.2.2))))), [])
    (fun i x s self hx hs => by
      have hi := (List.getElem?_eq_some_iff.1 hx).1
      have := hl.1
      refine ⟨?_, by simp [hs.1], hs.2⟩
      rw [clone_some (hl.2 x (List.mem_of_getElem? hx)), bnd_s, app_some' (by simp only [List.length_cons, List.length_nil]; omega)]; rfl) ⟨rfl, rfl⟩
  rw [h1]
  have key : ∀ (l acc : List S_api_Option) (a : S_api_Message), l.foldl (fun (s : S_api_Message × List S_api_Option) o => (s.1, s.2 ++ [o])) (a, acc) = (a, acc ++ l) := by
    intro l
    induction l with
    | nil => intro acc a; simp
    | cons x l ih => intro acc a; rw [List.foldl_cons, ih]; simp
  rw [key]; rfl
theorem with_ref {m : S_api_Message} {l : List S_api_Option} (h : LenM m) (hl : LenO l) : m_coresecref16_with m l = some (withO m l) := by
  unfold m_coresecref16_with
  rw [app_nil_some h.1, app_nil_some h.2.2, bnd_s, bnd_s, loopL_map (fun o => o) _ _ _ (by have := hl.1; simp; omega) fun o ho k s self => ?_]
  · rw [List.map_id']; rfl
  · rw [app_nil_some (hl.2 o ho)]; rfl
theorem LenO.set {l : List S_api_Option} {n : Int} {vs : List (List UInt8)} (h1 : l.length ≤ 400000) (h2 : ∀ o ∈ l, o.2.length ≤ 1000000) (h3 : vs.length ≤ 400000) (h4 : ∀ v ∈ vs, v.length ≤ 1000000) : LenO (setO l n vs) := by
  refine ⟨?_, fun o ho => ?_⟩
  · unfold setO
    simp only [List.length_append, List.length_map]
    have a1 : (l.filter fun o => decide (o.1 < n)).length + (l.filter fun o => decide (n < o.1)).length ≤ l.length := by
      clear h1 h2
      induction l with
      | nil => simp
      | cons x l ih =>
        simp only [List.filter_cons]
        by_cases h : x.1 < n
        · have : ¬ n < x.1 := by omega
          simp [h, this]; omega
        · by_cases h' : n < x.1 <;> simp [h, h'] <;> omega
    omega
  · unfold setO at ho
    simp only [List.mem_append, List.mem_filter, List.mem_map] at ho
    rcases ho with (⟨ho, _⟩ | ⟨v, hv, rfl⟩) | ⟨ho, _⟩
    · exact h2 o ho
    · exact h4 v hv
    · exact h2 o ho
theorem set_eq {m : S_api_Message} {n : Int} {vs : List (List UInt8)} (h : LenM m) (h1 : m.2.2.2.2.1.length ≤ 400000) (h3 : vs.length ≤ 400000) (h4 : ∀ v ∈ vs, v.length ≤ 1000000) : m_option_Set m n vs = some (withO m (setO m.2.2.2.2.1 n vs)) := by
  have hL := LenO.set (n := n) h1 h.2.1.2 h3 h4
  unfold m_option_Set
  obtain ⟨e1, _, e2, e3⟩ := loopL_fold (bn := fun k3 (s4 : (List S_api_Option) × (List S_api_Option)) => loopL (R := S_api_Message) (S := (List S_api_Option)) (α := (List UInt8)) (fun k5 s6 => bnd (app s6 s4.2) fun x7 => bnd (m_option_owned m x7) fun x8 => some x8)
      (fun x9 k10 s11 self12 => bnd (app s11 [(n, x9)]) fun x13 => self12 x13) vs 0 s4.1)
    (bs := fun (x14 : S_api_Option) k15 s16 self17 => bnd (β := ((List S_api_Option) × (List S_api_Option))) (letm (decide (x14.1 < n)) fun x18 => cond x18 (bnd (app s16.1 [x14]) fun x19 => some (x19, s16.2)) (letm (decide (n < x14.1)) fun x20 => cond x20 (bnd (app s16.2 [x14]) fun x21 => some (s16.1, x21)) (some (s16.1, s16.2)))) fun v22 => self17 (v22.1, v22.2))
    (fun s o => (s.1 ++ [o].filter (fun o => decide (o.1 < n)), s.2 ++ [o].filter (fun o => decide (n < o.1)))) (fun k s => True ∧ s.1.length ≤ k ∧ s.2.length ≤ k) m.2.2.2.2.1 0 ([], [])
    (fun i x s self hx hs => by
      have hi := (List.getElem?_eq_some_iff.1 hx).1
      obtain ⟨_, hs1, hs2⟩ := hs
      simp only [letm_e, List.filter_cons, List.filter_nil]
      by_cases h : x.1 < n
      · have h' : ¬ n < x.1 := by omega
        simp only [h, h', decide_true, decide_false, cd_t, if_true]
        rw [app_some' (by simp; omega)]
        refine ⟨?_, trivial, by simp; omega, by simp; omega⟩
        simp [bnd_s]
      · by_cases h' : n < x.1
        · simp only [h, h', decide_true, decide_false, cd_t, cd_f, if_true]
          rw [app_some' (by simp; omega)]
          refine ⟨?_, trivial, by simp; omega, by simp; omega⟩
          simp [bnd_s]
        · simp only [h, h', decide_false, cd_f]
          refine ⟨?_, trivial, by simp; omega, by simp; omega⟩
          simp [bnd_s]) ⟨trivial, by simp, by simp⟩
  have key : ∀ (l : List S_api_Option) (a b : List S_api_Option), l.foldl (fun (s : (List S_api_Option) × (List S_api_Option)) o => (s.1 ++ [o].filter (fun o => decide (o.1 < n)), s.2 ++ [o].filter (fun o => decide (n < o.1)))) (a, b) = (a ++ l.filter (fun o => decide (o.1 < n)), b ++ l.filter (fun o => decide (n < o.1))) := by
    intro l
    induction l with
    | nil => intro a b; simp
    | cons x l ih =>
      intro a b
      rw [List.foldl_cons, ih]
      simp only [List.filter_cons, List.filter_nil]
      by_cases h : x.1 < n <;> by_cases h' : n < x.1 <;> simp [h, h']
  rw [e1]
  rw [key] at e2 e3 ⊢
  simp only [List.nil_append, Nat.zero_add] at e2 e3 ⊢
  have hl2 : (m.2.2.2.2.1.filter fun o => decide (o.1 < n)).length ≤ 400000 := by omega
  have hl3 : (m.2.2.2.2.1.filter fun o => decide (n < o.1)).length ≤ 400000 := by omega
  rw [loopL_map (fun v => (n, v)) vs 0 _ (by omega) fun v _ k s self => rfl]
  rw [app_some' (by simp only [List.length_append, List.length_map]; omega), bnd_s]
  show bnd (m_option_owned m (setO m.2.2.2.2.1 n vs)) _ = _
  rw [owned_eq h hL]; rfl
theorem set_ref {m : S_api_Message} {n : Int} {vs : List (List UInt8)} (h : LenM m) (h1 : m.2.2.2.2.1.length ≤ 400000) (h3 : vs.length ≤ 400000) (h4 : ∀ v ∈ vs, v.length ≤ 1000000) : m_coresecref16_Set m n vs = some (withO m (setO m.2.2.2.2.1 n vs)) := by
  have hL := LenO.set (n := n) h1 h.2.1.2 h3 h4
  unfold m_coresecref16_Set
  have fl : ∀ (p : S_api_Option → Bool) (l : List S_api_Option), l.filterMap (fun o => cond (p o) (some o) none) = l.filter p := by
    intro p l
    induction l with
    | nil => rfl
    | cons x l ih => rw [List.filterMap_cons, List.filter_cons]; cases p x <;> simp [ih]
  rw [loopL_filterMap (fun o : S_api_Option => cond (decide (o.1 < n)) (some o) none) _ _ _ (by simp; omega) fun o ho k s self => ?_]
  · rw [fl, loopL_map (fun v => (n, v)) vs 0 _ (by have := List.length_filter_le (fun o : S_api_Option => decide (o.1 < n)) m.2.2.2.2.1; simp only [List.length_append, List.length_nil, Nat.zero_add]; omega) fun v _ k s self => rfl]
    rw [loopL_filterMap (fun o : S_api_Option => cond (decide (n < o.1)) (some o) none) _ _ _ (by have := List.length_filter_le (fun o : S_api_Option => decide (o.1 < n)) m.2.2.2.2.1; simp only [List.length_append, List.length_nil, Nat.zero_add, List.length_map]; omega) fun o ho k s self => ?_]
    · rw [fl]
      show bnd (m_coresecref16_with m (setO m.2.2.2.2.1 n vs)) _ = _
      rw [with_ref h hL]; rfl
    · simp only [letm_e]
      cases decide (n < o.1)
      · rfl
      · simp only [cd_t]
        cases app s [o] <;> rfl
  · simp only [letm_e]
    cases decide (o.1 < n)
    · rfl
    · simp only [cd_t]
      cases app s [o] <;> rfl
/-! ### The shortest bytes of a number -/
theorem fuel6 : FUEL = 1180591620717411303418 + 1 + 1 + 1 + 1 + 1 + 1 := rfl
theorem fromUint_eq (n : Nat) (h : n ≤ 4294967295) : ∃ l, m_option_FromUint (n : Int) = some l ∧ m_coresecref16_FromUint (n : Int) = some l ∧ l.length ≤ 4 := by
  have t1 : decide ((n : Int) < 0) = false := decide_eq_false (by omega)
  have t2 : decide ((4294967295 : Int) < (n : Int)) = false := decide_eq_false (by omega)
  unfold m_option_FromUint m_coresecref16_FromUint
  simp only [letm_e, t1, t2, cd_f]
  generalize hA : (fun (self4 : (List UInt8) × Int → Option (List UInt8)) (s3 : (List UInt8) × Int) => cond (decide (0 ≤ s3.2)) (bnd (β := (List UInt8)) (bnd (Gk.shr (n : Int) s3.2) fun x6 => cond (decide (0 < x6)) (bnd (Gk.shr (n : Int) s3.2) fun x8 => bnd (app s3.1 [toU8 x8]) fun x10 => some x10) (some s3.1)) fun v11 => self4 (v11, w64 (s3.2 - 8))) (some s3.1)) = A
  generalize hB : (fun (self4 : S_api_Option → Option (List UInt8)) (s3 : S_api_Option) => cond (decide (0 < s3.1)) (bnd (app [toU8 s3.1] s3.2) fun x7 => bnd (Gk.shr s3.1 ((UInt64.toNat 8 : Nat) : Int)) fun x8 => self4 (x8, x7)) (some s3.2)) = B
  have fz : ∀ (f : Nat) (l : List UInt8), loopF B (f + 1) (0, l) = some l := fun f l => by rw [← hB]; rfl
  have f1 : ∀ (f k : Nat) (l : List UInt8), 0 < k → l.length ≤ 10 → loopF B (f + 1) ((k : Int), l) = loopF B f (((k / 256 : Nat) : Int), UInt8.ofNat k :: l) := fun f k l hk hl => by
    rw [loopF_succ]
    conv => lhs; rw [← hB]
    simp only [show decide ((0 : Int) < (k : Int)) = true from decide_eq_true (by omega), cd_t, toU8_ofNat]
    rw [hB, app_some' (by simp; omega), bnd_s, shr8, bnd_s, show (k : Int) / 256 = ((k / 256 : Nat) : Int) by omega]
    rfl
  have gz : ∀ (f : Nat) (l : List UInt8), loopF A (f + 1) (l, -8) = some l := fun f l => by rw [← hA]; rfl
  have g : ∀ (s : Nat) (f : Nat) (l : List UInt8), s ≤ 24 → l.length ≤ 10 → loopF A (f + 1) (l, (s : Int)) = loopF A f (if 0 < n / 2 ^ s then l ++ [UInt8.ofNat (n / 2 ^ s)] else l, (s : Int) - 8) := fun s f l hs hl => by
    rw [loopF_succ]
    conv => lhs; rw [← hA]
    have hsn := shr_nat (a := n) (b := s) (by omega)
    simp only [show decide ((0 : Int) ≤ (s : Int)) = true by simp, cd_t, hsn, bnd_s, w64_of (x := (s : Int) - 8) (by omega) (by omega)]
    rw [hA]
    by_cases hq : 0 < n / 2 ^ s
    · have : decide ((0 : Int) < ((n / 2 ^ s : Nat) : Int)) = true := by simp only [decide_eq_true_eq]; omega
      rw [this, cd_t, toU8_ofNat, app_some' (by simp; omega), bnd_s, bnd_s, if_pos hq]
    · have : decide ((0 : Int) < ((n / 2 ^ s : Nat) : Int)) = false := by simp only [decide_eq_false_iff_not]; omega
      rw [this, cd_f, bnd_s, if_neg hq]
  have q24 : ∀ (f : Nat) (l : List UInt8), l.length ≤ 10 → loopF A (f + 1) (l, 24) = loopF A f (if 0 < n / 16777216 then l ++ [UInt8.ofNat (n / 16777216)] else l, 16) := fun f l hl => g 24 f l (by omega) hl
  have q16 : ∀ (f : Nat) (l : List UInt8), l.length ≤ 10 → loopF A (f + 1) (l, 16) = loopF A f (if 0 < n / 65536 then l ++ [UInt8.ofNat (n / 65536)] else l, 8) := fun f l hl => g 16 f l (by omega) hl
  have q8 : ∀ (f : Nat) (l : List UInt8), l.length ≤ 10 → loopF A (f + 1) (l, 8) = loopF A f (if 0 < n / 256 then l ++ [UInt8.ofNat (n / 256)] else l, 0) := fun f l hl => g 8 f l (by omega) hl
  have q0 : ∀ (f : Nat) (l : List UInt8), l.length ≤ 10 → loopF A (f + 1) (l, 0) = loopF A f (if 0 < n / 1 then l ++ [UInt8.ofNat (n / 1)] else l, -8) := fun f l hl => g 0 f l (by omega) hl
  have il : ∀ (p : Prop) [Decidable p] (l : List UInt8) (x : UInt8) (k : Nat), l.length ≤ k → (if p then l ++ [x] else l).length ≤ k + 1 := fun p _ l x k h => by
    split
    · simp; omega
    · omega
  have l1 := il (0 < n / 16777216) [] (UInt8.ofNat (n / 16777216)) 0 (by simp)
  have l2 := il (0 < n / 65536) _ (UInt8.ofNat (n / 65536)) 1 l1
  have l3 := il (0 < n / 256) _ (UInt8.ofNat (n / 256)) 2 l2
  rw [fuel6, q24 _ [] (by simp), q16 _ _ (by omega), q8 _ _ (by omega), q0 _ _ (by omega), gz]
  clear l1 l2 l3 il
  rw [Nat.div_one]
  rcases Nat.lt_or_ge n 1 with h0 | h0
  · obtain rfl : n = 0 := by omega
    exact ⟨[], rfl, by rw [show ((0 : Nat) : Int) = 0 from rfl, fz]; rfl, by simp⟩
  rcases Nat.lt_or_ge n 256 with h1 | h1
  · simp only [if_neg (show ¬ 0 < n / 16777216 by omega), if_neg (show ¬ 0 < n / 65536 by omega), if_neg (show ¬ 0 < n / 256 by omega), if_pos (show 0 < n by omega)]
    refine ⟨_, rfl, ?_, by simp⟩
    rw [f1 _ n [] (by omega) (by simp), show n / 256 = 0 by omega, show ((0 : Nat) : Int) = 0 from rfl, fz]
    rfl
  rcases Nat.lt_or_ge n 65536 with h2 | h2
  · simp only [if_neg (show ¬ 0 < n / 16777216 by omega), if_neg (show ¬ 0 < n / 65536 by omega), if_pos (show 0 < n / 256 by omega), if_pos (show 0 < n by omega)]
    refine ⟨_, rfl, ?_, by simp⟩
    rw [f1 _ _ [] (by omega) (by simp), f1 _ _ _ (by omega) (by simp), show n / 256 / 256 = 0 by omega, show ((0 : Nat) : Int) = 0 from rfl, fz]
    rfl
  rcases Nat.lt_or_ge n 16777216 with h3 | h3
  · simp only [if_neg (show ¬ 0 < n / 16777216 by omega), if_pos (show 0 < n / 65536 by omega), if_pos (show 0 < n / 256 by omega), if_pos (show 0 < n by omega)]
    refine ⟨_, rfl, ?_, by simp⟩
    rw [f1 _ _ [] (by omega) (by simp), f1 _ _ _ (by omega) (by simp), f1 _ _ _ (by omega) (by simp), show n / 256 / 256 / 256 = 0 by omega, Nat.div_div_eq_div_mul, show ((0 : Nat) : Int) = 0 from rfl, fz]
    rfl
  · have ed : n / 256 / 256 / 256 = n / 16777216 := by omega
    have ed2 : n / 256 / 256 = n / 65536 := by omega
    simp only [if_pos (show 0 < n / 16777216 by omega), if_pos (show 0 < n / 65536 by omega), if_pos (show 0 < n / 256 by omega), if_pos (show 0 < n by omega)]
    refine ⟨_, rfl, ?_, by simp⟩
    rw [f1 _ _ [] (by omega) (by simp), f1 _ _ _ (by omega) (by simp), f1 _ _ _ (by omega) (by simp), f1 _ _ _ (by omega) (by simp), show n / 256 / 256 / 256 / 256 = 0 by omega, ed, ed2, show ((0 : Nat) : Int) = 0 from rfl, fz]
    rfl
/-- The shortest bytes of any number, none of one out of range. -/
theorem fromUint_any (n : Int) : ∃ l, m_option_FromUint n = some l ∧ m_coresecref16_FromUint n = some l ∧ l.length ≤ 4 := by
  by_cases h : n < 0
  · refine ⟨[], ?_, ?_, by simp⟩
    · unfold m_option_FromUint; rw [letm_e, decide_eq_true h]; rfl
    · unfold m_coresecref16_FromUint; rw [letm_e, decide_eq_true h]; rfl
  · by_cases h2 : 4294967295 < n
    · refine ⟨[], ?_, ?_, by simp⟩
      · unfold m_option_FromUint; rw [letm_e, decide_eq_false h, cd_f, letm_e, decide_eq_true h2]; rfl
      · unfold m_coresecref16_FromUint; rw [letm_e, decide_eq_false h, cd_f, letm_e, decide_eq_true h2]; rfl
    · obtain ⟨k, rfl⟩ : ∃ k : Nat, n = (k : Int) := ⟨n.toNat, by omega⟩
      exact fromUint_eq k (by omega)
end Go.Proofs.Ytdiidghfmpobaaa
