/-
  Options of messages, plain facts: option and its reference. Of the models alone; no program; no condition but the lengths told.
-/
import Derived.Test.YtcbkmlfkfhfliaaDoorQ15
namespace Go.Proofs.YtcbkmlfkfhfliaaDoor
open Go.Gk Go.RowKit
def LenO (l : List S_api_Option) : Prop := l.length ≤ 1000000 ∧ ∀ o ∈ l, o.2.length ≤ 1000000
def LenM (m : S_api_Message) : Prop := m.2.2.2.1.length ≤ 1000000 ∧ LenO m.2.2.2.2.1 ∧ m.2.2.2.2.2.length ≤ 1000000
theorem clone_some {l : List UInt8} (h : l.length ≤ 1000000) : m_bytes_Clone l = some l := by
  unfold m_bytes_Clone; rw [app_some' (by simp; omega)]; rfl
theorem app_nil_some {α : Type} {l : List α} (h : l.length ≤ 1000000) : app [] l = some l := by
  rw [app_some' (by simp; omega)]; rfl
def getS (l : List S_api_Option) (n : Int) : List UInt8 × Bool := match l.find? (fun o => o.1 == n) with | some o => (o.2, true) | none => ([], false)
def allS (l : List S_api_Option) (n : Int) : List (List UInt8) := l.filterMap fun o => cond (o.1 == n) (some o.2) none
theorem get_go {n : Int} : ∀ (xs : List S_api_Option) (k : Nat), (∀ o ∈ xs, o.2.length ≤ 1000000) → loopL (R := ((List UInt8) × Bool)) (S := Unit) (α := S_api_Option) (fun _ _ => some ([], false))
    (fun x4 _ _ self7 => letm ((x4.1 == n)) fun x8 => cond x8 (bnd (m_bytes_Clone x4.2) fun x9 => some (x9, true)) (self7 ())) xs k () = some (getS xs n)
  | [], _, _ => rfl
  | x :: xs, k, h => by
    rw [loopL_cons, letm_e, clone_some (h x (by simp)), get_go xs (k + 1) fun o ho => h o (by simp [ho])]
    unfold getS
    rw [List.find?_cons]
    cases x.1 == n <;> rfl
theorem get_eq {m : S_api_Message} {n : Int} (h : LenO m.2.2.2.2.1) : m_option_Get m n = some (getS m.2.2.2.2.1 n) := get_go _ _ h.2
theorem all_ref {m : S_api_Message} {n : Int} (h : LenO m.2.2.2.2.1) : m_coresecref16_All m n = some (allS m.2.2.2.2.1 n) := by
  unfold m_coresecref16_All
  rw [loopL_filterMap (fun o : S_api_Option => cond (o.1 == n) (some o.2) none) _ _ _ (by have := h.1; simp; omega) fun o ho k s self => ?_]
  · rfl
  · rw [letm_e, app_nil_some (h.2 o ho)]
    cases o.1 == n
    · rfl
    · simp only [cd_t, bnd_s]
      cases app s [o.2] <;> rfl
theorem allS_get (l : List S_api_Option) (n : Int) : (allS l n = [] ∧ getS l n = ([], false)) ∨ ∃ v r, allS l n = v :: r ∧ getS l n = (v, true) := by
  induction l with
  | nil => exact .inl ⟨rfl, rfl⟩
  | cons o l ih =>
    unfold allS getS at ih ⊢
    rw [List.filterMap_cons, List.find?_cons]
    cases o.1 == n with
    | true => exact .inr ⟨_, _, rfl, rfl⟩
    | false => exact ih
def setO (l : List S_api_Option) (n : Int) (vs : List (List UInt8)) : List S_api_Option := l.filter (fun o => decide (o.1 < n)) ++ vs.map (fun v => (n, v)) ++ l.filter (fun o => decide (n < o.1))
def withO (m : S_api_Message) (l : List S_api_Option) : S_api_Message := (m.1, (m.2.1, (m.2.2.1, (m.2.2.2.1, (l, m.2.2.2.2.2)))))
theorem with_ref {m : S_api_Message} {l : List S_api_Option} (h : LenM m) (hl : LenO l) : m_coresecref16_with m l = some (withO m l) := by
  unfold m_coresecref16_with
  rw [app_nil_some h.1, app_nil_some h.2.2, bnd_s, bnd_s, loopL_map (fun o => o) _ _ _ (by have := hl.1; simp; omega) fun o ho k s self => ?_]
  · rw [List.map_id']; rfl
  · rw [app_nil_some (hl.2 o ho)]; rfl
theorem LenO.set {l : List S_api_Option} {n : Int} {vs : List (List UInt8)} (h1 : l.length ≤ 400000) (h2 : ∀ o ∈ l, o.2.length ≤ 1000000) (h3 : vs.length ≤ 400000) (h4 : ∀ v ∈ vs, v.length ≤ 1000000) : LenO (setO l n vs) := by
  refine ⟨?_, fun o ho => ?_⟩
  · unfold setO
    simp only [List.length_append, List.length_map]
    have a1 : (l.filter fun o => decide (o.1 < n)).length + (l.filter fun o => decide (n < o.1)).length ≤ l.length := by
      clear h1 h2
      induction l with
      | nil => simp
      | cons x l ih =>
        simp only [List.filter_cons]
        by_cases h : x.1 < n
        · have : ¬ n < x.1 := by omega
          simp [h, this]; omega
        · by_cases h' : n < x.1 <;> simp [h, h'] <;> omega
    omega
  · unfold setO at ho
    simp only [List.mem_append, List.mem_filter, List.mem_map] at ho
    rcases ho with (⟨ho, _⟩ | ⟨v, hv, rfl⟩) | ⟨ho, _⟩
    · exact h2 o ho
    · exact h4 v hv
    · exact h2 o ho
theorem set_ref {m : S_api_Message} {n : Int} {vs : List (List UInt8)} (h : LenM m) (h1 : m.2.2.2.2.1.length ≤ 400000) (h3 : vs.length ≤ 400000) (h4 : ∀ v ∈ vs, v.length ≤ 1000000) : m_coresecref16_Set m n vs = some (withO m (setO m.2.2.2.2.1 n vs)) := by
  have hL := LenO.set (n := n) h1 h.2.1.2 h3 h4
  unfold m_coresecref16_Set
  have fl : ∀ (p : S_api_Option → Bool) (l : List S_api_Option), l.filterMap (fun o => cond (p o) (some o) none) = l.filter p := by
    intro p l
    induction l with
    | nil => rfl
    | cons x l ih => rw [List.filterMap_cons, List.filter_cons]; cases p x <;> simp [ih]
  rw [loopL_filterMap (fun o : S_api_Option => cond (decide (o.1 < n)) (some o) none) _ _ _ (by simp; omega) fun o ho k s self => ?_]
  · rw [fl, loopL_map (fun v => (n, v)) vs 0 _ (by have := List.length_filter_le (fun o : S_api_Option => decide (o.1 < n)) m.2.2.2.2.1; simp only [List.length_append, List.length_nil, Nat.zero_add]; omega) fun v _ k s self => rfl]
    rw [loopL_filterMap (fun o : S_api_Option => cond (decide (n < o.1)) (some o) none) _ _ _ (by have := List.length_filter_le (fun o : S_api_Option => decide (o.1 < n)) m.2.2.2.2.1; simp only [List.length_append, List.length_nil, Nat.zero_add, List.length_map]; omega) fun o ho k s self => ?_]
    · rw [fl]
      show bnd (m_coresecref16_with m (setO m.2.2.2.2.1 n vs)) _ = _
      rw [with_ref h hL]; rfl
    · simp only [letm_e]
      cases decide (n < o.1)
      · rfl
      · simp only [cd_t]
        cases app s [o] <;> rfl
  · simp only [letm_e]
    cases decide (o.1 < n)
    · rfl
    · simp only [cd_t]
      cases app s [o] <;> rfl
/-! ### The shortest bytes of a number -/
theorem fuel6 : FUEL = 1180591620717411303418 + 1 + 1 + 1 + 1 + 1 + 1 := rfl
end Go.Proofs.YtcbkmlfkfhfliaaDoor
