/-
  Caches, plain facts. Of the models alone; no program; no condition but the ranges told.
-/
import Derived.Test.YtcbkmlfkfhfliaaGreatDoorQZ1
namespace Go.Proofs.YtcbkmlfkfhfliaaGreatDoor
open Go.Gk Go.RowKit
def keyB (k : List UInt8) : Bool := decide (1 ≤ (k.length : Int)) && decide ((k.length : Int) ≤ 4096)
theorem keyed_eq (k : List UInt8) : m_cache_keyed k = some (keyB k) := by
  unfold m_cache_keyed keyB
  simp only [letm_e]
  cases decide (1 ≤ (k.length : Int)) <;> cases decide ((k.length : Int) ≤ 4096) <;> rfl
theorem keyed_ref (k : List UInt8) : m_coresecref20_keyed k = some (keyB k) := by
  unfold m_coresecref20_keyed keyB
  have e : decide (0 < (k.length : Int)) = decide (1 ≤ (k.length : Int)) := decide_eq_decide.2 (by omega)
  simp only [letm_e, e]
  cases decide (1 ≤ (k.length : Int)) <;> cases decide ((k.length : Int) ≤ 4096) <;> rfl
def findS (l : List S_api_Cached) (key : List UInt8) : Int := match l.findIdx? (fun c => c.1 == key) with | some i => (i : Int) | none => -1
theorem find_eq (l : List S_api_Cached) (key : List UInt8) : m_cache_find l key = some (findS l key) := by
  unfold m_cache_find
  rw [loopL_search (fun c : S_api_Cached => c.1 == key) (fun _ k => some (k : Int)) l 0 (fun x _ k self => by unfold m_bytes_Equal; rw [letm_e, bnd_s])]
  unfold findS
  cases h : l.findIdx? (fun c => c.1 == key) with
  | none => rfl
  | some i =>
    obtain ⟨hi, _⟩ := List.findIdx?_eq_some_iff_getElem.1 h
    simp [List.getElem?_eq_getElem hi]
theorem at_find : m_coresecref20_at = m_cache_find := rfl
theorem at_eq (l : List S_api_Cached) (key : List UInt8) : m_coresecref20_at l key = some (findS l key) := by rw [at_find, find_eq]
theorem findS_any (l : List S_api_Cached) (key : List UInt8) : decide (0 ≤ findS l key) = l.any (fun c => c.1 == key) := by
  unfold findS
  cases h : l.findIdx? (fun c => c.1 == key) with
  | none =>
    rw [List.findIdx?_eq_none_iff] at h
    have : l.any (fun c => c.1 == key) = false := by
      rw [List.any_eq_false]; intro x hx; simpa using h x hx
    rw [this]; rfl
  | some i =>
    obtain ⟨hi, h1, _⟩ := List.findIdx?_eq_some_iff_getElem.1 h
    have : l.any (fun c => c.1 == key) = true := List.any_eq_true.2 ⟨l[i], List.getElem_mem hi, h1⟩
    rw [this]; simp
def respB (c : Int) : Bool := (decide (64 ≤ c) && decide (c ≤ 95)) || (decide (128 ≤ c) && decide (c ≤ 191))
theorem resp_eq (c : Int) : m_coap_Response c = some (respB c) := by
  unfold m_coap_Response respB
  simp only [letm_e]
  cases decide (64 ≤ c) <;> cases decide (c ≤ 95) <;> cases decide (128 ≤ c) <;> cases decide (c ≤ 191) <;> rfl
theorem resp_ref (c : Int) : m_coresecref15_Response c = some (respB c) := by
  unfold m_coresecref15_Response respB
  have e1 : decide (c < 96) = decide (c ≤ 95) := decide_eq_decide.2 (by omega)
  have e2 : decide (c < 192) = decide (c ≤ 191) := decide_eq_decide.2 (by omega)
  simp only [letm_e, e1, e2]
  cases decide (64 ≤ c) <;> cases decide (c ≤ 95) <;> cases decide (128 ≤ c) <;> cases decide (c ≤ 191) <;> rfl
def elemB (c : S_api_Cached) : Bool :=
  keyB c.1 && !(decide (c.2.2.1 < 0)) && !(decide (c.2.2.2 < 0)) && valM c.2.1 && (c.2.1.1 == 0) && (c.2.1.2.2.1 == 0) && ((c.2.1.2.2.2.1.length : Int) == 0) && respB c.2.1.2.1
def goodL : List S_api_Cached → List S_api_Cached → Bool
  | _, [] => true
  | pre, c :: r => elemB c && !(pre.any fun d => d.1 == c.1) && goodL (pre ++ [c]) r
def validC (l : List S_api_Cached) : Bool := !(decide (16 < (l.length : Int))) && goodL [] l
theorem cut_pre {α : Type} {pre rest : List α} : Gk.cut (pre ++ rest) 0 (pre.length : Int) = some pre := by
  unfold Gk.cut
  rw [if_pos (by simp; omega)]
  simp
theorem goodL_cons (pre : List S_api_Cached) (c : S_api_Cached) (r : List S_api_Cached) : goodL pre (c :: r) = (elemB c && !(pre.any fun d => d.1 == c.1) && goodL (pre ++ [c]) r) := rfl
theorem valid_go (l : List S_api_Cached) : ∀ (rest pre : List S_api_Cached), l = pre ++ rest → loopL (R := Bool) (S := Unit) (α := S_api_Cached) (fun _ _ => some true) (fun x4 k5 _ self7 =>
    bnd (β := Bool) (bnd (m_cache_keyed x4.1) fun x8 => letm ((!x8)) fun x9 => cond x9 (some true) (letm (decide (x4.2.2.1 < 0)) fun x10 => cond x10 (some true) (letm (decide (x4.2.2.2 < 0)) fun x11 => cond x11 (some true)
    (bnd (Gk.cut l 0 (k5 : Int)) fun x12 => bnd (m_cache_find x12 x4.1) fun x13 => letm (decide (0 ≤ x13)) fun x14 => some x14)))) fun v15 => cond v15 (some false)
    (bnd (β := Bool) (bnd (m_coap_Valid x4.2.1) fun x16 => letm ((!x16)) fun x17 => cond x17 (some true) (bnd (m_cache_bare x4.2.1) fun x18 => letm ((!x18)) fun x19 => cond x19 (some true)
    (bnd (m_coap_Response x4.2.1.2.1) fun x20 => letm ((!x20)) fun x21 => some x21))) fun v22 => cond v22 (some false) (self7 ()))) rest pre.length () = some (goodL pre rest)
  | [], pre, _ => rfl
  | c :: rest, pre, h => by
    have ih := valid_go l rest (pre ++ [c]) (by rw [h]; simp)
    rw [List.length_append, List.length_singleton] at ih
    rw [loopL_cons, ih]
    have hb : m_cache_bare c.2.1 = some ((c.2.1.1 == 0) && (c.2.1.2.2.1 == 0) && ((c.2.1.2.2.2.1.length : Int) == 0)) := by
      unfold m_cache_bare
      simp only [letm_e]
      cases c.2.1.1 == 0 <;> cases c.2.1.2.2.1 == 0 <;> rfl
    have hc : Gk.cut l 0 (pre.length : Int) = some pre := by rw [h]; exact cut_pre
    simp only [keyed_eq, letm_e, bnd_s, hc, find_eq, findS_any, coap_valid_eq, hb, resp_eq]
    rw [goodL_cons]
    generalize goodL (pre ++ [c]) rest = G
    unfold elemB
    cases keyB c.1 <;> cases decide (c.2.2.1 < 0) <;> cases decide (c.2.2.2 < 0) <;> simp only [Bool.not_true, Bool.not_false, cd_t, cd_f, bnd_s, Bool.false_and, Bool.true_and]
    cases (pre.any fun d => d.1 == c.1) <;> cases valM c.2.1 <;> cases c.2.1.1 == 0 <;> cases c.2.1.2.2.1 == 0 <;> cases (c.2.1.2.2.2.1.length : Int) == 0 <;> cases respB c.2.1.2.1 <;> rfl
theorem cvalid_eq (l : List S_api_Cached) : m_cache_Valid l = some (validC l) := by
  unfold m_cache_Valid validC
  rw [letm_e]
  have := valid_go l l [] rfl
  simp only [List.length_nil] at this
  rw [this]
  cases decide (16 < (l.length : Int)) <;> rfl
theorem anyloop (key : List UInt8) (Z : Option Bool) : ∀ (xs : List S_api_Cached) (k : Nat), loopL (R := Bool) (S := Unit) (α := S_api_Cached) (fun _ _ => Z) (fun x22 _ _ self25 => cond (key == x22.1) (some false) (self25 ())) xs k () = cond (xs.any fun d => d.1 == key) (some false) Z
  | [], _ => rfl
  | x :: xs, k => by
    rw [loopL_cons, anyloop key Z xs (k + 1), List.any_cons, show (key == x.1) = (x.1 == key) from Bool.beq_comm]
    cases x.1 == key <;> rfl
theorem rvalid_go (l : List S_api_Cached) : ∀ (rest pre : List S_api_Cached), l = pre ++ rest → loopL (R := Bool) (S := Unit) (α := S_api_Cached) (fun _ _ => some true) (fun x4 k5 _ self7 =>
    bnd (β := Bool) (bnd (m_coresecref20_keyed x4.1) fun x8 => letm ((!x8)) fun x9 => cond x9 (some true) (letm (decide (x4.2.2.1 < 0)) fun x10 => cond x10 (some true) (letm (decide (x4.2.2.2 < 0)) fun x11 => cond x11 (some true)
    (bnd (m_coresecref15_Valid x4.2.1) fun x12 => letm ((!x12)) fun x13 => cond x13 (some true) (letm ((x4.2.1.1 != 0)) fun x14 => cond x14 (some true) (letm ((x4.2.1.2.2.1 != 0)) fun x15 => cond x15 (some true)
    (letm (decide (0 < (x4.2.1.2.2.2.1.length : Int))) fun x16 => cond x16 (some true) (bnd (m_coresecref15_Response x4.2.1.2.1) fun x17 => letm ((!x17)) fun x18 => some x18)))))))) fun v19 => cond v19 (some false)
    (bnd (Gk.cut l 0 (k5 : Int)) fun x20 => loopL (R := Bool) (S := Unit) (α := S_api_Cached) (fun _ _ => self7 ()) (fun x23 _ _ self26 => letm ((x4.1 == x23.1)) fun x27 => cond x27 (some false) (self26 ())) x20 0 ())) rest pre.length () = some (goodL pre rest)
  | [], pre, _ => rfl
  | c :: rest, pre, h => by
    have ih := rvalid_go l rest (pre ++ [c]) (by rw [h]; simp)
    rw [List.length_append, List.length_singleton] at ih
    rw [loopL_cons, ih]
    have hc : Gk.cut l 0 (pre.length : Int) = some pre := by rw [h]; exact cut_pre
    have ht : decide (0 < (c.2.1.2.2.2.1.length : Int)) = !((c.2.1.2.2.2.1.length : Int) == 0) := by
      cases hz : c.2.1.2.2.2.1.length with
      | zero => rfl
      | succ n => rw [decide_eq_true (by omega)]; simp; omega
    simp only [keyed_ref, letm_e, bnd_s, hc, anyloop, ref_valid_eq, resp_ref, ht, bne]
    rw [goodL_cons]
    generalize goodL (pre ++ [c]) rest = G
    unfold elemB
    cases keyB c.1 <;> cases decide (c.2.2.1 < 0) <;> cases decide (c.2.2.2 < 0) <;> simp only [Bool.not_true, Bool.not_false, cd_t, cd_f, bnd_s, Bool.false_and, Bool.true_and]
    cases (pre.any fun d => d.1 == c.1) <;> cases valM c.2.1 <;> cases c.2.1.1 == 0 <;> cases c.2.1.2.2.1 == 0 <;> cases (c.2.1.2.2.2.1.length : Int) == 0 <;> cases respB c.2.1.2.1 <;> rfl
theorem rvalid_eq (l : List S_api_Cached) : m_coresecref20_Valid l = some (validC l) := by
  unfold m_coresecref20_Valid validC
  rw [letm_e]
  have := rvalid_go l l [] rfl
  simp only [List.length_nil] at this
  rw [this]
  cases decide (16 < (l.length : Int)) <;> rfl
/-! ### Validity, told otherwise -/
theorem goodL_iff : ∀ {rest pre : List S_api_Cached}, goodL pre rest = true ↔ (∀ c ∈ rest, elemB c = true) ∧ (∀ c ∈ rest, ∀ d ∈ pre, d.1 ≠ c.1) ∧ (rest.map (·.1)).Nodup
  | [], pre => by simp [goodL]
  | c :: rest, pre => by
    unfold goodL
    simp only [Bool.and_eq_true, Bool.not_eq_true', List.any_eq_false, beq_iff_eq, goodL_iff (rest := rest), List.mem_cons, List.mem_append, List.mem_singleton, List.map_cons, List.nodup_cons, List.mem_map]
    constructor
    · rintro ⟨⟨h1, h2⟩, h3, h4, h5⟩
      refine ⟨?_, ?_, ?_, h5⟩
      · rintro x (rfl | hx)
        · exact h1
        · exact h3 x hx
      · rintro x (rfl | hx) d hd
        · exact h2 d hd
        · exact h4 x hx d (.inl hd)
      · rintro ⟨x, hx, e⟩
        exact h4 x hx c (.inr (.inl rfl)) e.symm
    · rintro ⟨h1, h2, h3, h4⟩
      refine ⟨⟨h1 c (.inl rfl), fun d hd => h2 c (.inl rfl) d hd⟩, fun x hx => h1 x (.inr hx), fun x hx d hd => ?_, h4⟩
      rcases hd with hd | hd
      · exact h2 x (.inr hx) d hd
      · rcases hd with rfl | hd
        · exact fun e => h3 ⟨x, hx, e.symm⟩
        · simp at hd
structure ValC (l : List S_api_Cached) : Prop where
  len : l.length ≤ 16
  el : ∀ c ∈ l, elemB c = true
  nd : (l.map (·.1)).Nodup
theorem validC_iff {l : List S_api_Cached} : validC l = true ↔ ValC l := by
  unfold validC
  rw [Bool.and_eq_true, goodL_iff]
  constructor
  · rintro ⟨h1, h2, _, h3⟩
    simp only [Bool.not_eq_true', decide_eq_false_iff_not] at h1
    exact ⟨by omega, h2, h3⟩
  · rintro ⟨h1, h2, h3⟩
    exact ⟨by simp only [Bool.not_eq_true', decide_eq_false_iff_not]; omega, h2, fun _ _ _ hd => by simp at hd, h3⟩
structure ElemOK (c : S_api_Cached) : Prop where
  key : keyB c.1 = true
  at0 : 0 ≤ c.2.2.1
  age0 : 0 ≤ c.2.2.2
  val : valM c.2.1 = true
  ty : c.2.1.1 = 0
  id : c.2.1.2.2.1 = 0
  tok : c.2.1.2.2.2.1 = []
  resp : respB c.2.1.2.1 = true
theorem elemB_iff {c : S_api_Cached} : elemB c = true ↔ ElemOK c := by
  unfold elemB
  simp only [Bool.and_eq_true, Bool.not_eq_true', decide_eq_false_iff_not, beq_iff_eq]
  constructor
  · rintro ⟨⟨⟨⟨⟨⟨⟨h1, h2⟩, h3⟩, h4⟩, h5⟩, h6⟩, h7⟩, h8⟩
    exact ⟨h1, by omega, by omega, h4, h5, h6, List.length_eq_zero_iff.1 (by omega), h8⟩
  · rintro ⟨h1, h2, h3, h4, h5, h6, h7, h8⟩
    exact ⟨⟨⟨⟨⟨⟨⟨h1, by omega⟩, by omega⟩, h4⟩, h5⟩, h6⟩, by rw [h7]; rfl⟩, h8⟩
theorem keyB_len {k : List UInt8} (h : keyB k = true) : k.length ≤ 4096 := by
  unfold keyB at h
  simp only [Bool.and_eq_true, decide_eq_true_eq] at h
  omega
theorem ElemOK.len {c : S_api_Cached} (h : ElemOK c) : LenM c.2.1 := (valM_snd h.val).len
/-! ### How long a response may be kept, and which -/
def ageS (m : S_api_Message) : Int := bif !(getS m.2.2.2.2.1 14).2 then 60 else bif decide (4 < ((getS m.2.2.2.2.1 14).1.length : Int)) then 0 else (uintN 0 (getS m.2.2.2.2.1 14).1).1
theorem age_eq {m : S_api_Message} (h : LenO m.2.2.2.2.1) : m_cache_MaxAge m = some (ageS m) := by
  unfold m_cache_MaxAge ageS
  rw [get_eq h, bnd_s, letm_e, letm_e, uint_eq, bnd_s]
  cases (!(getS m.2.2.2.2.1 14).2) <;> cases decide (4 < ((getS m.2.2.2.2.1 14).1.length : Int)) <;> rfl
theorem age_ref {m : S_api_Message} (h : LenO m.2.2.2.2.1) : m_coresecref20_MaxAge m = some (ageS m) := by
  unfold m_coresecref20_MaxAge ageS
  rw [get_ref h, bnd_s, letm_e, letm_e, uint_ref_eq, bnd_s]
  cases (!(getS m.2.2.2.2.1 14).2) <;> cases decide (4 < ((getS m.2.2.2.2.1 14).1.length : Int)) <;> rfl
theorem ageS_nn (m : S_api_Message) : 0 ≤ ageS m := by
  unfold ageS
  have := (uintN_rng (getS m.2.2.2.2.1 14).1 0 (by omega)).1
  cases (!(getS m.2.2.2.2.1 14).2) <;> cases decide (4 < ((getS m.2.2.2.2.1 14).1.length : Int)) <;> simp only [cond_true, cond_false] <;> omega
def blkB (l : List (List UInt8)) : Bool := match l with
  | [] => true
  | v :: r => ((((v :: r).length : Int) == 1) && ((parseS v).2 == 0) && ((parseS v).1.1 == 0) && !(parseS v).1.2.1)
def storB (m : S_api_Message) : Bool := valM m && ((m.2.1 == 69) || (m.2.1 == 132)) && !(ageS m == 0) && !(getS m.2.2.2.2.1 6).2 && blkB (allS m.2.2.2.2.1 23)
theorem stor_eq (m : S_api_Message) : m_cache_Storable m = some (storB m) := by
  unfold m_cache_Storable storB
  rw [coap_valid_eq, bnd_s, letm_e]
  cases hv : valM m with
  | false => rfl
  | true =>
    have hl := (valM_snd hv).len.2.1
    simp only [age_eq hl, get_eq hl, all_eq hl, letm_e, bnd_s, bne]
    cases hA : allS m.2.2.2.2.1 23 with
    | nil => cases m.2.1 == 69 <;> cases m.2.1 == 132 <;> cases ageS m == 0 <;> cases (getS m.2.2.2.2.1 6).2 <;> rfl
    | cons v r =>
      have e0 : (((v :: r).length : Int) == 0) = false := by rw [beq_eq_false_iff_ne]; simp; omega
      have e1 : idx (v :: r) 0 = some v := rfl
      have e2 := (parse_eq v).1
      simp only [e0, e1, e2, bnd_s]
      unfold blkB
      simp only
      cases m.2.1 == 69 <;> cases m.2.1 == 132 <;> cases ageS m == 0 <;> cases (getS m.2.2.2.2.1 6).2 <;> simp only [Bool.not_true, Bool.not_false, cd_t, cd_f, Bool.false_and, Bool.true_and, Bool.or_true, Bool.true_or, Bool.or_false, Bool.false_or]
      all_goals cases (((v :: r).length : Int) == 1) <;> cases (parseS v).2 == 0 <;> cases (parseS v).1.1 == 0 <;> rfl
theorem stor_ref (m : S_api_Message) : m_coresecref20_Storable m = some (storB m) := by
  unfold m_coresecref20_Storable storB
  rw [ref_valid_eq, bnd_s, letm_e]
  cases hv : valM m with
  | false => rfl
  | true =>
    have hl := (valM_snd hv).len.2.1
    have ha : decide (ageS m < 1) = (ageS m == 0) := by
      have := ageS_nn m
      by_cases h : ageS m = 0
      · rw [h]; rfl
      · rw [decide_eq_false (by omega)]; simp [h]
    simp only [age_ref hl, get_ref hl, all_ref hl, letm_e, bnd_s, bne, ha]
    cases hA : allS m.2.2.2.2.1 23 with
    | nil => cases m.2.1 == 69 <;> cases m.2.1 == 132 <;> cases ageS m == 0 <;> cases (getS m.2.2.2.2.1 6).2 <;> rfl
    | cons v r =>
      have e0 : (((v :: r).length : Int) == 0) = false := by rw [beq_eq_false_iff_ne]; simp; omega
      have e1 : idx (v :: r) 0 = some v := rfl
      have e2 := (parse_eq v).2
      simp only [e0, e1, e2, bnd_s]
      unfold blkB
      simp only
      cases m.2.1 == 69 <;> cases m.2.1 == 132 <;> cases ageS m == 0 <;> cases (getS m.2.2.2.2.1 6).2 <;> simp only [Bool.not_true, Bool.not_false, cd_t, cd_f, Bool.false_and, Bool.true_and, Bool.or_true, Bool.true_or, Bool.or_false, Bool.false_or]
      all_goals cases (((v :: r).length : Int) == 1) <;> cases (parseS v).2 == 0 <;> cases (parseS v).1.1 == 0 <;> rfl
structure Stor (m : S_api_Message) : Prop where
  val : valM m = true
  code : m.2.1 = 69 ∨ m.2.1 = 132
  age : 0 < ageS m
theorem storB_facts {m : S_api_Message} (h : storB m = true) : Stor m := by
  unfold storB at h
  simp only [Bool.and_eq_true, Bool.or_eq_true, beq_iff_eq, Bool.not_eq_true', beq_eq_false_iff_ne] at h
  have := ageS_nn m
  exact ⟨h.1.1.1.1, h.1.1.1.2, by have := h.1.1.2; omega⟩
def bareM (m : S_api_Message) : S_api_Message := (m.1, (m.2.1, (m.2.2.1, ([], (m.2.2.2.2.1, m.2.2.2.2.2)))))
theorem element_eq {c : S_api_Cached} (hk : c.1.length ≤ 1000000) (h : LenM c.2.1) : m_cache_element c = some (c.1, (bareM c.2.1, c.2.2)) := by
  unfold m_cache_element
  rw [clone_some hk, clone_some h.2.2, bnd_s, bnd_s]
  obtain ⟨h1, h2⟩ := loopL_fold (bn := fun k3 (s4 : S_api_Message × List S_api_Option) => some (c.1, ((s4.1.1, (s4.1.2.1, (s4.1.2.2.1, (s4.1.2.2.2.1, (s4.2, s4.1.2.2.2.2.2))))), c.2.2)))
    (bs := fun (x6 : S_api_Option) k7 (s8 : S_api_Message × List S_api_Option) self9 => bnd (m_bytes_Clone x6.2) fun x10 => bnd (app s8.2 [(x6.1, x10)]) fun x11 => self9 (s8.1, x11))
    (fun s o => (s.1, s.2 ++ [o])) (fun k s => s.2.length = k) c.2.1.2.2.2.2.1 0 ((c.2.1.1, (c.2.1.2.1, (c.2.1.2.2.1, ([], ([], c.2.1.2.2.2.2.2))))), [])
    (fun i x s self hx hs => by
      have hi := (List.getElem?_eq_some_iff.1 hx).1
      have := h.2.1.1
      refine ⟨?_, by simp [hs]⟩
      rw [clone_some (h.2.1.2 x (List.mem_of_getElem? hx)), bnd_s, app_some' (by simp only [List.length_cons, List.length_nil]; omega)]; rfl) rfl
  rw [h1]
  have key : ∀ (l acc : List S_api_Option) (a : S_api_Message), l.foldl (fun (s : S_api_Message × List S_api_Option) o => (s.1, s.2 ++ [o])) (a, acc) = (a, acc ++ l) := by
    intro l
    induction l with
    | nil => intro acc a; simp
    | cons x l ih => intro acc a; rw [List.foldl_cons, ih]; simp
  rw [key]; rfl
theorem ElemOK.elt {c : S_api_Cached} (h : ElemOK c) : m_cache_element c = some c := by
  rw [element_eq (by have := keyB_len h.key; omega) h.len]
  have := h.tok
  obtain ⟨k, ⟨t, cd, id, tk, o, p⟩, aa⟩ := c
  have : tk = [] := this
  subst this; rfl
theorem copy15_eq {m : S_api_Message} (h : LenM m) : m_coresecref15_Copy m = some m := by
  unfold m_coresecref15_Copy
  rw [app_nil_some h.1, app_nil_some h.2.2, bnd_s, bnd_s, loopL_map (fun o => o) _ _ _ (by have := h.2.1.1; simp; omega) fun o ho k s self => ?_]
  · rw [List.map_id']; rfl
  · rw [app_nil_some (h.2.1.2 o ho)]; rfl
theorem all_id {l : List S_api_Cached} (h : ValC l) : m_cache_all_o l = some l ∧ m_cache_all l = some l := by
  have key : ∀ f : List S_api_Cached → Option (List S_api_Cached), f l = loopL (R := (List S_api_Cached)) (S := (List S_api_Cached)) (α := S_api_Cached) (fun k1 s2 => some s2) (fun x3 k4 s5 self6 => bnd (m_cache_element x3) fun x7 => bnd (app s5 [x7]) fun x8 => self6 x8) l 0 [] → f l = some l := fun f hf => by
    rw [hf, loopL_map (fun c => c) _ _ _ (by have := h.len; simp; omega) fun c hc k s self => ?_]
    · rw [List.map_id']; rfl
    · rw [(elemB_iff.1 (h.el c hc)).elt, bnd_s]
  exact ⟨key _ rfl, key _ rfl⟩
theorem copy_id {l : List S_api_Cached} (h : ValC l) : m_coresecref20_Copy_o l = some l ∧ m_coresecref20_Copy l = some l := by
  have key : ∀ f : List S_api_Cached → Option (List S_api_Cached), f l = loopL (R := (List S_api_Cached)) (S := (List S_api_Cached)) (α := S_api_Cached) (fun k1 s2 => some s2) (fun x3 k4 s5 self6 => bnd (app [] x3.1) fun x7 => bnd (m_coresecref15_Copy x3.2.1) fun x8 => bnd (app s5 [(x7, (x8, x3.2.2))]) fun x9 => self6 x9) l 0 [] → f l = some l := fun f hf => by
    rw [hf, loopL_map (fun c => c) _ _ _ (by have := h.len; simp; omega) fun c hc k s self => ?_]
    · rw [List.map_id']; rfl
    · have he := elemB_iff.1 (h.el c hc)
      rw [app_nil_some (by have := keyB_len he.key; omega), copy15_eq he.len, bnd_s, bnd_s]
  exact ⟨key _ rfl, key _ rfl⟩
/-! ### The oldest -/
def atN (l : List S_api_Cached) (b : Nat) : Int := match l[b]? with | some x => x.2.2.1 | none => 0
def oldG (l : List S_api_Cached) : List S_api_Cached → Nat → Nat → Nat
  | [], _, b => b
  | c :: r, k, b => oldG l r (k + 1) (bif decide (c.2.2.1 < atN l b) then k else b)
theorem oldG_lt (l : List S_api_Cached) : ∀ (rest : List S_api_Cached) (k b : Nat), k + rest.length ≤ l.length → b < l.length → oldG l rest k b < l.length
  | [], _, b, _, h => h
  | c :: r, k, b, hk, h => by
    rw [List.length_cons] at hk
    unfold oldG
    cases decide (c.2.2.1 < atN l b) with
    | true => exact oldG_lt l r (k + 1) k (by omega) (by omega)
    | false => exact oldG_lt l r (k + 1) b (by omega) h
theorem idx_at {l : List S_api_Cached} {b : Nat} (h : b < l.length) : ∃ x, idx l (b : Int) = some x ∧ x.2.2.1 = atN l b ∧ l[b]? = some x :=
  ⟨l[b], idx_some' (List.getElem?_eq_getElem h), by unfold atN; rw [List.getElem?_eq_getElem h], List.getElem?_eq_getElem h⟩
theorem old_go (l : List S_api_Cached) : ∀ (rest : List S_api_Cached) (k b : Nat), k + rest.length ≤ l.length → b < l.length → loopL (R := Int) (S := Int) (α := S_api_Cached) (fun _ s2 => some s2)
    (fun x3 k4 s5 self6 => bnd (β := Int) (bnd (idx l s5) fun x7 => letm (decide (x3.2.2.1 < x7.2.2.1)) fun x8 => cond x8 (some (k4 : Int)) (some s5)) fun v9 => self6 v9) rest k (b : Int) = some ((oldG l rest k b : Nat) : Int)
  | [], _, _, _, _ => rfl
  | c :: r, k, b, hk, h => by
    rw [List.length_cons] at hk
    obtain ⟨x, hx, ha, _⟩ := idx_at h
    rw [loopL_cons, hx, bnd_s, letm_e, ha]
    unfold oldG
    cases decide (c.2.2.1 < atN l b) with
    | true => exact old_go l r (k + 1) k (by omega) (by omega)
    | false => exact old_go l r (k + 1) b (by omega) h
theorem oldest_eq {l : List S_api_Cached} (h : 0 < l.length) : m_cache_oldest l = some ((oldG l l 0 0 : Nat) : Int) := old_go l l 0 0 (by omega) h
theorem rold_go (l : List S_api_Cached) (bn : Nat → Int → Option (List S_api_Cached)) : ∀ (rest : List S_api_Cached) (k b : Nat), l.drop k = rest → b < l.length → loopN (R := (List S_api_Cached)) (S := Int) bn
    (fun k29 s30 self31 => bnd (β := Int) (bnd (idx l (k29 : Int)) fun x32 => bnd (idx l (((k29 : Int)).toNat : Int)) fun x33 => bnd (idx l s30) fun x34 => bnd (idx l ((s30).toNat : Int)) fun x35 => letm (decide (x33.2.2.1 < x35.2.2.1)) fun x36 => cond x36 (some (k29 : Int)) (some s30)) fun v37 => self31 v37) rest.length k (b : Int) = bn (k + rest.length) ((oldG l rest k b : Nat) : Int)
  | [], _, _, _, _ => rfl
  | c :: r, k, b, hd, h => by
    have hk : l[k]? = some c := by have := congrArg (fun l => l[0]?) hd; simpa using this
    have hkl := (List.getElem?_eq_some_iff.1 hk).1
    have hd2 : l.drop (k + 1) = r := by have := congrArg (fun l => l.drop 1) hd; simpa using this
    obtain ⟨x, hx, ha, _⟩ := idx_at h
    rw [List.length_cons, loopN_succ, Int.toNat_natCast, Int.toNat_natCast, idx_some' hk, hx, bnd_s, bnd_s, bnd_s, bnd_s, letm_e, ha]
    unfold oldG
    rw [show k + (r.length + 1) = k + 1 + r.length by omega]
    cases decide (c.2.2.1 < atN l b) with
    | true => exact rold_go l bn r (k + 1) k hd2 hkl
    | false => exact rold_go l bn r (k + 1) b hd2 h
theorem cut_take {α : Type} {l : List α} {o : Nat} (h : o ≤ l.length) : Gk.cut l 0 (o : Int) = some (l.take o) := by
  unfold Gk.cut
  rw [if_pos (by omega)]; simp
theorem cut_drop {α : Type} {l : List α} {o : Nat} (h : o ≤ l.length) : Gk.cut l (o : Int) (l.length : Int) = some (l.drop o) := by
  unfold Gk.cut
  rw [if_pos (by omega)]; simp
/-! ### Storing -/
def outS (l : List S_api_Cached) (n : S_api_Cached) : List S_api_Cached := match l.findIdx? (fun c => c.1 == n.1) with
  | some i => l.set i n
  | none => (bif decide (16 ≤ (l.length : Int)) then l.take (oldG l l 0 0) ++ l.drop (oldG l l 0 0 + 1) else l) ++ [n]
def newE (key : List UInt8) (m : S_api_Message) (now : Int) : S_api_Cached := (key, ((0, (m.2.1, (0, ([], m.2.2.2.2)))), (now, ageS m)))
def insS (l : List S_api_Cached) (key : List UInt8) (m : S_api_Message) (now : Int) : List S_api_Cached × Int :=
  bif validC l && keyB key && !(decide (now < 0)) && !(decide (1073741824 < now)) then (bif storB m then (outS l (newE key m now), 0) else ([], 4)) else ([], 1)
theorem argument_eq (l : List S_api_Cached) (key : List UInt8) (now : Int) : m_cache_argument l key now = some (bif validC l && keyB key && !(decide (now < 0)) && !(decide (1073741824 < now)) then 0 else 1) := by
  unfold m_cache_argument
  simp only [cvalid_eq, keyed_eq, letm_e, bnd_s]
  cases validC l <;> cases keyB key <;> cases decide (now < 0) <;> cases decide (1073741824 < now) <;> rfl
theorem find_cases (l : List S_api_Cached) (key : List UInt8) : (l.findIdx? (fun c => c.1 == key) = none ∧ findS l key = -1) ∨ ∃ i x, l.findIdx? (fun c => c.1 == key) = some i ∧ findS l key = (i : Int) ∧ l[i]? = some x ∧ x.1 = key ∧ i < l.length := by
  cases h : l.findIdx? (fun c => c.1 == key) with
  | none => exact .inl ⟨rfl, by unfold findS; rw [h]⟩
  | some i =>
    obtain ⟨hi, h1, _⟩ := List.findIdx?_eq_some_iff_getElem.1 h
    exact .inr ⟨i, l[i], rfl, by unfold findS; rw [h], List.getElem?_eq_getElem hi, by simpa using h1, hi⟩
theorem insert_eq (l : List S_api_Cached) (key : List UInt8) (m : S_api_Message) (now : Int) : m_cache_Insert l key m now = some (insS l key m now) ∧ m_coresecref20_Insert l key m now = some (insS l key m now) := by
  unfold m_cache_Insert m_coresecref20_Insert insS
  simp only [argument_eq, rvalid_eq, keyed_ref, stor_eq, stor_ref, letm_e, bnd_s]
  cases hv : validC l with
  | false => exact ⟨rfl, rfl⟩
  | true =>
  cases hk : keyB key with
  | false => exact ⟨rfl, rfl⟩
  | true =>
  cases decide (now < 0) with
  | true => exact ⟨rfl, rfl⟩
  | false =>
  cases decide (1073741824 < now) with
  | true => exact ⟨rfl, rfl⟩
  | false =>
  cases hs : storB m with
  | false => exact ⟨rfl, rfl⟩
  | true =>
    have hV := validC_iff.1 hv
    have hS := storB_facts hs
    have hl := (valM_snd hS.val).len
    have hkl := keyB_len hk
    have hlen := hV.len
    have e1 : m_cache_element (key, ((0, (m.2.1, (0, ([], m.2.2.2.2)))), (now, ageS m))) = some (newE key m now) := element_eq (c := (key, ((0, (m.2.1, (0, ([], m.2.2.2.2)))), (now, ageS m)))) (by show key.length ≤ 1000000; omega) ⟨by show ([] : List UInt8).length ≤ 1000000; simp, hl.2⟩
    have e2 := app_nil_some (l := key) (by omega)
    have z1 : ((0 : Int) != 0) = false := rfl
    simp only [Bool.not_true, Bool.not_false, Bool.and_true, cond_true, cd_f, z1, age_eq hl.2.1, age_ref hl.2.1, e1, e2, (all_id hV).1, (copy_id hV).1, copy15_eq hl, find_eq, at_eq, bnd_s]
    rcases find_cases l key with ⟨h1, h2⟩ | ⟨i, x, h1, h2, h3, h4, h5⟩
    · rw [h2]
      have d1 : decide ((0 : Int) ≤ -1) = false := rfl
      simp only [d1, cd_f]
      unfold outS
      rw [show (newE key m now).1 = key from rfl, h1]
      by_cases h16 : 16 ≤ (l.length : Int)
      · have ho := oldG_lt l l 0 0 (by omega) (by omega)
        have w1 : w64 (((oldG l l 0 0 : Nat) : Int) + 1) = ((oldG l l 0 0 + 1 : Nat) : Int) := by rw [w64_of (by omega) (by omega)]; omega
        have hr := rold_go l (fun k22 s23 => bnd (Gk.cut l 0 s23) fun x24 => bnd (app [] x24) fun x25 => letm ((w64 (s23 + 1))) fun x26 => bnd (Gk.cut l x26 (l.length : Int)) fun x27 => bnd (app x25 x27) fun x28 => some x28) l 0 0 rfl (by omega)
        simp only [letm_e] at hr
        have hr : loopN (R := (List S_api_Cached)) (S := Int) _ _ l.length 0 0 = _ := hr
        have c1 := cut_take (l := l) (Nat.le_of_lt ho)
        have c2 := cut_drop (l := l) (o := oldG l l 0 0 + 1) (by omega)
        have a1 : app (l.take (oldG l l 0 0)) (l.drop (oldG l l 0 0 + 1)) = some (l.take (oldG l l 0 0) ++ l.drop (oldG l l 0 0 + 1)) := app_some' (by simp; omega)
        have a2 : ∀ n : S_api_Cached, app (l.take (oldG l l 0 0) ++ l.drop (oldG l l 0 0 + 1)) [n] = some (l.take (oldG l l 0 0) ++ l.drop (oldG l l 0 0 + 1) ++ [n]) := fun n => app_some' (by simp; omega)
        rw [w1] at hr
        rw [decide_eq_true h16]
        simp only [cd_t]
        refine ⟨?_, ?_⟩
        · rw [oldest_eq (l := l) (by omega), bnd_s, c1, bnd_s, w1, c2, bnd_s, a1, bnd_s, bnd_s, a2]; rfl
        · rw [rng_some' (n := (l.length : Int)) (by omega), bnd_s, Int.toNat_natCast, hr, c1, bnd_s, app_nil_some (l := l.take (oldG l l 0 0)) (by simp; omega), bnd_s, c2, bnd_s, a1, bnd_s, bnd_s]
          exact (congrArg (fun z => bnd z _) (a2 (newE key m now))).trans rfl
      · rw [decide_eq_false h16]
        have a2 : ∀ n : S_api_Cached, app l [n] = some (l ++ [n]) := fun n => app_some' (by simp; omega)
        simp only [cd_f, bnd_s]
        rw [a2, a2]
        exact ⟨rfl, rfl⟩
    · rw [h2]
      have d1 : decide ((0 : Int) ≤ (i : Int)) = true := decide_eq_true (by omega)
      simp only [d1, cd_t, Int.toNat_natCast, idx_some' h3, bnd_s]
      unfold outS
      rw [show (newE key m now).1 = key from rfl, h1]
      exact ⟨rfl, rfl⟩
/-- What is stored is an element that may be, and the cache stays valid. -/
theorem newE_ok {key : List UInt8} {m : S_api_Message} {now : Int} (hk : keyB key = true) (hs : storB m = true) (h0 : 0 ≤ now) : elemB (newE key m now) = true := by
  have hS := storB_facts hs
  refine elemB_iff.2 ⟨hk, h0, by have := hS.age; show 0 ≤ ageS m; omega, valM_bare hS.val ?_, rfl, rfl, rfl, ?_⟩
  · rcases hS.code with h | h <;> rw [h] <;> rfl
  · show respB m.2.1 = true
    rcases hS.code with h | h <;> rw [h] <;> rfl
theorem outS_valid {l : List S_api_Cached} {n : S_api_Cached} (h : ValC l) (hn : elemB n = true) : ValC (outS l n) := by
  unfold outS
  cases hf : l.findIdx? (fun c => c.1 == n.1) with
  | some i =>
    obtain ⟨hi, h1, _⟩ := List.findIdx?_eq_some_iff_getElem.1 hf
    have h1 : l[i].1 = n.1 := by simpa using h1
    refine ⟨by simpa using h.len, fun c hc => ?_, ?_⟩
    · rcases List.mem_or_eq_of_mem_set hc with hc | rfl
      · exact h.el c hc
      · exact hn
    · have : (l.set i n).map (·.1) = l.map (·.1) := by
        rw [List.map_set, ← h1]
        have : (l.map (·.1))[i]'(by simpa using hi) = l[i].1 := by simp
        rw [← this, List.set_getElem_self]
      rw [this]; exact h.nd
  | none =>
    rw [List.findIdx?_eq_none_iff] at hf
    have hno : ∀ c ∈ l, c.1 ≠ n.1 := fun c hc => by have := hf c hc; simpa using this
    have fin : ∀ l' : List S_api_Cached, List.Sublist l' l → l'.length ≤ 15 → ValC (l' ++ [n]) := fun l' hs hlen => by
      refine ⟨by simp; omega, fun c hc => ?_, ?_⟩
      · rcases List.mem_append.1 hc with hc | hc
        · exact h.el c (hs.subset hc)
        · rw [List.mem_singleton.1 hc]; exact hn
      · rw [List.map_append, List.nodup_append]
        refine ⟨List.Nodup.sublist (hs.map _) h.nd, by simp, fun a ha b hb => ?_⟩
        obtain ⟨c, hc, rfl⟩ := List.mem_map.1 ha
        have : b = n.1 := by simpa using hb
        rw [this]; exact hno c (hs.subset hc)
    by_cases h16 : 16 ≤ (l.length : Int)
    · rw [decide_eq_true h16]
      have ho := oldG_lt l l 0 0 (by omega) (by omega)
      have hlen := h.len
      refine fin _ ?_ (by simp; omega)
      rw [← List.eraseIdx_eq_take_drop_succ]
      exact List.eraseIdx_sublist _ _
    · rw [decide_eq_false h16]
      exact fin l (List.Sublist.refl _) (by omega)
theorem insS_valid {l : List S_api_Cached} {key : List UInt8} {m : S_api_Message} {now : Int} (h : (insS l key m now).2 = 0) : ValC (insS l key m now).1 := by
  unfold insS at h ⊢
  cases hc : validC l && keyB key && !(decide (now < 0)) && !(decide (1073741824 < now)) with
  | false => rw [hc] at h; cases h
  | true =>
    rw [hc] at h
    simp only [cond_true] at h ⊢
    cases hs : storB m with
    | false => rw [hs] at h; cases h
    | true =>
      simp only [Bool.and_eq_true, Bool.not_eq_true', decide_eq_false_iff_not] at hc
      obtain ⟨⟨⟨h1, h2⟩, h3⟩, _⟩ := hc
      exact outS_valid (validC_iff.1 h1) (newE_ok h2 hs (by omega))
structure DeckP (L0 : List Int) (p0 : Int) (d : S_coresecmake_Deck) : Prop where
  ok : DeckOK d
  same : d.1 = L0
  on : p0 ≤ d.2
theorem next_someP {L0 : List Int} {p0 : Int} {d : S_coresecmake_Deck} (h : DeckP L0 p0 d) {n : Int} (h0 : 0 < n) (h1 : n < 4611686018427387904) : ∃ v d', m_coresecmake_Deck_Next d n = some (v, d') ∧ 0 ≤ v ∧ v < n ∧ DeckP L0 p0 d' := by
  have hm : maxLen = 9223372036854775807 := rfl
  have a := h.ok.lo
  have b := h.ok.hi
  have c := h.ok.len
  have e := h.on
  unfold m_coresecmake_Deck_Next
  rw [letm_e]
  by_cases hq : (d.1.length : Int) ≤ d.2
  · rw [decide_eq_true hq, cd_t]
    exact ⟨0, d, rfl, Int.le_refl _, h0, h⟩
  · rw [decide_eq_false hq, cd_f, letm_e, letm_e, w64_of (x := d.2 + 1) (by omega) (by omega), w64_of (by omega) (by omega)]
    obtain ⟨i, hi⟩ : ∃ i : Nat, d.2 + 1 - 1 = (i : Int) := ⟨d.2.toNat, by omega⟩
    have hlt : i < d.1.length := by omega
    rw [hi, idx_some' (List.getElem?_eq_getElem hlt), bnd_s]
    obtain ⟨y, hy, y0, y1⟩ := mod_some d.1[i] h0 h1
    rw [hy, bnd_s]
    exact ⟨_, _, rfl, y0, y1, ⟨⟨by show 0 ≤ d.2 + 1; omega, by show d.2 + 1 ≤ (d.1.length : Int); omega, c⟩, h.same, by show p0 ≤ d.2 + 1; omega⟩⟩
/-- Where numbers are left, one is taken. -/
theorem next_more {d : S_coresecmake_Deck} (h : DeckOK d) (hl : d.2 < (d.1.length : Int)) {n : Int} (h0 : 0 < n) (h1 : n < 4611686018427387904) : ∃ v d', m_coresecmake_Deck_Next d n = some (v, d') ∧ 0 ≤ v ∧ v < n ∧ DeckP d.1 (d.2 + 1) d' := by
  have hm : maxLen = 9223372036854775807 := rfl
  have a := h.lo
  have b := h.hi
  have c := h.len
  unfold m_coresecmake_Deck_Next
  rw [letm_e, decide_eq_false (by omega), cd_f, letm_e, letm_e, w64_of (x := d.2 + 1) (by omega) (by omega), w64_of (by omega) (by omega)]
  obtain ⟨i, hi⟩ : ∃ i : Nat, d.2 + 1 - 1 = (i : Int) := ⟨d.2.toNat, by omega⟩
  have hlt : i < d.1.length := by omega
  rw [hi, idx_some' (List.getElem?_eq_getElem hlt), bnd_s]
  obtain ⟨y, hy, y0, y1⟩ := mod_some d.1[i] h0 h1
  rw [hy, bnd_s]
  exact ⟨_, _, rfl, y0, y1, ⟨⟨by show 0 ≤ d.2 + 1; omega, by show d.2 + 1 ≤ (d.1.length : Int); omega, c⟩, rfl, Int.le_refl _⟩⟩
theorem bytes_goP (L0 : List Int) (p0 : Int) : ∀ (k f : Nat) (b : List UInt8) (d : S_coresecmake_Deck), k < f → DeckP L0 p0 d → b.length + k ≤ 1000000 → ∃ z d', loopF (R := ((List UInt8) × S_coresecmake_Deck)) (S := ((List UInt8) × (Int × S_coresecmake_Deck))) (fun self5 s4 =>
     letm (decide (0 < s4.2.1)) fun x6 => cond x6 (bnd (m_coresecmake_Deck_Next s4.2.2 256) fun x7 => letm ((toU8 x7.1)) fun x8 => bnd (app s4.1 [x8]) fun x9 => letm ((w64 (s4.2.1 - 1))) fun x10 => self5 (x9, (x10, x7.2))) (some (s4.1, s4.2.2))) f (b, ((k : Int), d)) = some (z, d') ∧ z.length = b.length + k ∧ DeckP L0 p0 d'
  | 0, f + 1, b, d, _, hd, _ => ⟨b, d, rfl, rfl, hd⟩
  | k + 1, f + 1, b, d, hf, hd, hl => by
    obtain ⟨v, d1, h1, _, _, h2⟩ := next_someP hd (n := 256) (by omega) (by omega)
    rw [loopF_succ, letm_e]
    have e1 : decide ((0 : Int) < ((k + 1 : Nat) : Int)) = true := decide_eq_true (by omega)
    simp only [e1, cd_t]
    rw [h1, bnd_s, letm_e, app_some' (by simp; omega), bnd_s, letm_e, w64_of (by omega) (by omega), show (((k + 1 : Nat) : Int) - 1) = (k : Int) by omega]
    obtain ⟨z, d', h3, h4, h5⟩ := bytes_goP L0 p0 k f (b ++ [toU8 v]) d1 (by omega) h2 (by simp; omega)
    exact ⟨z, d', h3, by simp at h4; omega, h5⟩
theorem bytes_someP {L0 : List Int} {p0 : Int} {d : S_coresecmake_Deck} (h : DeckP L0 p0 d) {n : Int} (h0 : 0 ≤ n) (h1 : n ≤ 1000) : ∃ b d', m_coresecmake_Deck_Bytes d n = some (b, d') ∧ b.length ≤ 1000 ∧ DeckP L0 p0 d' := by
  unfold m_coresecmake_Deck_Bytes
  rw [letm_e, w64_of (by omega) (by omega)]
  obtain ⟨v, d1, h2, v0, v1, h3⟩ := next_someP h (n := n + 1) (by omega) (by omega)
  rw [h2, bnd_s]
  obtain ⟨k, rfl⟩ : ∃ k : Nat, v = (k : Int) := ⟨v.toNat, by omega⟩
  obtain ⟨z, d', h4, h5, h6⟩ := bytes_goP L0 p0 k FUEL [] d1 (by rw [fuel_eq]; omega) h3 (by simp; omega)
  exact ⟨z, d', h4, by simp at h5; omega, h6⟩
/-- A small message. -/
theorem response_someP {L0 : List Int} {p0 : Int} {d : S_coresecmake_Deck} (h : DeckP L0 p0 d) : ∃ m d', m_coresecmake_Deck_Response d = some (m, d') ∧ DeckP L0 p0 d' ∧ Sz 3 m := by
  unfold m_coresecmake_Deck_Response
  obtain ⟨v1, d1, e1, _, _, h1⟩ := next_someP h (n := 3) (by omega) (by omega)
  rw [e1, bnd_s]
  obtain ⟨v2, d2, e2, l2, u2, h2⟩ := next_someP h1 (n := 5) (by omega) (by omega)
  rw [e2, bnd_s]
  obtain ⟨x3, e3, _⟩ := idx_lit ([69, 69, 69, 132, 68] : List Int) l2 (by show v2 < 5; omega)
  rw [e3, bnd_s]
  obtain ⟨v4, d4, e4, _, _, h4⟩ := next_someP h2 (n := 99) (by omega) (by omega)
  rw [e4, bnd_s]
  obtain ⟨b5, d5, e5, l5, h5⟩ := bytes_someP h4 (n := 2) (by omega) (by omega)
  rw [e5, bnd_s]
  obtain ⟨b6, d6, e6, l6, h6⟩ := bytes_someP h5 (n := 6) (by omega) (by omega)
  rw [e6, bnd_s]
  have z0 : Sz 0 (v1, (x3, (v4, (b5, (([] : List S_api_Option), b6))))) := ⟨l5, by simp, by simp, l6⟩
  -- Max-Age
  obtain ⟨v7, d7, e7, _, _, h7⟩ := next_someP h6 (n := 2) (by omega) (by omega)
  simp only [e7, bnd_s, letm_e]
  obtain ⟨d8, m8, e8, h8, z8⟩ : ∃ d8 m8, (cond (v7 == 0) (bnd (m_coresecmake_Deck_Next d7 5) fun x9 => bnd (idx [0, 1, 5, 40, 300] x9.1) fun x10 => bnd (m_coresecref16_FromUint x10) fun x11 => bnd (m_coresecref16_Set (v1, (x3, (v4, (b5, ([], b6))))) 14 [x11]) fun x12 => some (x9.2, x12)) (some (d7, (v1, (x3, (v4, (b5, ([], b6)))))))) = some (d8, m8) ∧ DeckP L0 p0 d8 ∧ Sz 1 m8 := by
    cases v7 == 0 with
    | false => exact ⟨_, _, rfl, h7, z0.tok, by simp, z0.ov, z0.pay⟩
    | true =>
      obtain ⟨v9, d9, e9, l9, u9, h9⟩ := next_someP h7 (n := 5) (by omega) (by omega)
      rw [cd_t, e9, bnd_s]
      obtain ⟨x10, e10, _⟩ := idx_lit ([0, 1, 5, 40, 300] : List Int) l9 (by show v9 < 5; omega)
      rw [e10, bnd_s]
      obtain ⟨l11, _, e11, l11l⟩ := fromUint_any x10
      obtain ⟨e12, z12⟩ := z0.set 14 (vs := [l11]) (j := 1) (by omega) (by simp) (by simp; omega)
      rw [e11, bnd_s, e12, bnd_s]
      exact ⟨_, _, rfl, h9, z12⟩
  rw [e8, bnd_s]
  -- a tag
  obtain ⟨v14, d14, e14, _, _, h14⟩ := next_someP h8 (n := 2) (by omega) (by omega)
  simp only [e14, bnd_s]
  obtain ⟨d15, m15, e15, h15, z15⟩ : ∃ d15 m15, (cond (v14 == 0) (bnd (m_coresecmake_Deck_Next d14 3) fun x16 => bnd (m_coresecref16_Set m8 4 [[toU8 x16.1]]) fun x18 => some (x16.2, x18)) (some (d14, m8))) = some (d15, m15) ∧ DeckP L0 p0 d15 ∧ Sz 2 m15 := by
    cases v14 == 0 with
    | false => exact ⟨_, _, rfl, h14, z8.tok, by have := z8.ol; omega, z8.ov, z8.pay⟩
    | true =>
      obtain ⟨v16, d16, e16, _, _, h16⟩ := next_someP h14 (n := 3) (by omega) (by omega)
      obtain ⟨e17, z17⟩ := z8.set 4 (vs := [[toU8 v16]]) (j := 1) (by omega) (by simp) (by simp)
      rw [cd_t, e16, bnd_s, e17, bnd_s]
      exact ⟨_, _, rfl, h16, z17⟩
  rw [e15, bnd_s]
  obtain ⟨v20, d20, e20, _, _, h20⟩ := next_someP h15 (n := 8) (by omega) (by omega)
  simp only [e20, bnd_s]
  cases v20 == 0 with
  | true =>
    obtain ⟨e22, z22⟩ := z15.set 6 (vs := [[1]]) (j := 1) (by omega) (by simp) (by simp)
    rw [cd_t, e22, bnd_s, bnd_s]
    exact ⟨_, _, rfl, h20, z22⟩
  | false =>
    rw [cd_f]
    cases v20 == 1 with
    | false => exact ⟨_, _, rfl, h20, z15.tok, by have := z15.ol; show m15.2.2.2.2.1.length ≤ 3; omega, z15.ov, z15.pay⟩
    | true =>
      obtain ⟨v24, d24, e24, _, _, h24⟩ := next_someP h20 (n := 2) (by omega) (by omega)
      obtain ⟨v25, d25, e25, _, _, h25⟩ := next_someP h24 (n := 2) (by omega) (by omega)
      obtain ⟨r, er, lr⟩ := value18_some (v24, (v25 == 0, 2))
      obtain ⟨e28, z28⟩ := z15.set 23 (vs := [r.1]) (j := 1) (by omega) (by simp) (by simp; omega)
      rw [cd_t, e24, bnd_s, e25, bnd_s, er, bnd_s, e28, bnd_s, bnd_s]
      exact ⟨_, _, rfl, h25, z28⟩
def valN : List UInt8 → Nat
  | [] => 0
  | c :: l => c.toNat * 256 ^ l.length + valN l
theorem uintN_val : ∀ (l : List UInt8) (s : Nat), s * 256 ^ l.length + valN l ≤ 4294967295 → uintN s l = (((s * 256 ^ l.length + valN l : Nat) : Int), 0)
  | [], s, _ => by rw [uintN, valN]; simp
  | c :: l, s, h => by
    rw [valN, List.length_cons, Nat.pow_succ] at h ⊢
    have e : s * (256 ^ l.length * 256) + (c.toNat * 256 ^ l.length + valN l) = (s * 256 + c.toNat) * 256 ^ l.length + valN l := by
      rw [Nat.add_mul, Nat.mul_assoc, Nat.mul_comm 256 (256 ^ l.length)]; omega
    rw [e] at h ⊢
    have hp : 1 ≤ 256 ^ l.length := Nat.pow_pos (by omega)
    have := Nat.mul_le_mul_left (s * 256 + c.toNat) hp
    rw [uintN, decide_eq_false (by omega), cond_false, uintN_val l _ h]
theorem from_go : ∀ (j k f : Nat) (l : List UInt8), k < 256 ^ j → j < f → l.length + j ≤ 10 → ∃ r, loopF (R := (List UInt8)) (S := S_api_Option) (fun self4 s3 => letm (decide (0 < s3.1)) fun x5 => cond x5 (letm ((toU8 s3.1)) fun x6 => bnd (app [x6] s3.2) fun x7 => bnd (Gk.shr s3.1 (UInt64.toNat 8 : Int)) fun x8 => self4 (x8, x7)) (some s3.2)) f ((k : Int), l) = some r ∧ valN r = k * 256 ^ l.length + valN l := by
  intro j
  induction j with
  | zero =>
    intro k f l hk hf hl
    obtain ⟨f, rfl⟩ : ∃ g, f = g + 1 := ⟨f - 1, by omega⟩
    obtain rfl : k = 0 := by simpa using hk
    exact ⟨l, rfl, by simp⟩
  | succ j ih =>
    intro k f l hk hf hl
    obtain ⟨f, rfl⟩ : ∃ g, f = g + 1 := ⟨f - 1, by omega⟩
    rcases Nat.eq_zero_or_pos k with rfl | hk0
    · exact ⟨l, rfl, by simp⟩
    · rw [Nat.pow_succ] at hk
      obtain ⟨r, h1, h2⟩ := ih (k / 256) f (toU8 (k : Int) :: l) (Nat.div_lt_of_lt_mul (by rw [Nat.mul_comm]; exact hk)) (by omega) (by simp; omega)
      refine ⟨r, ?_, ?_⟩
      · rw [loopF_succ, letm_e]
        simp only [show decide ((0 : Int) < (k : Int)) = true from decide_eq_true (by omega), cd_t]
        rw [letm_e, app_some' (by simp; omega), bnd_s, shr8, bnd_s, show (k : Int) / 256 = ((k / 256 : Nat) : Int) by omega]
        exact h1
      · rw [h2, List.length_cons, Nat.pow_succ, valN]
        have h3 := toU8_toNat (k : Int)
        have h4 : (toU8 (k : Int)).toNat = k % 256 := by omega
        have h5 := Nat.div_add_mod k 256
        rw [h4, Nat.mul_comm (256 ^ l.length) 256, ← Nat.mul_assoc, ← Nat.add_assoc, ← Nat.add_mul, Nat.mul_comm (k / 256) 256, h5]
theorem fromUint_back (n : Nat) (h : n ≤ 4294967295) : ∃ l, m_option_FromUint (n : Int) = some l ∧ m_option_Uint l = some ((n : Int), 0) := by
  obtain ⟨l, h1, h2, _⟩ := fromUint_eq n h
  refine ⟨l, h1, ?_⟩
  obtain ⟨r, h3, h4⟩ := from_go 4 n FUEL [] (by omega) (by rw [fuel_eq]; omega) (by simp)
  have t1 : decide ((n : Int) < 0) = false := decide_eq_false (by omega)
  have t2 : decide ((4294967295 : Int) < (n : Int)) = false := decide_eq_false (by omega)
  unfold m_coresecref16_FromUint at h2
  simp only [letm_e, t1, t2, cd_f, bnd_s] at h2 h3
  rw [h3] at h2
  cases h2
  simp [valN] at h4
  rw [uint_eq, uintN_val _ 0 (by rw [h4]; omega), h4]; simp
theorem mfind_set {α : Type} (k : UInt8) (v : α) : ∀ f : List (UInt8 × α), mfind (mset f k v) k = some v
  | [] => by show (bif k == k then some v else mfind [] k) = _; rw [beq_self_eq_true]; rfl
  | x :: f => by
    show mfind (bif x.1 == k then (k, v) :: f else x :: mset f k v) k = some v
    cases h : x.1 == k with
    | true => rw [cond_true]; show (bif k == k then some v else _) = _; rw [beq_self_eq_true]; rfl
    | false => rw [cond_false]; show (bif x.1 == k then some x.2 else mfind (mset f k v) k) = _; rw [h, cond_false, mfind_set k v f]
theorem mfind_other {α : Type} {k q : UInt8} (v : α) (hne : (k == q) = false) : ∀ f : List (UInt8 × α), mfind (mset f k v) q = mfind f q
  | [] => by show (bif k == q then some v else mfind [] q) = _; rw [hne]; rfl
  | x :: f => by
    show mfind (bif x.1 == k then (k, v) :: f else x :: mset f k v) q = (bif x.1 == q then some x.2 else mfind f q)
    cases h : x.1 == k with
    | true =>
      rw [cond_true]
      have hx := beq_iff_eq.1 h
      show (bif k == q then some v else mfind f q) = _
      rw [hx, hne]
      rfl
    | false =>
      rw [cond_false]
      show (bif x.1 == q then some x.2 else mfind (mset f k v) q) = _
      rw [mfind_other v hne f]
theorem nodup_key {l : List S_api_Cached} (h : (l.map (·.1)).Nodup) {x y : S_api_Cached} (hx : x ∈ l) (hy : y ∈ l) (he : x.1 = y.1) : x = y := by
  induction l with
  | nil => simp at hx
  | cons z l ih =>
    rw [List.map_cons, List.nodup_cons] at h
    rcases List.mem_cons.1 hx with hx1 | hx1 <;> rcases List.mem_cons.1 hy with hy1 | hy1
    · rw [hx1, hy1]
    · exact absurd (List.mem_map.2 ⟨y, hy1, by rw [← he, hx1]⟩) h.1
    · exact absurd (List.mem_map.2 ⟨x, hx1, by rw [he, hy1]⟩) h.1
    · exact ih h.2 hx1 hy1
theorem ageS_le (m : S_api_Message) : ageS m ≤ 4294967295 := by
  unfold ageS
  have := uintN_rng (getS m.2.2.2.2.1 14).1 0 (by omega)
  cases !(getS m.2.2.2.2.1 14).2 <;> cases decide (4 < ((getS m.2.2.2.2.1 14).1.length : Int)) <;> simp only [cond_true, cond_false] <;> omega
theorem outS_mem {l : List S_api_Cached} {n : S_api_Cached} : n ∈ outS l n ∧ ∀ x ∈ outS l n, x = n ∨ x ∈ l := by
  unfold outS
  cases hf : l.findIdx? (fun c => c.1 == n.1) with
  | some i =>
    obtain ⟨hi, _, _⟩ := List.findIdx?_eq_some_iff_getElem.1 hf
    exact ⟨List.mem_set hi n, fun x hx => (List.mem_or_eq_of_mem_set hx).symm⟩
  | none =>
    refine ⟨by simp, fun x hx => ?_⟩
    rcases List.mem_append.1 hx with hx | hx
    · right
      by_cases hd : 16 ≤ (l.length : Int)
      · rw [decide_eq_true hd, cond_true] at hx
        rcases List.mem_append.1 hx with hx | hx
        · exact List.mem_of_mem_take hx
        · exact List.mem_of_mem_drop hx
      · rw [decide_eq_false hd, cond_false] at hx
        exact hx
    · exact .inl (List.mem_singleton.1 hx)
theorem get_set (l : List S_api_Option) (n : Int) (v : List UInt8) : getS (setO l n [v]) n = (v, true) := by
  have h1 : (l.filter fun o => decide (o.1 < n)).find? (fun o => o.1 == n) = none := by
    rw [List.find?_eq_none]
    intro o ho
    have := of_decide_eq_true (List.mem_filter.1 ho).2
    simp; omega
  unfold getS setO
  rw [List.append_assoc, List.find?_append, h1]
  simp
theorem lookup_cases {l : List S_api_Cached} (h : ValC l) (key : List UInt8) {now : Int} (hb : ∀ x ∈ l, x.2.2.2 ≤ 4294967295) (h0 : 0 ≤ now) (h1 : now ≤ 1073741824) : ∃ r, m_cache_Lookup l key now = some r ∧ (r.2 = false ∨ ∃ x, x ∈ l ∧ x.1 = key ∧ r.2 = true ∧ x.2.2.1 ≤ now ∧ now - x.2.2.1 < x.2.2.2 ∧ LenO r.1.2.2.2.2.1 ∧ ageS r.1 = x.2.2.2 - (now - x.2.2.1) ∧ r.1.2.2.2.2.2 = x.2.1.2.2.2.2.2 ∧ r.1.2.1 = x.2.1.2.1) := by
  unfold m_cache_Lookup
  rw [find_eq, bnd_s, letm_e]
  rcases find_cases l key with ⟨h1, h2⟩ | ⟨i, x, h1, h2, h3, h4, h5⟩
  · rw [h2]; exact ⟨_, rfl, .inl rfl⟩
  · have d1 : decide ((i : Int) < 0) = false := decide_eq_false (by omega)
    have hxm := List.mem_of_getElem? h3
    have he := elemB_iff.1 (h.el x hxm)
    have ha := he.at0; have hg := he.age0; have hbx := hb x hxm
    rw [h2, d1]
    simp only [cd_f, idx_some' h3, letm_e, bnd_s]
    have hl := he.len
    by_cases hn : now < x.2.2.1
    · rw [decide_eq_true hn]; exact ⟨_, rfl, .inl rfl⟩
    rw [decide_eq_false hn, cd_f, w64_of (x := now - x.2.2.1) (by omega) (by omega)]
    by_cases hq : x.2.2.2 ≤ now - x.2.2.1
    · rw [decide_eq_true hq]; exact ⟨_, rfl, .inl rfl⟩
    rw [decide_eq_false hq, bnd_s, cd_f, w64_of (x := x.2.2.2 - (now - x.2.2.1)) (by omega) (by omega)]
    obtain ⟨n, hnn⟩ : ∃ n : Nat, x.2.2.2 - (now - x.2.2.1) = (n : Int) := ⟨(x.2.2.2 - (now - x.2.2.1)).toNat, by omega⟩
    obtain ⟨v, e1, _, e3⟩ := fromUint_any (n : Int)
    obtain ⟨v', e4, e5⟩ := fromUint_back n (by omega)
    rw [e1] at e4
    have e4 := Option.some.inj e4
    subst e4
    have s1 := set_eq (n := 14) (vs := [v]) hl (by have := (valM_snd he.val).ol; omega) (by simp) (by simp; omega)
    rw [hnn, e1, bnd_s, s1, bnd_s]
    refine ⟨_, rfl, .inr ⟨x, hxm, h4, rfl, by omega, by omega, LenO.set (by have := (valM_snd he.val).ol; omega) hl.2.1.2 (by simp) (by simp; omega), ?_, rfl, rfl⟩⟩
    show ageS (withO x.2.1 (setO x.2.1.2.2.2.2.1 14 [v])) = x.2.2.2 - (now - x.2.2.1)
    rw [hnn]
    unfold ageS
    have eg : getS (withO x.2.1 (setO x.2.1.2.2.2.2.1 14 [v])).2.2.2.2.1 14 = (v, true) := get_set _ _ _
    rw [uint_eq] at e5
    have e5 := Option.some.inj e5
    rw [eg]
    show (bif !true then (60 : Int) else bif decide (4 < (v.length : Int)) then 0 else (uintN 0 v).1) = _
    rw [Bool.not_true, cond_false, decide_eq_false (by omega), cond_false, e5]
theorem key1 (k : UInt8) : keyB [k] = true := rfl
theorem set_valid {c : List S_api_Cached} (h : ValC c) {i : Nat} {x y : S_api_Cached} (hx : c[i]? = some x) (hk : y.1 = x.1) (he : elemB y = true) : ValC (c.set i y) := by
  refine ⟨by rw [List.length_set]; exact h.len, fun z hz => ?_, ?_⟩
  · rcases List.mem_or_eq_of_mem_set hz with hz | rfl
    · exact h.el z hz
    · exact he
  · have : (c.set i y).map (·.1) = c.map (·.1) := by
      rw [List.map_set, hk]
      obtain ⟨hi, e⟩ := List.getElem?_eq_some_iff.1 hx
      apply List.ext_getElem (by simp)
      intro j h1 h2
      rw [List.getElem_set]
      split
      · rename_i hj; subst hj; simp [e]
      · rfl
    rw [this]; exact h.nd
theorem both_cond {α : Type} {b : Bool} {x y x' y' : Option α} (h1 : ∃ r, x = some r ∧ x' = some r) (h2 : ∃ r, y = some r ∧ y' = some r) : ∃ r, cond b x y = some r ∧ cond b x' y' = some r := by
  cases b
  · exact h2
  · exact h1
theorem both_cond_q {α : Type} {Q : α → Prop} {b : Bool} {x y x' y' : Option α} (h1 : ∃ r, x = some r ∧ x' = some r ∧ Q r) (h2 : ∃ r, y = some r ∧ y' = some r ∧ Q r) : ∃ r, cond b x y = some r ∧ cond b x' y' = some r ∧ Q r := by
  cases b
  · exact h2
  · exact h1
theorem shl16 (n : Nat) : Gk.shl 16 (n : Int) = some (w64 (16 * 2 ^ min n 64)) := by
  unfold Gk.shl
  rw [if_neg (by omega), Int.toNat_natCast]
/-! ### What decks give -/
theorem allS_len (l : List S_api_Option) (n : Int) : (allS l n).length ≤ l.length := List.length_filterMap_le _ _
theorem allS_mem {l : List S_api_Option} {n : Int} {v : List UInt8} (h : v ∈ allS l n) : ∃ o ∈ l, o.2 = v := by
  unfold allS at h
  obtain ⟨o, ho, h⟩ := List.mem_filterMap.1 h
  refine ⟨o, ho, ?_⟩
  cases hq : o.1 == n with
  | true => rw [hq] at h; simpa using h
  | false => rw [hq] at h; cases h
theorem some_go (a : Int) : ∀ (r k : Nat) (b : List UInt8), k + r ≤ 1000000 → b.length + r ≤ 1000000 → ∃ z, loopN (R := (List UInt8)) (S := (List UInt8)) (fun _ s3 => some s3) (fun k4 s5 self6 => letm ((toU64 a)) fun x7 => bnd (Gk.rem (k4 : Int) 8) fun x8 => letm ((toU64 x8)) fun x9 => letm ((8 * x9)) fun x10 => bnd (shrK .u64 x7 (UInt64.toNat x10 : Int)) fun x11 => letm ((toU8 (UInt64.toNat x11 : Int))) fun x12 => bnd (quo (k4 : Int) 8) fun x13 => letm ((toU8 x13)) fun x14 => letm ((x12 + x14)) fun x15 => bnd (app s5 [x15]) fun x16 => self6 x16) r k b = some z ∧ z.length = b.length + r
  | 0, _, b, _, _ => ⟨b, rfl, rfl⟩
  | r + 1, k, b, hk, hb => by
    have e1 : Gk.rem (k : Int) 8 = some ((k % 8 : Nat) : Int) := rem_nat (b := 8) (by omega)
    have e2 : quo (k : Int) 8 = some ((k / 8 : Nat) : Int) := quo_nat (b := 8) (by omega) (by omega)
    rw [loopN_succ]
    simp only [letm_e, e1, e2, bnd_s]
    have hs : ∀ (x : UInt64) (n : Nat), ∃ y : UInt64, shrK .u64 x (n : Int) = some y := fun x n => by
      refine ⟨UInt64.ofNat (x.toNat / 2 ^ min ((n : Int)).toNat 64), ?_⟩
      show shr64 x (n : Int) = _
      unfold shr64
      rw [if_neg (by omega)]
    obtain ⟨y, hy⟩ := hs (toU64 a) (UInt64.toNat (8 * toU64 ((k % 8 : Nat) : Int)))
    rw [hy]
    show ∃ z, bnd (app b [toU8 (UInt64.toNat y : Int) + toU8 ((k / 8 : Nat) : Int)]) _ = some z ∧ _
    rw [app_some' (by simp; omega), bnd_s]
    obtain ⟨z, h1, h2⟩ := some_go a r (k + 1) (b ++ [toU8 (UInt64.toNat y : Int) + toU8 ((k / 8 : Nat) : Int)]) (by omega) (by simp; omega)
    simp only [letm_e] at h1
    exact ⟨z, h1, by simp at h2; omega⟩
theorem some_some (a n : Int) (h : n ≤ 100000) : ∃ z, m_coresecmake_Some a n = some z ∧ z.length = n.toNat := by
  unfold m_coresecmake_Some
  rw [rng_some' (by omega), bnd_s]
  obtain ⟨z, h1, h2⟩ := some_go a n.toNat 0 [] (by omega) (by simp; omega)
  exact ⟨z, h1, by simpa using h2⟩
/-! ### The block of a message -/
def soundS (l : List (List UInt8)) : S_api_Block × (Bool × Bool) := match l with
  | [] => ((0, (false, 0)), (false, false))
  | [v] => bif (parseS v).2 == 0 then ((parseS v).1, (true, true)) else ((0, (false, 0)), (true, false))
  | _ => ((0, (false, 0)), (true, false))
theorem soundS_one (v : List UInt8) : soundS [v] = bif (parseS v).2 == 0 then ((parseS v).1, (true, true)) else ((0, (false, 0)), (true, false)) := rfl
theorem parseS_err {v : List UInt8} (h : ((parseS v).2 == 0) = false) : parseS v = ((0, (false, 0)), 4) := by
  unfold parseS at h ⊢
  cases h1 : decide (3 < (v.length : Int)) with
  | true => rfl
  | false =>
    rw [h1] at h
    simp only [cond_false] at h ⊢
    cases h2 : ((uintN 0 v).1 % 8 == 7) with
    | true => rfl
    | false => rw [h2] at h; cases h
theorem sound33_ref {m : S_api_Message} (h : LenO m.2.2.2.2.1) (n : Int) : m_coresecref33_Sound m n = some (soundS (allS m.2.2.2.2.1 n)) := by
  unfold m_coresecref33_Sound
  rw [all_ref h, bnd_s, letm_e]
  cases allS m.2.2.2.2.1 n with
  | nil => rfl
  | cons v r =>
    have e0 : (((v :: r).length : Int) == 0) = false := by rw [beq_eq_false_iff_ne]; simp; omega
    rw [e0, cd_f, show idx (v :: r) 0 = some v from rfl, bnd_s, (parse_eq v).2, bnd_s, letm_e, letm_e, bne]
    cases r with
    | nil =>
      rw [soundS_one]
      cases hp : (parseS v).2 == 0 <;> rfl
    | cons u r =>
      have e2 : decide (1 < ((v :: u :: r).length : Int)) = true := decide_eq_true (by simp; omega)
      rw [e2]
      cases (parseS v).2 == 0 <;> rfl
def posS (b : S_api_Block) : Int := w64 (b.1 * w64 (16 * 2 ^ min (UInt64.toNat (toU64 b.2.2)) 64))
/-! ### Comparing bytes -/
end Go.Proofs.YtcbkmlfkfhfliaaGreatDoor
