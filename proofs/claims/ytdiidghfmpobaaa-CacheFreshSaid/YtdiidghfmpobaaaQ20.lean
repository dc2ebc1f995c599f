/-
  Caches, plain facts: what both texts say of which caches are valid, which responses may be stored, and what storing makes. Of the models alone; no program; no condition.
-/
import Derived.Test.YtdiidghfmpobaaaQ17
import Derived.Test.YtdiidghfmpobaaaQMk
namespace Go.Proofs.Ytdiidghfmpobaaa
open Go.Gk Go.RowKit
def keyB (k : List UInt8) : Bool := decide (1 ≤ (k.length : Int)) && decide ((k.length : Int) ≤ 4096)
theorem keyed_eq (k : List UInt8) : m_cache_keyed k = some (keyB k) := by
  unfold m_cache_keyed keyB
  simp only [letm_e]
  cases decide (1 ≤ (k.length : Int)) <;> cases decide ((k.length : Int) ≤ 4096) <;> rfl
theorem keyed_ref (k : List UInt8) : m_coresecref20_keyed k = some (keyB k) := by
  unfold m_coresecref20_keyed keyB
  have e : decide (0 < (k.length : Int)) = decide (1 ≤ (k.length : Int)) := decide_eq_decide.2 (by omega)
  simp only [letm_e, e]
  cases decide (1 ≤ (k.length : Int)) <;> cases decide ((k.length : Int) ≤ 4096) <;> rfl
def findS (l : List S_api_Cached) (key : List UInt8) : Int := match l.findIdx? (fun c => c.1 == key) with | some i => (i : Int) | none => -1
theorem find_eq (l : List S_api_Cached) (key : List UInt8) : m_cache_find l key = some (findS l key) := by
  unfold m_cache_find
  rw [loopL_search (fun c : S_api_Cached => c.1 == key) (fun _ k => some (k : Int)) l 0 (fun x _ k self => by unfold m_bytes_Equal; rw [letm_e, bnd_s])]
  unfold findS
  cases h : l.findIdx? (fun c => c.1 == key) with
  | none => rfl
  | some i =>
    obtain ⟨hi, _⟩ := List.findIdx?_eq_some_iff_getElem.1 h
    simp [List.getElem?_eq_getElem hi]
theorem at_find : m_coresecref20_at = m_cache_find := rfl
theorem at_eq (l : List S_api_Cached) (key : List UInt8) : m_coresecref20_at l key = some (findS l key) := by rw [at_find, find_eq]
theorem findS_any (l : List S_api_Cached) (key : List UInt8) : decide (0 ≤ findS l key) = l.any (fun c => c.1 == key) := by
  unfold findS
  cases h : l.findIdx? (fun c => c.1 == key) with
  | none =>
    rw [List.findIdx?_eq_none_iff] at h
    have : l.any (fun c => c.1 == key) = false := by
      rw [List.any_eq_false]; intro x hx; simpa using h x hx
    rw [this]; rfl
  | some i =>
    obtain ⟨hi, h1, _⟩ := List.findIdx?_eq_some_iff_getElem.1 h
    have : l.any (fun c => c.1 == key) = true := List.any_eq_true.2 ⟨l[i], List.getElem_mem hi, h1⟩
    rw [this]; simp
def respB (c : Int) : Bool := (decide (64 ≤ c) && decide (c ≤ 95)) || (decide (128 ≤ c) && decide (c ≤ 191))
theorem resp_eq (c : Int) : m_coap_Response c = some (respB c) := by
  unfold m_coap_Response respB
  simp only [letm_e]
  cases decide (64 ≤ c) <;> cases decide (c ≤ 95) <;> cases decide (128 ≤ c) <;> cases decide (c ≤ 191) <;> rfl
theorem resp_ref (c : Int) : m_coresecref15_Response c = some (respB c) := by
  unfold m_coresecref15_Response respB
  have e1 : decide (c < 96) = decide (c ≤ 95) := decide_eq_decide.2 (by omega)
  have e2 : decide (c < 192) = decide (c ≤ 191) := decide_eq_decide.2 (by omega)
  simp only [letm_e, e1, e2]
  cases decide (64 ≤ c) <;> cases decide (c ≤ 95) <;> cases decide (128 ≤ c) <;> cases decide (c ≤ 191) <;> rfl
def elemB (c : S_api_Cached) : Bool :=
  keyB c.1 && !(decide (c.2.2.1 < 0)) && !(decide (c.2.2.2 < 0)) && valM c.2.1 && (c.2.1.1 == 0) && (c.2.1.2.2.1 == 0) && ((c.2.1.2.2.2.1.length : Int) == 0) && respB c.2.1.2.1
def goodL : List S_api_Cached → List S_api_Cached → Bool
  | _, [] => true
  | pre, c :: r => elemB c && !(pre.any fun d => d.1 == c.1) && goodL (pre ++ [c]) r
def validC (l : List S_api_Cached) : Bool := !(decide (16 < (l.length : Int))) && goodL [] l
theorem cut_pre {α : Type} {pre rest : List α} : Gk.cut (pre ++ rest) 0 (pre.length : Int) = some pre := by
  unfold Gk.cut
  rw [if_pos (by simp; omega)]
  simp
theorem goodL_cons (pre : List S_api_Cached) (c : S_api_Cached) (r : List S_api_Cached) : goodL pre (c :: r) = (elemB c && !(pre.any fun d => d.1 == c.1) && goodL (pre ++ [c]) r) := rfl
theorem valid_go (l : List S_api_Cached) : ∀ (rest pre : List S_api_Cached), l = pre ++ rest → loopL (R := Bool) (S := Unit) (α := S_api_Cached) (fun _ _ => some true) (fun x4 k5 _ self7 =>
    bnd (β := Bool) (bnd (m_cache_keyed x4.1) fun x8 => letm ((!x8)) fun x9 => cond x9 (some true) (letm (decide (x4.2.2.1 < 0)) fun x10 => cond x10 (some true) (letm (decide (x4.2.2.2 < 0)) fun x11 => cond x11 (some true)
    (bnd (Gk.cut l 0 (k5 : Int)) fun x12 => bnd (m_cache_find x12 x4.1) fun x13 => letm (decide (0 ≤ x13)) fun x14 => some x14)))) fun v15 => cond v15 (some false)
    (bnd (β := Bool) (bnd (m_coap_Valid x4.2.1) fun x16 => letm ((!x16)) fun x17 => cond x17 (some true) (bnd (m_cache_bare x4.2.1) fun x18 => letm ((!x18)) fun x19 => cond x19 (some true)
    (bnd (m_coap_Response x4.2.1.2.1) fun x20 => letm ((!x20)) fun x21 => some x21))) fun v22 => cond v22 (some false) (self7 ()))) rest pre.length () = some (goodL pre rest)
  | [], pre, _ => rfl
  | c :: rest, pre, h => by
    have ih := valid_go l rest (pre ++ [c]) (by rw [h]; simp)
    rw [List.length_append, List.length_singleton] at ih
    rw [loopL_cons, ih]
    have hb : m_cache_bare c.2.1 = some ((c.2.1.1 == 0) && (c.2.1.2.2.1 == 0) && ((c.2.1.2.2.2.1.length : Int) == 0)) := by
      unfold m_cache_bare
      simp only [letm_e]
      cases c.2.1.1 == 0 <;> cases c.2.1.2.2.1 == 0 <;> rfl
    have hc : Gk.cut l 0 (pre.length : Int) = some pre := by rw [h]; exact cut_pre
    simp only [keyed_eq, letm_e, bnd_s, hc, find_eq, findS_any, coap_valid_eq, hb, resp_eq]
    rw [goodL_cons]
    generalize goodL (pre ++ [c]) rest = G
    unfold elemB
    cases keyB c.1 <;> cases decide (c.2.2.1 < 0) <;> cases decide (c.2.2.2 < 0) <;> simp only [Bool.not_true, Bool.not_false, cd_t, cd_f, bnd_s, Bool.false_and, Bool.true_and]
    cases (pre.any fun d => d.1 == c.1) <;> cases valM c.2.1 <;> cases c.2.1.1 == 0 <;> cases c.2.1.2.2.1 == 0 <;> cases (c.2.1.2.2.2.1.length : Int) == 0 <;> cases respB c.2.1.2.1 <;> rfl
theorem cvalid_eq (l : List S_api_Cached) : m_cache_Valid l = some (validC l) := by
  unfold m_cache_Valid validC
  rw [letm_e]
  have := valid_go l l [] rfl
  simp only [List.length_nil] at this
  rw [this]
  cases decide (16 < (l.length : Int)) <;> rfl
theorem anyloop (key : List UInt8) (Z : Option Bool) : ∀ (xs : List S_api_Cached) (k : Nat), loopL (R := Bool) (S := Unit) (α := S_api_Cached) (fun _ _ => Z) (fun x22 _ _ self25 => cond (key == x22.1) (some false) (self25 ())) xs k () = cond (xs.any fun d => d.1 == key) (some false) Z
  | [], _ => rfl
  | x :: xs, k => by
    rw [loopL_cons, anyloop key Z xs (k + 1), List.any_cons, show (key == x.1) = (x.1 == key) from Bool.beq_comm]
    cases x.1 == key <;> rfl
theorem rvalid_go (l : List S_api_Cached) : ∀ (rest pre : List S_api_Cached), l = pre ++ rest → loopL (R := Bool) (S := Unit) (α := S_api_Cached) (fun _ _ => some true) (fun x4 k5 _ self7 =>
    bnd (β := Bool) (bnd (m_coresecref20_keyed x4.1) fun x8 => letm ((!x8)) fun x9 => cond x9 (some true) (letm (decide (x4.2.2.1 < 0)) fun x10 => cond x10 (some true) (letm (decide (x4.2.2.2 < 0)) fun x11 => cond x11 (some true)
    (bnd (m_coresecref15_Valid x4.2.1) fun x12 => letm ((!x12)) fun x13 => cond x13 (some true) (letm ((x4.2.1.1 != 0)) fun x14 => cond x14 (some true) (letm ((x4.2.1.2.2.1 != 0)) fun x15 => cond x15 (some true)
    (letm (decide (0 < (x4.2.1.2.2.2.1.length : Int))) fun x16 => cond x16 (some true) (bnd (m_coresecref15_Response x4.2.1.2.1) fun x17 => letm ((!x17)) fun x18 => some x18)))))))) fun v19 => cond v19 (some false)
    (bnd (Gk.cut l 0 (k5 : Int)) fun x20 => loopL (R := Bool) (S := Unit) (α := S_api_Cached) (fun _ _ => self7 ()) (fun x23 _ _ self26 => letm ((x4.1 == x23.1)) fun x27 => cond x27 (some false) (self26 ())) x20 0 ())) rest pre.length () = some (goodL pre rest)
  | [], pre, _ => rfl
  | c :: rest, pre, h => by
    have ih := rvalid_go l rest (pre ++ [c]) (by rw [h]; simp)
    rw [List.length_append, List.length_singleton] at ih
    rw [loopL_cons, ih]
    have hc : Gk.cut l 0 (pre.length : Int) = some pre := by rw [h]; exact cut_pre
    have ht : decide (0 < (c.2.1.2.2.2.1.length : Int)) = !((c.2.1.2.2.2.1.length : Int) == 0) := by
      cases hz : c.2.1.2.2.2.1.length with
      | zero => rfl
      | succ n => rw [decide_eq_true (by omega)]; simp; omega
    simp only [keyed_ref, letm_e, bnd_s, hc, anyloop, ref_valid_eq, resp_ref, ht, bne]
    rw [goodL_cons]
    generalize goodL (pre ++ [c]) rest = G
    unfold elemB
    cases keyB c.1 <;> cases decide (c.2.2.1 < 0) <;> cases decide (c.2.2.2 < 0) <;> simp only [Bool.not_true, Bool.not_false, cd_t, cd_f, bnd_s, Bool.false_and, Bool.true_and]
    cases (pre.any fun d => d.1 == c.1) <;> cases valM c.2.1 <;> cases c.2.1.1 == 0 <;> cases c.2.1.2.2.1 == 0 <;> cases (c.2.1.2.2.2.1.length : Int) == 0 <;> cases respB c.2.1.2.1 <;> rfl
theorem rvalid_eq (l : List S_api_Cached) : m_coresecref20_Valid l = some (validC l) := by
  unfold m_coresecref20_Valid validC
  rw [letm_e]
  have := rvalid_go l l [] rfl
  simp only [List.length_nil] at this
  rw [this]
  cases decide (16 < (l.length : Int)) <;> rfl
/-! ### Validity, told otherwise -/
theorem goodL_iff : ∀ {rest pre : List S_api_Cached}, goodL pre rest = true ↔ (∀ c ∈ rest, elemB c = true) ∧ (∀ c ∈ rest, ∀ d ∈ pre, d.1 ≠ c.1) ∧ (rest.map (·.1)).Nodup
  | [], pre => by simp [goodL]
  | c :: rest, pre => by
    unfold goodL
    simp only [Bool.and_eq_true, Bool.not_eq_true', List.any_eq_false, beq_iff_eq, goodL_iff (rest := rest), List.mem_cons, List.mem_append, List.mem_singleton, List.map_cons, List.nodup_cons, List.mem_map]
    constructor
    · rintro ⟨⟨h1, h2⟩, h3, h4, h5⟩
      refine ⟨?_, ?_, ?_, h5⟩
      · rintro x (rfl | hx)
        · exact h1
        · exact h3 x hx
      · rintro x (rfl | hx) d hd
        · exact h2 d hd
        · exact h4 x hx d (.inl hd)
      · rintro ⟨x, hx, e⟩
        exact h4 x hx c (.inr (.inl rfl)) e.symm
    · rintro ⟨h1, h2, h3, h4⟩
      refine ⟨⟨h1 c (.inl rfl), fun d hd => h2 c (.inl rfl) d hd⟩, fun x hx => h1 x (.inr hx), fun x hx d hd => ?_, h4⟩
      rcases hd with hd | hd
      · exact h2 x (.inr hx) d hd
      · rcases hd with rfl | hd
        · exact fun e => h3 ⟨x, hx, e.symm⟩
        · simp at hd
structure ValC (l : List S_api_Cached) : Prop where
  len : l.length ≤ 16
  el : ∀ c ∈ l, elemB c = true
  nd : (l.map (·.1)).Nodup
theorem validC_iff {l : List S_api_Cached} : validC l = true ↔ ValC l := by
  unfold validC
  rw [Bool.and_eq_true, goodL_iff]
  constructor
  · rintro ⟨h1, h2, _, h3⟩
    simp only [Bool.not_eq_true', decide_eq_false_iff_not] at h1
    exact ⟨by omega, h2, h3⟩
  · rintro ⟨h1, h2, h3⟩
    exact ⟨by simp only [Bool.not_eq_true', decide_eq_false_iff_not]; omega, h2, fun _ _ _ hd => by simp at hd, h3⟩
structure ElemOK (c : S_api_Cached) : Prop where
  key : keyB c.1 = true
  at0 : 0 ≤ c.2.2.1
  age0 : 0 ≤ c.2.2.2
  val : valM c.2.1 = true
  ty : c.2.1.1 = 0
  id : c.2.1.2.2.1 = 0
  tok : c.2.1.2.2.2.1 = []
  resp : respB c.2.1.2.1 = true
theorem elemB_iff {c : S_api_Cached} : elemB c = true ↔ ElemOK c := by
  unfold elemB
  simp only [Bool.and_eq_true, Bool.not_eq_true', decide_eq_false_iff_not, beq_iff_eq]
  constructor
  · rintro ⟨⟨⟨⟨⟨⟨⟨h1, h2⟩, h3⟩, h4⟩, h5⟩, h6⟩, h7⟩, h8⟩
    exact ⟨h1, by omega, by omega, h4, h5, h6, List.length_eq_zero_iff.1 (by omega), h8⟩
  · rintro ⟨h1, h2, h3, h4, h5, h6, h7, h8⟩
    exact ⟨⟨⟨⟨⟨⟨⟨h1, by omega⟩, by omega⟩, h4⟩, h5⟩, h6⟩, by rw [h7]; rfl⟩, h8⟩
theorem keyB_len {k : List UInt8} (h : keyB k = true) : k.length ≤ 4096 := by
  unfold keyB at h
  simp only [Bool.and_eq_true, decide_eq_true_eq] at h
  omega
theorem ElemOK.len {c : S_api_Cached} (h : ElemOK c) : LenM c.2.1 := (valM_snd h.val).len
/-! ### How long a response may be kept, and which -/
def ageS (m : S_api_Message) : Int := bif !(getS m.2.2.2.2.1 14).2 then 60 else bif decide (4 < ((getS m.2.2.2.2.1 14).1.length : Int)) then 0 else (uintN 0 (getS m.2.2.2.2.1 14).1).1
theorem age_eq {m : S_api_Message} (h : LenO m.2.2.2.2.1) : m_cache_MaxAge m = some (ageS m) := by
  unfold m_cache_MaxAge ageS
  rw [get_eq h, bnd_s, letm_e, letm_e, uint_eq, bnd_s]
  cases (!(getS m.2.2.2.2.1 14).2) <;> cases decide (4 < ((getS m.2.2.2.2.1 14).1.length : Int)) <;> rfl
theorem age_ref {m : S_api_Message} (h : LenO m.2.2.2.2.1) : m_coresecref20_MaxAge m = some (ageS m) := by
  unfold m_coresecref20_MaxAge ageS
  rw [get_ref h, bnd_s, letm_e, letm_e, uint_ref_eq, bnd_s]
  cases (!(getS m.2.2.2.2.1 14).2) <;> cases decide (4 < ((getS m.2.2.2.2.1 14).1.length : Int)) <;> rfl
theorem ageS_nn (m : S_api_Message) : 0 ≤ ageS m := by
  unfold ageS
  have := (uintN_rng (getS m.2.2.2.2.1 14).1 0 (by omega)).1
  cases (!(getS m.2.2.2.2.1 14).2) <;> cases decide (4 < ((getS m.2.2.2.2.1 14).1.length : Int)) <;> simp only [cond_true, cond_false] <;> omega
def blkB (l : List (List UInt8)) : Bool := match l with
  | [] => true
  | v :: r => ((((v :: r).length : Int) == 1) && ((parseS v).2 == 0) && ((parseS v).1.1 == 0) && !(parseS v).1.2.1)
def storB (m : S_api_Message) : Bool := valM m && ((m.2.1 == 69) || (m.2.1 == 132)) && !(ageS m == 0) && !(getS m.2.2.2.2.1 6).2 && blkB (allS m.2.2.2.2.1 23)
theorem stor_eq (m : S_api_Message) : m_cache_Storable m = some (storB m) := by
  unfold m_cache_Storable storB
  rw [coap_valid_eq, bnd_s, letm_e]
  cases hv : valM m with
  | false => rfl
  | true =>
    have hl := (valM_snd hv).len.2.1
    simp only [age_eq hl, get_eq hl, all_eq hl, letm_e, bnd_s, bne]
    cases hA : allS m.2.2.2.2.1 23 with
    | nil => cases m.2.1 == 69 <;> cases m.2.1 == 132 <;> cases ageS m == 0 <;> cases (getS m.2.2.2.2.1 6).2 <;> rfl
    | cons v r =>
      have e0 : (((v :: r).length : Int) == 0) = false := by rw [beq_eq_false_iff_ne]; simp; omega
      have e1 : idx (v :: r) 0 = some v := rfl
      have e2 := (parse_eq v).1
      simp only [e0, e1, e2, bnd_s]
      unfold blkB
      simp only
      cases m.2.1 == 69 <;> cases m.2.1 == 132 <;> cases ageS m == 0 <;> cases (getS m.2.2.2.2.1 6).2 <;> simp only [Bool.not_true, Bool.not_false, cd_t, cd_f, Bool.false_and, Bool.true_and, Bool.or_true, Bool.true_or, Bool.or_false, Bool.false_or]
      all_goals cases (((v :: r).length : Int) == 1) <;> cases (parseS v).2 == 0 <;> cases (parseS v).1.1 == 0 <;> rfl
theorem stor_ref (m : S_api_Message) : m_coresecref20_Storable m = some (storB m) := by
  unfold m_coresecref20_Storable storB
  rw [ref_valid_eq, bnd_s, letm_e]
  cases hv : valM m with
  | false => rfl
  | true =>
    have hl := (valM_snd hv).len.2.1
    have ha : decide (ageS m < 1) = (ageS m == 0) := by
      have := ageS_nn m
      by_cases h : ageS m = 0
      · rw [h]; rfl
      · rw [decide_eq_false (by omega)]; simp [h]
    simp only [age_ref hl, get_ref hl, all_ref hl, letm_e, bnd_s, bne, ha]
    cases hA : allS m.2.2.2.2.1 23 with
    | nil => cases m.2.1 == 69 <;> cases m.2.1 == 132 <;> cases ageS m == 0 <;> cases (getS m.2.2.2.2.1 6).2 <;> rfl
    | cons v r =>
      have e0 : (((v :: r).length : Int) == 0) = false := by rw [beq_eq_false_iff_ne]; simp; omega
      have e1 : idx (v :: r) 0 = some v := rfl
      have e2 := (parse_eq v).2
      simp only [e0, e1, e2, bnd_s]
      unfold blkB
      simp only
      cases m.2.1 == 69 <;> cases m.2.1 == 132 <;> cases ageS m == 0 <;> cases (getS m.2.2.2.2.1 6).2 <;> simp only [Bool.not_true, Bool.not_false, cd_t, cd_f, Bool.false_and, Bool.true_and, Bool.or_true, Bool.true_or, Bool.or_false, Bool.false_or]
      all_goals cases (((v :: r).length : Int) == 1) <;> cases (parseS v).2 == 0 <;> cases (parseS v).1.1 == 0 <;> rfl
structure Stor (m : S_api_Message) : Prop where
  val : valM m = true
  code : m.2.1 = 69 ∨ m.2.1 = 132
  age : 0 < ageS m
theorem storB_facts {m : S_api_Message} (h : storB m = true) : Stor m := by
  unfold storB at h
  simp only [Bool.and_eq_true, Bool.or_eq_true, beq_iff_eq, Bool.not_eq_true', beq_eq_false_iff_ne] at h
  have := ageS_nn m
  exact ⟨h.1.1.1.1, h.1.1.1.2, by have := h.1.1.2; omega⟩
end Go.Proofs.Ytdiidghfmpobaaa
