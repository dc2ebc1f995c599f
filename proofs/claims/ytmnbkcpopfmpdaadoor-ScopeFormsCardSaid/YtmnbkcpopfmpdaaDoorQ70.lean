/-
  Scopes, plain facts: which are valid and what they permit, by both texts (ScopePermits). Of the models alone; no program; no condition but the lengths told.
-/
import Derived.Test.YtmnbkcpopfmpdaaDoorQDk
namespace Go.Proofs.YtmnbkcpopfmpdaaDoor
open Go.Gk Go.RowKit
/-- A loop that passes over what it need not look at. -/
theorem loopL_pass {R α : Type} {bn : Nat → Unit → Option R} {bs : α → Nat → Unit → (Unit → Option R) → Option R} : ∀ (xs : List α) (k : Nat), (∀ x, x ∈ xs → ∀ k self, bs x k () self = self ()) → loopL bn bs xs k () = bn (k + xs.length) ()
  | [], k, _ => rfl
  | x :: xs, k, h => by
    rw [loopL_cons, h x (by simp), loopL_pass xs (k + 1) fun y hy => h y (by simp [hy]), List.length_cons, show k + 1 + xs.length = k + (xs.length + 1) by omega]
/-- A loop that stops at the first that is found. -/
theorem loopL_any {R α : Type} {bn : Nat → Unit → Option R} {bs : α → Nat → Unit → (Unit → Option R) → Option R} (p : α → Bool) (v : Option R) : ∀ (xs : List α) (k : Nat), (∀ x, x ∈ xs → ∀ k self, bs x k () self = cond (p x) v (self ())) → loopL bn bs xs k () = cond (xs.any p) v (bn (k + xs.length) ())
  | [], k, _ => rfl
  | x :: xs, k, h => by
    rw [loopL_cons, h x (by simp), loopL_any p v xs (k + 1) fun y hy => h y (by simp [hy]), List.any_cons, List.length_cons, show k + 1 + xs.length = k + (xs.length + 1) by omega]
    cases p x <;> rfl
/-! ### Paths that can be written -/
def wrS (s : List UInt8) : Bool := Nat.ble s.length 64 && (wrHead s && s.all wrOk)
theorem written_eq (s : List UInt8) : m_scope_written s = some (wrS s) := rfl
theorem byte_ok : ∀ c : Fin 256, (let x := UInt8.ofNat c.1; (decide ((UInt8.toNat x : Int) < (UInt8.toNat 33 : Int)) || (decide ((UInt8.toNat 126 : Int) < (UInt8.toNat x : Int)) || (((UInt8.toNat x : Int) == (UInt8.toNat 44 : Int)) || (((UInt8.toNat x : Int) == (UInt8.toNat 59 : Int)) || ((UInt8.toNat x : Int) == (UInt8.toNat 42 : Int)))))) = !wrOk x) := by decide +kernel
theorem byte_ok' (x : UInt8) : (decide ((UInt8.toNat x : Int) < (UInt8.toNat 33 : Int)) || (decide ((UInt8.toNat 126 : Int) < (UInt8.toNat x : Int)) || (((UInt8.toNat x : Int) == (UInt8.toNat 44 : Int)) || (((UInt8.toNat x : Int) == (UInt8.toNat 59 : Int)) || ((UInt8.toNat x : Int) == (UInt8.toNat 42 : Int)))))) = !wrOk x := by
  have h := byte_ok ⟨x.toNat, UInt8.toNat_lt x⟩
  have e : UInt8.ofNat x.toNat = x := by simp
  rw [show (UInt8.ofNat ((⟨x.toNat, UInt8.toNat_lt x⟩ : Fin 256).1)) = x from e] at h
  exact h
theorem ref_written (s : List UInt8) : m_coresecref39_Written s = some (wrS s) := by
  unfold m_coresecref39_Written wrS
  by_cases h64 : s.length ≤ 64
  · rw [Nat.ble_eq_true_of_le h64, Bool.true_and, letm_e, decide_eq_false (by omega : ¬ (64 : Int) < (s.length : Int)), cd_f, letm_e]
    have hd : (cond (decide ((0 : Int) < (s.length : Int))) (bnd (idx s 0) fun x3 => letm (((UInt8.toNat x3 : Int) != (UInt8.toNat 47 : Int))) fun x4 => some x4) (some false)) = some (!wrHead s) := by
      cases s with
      | nil => rfl
      | cons c t =>
        rw [decide_eq_true (by simp), cd_t, show idx (c :: t) (0 : Int) = some c from idx_some' (i := 0) rfl, bnd_s, letm_e]
        show some ((c.toNat : Int) != ((47 : Nat) : Int)) = some (!Nat.beq c.toNat 47)
        congr 1
        by_cases h47 : c.toNat = 47
        · rw [h47]; rfl
        · have e1 : Nat.beq c.toNat 47 = false := by
            cases hb : Nat.beq c.toNat 47 with
            | false => rfl
            | true => exact absurd (Nat.eq_of_beq_eq_true hb) h47
          rw [e1, bne_iff_ne.2 (by omega)]; rfl
    rw [hd, bnd_s]
    cases hh : wrHead s with
    | false => rfl
    | true =>
      rw [Bool.not_true, cd_f, Bool.true_and]
      have key : ∀ (r : List UInt8) (k f : Nat), s.drop k = r → r.length < f → loopF (R := Bool) (S := Int) (fun self7 s6 =>
          letm (decide (s6 < (s.length : Int))) fun x8 => cond x8 (bnd (β := Bool) (bnd (idx s s6) fun x9 => letm (decide ((UInt8.toNat x9 : Int) < (UInt8.toNat 33 : Int))) fun x10 => cond x10 (some true) (bnd (idx s s6) fun x11 => letm (decide ((UInt8.toNat 126 : Int) < (UInt8.toNat x11 : Int))) fun x12 => cond x12 (some true) (bnd (idx s s6) fun x13 => letm (((UInt8.toNat x13 : Int) == (UInt8.toNat 44 : Int))) fun x14 => cond x14 (some true) (bnd (idx s s6) fun x15 => letm (((UInt8.toNat x15 : Int) == (UInt8.toNat 59 : Int))) fun x16 => cond x16 (some true) (bnd (idx s s6) fun x17 => letm (((UInt8.toNat x17 : Int) == (UInt8.toNat 42 : Int))) fun x18 => some x18))))) fun v19 =>
            cond v19 (some false) (letm ((w64 (s6 + 1))) fun x20 => self7 x20)) (some true)) f (k : Int) = some (r.all wrOk) := by
        intro r
        induction r with
        | nil =>
          intro k f hk hf
          obtain ⟨f, rfl⟩ : ∃ g, f = g + 1 := ⟨f - 1, by simp at hf; omega⟩
          have hl := congrArg List.length hk
          rw [List.length_drop, List.length_nil] at hl
          rw [loopF_succ, letm_e, decide_eq_false (by omega), cd_f]; rfl
        | cons c r ih =>
          intro k f hk hf
          obtain ⟨f, rfl⟩ : ∃ g, f = g + 1 := ⟨f - 1, by simp at hf; omega⟩
          have hl := congrArg List.length hk
          rw [List.length_drop, List.length_cons] at hl
          have hc : s[k]? = some c := by have := congrArg (fun z => z[0]?) hk; simpa using this
          have hk' : s.drop (k + 1) = r := by have := congrArg (fun z => z.drop 1) hk; simpa using this
          have hi : idx s (k : Int) = some c := idx_some' hc
          have ih' := ih (k + 1) f hk' (by simp at hf; omega)
          simp only [letm_e] at ih'
          rw [loopF_succ, letm_e, decide_eq_true (by omega), cd_t]
          simp only [hi, bnd_s, letm_e, cd_or, byte_ok']
          rw [w64_of (by omega) (by omega), show ((k : Int) + 1) = ((k + 1 : Nat) : Int) by omega, ih', List.all_cons]
          cases wrOk c <;> rfl
      exact key s 0 FUEL rfl (by rw [fuel_eq]; omega)
  · have hb : Nat.ble s.length 64 = false := by rw [← Bool.not_eq_true, Nat.ble_eq]; exact h64
    rw [hb, Bool.false_and, letm_e, decide_eq_true (by omega : (64 : Int) < (s.length : Int))]
    rfl
/-! ### Valid scopes -/
def fineS (p : S_api_Permit) : Bool := wrS p.1 && (decide (1 ≤ p.2.2) && decide (p.2.2 ≤ 127))
def validS (l : List S_api_Permit) : Bool := decide ((l.length : Int) ≤ 8) && l.all fineS
theorem ref_fine (p : S_api_Permit) : m_coresecref39_fine p = some (fineS p) := by
  unfold m_coresecref39_fine fineS
  rw [ref_written, bnd_s]
  simp only [letm_e, cd_and, bnd_s]
theorem any_not {α : Type} (p : α → Bool) (l : List α) : l.any (fun x => !p x) = !l.all p := by
  induction l with
  | nil => rfl
  | cons x l ih => rw [List.any_cons, List.all_cons, ih, Bool.not_and]
theorem ref_valid39 (l : List S_api_Permit) : m_coresecref39_Valid l = some (validS l) := by
  unfold m_coresecref39_Valid validS
  rw [loopL_any (fun x => !fineS x) (some false) l 0 fun x _ k self => by rw [ref_fine, bnd_s, letm_e], any_not, letm_e]
  cases l.all fineS with
  | true => rw [Bool.and_true]; rfl
  | false => rw [Bool.and_false]; rfl
theorem not_fine (x : S_api_Permit) : (bnd (β := Bool) (bnd (m_scope_written x.1) fun x8 => letm ((!x8)) fun x9 => cond x9 (some true) (letm (decide (x.2.2 < 1)) fun x10 => cond x10 (some true) (letm (decide (127 < x.2.2)) fun x11 => some x11))) (fun v => some v)) = some (!fineS x) := by
  rw [written_eq, bnd_s]
  simp only [letm_e, cd_or, bnd_s]
  unfold fineS
  congr 1
  rw [Bool.not_and, Bool.not_and, ← decide_not, ← decide_not]
  congr 1
  congr 1
  · apply decide_eq_decide.2; omega
  · apply decide_eq_decide.2; omega
theorem bnd_bnd {α β γ : Type} (m : Option α) (f : α → Option β) (g : β → Option γ) : bnd (bnd m f) g = bnd m (fun x => bnd (f x) g) := by cases m <;> rfl
theorem bnd_id {α : Type} (m : Option α) : bnd m (fun v => some v) = m := by cases m <;> rfl
theorem valid39 (l : List S_api_Permit) : m_scope_Valid l = some (validS l) := by
  unfold m_scope_Valid validS
  rw [letm_e]
  by_cases h : l.length ≤ 8
  · rw [decide_eq_false (by omega : ¬ (8 : Int) < (l.length : Int)), cd_f, decide_eq_true (by omega : (l.length : Int) ≤ 8), Bool.true_and]
    rw [loopL_any (fun x => !fineS x) (some false) l 0 fun x _ k self => by
      have := not_fine x
      rw [bnd_id] at this
      rw [this, bnd_s], any_not]
    cases l.all fineS <;> rfl
  · rw [decide_eq_true (by omega : (8 : Int) < (l.length : Int)), cd_t, decide_eq_false (by omega : ¬ (l.length : Int) ≤ 8), Bool.false_and]
theorem validS_mem {l : List S_api_Permit} (h : validS l = true) : l.length ≤ 8 ∧ ∀ p ∈ l, wrS p.1 = true ∧ 1 ≤ p.2.2 ∧ p.2.2 ≤ 127 ∧ p.1.length ≤ 64 := by
  unfold validS at h
  rw [Bool.and_eq_true, decide_eq_true_eq, List.all_eq_true] at h
  refine ⟨by omega, fun p hp => ?_⟩
  have := h.2 p hp
  unfold fineS at this
  simp only [Bool.and_eq_true, decide_eq_true_eq] at this
  refine ⟨this.1, this.2.1, this.2.2, ?_⟩
  have h2 := this.1
  unfold wrS at h2
  rw [Bool.and_eq_true] at h2
  exact Nat.le_of_ble_eq_true h2.1
/-! ### What is below what -/
def belowS (path top : List UInt8) : Bool := (top ++ [47]).isPrefixOf path
theorem below_eq {path top : List UInt8} (h : top.length ≤ 1000000) : m_scope_below path top = some (belowS path top) := by
  unfold m_scope_below m_strings_HasPrefix
  rw [app_some' (by simp; omega), bnd_s, bnd_s]
  rfl
theorem pre_snoc : ∀ (top path : List UInt8), (top ++ [47]).isPrefixOf path = (decide (top.length < path.length) && ((path.take top.length == top) && (path[top.length]? == some 47)))
  | [], [] => rfl
  | [], c :: path => by
    show ((47 : UInt8) == c && true) = _
    simp only [List.length_nil, List.take_zero, List.getElem?_cons_zero, Bool.and_true]
    rw [show (([] : List UInt8) == []) = true from rfl, decide_eq_true (by simp), Bool.true_and, Bool.true_and]
    rw [Bool.eq_iff_iff]
    simp only [beq_iff_eq, Option.some.injEq]
    exact ⟨fun h => h.symm, fun h => h.symm⟩
  | t :: top, [] => rfl
  | t :: top, c :: path => by
    show (t == c && (top ++ [47]).isPrefixOf path) = _
    rw [pre_snoc top path]
    simp only [List.length_cons, List.take_succ_cons, List.getElem?_cons_succ]
    rw [show decide (top.length + 1 < path.length + 1) = decide (top.length < path.length) from decide_eq_decide.2 (by omega)]
    rw [show ((c :: path.take top.length) == t :: top) = (c == t && (path.take top.length == top)) from rfl]
    rw [Bool.eq_iff_iff]
    simp only [Bool.and_eq_true, beq_iff_eq, decide_eq_true_eq]
    constructor
    · rintro ⟨a, b, c, d⟩; exact ⟨b, ⟨a.symm, c⟩, d⟩
    · rintro ⟨b, ⟨a, c⟩, d⟩; exact ⟨a.symm, b, c, d⟩
theorem under_eq (path base : List UInt8) : m_coresecref39_under path base = some (belowS path base) := by
  unfold m_coresecref39_under belowS
  rw [pre_snoc, letm_e]
  by_cases h : base.length < path.length
  · have hc : Gk.cut path 0 (base.length : Int) = some (path.take base.length) := by
      unfold Gk.cut
      rw [if_pos (by omega)]; simp
    have hi : idx path (base.length : Int) = some path[base.length] := idx_some' (List.getElem?_eq_getElem h)
    rw [decide_eq_true (by omega : (base.length : Int) < (path.length : Int)), cd_t, hc, bnd_s, letm_e, hi, bnd_s, letm_e, cd_and, bnd_s, decide_eq_true h, Bool.true_and, List.getElem?_eq_getElem h]
    congr 2
    rw [Bool.eq_iff_iff]
    simp only [beq_iff_eq, Option.some.injEq]
    constructor
    · intro h2
      apply UInt8.toNat_inj.1
      have h2 : ((path[base.length]).toNat : Int) = ((47 : UInt8).toNat : Int) := h2
      omega
    · intro h2; rw [h2]
  · rw [decide_eq_false (by omega : ¬ (base.length : Int) < (path.length : Int)), cd_f, bnd_s, decide_eq_false h, Bool.false_and]
/-! ### What is permitted -/
def bitS (m : Int) (c : Int) : Bool := m.toNat.testBit (c - 1).toNat
theorem bit_fin : ∀ (m : Fin 128) (c : Fin 7), (bnd (Gk.shr (m.1 : Int) (UInt64.toNat (toU64 (w64 (((c.1 + 1 : Nat) : Int) - 1))) : Int)) fun x16 => some (ibit .and x16 1 == 1)) = some (bitS (m.1 : Int) ((c.1 + 1 : Nat) : Int)) := by decide +kernel
theorem bit_eq {m c : Int} (h0 : 0 ≤ m) (h1 : m ≤ 127) (h2 : 1 ≤ c) (h3 : c ≤ 7) : (bnd (Gk.shr m (UInt64.toNat (toU64 (w64 (c - 1))) : Int)) fun x16 => some (ibit .and x16 1 == 1)) = some (bitS m c) := by
  obtain ⟨k, rfl⟩ : ∃ k : Nat, m = (k : Int) := ⟨m.toNat, by omega⟩
  obtain ⟨j, rfl⟩ : ∃ j : Nat, c = ((j + 1 : Nat) : Int) := ⟨(c - 1).toNat, by omega⟩
  exact bit_fin ⟨k, by omega⟩ ⟨j, by omega⟩
theorem ref_bit {p : S_api_Permit} {c : Int} (h0 : 0 ≤ p.2.2) (h1 : p.2.2 ≤ 127) (h2 : 1 ≤ c) (h3 : c ≤ 7) : m_coresecref39_bit p c = some (bitS p.2.2 c) := by
  unfold m_coresecref39_bit
  simp only [letm_e]
  exact bit_eq h0 h1 h2 h3
def covS (p : S_api_Permit) (path : List UInt8) : Bool := (p.1 == path) || (p.2.1 && belowS path p.1)
def permS (l : List S_api_Permit) (path : List UInt8) (c : Int) : Bool := validS l && (decide (1 ≤ c) && decide (c ≤ 7)) && l.any fun p => bitS p.2.2 c && covS p path
theorem covers_eq {p : S_api_Permit} {path : List UInt8} (h : p.1.length ≤ 1000000) : m_scope_covers p path = some (covS p path) := by
  unfold m_scope_covers covS
  simp only [letm_e, below_eq h, bnd_s]
  have e : (path == p.1) = (p.1 == path) := by rw [Bool.eq_iff_iff]; simp only [beq_iff_eq]; exact ⟨fun h => h.symm, fun h => h.symm⟩
  rw [e]
  cases (p.1 == path) <;> cases p.2.1 <;> rfl
theorem permits_eq (l : List S_api_Permit) (path : List UInt8) (c : Int) : m_scope_Permits l path c = some (permS l path c) := by
  unfold m_scope_Permits permS
  simp only [letm_e, valid39, bnd_s, cd_or]
  by_cases hc : 1 ≤ c ∧ c ≤ 7
  · rw [decide_eq_false (by omega : ¬ c < 1), decide_eq_false (by omega : ¬ 7 < c), Bool.false_or, Bool.false_or, decide_eq_true hc.1, decide_eq_true hc.2]
    cases hv : validS l with
    | false => rfl
    | true =>
      obtain ⟨_, hm⟩ := validS_mem hv
      rw [Bool.not_true, cd_f]
      refine (loopL_any (fun p => bitS p.2.2 c && covS p path) (some true) l 0 fun p hp k self => ?_).trans ?_
      · obtain ⟨_, h1, h2, h3⟩ := hm p hp
        have hb := bit_eq (m := p.2.2) (by omega) h2 hc.1 hc.2
        obtain ⟨x, hx, hb⟩ := bnd_some hb
        have hb := Option.some.inj hb
        rw [hx, bnd_s, hb, covers_eq (by omega), bnd_s, cd_and, bnd_s]
      · cases l.any fun p => bitS p.2.2 c && covS p path <;> rfl
  · have : (decide (c < 1) || (decide (7 < c) || !validS l)) = true := by
      by_cases h1 : c < 1
      · rw [decide_eq_true h1]; rfl
      · rw [decide_eq_true (by omega : 7 < c), Bool.true_or, Bool.or_true]
    rw [this, cd_t]
    have : (decide (1 ≤ c) && decide (c ≤ 7)) = false := by
      rw [Bool.and_eq_false_iff, decide_eq_false_iff_not, decide_eq_false_iff_not]; omega
    rw [this, Bool.and_false, Bool.false_and]
theorem ref_permits (l : List S_api_Permit) (path : List UInt8) (c : Int) : m_coresecref39_Permits l path c = some (permS l path c) := by
  unfold m_coresecref39_Permits permS
  simp only [letm_e, ref_valid39, bnd_s, cd_or]
  by_cases hc : 1 ≤ c ∧ c ≤ 7
  · rw [decide_eq_false (by omega : ¬ c < 1), decide_eq_false (by omega : ¬ 7 < c), Bool.or_false, Bool.or_false, decide_eq_true hc.1, decide_eq_true hc.2]
    cases hv : validS l with
    | false => rfl
    | true =>
      obtain ⟨_, hm⟩ := validS_mem hv
      rw [Bool.not_true, cd_f]
      refine (loopL_any (fun p => bitS p.2.2 c && covS p path) (some true) l 0 fun p hp k self => ?_).trans ?_
      · obtain ⟨_, h1, h2, h3⟩ := hm p hp
        rw [ref_bit (by omega) h2 hc.1 hc.2, bnd_s, under_eq]
        unfold covS
        cases bitS p.2.2 c <;> cases (p.1 == path) <;> cases p.2.1 <;> rfl
      · cases l.any fun p => bitS p.2.2 c && covS p path <;> rfl
  · have : (!validS l || (decide (c < 1) || decide (7 < c))) = true := by
      by_cases h1 : c < 1
      · rw [decide_eq_true h1, Bool.true_or, Bool.or_true]
      · rw [decide_eq_true (by omega : 7 < c), Bool.or_true, Bool.or_true]
    rw [this, cd_t]
    have : (decide (1 ≤ c) && decide (c ≤ 7)) = false := by
      rw [Bool.and_eq_false_iff, decide_eq_false_iff_not, decide_eq_false_iff_not]; omega
    rw [this, Bool.and_false, Bool.false_and]
/-! ### The law -/
theorem awake39 : m_coreseclaw39_awake = some true := by kernel_rfl
theorem path_some {d : S_coresecmake_Deck} (h : DeckOK d) : ∃ p d', m_coresecmake2_Path d = some (p, d') ∧ wrS p = true ∧ DeckOK d' := by
  unfold m_coresecmake2_Path
  obtain ⟨v, d1, e1, l1, u1, h1⟩ := next_some h (n := 9) (by omega) (by omega)
  obtain ⟨x, e2, hx⟩ := idx_lit ([[], [47], [47, 97], [47, 98], [47, 97, 47, 98], [47, 97, 47, 98, 47, 99], [47, 97, 98], [47, 97, 47], [47, 98, 47, 97]] : List (List UInt8)) l1 (by show v < 9; omega)
  rw [e1, bnd_s, e2, bnd_s]
  refine ⟨x, d1, rfl, ?_, h1⟩
  have : ∀ y ∈ ([[], [47], [47, 97], [47, 98], [47, 97, 47, 98], [47, 97, 47, 98, 47, 99], [47, 97, 98], [47, 97, 47], [47, 98, 47, 97]] : List (List UInt8)), wrS y = true := by decide +kernel
  exact this x hx
theorem scope_go : ∀ (k f : Nat) (l : List S_api_Permit) (d : S_coresecmake_Deck), k < f → k + l.length ≤ 4 → DeckOK d → (∀ p ∈ l, fineS p = true) → ∃ l' d', loopF (R := ((List S_api_Permit) × S_coresecmake_Deck)) (S := ((List S_api_Permit) × (Int × S_coresecmake_Deck))) (fun self3 s2 =>
    letm (decide (0 < s2.2.1)) fun x4 => cond x4 (bnd (m_coresecmake2_Path s2.2.2) fun x5 => bnd (m_coresecmake_Deck_Next x5.2 2) fun x6 => letm ((x6.1 == 0)) fun x7 => bnd (m_coresecmake_Deck_Next x6.2 3) fun x8 => bnd (idx [3, 7, 127] x8.1) fun x9 => bnd (m_coresecmake_Deck_Next x8.2 x9) fun x10 => letm ((w64 (1 + x10.1))) fun x11 => bnd (app s2.1 [(x5.1, (x7, x11))]) fun x12 => letm ((w64 (s2.2.1 - 1))) fun x13 => self3 (x12, (x13, x10.2))) (some (s2.1, s2.2.2))) f (l, ((k : Int), d)) = some (l', d') ∧ l'.length ≤ 4 ∧ (∀ p ∈ l', fineS p = true) ∧ DeckOK d'
  | 0, f + 1, l, d, _, hl, hd, hp => ⟨l, d, rfl, by omega, hp, hd⟩
  | k + 1, f + 1, l, d, hf, hl, hd, hp => by
    obtain ⟨q, d1, e1, w1, h1⟩ := path_some hd
    obtain ⟨v2, d2, e2, l2, u2, h2⟩ := next_some h1 (n := 2) (by omega) (by omega)
    obtain ⟨v3, d3, e3, l3, u3, h3⟩ := next_some h2 (n := 3) (by omega) (by omega)
    obtain ⟨x, e4, hx⟩ := idx_lit ([3, 7, 127] : List Int) l3 (by show v3 < 3; omega)
    have hx2 : 0 < x ∧ x ≤ 127 := by
      have : ∀ y ∈ ([3, 7, 127] : List Int), 0 < y ∧ y ≤ 127 := by decide
      exact this x hx
    obtain ⟨v5, d5, e5, l5, u5, h5⟩ := next_some h3 (n := x) hx2.1 (by omega)
    rw [loopF_succ, letm_e, decide_eq_true (by omega : (0 : Int) < ((k + 1 : Nat) : Int)), cd_t]
    simp only [e1, e2, e3, e4, e5, bnd_s, letm_e]
    rw [app_some' (by simp; omega), bnd_s, w64_of (x := 1 + v5) (by omega) (by omega), w64_of (by omega) (by omega), show (((k + 1 : Nat) : Int) - 1) = (k : Int) by omega]
    refine scope_go k f _ d5 (by omega) (by simp; omega) h5 fun p hp' => ?_
    rcases List.mem_append.1 hp' with hp' | hp'
    · exact hp p hp'
    · rw [List.mem_singleton.1 hp']
      unfold fineS
      simp only [w1, Bool.true_and, Bool.and_eq_true, decide_eq_true_eq]
      exact ⟨by show 1 ≤ 1 + v5; omega, by show 1 + v5 ≤ 127; omega⟩
theorem scope_some {d : S_coresecmake_Deck} (h : DeckOK d) : ∃ l d', m_coresecmake2_Scope d = some (l, d') ∧ l.length ≤ 4 ∧ (∀ p ∈ l, fineS p = true) ∧ DeckOK d' := by
  unfold m_coresecmake2_Scope
  obtain ⟨v, d1, e1, l1, u1, h1⟩ := next_some h (n := 5) (by omega) (by omega)
  obtain ⟨k, rfl⟩ : ∃ k : Nat, v = (k : Int) := ⟨v.toNat, by omega⟩
  rw [e1, bnd_s]
  exact scope_go k FUEL [] d1 (by rw [fuel_eq]; omega) (by simp; omega) h1 (by simp)
theorem light_eq (l : List S_api_Permit) : m_coreseclaw39_light l = some (decide ((l.length : Int) ≤ 20) && l.all fun p => !decide (300 < (p.1.length : Int))) := by
  unfold m_coreseclaw39_light
  have := loopL_any (R := Bool) (bn := fun _ _ => letm (decide ((l.length : Int) ≤ 20)) fun x3 => some x3) (bs := fun (x4 : S_api_Permit) _ _ self7 => letm (decide (300 < (x4.1.length : Int))) fun x8 => cond x8 (some false) (self7 ())) (fun p => decide (300 < (p.1.length : Int))) (some false) l 0 fun x _ k self => by rw [letm_e]
  rw [this, letm_e]
  have e : (l.any fun p => decide (300 < (p.1.length : Int))) = !(l.all fun p => !decide (300 < (p.1.length : Int))) := by
    rw [← any_not]; simp
  rw [e]
  cases (l.all fun p => !decide (300 < (p.1.length : Int))) with
  | true => rw [Bool.and_true]; rfl
  | false => rw [Bool.and_false]; rfl
theorem ScopePermits_true (a0 : List S_api_Permit) (a1 : List Int) (a2 : List UInt8) (a3 : Int) (h1 : a1.length ≤ maxLen) : m_coreseclaw39_ScopePermits a0 a1 a2 a3 = some true := by
  unfold m_coreseclaw39_ScopePermits
  rw [light_eq, bnd_s, letm_e, awake39]
  simp only [letm_e, cd_or, bnd_s]
  cases (!(decide ((a0.length : Int) ≤ 20) && a0.all fun p => !decide (300 < (p.1.length : Int))) || decide (300 < (a2.length : Int))) with
  | true => rfl
  | false =>
    rw [cd_f]
    have e1 : m_coresecmake_New a1 = some (a1, 0) := rfl
    obtain ⟨l, d', e2, _, _, _⟩ := scope_some (new_ok h1)
    obtain ⟨x, e3, _, _⟩ := mod_some a3 (m := 7) (by omega) (by omega)
    rw [e1, bnd_s, e2, bnd_s]
    refine (loopL_pass _ 0 fun s _ k self => ?_).trans rfl
    rw [valid39, ref_valid39, bnd_s, bnd_s, bne_self_eq_false, cd_f]
    unfold m_coreseclaw39_paths
    rw [bnd_s]
    refine (loopL_pass _ 0 fun p _ k2 self2 => ?_)
    rw [e3, bnd_s]
    refine (loopL_pass _ 0 fun c _ k3 self3 => ?_)
    rw [permits_eq, ref_permits, bnd_s, bnd_s, bne_self_eq_false, cd_f]
end Go.Proofs.YtmnbkcpopfmpdaaDoor
