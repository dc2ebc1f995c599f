/-
  Bodies in blocks, plain facts: equal bytes; a block's value and cut; what Put computes, by both texts. Of the models alone; no program; no condition but the lengths told.
-/
import Derived.Test.YtdgpkkfkloapbaaQ36
namespace Go.Proofs.Ytdgpkkfkloapbaa
open Go.Gk Go.RowKit
def cmpS : List UInt8 → List UInt8 → Int
  | [], [] => 0
  | [], _ :: _ => -1
  | _ :: _, [] => 1
  | x :: xs, y :: ys => bif ((UInt8.toNat x : Int) != (UInt8.toNat y : Int)) then (bif decide ((UInt8.toNat x : Int) < (UInt8.toNat y : Int)) then -1 else 1) else cmpS xs ys
theorem cmpS_cc (x y : UInt8) (xs ys : List UInt8) : cmpS (x :: xs) (y :: ys) = bif ((UInt8.toNat x : Int) != (UInt8.toNat y : Int)) then (bif decide ((UInt8.toNat x : Int) < (UInt8.toNat y : Int)) then -1 else 1) else cmpS xs ys := rfl
theorem cmpS_zero : ∀ (a b : List UInt8), (cmpS a b == 0) = (a == b)
  | [], [] => rfl
  | [], _ :: _ => rfl
  | _ :: _, [] => rfl
  | x :: xs, y :: ys => by
    rw [cmpS_cc]
    have ih := cmpS_zero xs ys
    by_cases h : x = y
    · subst h
      rw [show ((UInt8.toNat x : Int) != (UInt8.toNat x : Int)) = false from by simp, cond_false, ih]
      simp
    · have h2 : ((UInt8.toNat x : Int) != (UInt8.toNat y : Int)) = true := by
        rw [bne_iff_ne]; intro e; exact h (UInt8.toNat_inj.1 (by omega))
      rw [h2, cond_true]
      have h3 : ((x :: xs) == (y :: ys)) = false := by simp [h]
      rw [h3]
      cases decide ((UInt8.toNat x : Int) < (UInt8.toNat y : Int)) <;> rfl
theorem drop_cons {α : Type} {l : List α} {k : Nat} (h : k < l.length) : l.drop k = l[k] :: l.drop (k + 1) := List.drop_eq_getElem_cons h
theorem cmp_go (a b : List UInt8) (ha : a.length ≤ 1000000000) : ∀ (n k f : Nat), n + k = a.length → k ≤ b.length → n < f → loopF (R := Int) (S := Int) (fun self3 s2 => cond (decide (s2 < (a.length : Int)) && decide (s2 < (b.length : Int))) (bnd (idx a s2) fun x7 => bnd (idx b s2) fun x8 => cond (((UInt8.toNat x7 : Int) != (UInt8.toNat x8 : Int))) (bnd (idx a s2) fun x10 => bnd (idx b s2) fun x11 => cond (decide ((UInt8.toNat x10 : Int) < (UInt8.toNat x11 : Int))) (some (-1)) (some 1)) (self3 (w64 (s2 + 1))))
    (cond (decide ((a.length : Int) < (b.length : Int))) (some (-1)) (cond (decide ((b.length : Int) < (a.length : Int))) (some 1) (some 0)))) f (k : Int) = some (cmpS (a.drop k) (b.drop k)) := by
  intro n
  induction n with
  | zero =>
    intro k f hk hkb hf
    obtain ⟨f, rfl⟩ : ∃ g, f = g + 1 := ⟨f - 1, by omega⟩
    have d1 : decide ((k : Int) < (a.length : Int)) = false := decide_eq_false (by omega)
    have hda : a.drop k = [] := List.drop_of_length_le (by omega)
    rw [loopF_succ]
    simp only [d1, Bool.false_and, cd_f, hda]
    rcases Nat.lt_or_ge k b.length with h | h
    · rw [drop_cons h, decide_eq_true (show (a.length : Int) < (b.length : Int) by omega)]; rfl
    · rw [List.drop_of_length_le h, decide_eq_false (show ¬ (a.length : Int) < (b.length : Int) by omega), decide_eq_false (show ¬ (b.length : Int) < (a.length : Int) by omega)]; rfl
  | succ n ih =>
    intro k f hk hkb hf
    obtain ⟨f, rfl⟩ : ∃ g, f = g + 1 := ⟨f - 1, by omega⟩
    have hlt : k < a.length := by omega
    have d1 : decide ((k : Int) < (a.length : Int)) = true := decide_eq_true (by omega)
    have wk : w64 ((k : Int) + 1) = ((k + 1 : Nat) : Int) := by rw [w64_of (by omega) (by omega)]; omega
    rw [loopF_succ, drop_cons hlt]
    rcases Nat.lt_or_ge k b.length with h | h
    · have d2 : decide ((k : Int) < (b.length : Int)) = true := decide_eq_true (by omega)
      have := ih (k + 1) f (by omega) (by omega) (by omega)
      simp only [d1, d2, Bool.and_true, cd_t, idx_some' (List.getElem?_eq_getElem hlt), idx_some' (List.getElem?_eq_getElem h), bnd_s, wk]
      rw [drop_cons h, this, cmpS_cc]
      cases ((UInt8.toNat a[k] : Int) != (UInt8.toNat b[k] : Int)) <;> cases decide ((UInt8.toNat a[k] : Int) < (UInt8.toNat b[k] : Int)) <;> rfl
    · have d2 : decide ((k : Int) < (b.length : Int)) = false := decide_eq_false (by omega)
      simp only [d1, d2, Bool.and_false, cd_f]
      rw [List.drop_of_length_le h, decide_eq_false (show ¬ (a.length : Int) < (b.length : Int) by omega), decide_eq_true (show (b.length : Int) < (a.length : Int) by omega)]; rfl
theorem equal26 {a b : List UInt8} (h : a.length ≤ 1000000000) : m_coresecref26_Equal a b = some (a == b) := by
  unfold m_coresecref26_Equal m_coresecref01_Compare
  have := cmp_go a b h a.length 0 FUEL rfl (Nat.zero_le _) (by rw [fuel_eq]; omega)
  rw [show ((0 : Nat) : Int) = 0 from rfl] at this
  simp only [letm_e, cd_and, bnd_s]
  rw [this, bnd_s, List.drop_zero, List.drop_zero, cmpS_zero]
  refine congrArg some ?_
  cases hab : a == b with
  | false => rfl
  | true =>
    have : a = b := by simpa using hab
    subst this
    simp
theorem bsound_eq (b : S_api_Block) : m_block_sound b = some (sndB b) := by
  unfold m_block_sound sndB
  simp only [letm_e, cd_and, bnd_s, Bool.and_assoc]
theorem bvalid18_eq (b : S_api_Block) : m_coresecref18_valid b = some (sndB b) := by
  unfold m_coresecref18_valid sndB
  have : decide (b.1 < 1048576) = decide (b.1 ≤ 1048575) := decide_eq_decide.2 (by omega)
  simp only [letm_e, cd_and, bnd_s, Bool.and_assoc, this]
theorem find_go (a1 : Int) (a2 : List UInt8) : ∀ (xs : List S_api_Partial) (k : Nat), loopL (R := Int) (S := Unit) (α := S_api_Partial) (fun _ _ => some (-1)) (fun x5 k6 _ self8 => cond (x5.1 == a1 && x5.2.1 == a2) (some (k6 : Int)) (self8 ())) xs k () = some (match xs.findIdx? (own a1 a2) with | some i => ((k + i : Nat) : Int) | none => -1)
  | [], _ => rfl
  | x :: xs, k => by
    rw [loopL_cons, List.findIdx?_cons]
    show cond (own a1 a2 x) _ _ = _
    cases h : own a1 a2 x with
    | true => simp [cd_t]
    | false =>
      rw [cd_f, find_go a1 a2 xs (k + 1)]
      cases xs.findIdx? (own a1 a2) with
      | none => rfl
      | some i =>
        have e : ((k + 1 + i : Nat) : Int) = ((k + (i + 1) : Nat) : Int) := by omega
        exact congrArg some e
theorem find_eq (xs : List S_api_Partial) (a1 : Int) (a2 : List UInt8) : m_block_find xs a1 a2 = some (posOf (xs.findIdx? (own a1 a2))) := by
  unfold m_block_find m_bytes_Equal
  simp only [letm_e, bnd_s, cd_and]
  rw [find_go]
  cases xs.findIdx? (own a1 a2) with
  | none => rfl
  | some i => simp [posOf]
theorem cut_some' {α : Type} {xs : List α} {lo hi : Nat} (h : lo ≤ hi) (h' : hi ≤ xs.length) : Gk.cut xs (lo : Int) (hi : Int) = some ((xs.take hi).drop lo) := by
  unfold Gk.cut; rw [if_pos (by omega)]; simp
theorem cut_pre {α : Type} (pre rem : List α) : Gk.cut (pre ++ rem) 0 ((pre.length : Nat) : Int) = some pre := by
  have := cut_some' (xs := pre ++ rem) (lo := 0) (hi := pre.length) (by omega) (by simp)
  rw [show ((0 : Nat) : Int) = 0 from rfl] at this
  rw [this]; simp
theorem validL_cc (pre : List S_api_Partial) (x : S_api_Partial) (rem : List S_api_Partial) : validL pre (x :: rem) = (goodP x && (!(pre.any (own x.1 x.2.1)) && validL (pre ++ [x]) rem)) := rfl
theorem valid_go : ∀ (rem pre : List S_api_Partial), loopL (R := Bool) (S := Unit) (α := S_api_Partial) (fun _ _ => some true) (fun x4 k5 _ self7 =>
    bnd (cond (decide (x4.1 < 0)) (some true) (cond (decide (65536 < x4.1)) (some true) (cond (decide (4096 < (x4.2.1.length : Int))) (some true) (cond (decide (4096 < (x4.2.2.1.length : Int))) (some true) (cond (decide (x4.2.2.2 < 0)) (some true) (bnd (Gk.cut (pre ++ rem) 0 (k5 : Int)) fun x13 => bnd (m_block_find x13 x4.1 x4.2.1) fun x14 => some (decide (0 ≤ x14)))))))) fun v16 => cond v16 (some false) (self7 ())) rem pre.length () = some (validL pre rem)
  | [], _ => rfl
  | x :: rem, pre => by
    have ih := valid_go rem (pre ++ [x])
    rw [List.append_assoc, List.singleton_append, List.length_append, List.length_singleton] at ih
    rw [loopL_cons, ih]
    simp only [cut_pre, find_eq, findIdx_any, bnd_s, cd_or, cd_nand]
    rw [validL_cc]
    unfold goodP
    refine congrArg some ?_
    simp only [Bool.not_or, Bool.and_assoc]
theorem bvalid_eq (l : List S_api_Partial) : m_block_Valid l = some (validB l) := by
  unfold m_block_Valid validB
  have := valid_go l []
  simp only [List.nil_append, List.length_nil] at this
  simp only [letm_e]
  rw [this, cd_nand]
  have : decide (l.length ≤ 4) = !decide (4 < (l.length : Int)) := by
    by_cases h : 4 < (l.length : Int)
    · rw [decide_eq_true h, decide_eq_false (by omega)]; rfl
    · rw [decide_eq_false h, decide_eq_true (by omega)]; rfl
  rw [this]
theorem rvalid_in (x : S_api_Partial) {c : Option Bool} : ∀ (xs : List S_api_Partial) (k : Nat), loopL (R := Bool) (S := Unit) (α := S_api_Partial) (fun _ _ => c) (fun x17 _ _ self20 => cond (x17.1 == x.1 && x17.2.1 == x.2.1) (some false) (self20 ())) xs k () = cond (xs.any (own x.1 x.2.1)) (some false) c
  | [], _ => rfl
  | y :: xs, k => by
    rw [loopL_cons, rvalid_in x xs, List.any_cons]
    show cond (own x.1 x.2.1 y) _ _ = _
    cases own x.1 x.2.1 y <;> rfl
theorem rvalid_go : ∀ (rem pre : List S_api_Partial), loopL (R := Bool) (S := Unit) (α := S_api_Partial) (fun _ _ => some true) (fun x4 k5 _ self7 =>
    cond (decide (x4.1 < 0) || (decide (65536 < x4.1) || (decide (4096 < (x4.2.1.length : Int)) || (decide (4096 < (x4.2.2.1.length : Int)) || decide (x4.2.2.2 < 0))))) (some false) (bnd (Gk.cut (pre ++ rem) 0 (k5 : Int)) fun x14 => cond (x14.any (own x4.1 x4.2.1)) (some false) (self7 ()))) rem pre.length () = some (validL pre rem)
  | [], _ => rfl
  | x :: rem, pre => by
    have ih := rvalid_go rem (pre ++ [x])
    rw [List.append_assoc, List.singleton_append, List.length_append, List.length_singleton] at ih
    rw [loopL_cons, ih]
    simp only [cut_pre, bnd_s, cd_nand]
    rw [validL_cc]
    rfl
theorem rvalid_eq (l : List S_api_Partial) : m_coresecref18_Valid l = some (validB l) := by
  unfold m_coresecref18_Valid validB
  have := rvalid_go l []
  simp only [List.nil_append, List.length_nil] at this
  simp only [letm_e, bnd_s, cd_or, cd_and, rvalid_in]
  rw [this, cd_nand]
  have : decide (l.length ≤ 4) = !decide (4 < (l.length : Int)) := by
    by_cases h : 4 < (l.length : Int)
    · rw [decide_eq_true h, decide_eq_false (by omega)]; rfl
    · rw [decide_eq_false h, decide_eq_true (by omega)]; rfl
  rw [this]
end Go.Proofs.Ytdgpkkfkloapbaa
