/-
  Options, plain facts: the reference's paths, read and written (OptionPaths). Of the models alone; no program; no condition but the lengths told.
-/
import Derived.Test.YtllomdfckciedaaDoorQ53
namespace Go.Proofs.YtllomdfckciedaaDoor
open Go.Gk Go.RowKit
/-! ### Digits -/
def nib (c : UInt8) : UInt8 := (m_coresecref16_nibble c).getD 0
theorem nib_eq (c : UInt8) : m_coresecref16_nibble c = some (nib c) := by
  revert c; apply all_u8; decide +kernel
def shl4 (c : UInt8) : UInt8 := fromI .u8 (toI .u8 c * 2 ^ 4)
theorem shl4_eq (c : UInt8) : shlK .u8 c (UInt64.toNat 4 : Int) = some (shl4 c) := rfl
def hxv (x y : UInt8) : UInt8 := toU8 (bits .or .u8 (UInt8.toNat (shl4 (nib x))) (UInt8.toNat (toU8 (bits .and .u8 (UInt8.toNat (nib y)) (UInt8.toNat 15)))))
theorem hxv_back (c : UInt8) : hxv (hexd (c.toNat / 16)) (hexd (c.toNat % 16)) = c := by
  revert c; apply all_u8; decide +kernel
theorem refPlain_eq (c : UInt8) : m_coresecref16_plain c = some (plainB c) := by
  revert c; apply all_u8; decide +kernel
def shr4 (c : UInt8) : UInt8 := fromI .u8 (toI .u8 c / 2 ^ 4)
theorem digit_hi (c : UInt8) : ∃ x, shrK .u8 c (UInt64.toNat 4 : Int) = some x ∧ idx [48, 49, 50, 51, 52, 53, 54, 55, 56, 57, 65, 66, 67, 68, 69, 70] (UInt8.toNat x : Int) = some (hexd (c.toNat / 16)) := by
  refine ⟨shr4 c, rfl, ?_⟩
  revert c; apply all_u8; decide +kernel
theorem digit_lo (c : UInt8) : idx [48, 49, 50, 51, 52, 53, 54, 55, 56, 57, 65, 66, 67, 68, 69, 70] (UInt8.toNat (toU8 (bits .and .u8 (UInt8.toNat c) (UInt8.toNat 15))) : Int) = some (hexd (c.toNat % 16)) := by
  revert c; apply all_u8; decide +kernel
/-! ### Written -/
theorem encV_cons (c : UInt8) (v : List UInt8) : encV (c :: v) = encS c ++ encV v := by unfold encV; rw [List.flatMap_cons]
theorem encV_snoc (v : List UInt8) (c : UInt8) : encV (v ++ [c]) = encV v ++ encS c := by unfold encV; simp
theorem encP_cons (v : List UInt8) (l : List (List UInt8)) : encP (v :: l) = 47 :: (encV v ++ encP l) := by unfold encP; rw [List.flatMap_cons]; rfl
theorem encP_snoc (l : List (List UInt8)) (v : List UInt8) : encP (l ++ [v]) = encP l ++ 47 :: encV v := by unfold encP; simp
theorem rpv_go {R : Type} (Z : List UInt8 → Option R) : ∀ (v : List UInt8) (k : Nat) (s : List UInt8), s.length + (encV v).length ≤ 4000000 → loopL (R := R) (S := (List UInt8)) (α := UInt8) (fun _ s10 => Z s10)
    (fun x11 _ s13 self14 => bnd (β := (List UInt8)) (bnd (m_coresecref16_plain x11) fun x15 => cond x15 (bnd (app s13 [x11]) fun x16 => some x16)
      (bnd (shrK .u8 x11 (UInt64.toNat 4 : Int)) fun x17 => bnd (idx [48, 49, 50, 51, 52, 53, 54, 55, 56, 57, 65, 66, 67, 68, 69, 70] (UInt8.toNat x17 : Int)) fun x18 =>
      letm ((toU8 (bits .and .u8 (UInt8.toNat x11) (UInt8.toNat 15)))) fun x19 => bnd (idx [48, 49, 50, 51, 52, 53, 54, 55, 56, 57, 65, 66, 67, 68, 69, 70] (UInt8.toNat x19 : Int)) fun x20 => bnd (app s13 [37, x18, x20]) fun x21 => some x21)) fun v22 => self14 v22) v k s = Z (s ++ encV v)
  | [], k, s, _ => by rw [loopL_nil]; simp [encV]
  | c :: v, k, s, h => by
    rw [encV_cons, List.length_append] at h
    have ih := rpv_go Z v (k + 1) (s ++ encS c) (by simp; omega)
    obtain ⟨x, e1, e2⟩ := digit_hi c
    rw [loopL_cons, refPlain_eq, bnd_s, e1, bnd_s, e2, bnd_s, letm_e, digit_lo, bnd_s, encV_cons, ← List.append_assoc, ← ih]
    have hs : (encS c).length = bif plainB c then 1 else 3 := by unfold encS; cases plainB c <;> rfl
    cases hp : plainB c with
    | true =>
      have e : encS c = [c] := by unfold encS; rw [hp]; rfl
      rw [e] at h ⊢
      rw [cd_t, app_some' (by omega), bnd_s, bnd_s]
    | false =>
      have e : encS c = [37, hexd (c.toNat / 16), hexd (c.toNat % 16)] := by unfold encS; rw [hp]; rfl
      rw [e] at h ⊢
      rw [cd_f, app_some' (by omega), bnd_s, bnd_s]
theorem rpp_go : ∀ (l : List (List UInt8)) (k : Nat) (s : List UInt8), s.length + (encP l).length ≤ 4000000 → loopL (R := (List UInt8)) (S := (List UInt8)) (α := (List UInt8)) (fun _ s3 => some s3)
    (fun x4 _ s6 self7 => bnd (app s6 [47]) fun x8 => loopL (R := (List UInt8)) (S := (List UInt8)) (α := UInt8) (fun _ s10 => self7 s10)
    (fun x11 _ s13 self14 => bnd (β := (List UInt8)) (bnd (m_coresecref16_plain x11) fun x15 => cond x15 (bnd (app s13 [x11]) fun x16 => some x16)
      (bnd (shrK .u8 x11 (UInt64.toNat 4 : Int)) fun x17 => bnd (idx [48, 49, 50, 51, 52, 53, 54, 55, 56, 57, 65, 66, 67, 68, 69, 70] (UInt8.toNat x17 : Int)) fun x18 =>
      letm ((toU8 (bits .and .u8 (UInt8.toNat x11) (UInt8.toNat 15)))) fun x19 => bnd (idx [48, 49, 50, 51, 52, 53, 54, 55, 56, 57, 65, 66, 67, 68, 69, 70] (UInt8.toNat x19 : Int)) fun x20 => bnd (app s13 [37, x18, x20]) fun x21 => some x21)) fun v22 => self14 v22) x4 0 x8) l k s = some (s ++ encP l)
  | [], k, s, _ => by rw [loopL_nil]; simp [encP]
  | v :: l, k, s, h => by
    rw [encP_cons, List.length_cons, List.length_append] at h
    rw [loopL_cons, app_some' (by simp; omega), bnd_s, rpv_go _ v 0 (s ++ [47]) (by simp; omega), rpp_go l (k + 1) (s ++ [47] ++ encV v) (by simp; omega), encP_cons]
    simp
theorem refPath_eq {m : S_api_Message} (h0 : LenO m.2.2.2.2.1) (h : (encP (allS m.2.2.2.2.1 11)).length ≤ 1000000) : m_coresecref16_Path m = some (encP (allS m.2.2.2.2.1 11)) := by
  unfold m_coresecref16_Path
  rw [all_ref h0, bnd_s, rpp_go _ 0 [] (by simp; omega), List.nil_append]
/-! ### Read -/
def addL (l : List (List UInt8)) (c : UInt8) : List (List UInt8) := l.dropLast ++ [l.getLastD [] ++ [c]]
theorem addL_snoc (l : List (List UInt8)) (v : List UInt8) (c : UInt8) : addL (l ++ [v]) c = l ++ [v ++ [c]] := by unfold addL; simp
def refL : List (List UInt8) → List UInt8 → Option (List (List UInt8))
  | l, [] => some l
  | l, [c] => if c = 47 then refL (l ++ [[]]) [] else if l = [] then none else refL (addL l c) []
  | l, [c, x] => if c = 47 then refL (l ++ [[]]) [x] else if l = [] then none else refL (addL l c) [x]
  | l, c :: x :: y :: r => if c = 47 then refL (l ++ [[]]) (x :: y :: r) else if l = [] then none else if c = 37 then refL (addL l (hxv x y)) r else refL (addL l c) (x :: y :: r)
theorem refL_47 (l : List (List UInt8)) (r : List UInt8) : refL l (47 :: r) = refL (l ++ [[]]) r := by
  match r with
  | [] => simp [refL]
  | [x] => simp [refL]
  | x :: y :: r => rw [refL]; simp only [if_true]
theorem refL_c {c : UInt8} (h : c ≠ 47) (h2 : c ≠ 37) {l : List (List UInt8)} (hl : l ≠ []) (r : List UInt8) : refL l (c :: r) = refL (addL l c) r := by
  match r with
  | [] => simp [refL, h, hl]
  | [x] => simp [refL, h, hl]
  | x :: y :: r => rw [refL]; simp only [if_neg h, if_neg h2, if_neg hl]
theorem refL_p {l : List (List UInt8)} (hl : l ≠ []) (x y : UInt8) (r : List UInt8) : refL l (37 :: x :: y :: r) = refL (addL l (hxv x y)) r := by
  have h : ¬ ((37 : UInt8) = 47) := by decide
  rw [refL]; simp only [if_neg h, if_neg hl, if_true]
theorem refL_n {c : UInt8} (h : c ≠ 47) (r : List UInt8) : refL [] (c :: r) = none := by
  match r with
  | [] => rw [refL]; simp only [if_neg h, if_true]
  | [x] => rw [refL]; simp only [if_neg h, if_true]
  | x :: y :: r => rw [refL]; simp only [if_neg h, if_true]
theorem refL_s {l : List (List UInt8)} (hl : l ≠ []) (r : List UInt8) (hr : r.length < 2) : refL l (37 :: r) = refL (addL l 37) r := by
  have h : ¬ ((37 : UInt8) = 47) := by decide
  match r, hr with
  | [], _ => simp [refL, hl]
  | [x], _ => simp [refL, hl]
theorem refL_0 (l : List (List UInt8)) : refL l [] = some l := by rw [refL]
theorem refL_enc (l : List (List UInt8)) : ∀ (w v : List UInt8) (r : List UInt8), refL (l ++ [v]) (encV w ++ r) = refL (l ++ [v ++ w]) r
  | [], v, r => by simp [encV]
  | c :: w, v, r => by
    have ih := refL_enc l w (v ++ [c]) r
    have hne : l ++ [v] ≠ [] := by simp
    rw [encV_cons, List.append_assoc]
    cases hp : plainB c with
    | true =>
      have e : encS c = [c] := by unfold encS; rw [hp]; rfl
      have h1 : c ≠ 47 := by rintro rfl; rw [plain47] at hp; cases hp
      have h2 : c ≠ 37 := by rintro rfl; rw [plain37] at hp; cases hp
      rw [e, List.singleton_append, refL_c h1 h2 hne, addL_snoc, ih]; simp
    | false =>
      have e : encS c = [37, hexd (c.toNat / 16), hexd (c.toNat % 16)] := by unfold encS; rw [hp]; rfl
      rw [e]
      show refL (l ++ [v]) (37 :: hexd (c.toNat / 16) :: hexd (c.toNat % 16) :: (encV w ++ r)) = _
      rw [refL_p hne, hxv_back, addL_snoc, ih]; simp
theorem refL_encP : ∀ (l ws : List (List UInt8)), refL l (encP ws) = some (l ++ ws)
  | l, [] => by show refL l [] = _; rw [refL_0]; simp
  | l, w :: ws => by
    rw [encP_cons, refL_47, refL_enc, List.nil_append, refL_encP (l ++ [w]) ws]; simp
/-- Whatever the reference reads, if it is written so again it is what the other reads. -/
theorem refL_segs {s : List UInt8} : segsS s = match refL [] s with | none => none | some l => if encP l = s then some l else none := by
  cases hs : segsS s with
  | some l =>
    have e := enc_segsS hs
    have := refL_encP [] l
    rw [e, List.nil_append] at this
    rw [this]; simp [e]
  | none =>
    cases hr : refL [] s with
    | none => rfl
    | some l =>
      by_cases he : encP l = s
      · have := segsS_enc l
        rw [he, hs] at this; cases this
      · simp [he]
theorem addL_len {l : List (List UInt8)} (hl : l ≠ []) (c : UInt8) : (encP (addL l c)).length ≤ (encP l).length + 3 := by
  obtain ⟨l0, v, rfl⟩ : ∃ l0 v, l = l0 ++ [v] := ⟨l.dropLast, l.getLast hl, (List.dropLast_concat_getLast hl).symm⟩
  rw [addL_snoc, encP_snoc, encP_snoc, encV_snoc]
  have := encS_len c
  simp; omega
theorem len_encP : ∀ {l : List (List UInt8)}, l.length ≤ (encP l).length ∧ ∀ v ∈ l, v.length ≤ (encP l).length
  | [] => by simp
  | v :: l => by
    obtain ⟨h1, h2⟩ := len_encP (l := l)
    have h3 : v.length ≤ (encV v).length := by
      clear h1 h2
      induction v with
      | nil => simp
      | cons c v ih =>
        rw [encV_cons]
        have : 1 ≤ (encS c).length := by unfold encS; cases plainB c <;> simp
        simp; omega
    rw [encP_cons]
    simp only [List.length_cons, List.length_append, List.mem_cons]
    refine ⟨by omega, fun x hx => ?_⟩
    rcases hx with rfl | hx
    · omega
    · have := h2 x hx; omega
theorem lastAt_some {l : List (List UInt8)} (hl : l ≠ []) : lastAt l (l.length - 1) = some (l.getLastD []) := by
  obtain ⟨l0, v, rfl⟩ : ∃ l0 v, l = l0 ++ [v] := ⟨l.dropLast, l.getLast hl, (List.dropLast_concat_getLast hl).symm⟩
  unfold lastAt
  simp
end Go.Proofs.YtllomdfckciedaaDoor
