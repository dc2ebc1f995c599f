/-
  The reader of texts of items always answers; DiagOne. Of the models alone; no program; no condition but the ranges told.
-/
import Derived.Test.YtbfkbakadpkgoaaGreatDoorQDC
namespace Go.Proofs.YtbfkbakadpkgoaaGreatDoor
open Go.Gk Go.RowKit
def preB (s w : List UInt8) : Bool := s.take w.length == w
theorem preB_nil (s : List UInt8) : preB s [] = true := by simp [preB]
theorem preB_cons (c d : UInt8) (s w : List UInt8) : preB (c :: s) (d :: w) = (c == d && preB s w) := rfl
theorem preB_app (w r : List UInt8) : preB (w ++ r) w = true := by simp [preB]
theorem preB_len {s w : List UInt8} (h : preB s w = true) : w.length ≤ s.length := by
 unfold preB at h
 rw [beq_iff_eq] at h
 have := congrArg List.length h
 rw [List.length_take] at this
 omega
theorem skip_eq (s w : List UInt8) (st : Int × Bool) : m_diag_parser_skip (s, st) w = some (preB s w, (bif preB s w then s.drop w.length else s, st)) := by
 have h1 : m_internal_stringslite_HasPrefix s w = some (preB s w) := by
  unfold m_internal_stringslite_HasPrefix preB
  rw [letm_e, show decide ((w.length : Int) ≤ (s.length : Int)) = decide (w.length ≤ s.length) from le_dec _ _]
  by_cases h : w.length ≤ s.length
  ·have hc : Gk.cut s 0 (w.length : Int) = some (s.take w.length) := by unfold Gk.cut; rw [if_pos (by omega)]; simp
   rw [decide_eq_true h, cd_t, hc, bnd_s, letm_e, bnd_s]
  ·rw [decide_eq_false h, cd_f, bnd_s]
   refine congrArg some ?_
   symm
   rw [beq_eq_false_iff_ne]
   intro he
   have := congrArg List.length he
   rw [List.length_take] at this
   omega
 have h2 : m_internal_stringslite_CutPrefix s w = some (bif preB s w then s.drop w.length else s, preB s w) := by
  unfold m_internal_stringslite_CutPrefix
  rw [h1, bnd_s, letm_e]
  cases hp : preB s w with
  | true =>
   have := preB_len hp
   rw [show (!true) = false from rfl, cd_f, cut_from this, bnd_s]; rfl
  | false => rfl
 unfold m_diag_parser_skip m_strings_CutPrefix
 rw [h2, bnd_s, bnd_s]
 cases preB s w <;> rfl
theorem skip_yes {s w : List UInt8} (h : preB s w = true) (st : Int × Bool) : m_diag_parser_skip (s, st) w = some (true, (s.drop w.length, st)) := by rw [skip_eq, h]; rfl
theorem skip_no {s w : List UInt8} (h : preB s w = false) (st : Int × Bool) : m_diag_parser_skip (s, st) w = some (false, (s, st)) := by rw [skip_eq, h]; rfl
theorem skip_app (w r : List UInt8) (st : Int × Bool) : m_diag_parser_skip (w ++ r, st) w = some (true, (r, st)) := by rw [skip_yes (preB_app w r), List.drop_left]
theorem need_eq (s w : List UInt8) (i : Int) (bad : Bool) : m_diag_parser_need (s, (i, bad)) w = some (bif !bad && preB s w then (s.drop w.length, (i, false)) else (s, (i, true))) := by
 unfold m_diag_parser_need
 cases bad with
 | true => rfl
 | false =>
  show bnd (m_diag_parser_skip (s, (i, false)) w) _ = _
  rw [skip_eq, bnd_s, letm_e]
  cases preB s w <;> rfl
theorem need_app (w r : List UInt8) (i : Int) : m_diag_parser_need (w ++ r, (i, false)) w = some (r, (i, false)) := by
 rw [need_eq, preB_app, List.drop_left]; rfl
def isD (c : UInt8) : Bool := decide (48 ≤ c.toNat) && decide (c.toNat ≤ 57)
def numR (s : List UInt8) : UInt64 × Bool := puRes (Lib.parseUintB 64 (s.takeWhile isD))
theorem take_tw (s : List UInt8) (p : UInt8 → Bool) : s.take (s.takeWhile p).length = s.takeWhile p ∧ s.drop (s.takeWhile p).length = s.dropWhile p := by
 have h := List.takeWhile_append_dropWhile (p := p) (l := s)
 generalize hA : s.takeWhile p = A at h ⊢
 generalize hB : s.dropWhile p = B at h ⊢
 rw [← h, List.take_left, List.drop_left]
 exact ⟨rfl, rfl⟩
theorem tw_len (s : List UInt8) (p : UInt8 → Bool) : (s.takeWhile p).length ≤ s.length := by
 have h := congrArg List.length (List.takeWhile_append_dropWhile (p := p) (l := s))
 rw [List.length_append] at h
 omega
theorem tw_drop (p : UInt8 → Bool) : ∀ (s : List UInt8) (k : Nat), k ≤ (s.takeWhile p).length → (s.takeWhile p).length = k + ((s.drop k).takeWhile p).length
 | _, 0, _ => by simp
 | [], k + 1, h => by simp at h
 | c :: s, k + 1, h => by
  by_cases hc : p c = true
  ·rw [List.takeWhile_cons_of_pos hc, List.length_cons] at h ⊢
   have := tw_drop p s k (by omega)
   rw [List.drop_succ_cons]
   omega
  ·rw [List.takeWhile_cons_of_neg hc] at h
   simp at h
theorem digit_dec (c : UInt8) : (decide (((UInt8.toNat 48 : Nat) : Int) ≤ ((UInt8.toNat c : Nat) : Int)) && decide (((UInt8.toNat c : Nat) : Int) ≤ ((UInt8.toNat 57 : Nat) : Int))) = isD c := by
 have e1 : decide (((UInt8.toNat 48 : Nat) : Int) ≤ ((UInt8.toNat c : Nat) : Int)) = decide (48 ≤ c.toNat) := le_dec 48 _
 have e2 : decide (((UInt8.toNat c : Nat) : Int) ≤ ((UInt8.toNat 57 : Nat) : Int)) = decide (c.toNat ≤ 57) := le_dec _ 57
 rw [e1, e2]; rfl
theorem num_loop (s : List UInt8) (hs : s.length ≤ 10000000) : ∀ (f k : Nat), k ≤ (s.takeWhile isD).length → s.length < f + k → loopF (R := Int) (S := Int) (fun self2 s1 =>
  bnd (β := Bool) (letm (decide (s1 < (s.length : Int))) fun x3 =>
  cond x3 (bnd (idx s s1) fun x4 =>
  letm (decide ((UInt8.toNat 48 : Int) ≤ (UInt8.toNat x4 : Int))) fun x5 =>
  cond x5 (bnd (idx s s1) fun x6 =>
  letm (decide ((UInt8.toNat x6 : Int) ≤ (UInt8.toNat 57 : Int))) fun x7 =>
  some x7)
   (some false))
   (some false)) fun v8 =>
  cond v8 (letm ((w64 (s1 + 1))) fun x9 =>
  self2 x9)
   (some s1)) (f + 1) (k : Int) = some (((s.takeWhile isD).length : Nat) : Int)
 | 0, k, h1, h2 => by have := tw_len s isD; omega
 | f + 1, k, h1, h2 => by
  have htl := tw_len s isD
  have hd := tw_drop isD s k h1
  rw [loopF_succ, letm_e, lt_dec]
  by_cases c : k < s.length
  ·have hb : (bnd (idx s (k : Int)) fun x4 => letm (decide ((UInt8.toNat 48 : Int) ≤ (UInt8.toNat x4 : Int))) fun x5 => cond x5 (bnd (idx s (k : Int)) fun x6 => letm (decide ((UInt8.toNat x6 : Int) ≤ (UInt8.toNat 57 : Int))) fun x7 => some x7) (some false)) = some (isD s[k]) := by
    rw [idx_some' (List.getElem?_eq_getElem c), bnd_s, bnd_s, letm_e, letm_e, cd_and, digit_dec]
   rw [decide_eq_true c, cd_t, hb, bnd_s]
   rw [List.drop_eq_getElem_cons c] at hd
   cases hc : isD s[k] with
   | true =>
    rw [List.takeWhile_cons_of_pos hc, List.length_cons] at hd
    rw [cd_t, letm_e, w64_of (by omega) (by omega)]
    exact num_loop s hs f (k + 1) (by omega) (by omega)
   | false =>
    rw [List.takeWhile_cons_of_neg (by rw [hc]; simp), List.length_nil] at hd
    rw [cd_f, hd]; rfl
  ·rw [decide_eq_false c, cd_f, bnd_s, cd_f, show (s.takeWhile isD).length = k by omega]
theorem number_eq (s : List UInt8) (i : Int) (bad : Bool) (hs : s.length ≤ 10000000) : m_diag_parser_number (s, (i, bad)) = some ((numR s).1, (s.dropWhile isD, (i, bad || (numR s).2 || (decide (1 < (s.takeWhile isD).length) && s.head? == some 48)))) := by
 have htl := tw_len s isD
 obtain ⟨t1, t2⟩ := take_tw s isD
 unfold m_diag_parser_number
 refine bnd_of (num_loop s hs 1180591620717411303423 0 (by omega) (by omega)) ?_
 have hc : Gk.cut s 0 (((s.takeWhile isD).length : Nat) : Int) = some (s.takeWhile isD) := by unfold Gk.cut; rw [if_pos (by omega)]; simp [t1]
 show bnd (Gk.cut s 0 (((s.takeWhile isD).length : Nat) : Int)) _ = _
 rw [hc, bnd_s]
 have hp : m_strconv_ParseUint (s.takeWhile isD) 10 64 = some (numR s) := by
  unfold m_strconv_ParseUint
  rw [decide_eq_true (by omega)]; rfl
 rw [hp, bnd_s]
 refine bnd_of (y := (s, (i, bad || (numR s).2 || (decide (1 < (s.takeWhile isD).length) && s.head? == some 48)))) ?_ ?_
 ·cases bad with
  | true => rfl
  | false =>
   dsimp only
   rw [cd_f, letm_e]
   cases (numR s).2 with
   | true => rfl
   | false =>
    rw [cd_f, letm_e, show decide ((1 : Int) < (((s.takeWhile isD).length : Nat) : Int)) = decide (1 < (s.takeWhile isD).length) from lt_dec 1 _]
    by_cases h1 : 1 < (s.takeWhile isD).length
    ·rw [decide_eq_true h1, cd_t]
     match s, h1 with
     | c :: s, _ =>
      show bnd (idx (c :: s) 0) _ = _
      rw [show idx (c :: s) 0 = some c from idx_some' (i := 0) rfl, bnd_s, letm_e, u8eq]
      refine congrArg some (Prod.ext rfl (Prod.ext rfl ?_))
      show decide (c = 48) = (true && (some c == some 48))
      rw [Bool.true_and, Bool.eq_iff_iff, decide_eq_true_eq, beq_iff_eq, Option.some.injEq]
     | [], h1 => simp at h1
    ·rw [decide_eq_false h1, cd_f]; rfl
 ·show bnd (Gk.cut s (((s.takeWhile isD).length : Nat) : Int) (s.length : Int)) _ = _
  rw [cut_from htl, bnd_s, t2]
theorem index_at (c : UInt8) : ∀ (d r : List UInt8), c ∉ d → Lib.indexByte (d ++ c :: r) c = (d.length : Int)
 | [], r, _ => by simp [Lib.indexByte]
 | b :: d, r, h => by
  have h1 : ¬ b = c := fun e => h (by simp [e])
  have h2 : c ∉ d := fun e => h (by simp [e])
  have ih := index_at c d r h2
  rw [List.cons_append, Lib.indexByte, ih, if_neg (by simp [h1]), if_neg (by simp), List.length_cons]
  push_cast
  rfl
theorem index_no (c : UInt8) : ∀ (d : List UInt8), c ∉ d → Lib.indexByte d c = -1
 | [], _ => rfl
 | b :: d, h => by
  have h1 : ¬ b = c := fun e => h (by simp [e])
  have h2 : c ∉ d := fun e => h (by simp [e])
  rw [Lib.indexByte, index_no c d h2, if_neg (by simp [h1])]
  rfl
theorem split_at (c : UInt8) : ∀ (s : List UInt8), c ∉ s ∨ ∃ d r, s = d ++ c :: r ∧ c ∉ d
 | [] => .inl (by simp)
 | b :: s => by
  by_cases h : b = c
  ·subst h; exact .inr ⟨[], s, rfl, by simp⟩
  ·rcases split_at c s with h2 | ⟨d, r, rfl, h2⟩
   ·exact .inl (by simp [h2, Ne.symm h])
   ·exact .inr ⟨b :: d, r, rfl, by simp [h2, Ne.symm h]⟩
theorem cut_at {d r : List UInt8} (h : (39 : UInt8) ∉ d) (hl : (d ++ 39 :: r).length ≤ 10000000) : m_strings_Cut (d ++ 39 :: r) [39] = some (d, (r, true)) := by
 have hi : m_internal_stringslite_Index (d ++ 39 :: r) [39] = some (d.length : Int) := by
  show some (Lib.indexByte (d ++ 39 :: r) 39) = _
  rw [index_at 39 d r h]
 have hlen : (d ++ 39 :: r).length = d.length + 1 + r.length := by simp; omega
 have c1 : Gk.cut (d ++ 39 :: r) 0 (d.length : Int) = some d := by unfold Gk.cut; rw [if_pos (by omega)]; simp
 have c2 : Gk.cut (d ++ 39 :: r) ((d.length + 1 : Nat) : Int) ((d ++ 39 :: r).length : Int) = some r := by rw [cut_from (by omega)]; simp
 unfold m_strings_Cut m_internal_stringslite_Cut
 rw [hi, bnd_s, letm_e, decide_eq_true (by omega), cd_t, c1, bnd_s, letm_e, show w64 ((d.length : Int) + (([39] : List UInt8).length : Int)) = ((d.length + 1 : Nat) : Int) by rw [w64_of (by simp; omega) (by simp; omega)]; simp, c2, bnd_s, bnd_s]
theorem cut_no {s : List UInt8} (h : (39 : UInt8) ∉ s) : m_strings_Cut s [39] = some (s, ([], false)) := by
 have hi : m_internal_stringslite_Index s [39] = some (-1) := by
  show some (Lib.indexByte s 39) = _
  rw [index_no 39 s h]
 unfold m_strings_Cut m_internal_stringslite_Cut
 rw [hi, bnd_s, letm_e]
 rfl
theorem trim_some {d : List UInt8} (h : d.length ≤ 10000000) : m_strings_Trim d [48, 49, 50, 51, 52, 53, 54, 55, 56, 57, 97, 98, 99, 100, 101, 102] = some (Lib.trimS d hexL) := by
 unfold m_strings_Trim
 rw [decide_eq_true (by omega)]; rfl
theorem digits_at {d r : List UInt8} (h : (39 : UInt8) ∉ d) (hl : (d ++ 39 :: r).length ≤ 10000000) (i : Int) (bad : Bool) : m_diag_parser_digits (d ++ 39 :: r, (i, bad)) = some (d, (r, (i, bad || Lib.trimS d hexL != []))) := by
 have hd : d.length ≤ 10000000 := by simp at hl; omega
 unfold m_diag_parser_digits
 rw [cut_at h hl, bnd_s]
 cases bad with
 | true => rfl
 | false =>
  dsimp only
  rw [cd_f, letm_e, show (!true) = false from rfl, cd_f, trim_some hd, bnd_s, letm_e, bnd_s]
  rfl
theorem digits_no {s : List UInt8} (h : (39 : UInt8) ∉ s) (i : Int) (bad : Bool) : m_diag_parser_digits (s, (i, bad)) = some (s, ([], (i, true))) := by
 unfold m_diag_parser_digits
 rw [cut_no h, bnd_s]
 cases bad <;> rfl
theorem digits_ex {s : List UInt8} (hl : s.length ≤ 10000000) (i : Int) (bad : Bool) : ∃ d r b2, m_diag_parser_digits (s, (i, bad)) = some (d, (r, (i, b2))) ∧ d.length ≤ s.length ∧ r.length ≤ s.length := by
 rcases split_at 39 s with h | ⟨d, r, rfl, h⟩
 ·exact ⟨s, [], true, digits_no h i bad, Nat.le_refl _, by simp⟩
 ·exact ⟨d, r, _, digits_at h hl i bad, by simp, by simp; omega⟩
theorem hexd_mem (v : Nat) (h : v < 16) : hexd v ∈ hexL := by
 unfold hexd
 have : v < hexL.length := h
 rw [List.getD_eq_getElem?_getD, List.getElem?_eq_getElem this]
 exact List.getElem_mem this
theorem hex_no39 : (39 : UInt8) ∉ hexL := by decide
theorem hexS_mem {b : List UInt8} {c : UInt8} (h : c ∈ hexS b) : c ∈ hexL := by
 unfold hexS at h
 obtain ⟨x, _, hx⟩ := List.mem_flatMap.1 h
 have := UInt8.toNat_lt x
 simp only [List.mem_cons, List.not_mem_nil, or_false] at hx
 rcases hx with rfl | rfl
 ·exact hexd_mem _ (by omega)
 ·exact hexd_mem _ (by omega)
theorem dw_nil {p : UInt8 → Bool} : ∀ (l : List UInt8), (∀ c, c ∈ l → p c = true) → l.dropWhile p = []
 | [], _ => rfl
 | c :: l, h => by rw [List.dropWhile_cons_of_pos (h c (by simp)), dw_nil l (fun x hx => h x (by simp [hx]))]
theorem trim_hex {d : List UInt8} (h : ∀ c, c ∈ d → c ∈ hexL) : Lib.trimS d hexL = [] := by
 have h1 : Lib.trimRightS d hexL = [] := by
  unfold Lib.trimRightS
  rw [dw_nil _ (fun c hc => by
   have := h c (List.mem_reverse.1 hc)
   simpa using this)]
  rfl
 unfold Lib.trimS
 rw [h1]; rfl
theorem nibble_some (c : UInt8) : m_diag_nibble c = some (toU8 (max 0 (Lib.indexByte hexL c))) := rfl
theorem nibble_hex : ∀ v : Fin 16, m_diag_nibble (hexd v.1) = some (UInt8.ofNat v.1) := by decide +kernel
theorem nib_join : ∀ c : Fin 256, (Option.map (fun x : UInt8 => (toU8 (bits .or .u8 (UInt8.toNat x) (UInt8.toNat (UInt8.ofNat (c.1 % 16))))).toNat) (shlK .u8 (UInt8.ofNat (c.1 / 16)) (UInt64.toNat 4 : Int)) : Option Nat) = some c.1 := by decide +kernel
theorem nib_parts (c : UInt8) : ∃ y : UInt8, @Eq (Option UInt8) (shlK .u8 (UInt8.ofNat (c.toNat / 16)) (UInt64.toNat 4 : Int)) (some y) ∧ toU8 (bits .or .u8 (UInt8.toNat y) (UInt8.toNat (UInt8.ofNat (c.toNat % 16)))) = c := by
 have hc := UInt8.toNat_lt c
 have h := nib_join ⟨c.toNat, hc⟩
 obtain ⟨y, h1, h2⟩ := Option.map_eq_some_iff.1 h
 have h2 : (toU8 (bits .or .u8 (UInt8.toNat y) (UInt8.toNat (UInt8.ofNat (c.toNat % 16))))).toNat = c.toNat := h2
 exact ⟨y, h1, UInt8.toNat_inj.1 h2⟩
theorem shl8_ex (x : UInt8) : ∃ y : UInt8, @Eq (Option UInt8) (shlK .u8 x (UInt64.toNat 4 : Int)) (some y) := ⟨_, rfl⟩
theorem bytes_loop (st : S_diag_parser) (d : List UInt8) (hd : d.length ≤ 10000000) (he : d.length % 2 = 0) : ∃ r, loopF (R := ((List UInt8) × S_diag_parser)) (S := ((List UInt8) × Int)) (fun self6 s5 =>
  letm (decide (s5.2 < (d.length : Int))) fun x7 =>
  cond x7 (bnd (idx d s5.2) fun x8 =>
  bnd (m_diag_nibble x8) fun x9 =>
  bnd (shlK .u8 x9 (UInt64.toNat 4 : Int)) fun x10 =>
  letm ((w64 (s5.2 + 1))) fun x11 =>
  bnd (idx d x11) fun x12 =>
  bnd (m_diag_nibble x12) fun x13 =>
  letm ((toU8 (bits .or .u8 (UInt8.toNat x10) (UInt8.toNat x13)))) fun x14 =>
  bnd (app s5.1 [x14]) fun x15 =>
  letm ((w64 (s5.2 + 2))) fun x16 =>
  self6 (x15, x16))
   (some (s5.1, st))) FUEL ([], 0) = some r ∧ (r.2 = st ∧ r.1.length ≤ d.length) := by
 refine loopF_ex (S := List UInt8 × Int) (R := List UInt8 × S_diag_parser) (fun n s => ∃ k : Nat, s.2 = (k : Int) ∧ k + n = d.length ∧ k % 2 = 0 ∧ s.1.length ≤ k) (fun r => r.2 = st ∧ r.1.length ≤ d.length) (fun n s self hI ih => ?_) FUEL d.length _ (by rw [fuel_eq]; omega) ⟨0, rfl, by omega, rfl, by simp⟩
 obtain ⟨k, hk, hkn, hk2, hl⟩ := hI
 rw [hk, lt_dec]
 refine lex2 (cex2 (fun hc => ?_) (fun _ => ⟨_, rfl, rfl, (show s.1.length ≤ d.length by omega)⟩))
 rw [decide_eq_true_eq] at hc
 have hc1 : k + 1 < d.length := by omega
 rw [idx_some' (List.getElem?_eq_getElem hc), bnd_s, nibble_some, bnd_s]
 obtain ⟨y, hy⟩ := shl8_ex (toU8 (max 0 (Lib.indexByte hexL d[k])))
 refine bex2 (fun _ => True) ⟨y, hy, trivial⟩ fun x10 _ => ?_
 rw [letm_e, w64_of (by omega) (by omega), show ((k : Nat) : Int) + 1 = ((k + 1 : Nat) : Int) by omega, idx_some' (List.getElem?_eq_getElem hc1), bnd_s, nibble_some, bnd_s, letm_e, app_some' (by simp only [List.length_cons, List.length_nil]; omega), bnd_s, letm_e, w64_of (by omega) (by omega)]
 exact ih (n - 2) _ (by omega) ⟨k + 2, by show (k : Int) + 2 = _; omega, by omega, by omega, by rw [List.length_append]; simp only [List.length_cons, List.length_nil]; omega⟩
theorem hexS_cons (c : UInt8) (b : List UInt8) : hexS (c :: b) = hexd (c.toNat / 16) :: hexd (c.toNat % 16) :: hexS b := rfl
theorem bytes_run (st : S_diag_parser) (d : List UInt8) (hd : d.length ≤ 10000000) : ∀ (b pre acc : List UInt8) (f : Nat), d = pre ++ hexS b → b.length < f → acc.length ≤ pre.length → loopF (R := ((List UInt8) × S_diag_parser)) (S := ((List UInt8) × Int)) (fun self6 s5 =>
  letm (decide (s5.2 < (d.length : Int))) fun x7 =>
  cond x7 (bnd (idx d s5.2) fun x8 =>
  bnd (m_diag_nibble x8) fun x9 =>
  bnd (shlK .u8 x9 (UInt64.toNat 4 : Int)) fun x10 =>
  letm ((w64 (s5.2 + 1))) fun x11 =>
  bnd (idx d x11) fun x12 =>
  bnd (m_diag_nibble x12) fun x13 =>
  letm ((toU8 (bits .or .u8 (UInt8.toNat x10) (UInt8.toNat x13)))) fun x14 =>
  bnd (app s5.1 [x14]) fun x15 =>
  letm ((w64 (s5.2 + 2))) fun x16 =>
  self6 (x15, x16))
   (some (s5.1, st))) f (acc, (pre.length : Int)) = some (acc ++ b, st)
 | [], pre, acc, 0, _, h, _ => absurd h (Nat.not_lt_zero _)
 | [], pre, acc, f + 1, e, _, _ => by
  have hl : d.length = pre.length := by rw [e]; simp [hexS]
  rw [loopF_succ, letm_e, lt_dec, decide_eq_false (by omega), cd_f, List.append_nil]
 | c :: b, pre, acc, 0, _, h, _ => absurd h (Nat.not_lt_zero _)
 | c :: b, pre, acc, f + 1, e, h, ha => by
  have e' : d = pre ++ hexd (c.toNat / 16) :: hexd (c.toNat % 16) :: hexS b := by rw [e, hexS_cons]
  have hl : d.length = pre.length + 2 + (hexS b).length := by rw [e']; simp only [List.length_append, List.length_cons]; omega
  have g1 : idx d ((pre.length : Nat) : Int) = some (hexd (c.toNat / 16)) := idx_some' (by rw [e', List.getElem?_append_right (Nat.le_refl _), Nat.sub_self]; rfl)
  have g2 : idx d ((pre.length + 1 : Nat) : Int) = some (hexd (c.toNat % 16)) := idx_some' (by rw [e', List.getElem?_append_right (by omega), Nat.add_sub_cancel_left]; rfl)
  have hc := UInt8.toNat_lt c
  obtain ⟨y, h1, h2⟩ := nib_parts c
  rw [loopF_succ, letm_e, lt_dec, decide_eq_true (by omega), cd_t]
  refine bnd_of g1 (bnd_of (nibble_hex ⟨c.toNat / 16, by omega⟩) (bnd_of h1 ?_))
  rw [letm_e, w64_of (by omega) (by omega), show ((pre.length : Nat) : Int) + 1 = ((pre.length + 1 : Nat) : Int) by omega]
  refine bnd_of g2 (bnd_of (nibble_hex ⟨c.toNat % 16, by omega⟩) ?_)
  refine letm_of h2 ?_
  rw [app_some' (by simp only [List.length_cons, List.length_nil]; omega), bnd_s, letm_e, w64_of (by omega) (by omega)]
  have ih := bytes_run st d hd b (pre ++ [hexd (c.toNat / 16), hexd (c.toNat % 16)]) (acc ++ [c]) f (by rw [e']; simp) (by simpa using h) (by simp only [List.length_append, List.length_cons, List.length_nil]; omega)
  rw [show (((pre ++ [hexd (c.toNat / 16), hexd (c.toNat % 16)]).length : Nat) : Int) = (pre.length : Int) + 2 by simp] at ih
  refine ih.trans ?_
  simp
theorem bytes_at (b r : List UInt8) (i : Int) (hl : (hexS b ++ 39 :: r).length ≤ 10000000) : m_diag_parser_bytes (hexS b ++ 39 :: r, (i, false)) = some (b, (r, (i, false))) := by
 have h39 : (39 : UInt8) ∉ hexS b := fun h => hex_no39 (hexS_mem h)
 have hh := hexS_len b
 have hd : (hexS b).length ≤ 10000000 := by simp at hl; omega
 unfold m_diag_parser_bytes
 rw [digits_at h39 hl, trim_hex (fun c => hexS_mem), bnd_s]
 show bnd (bnd (Gk.rem ((hexS b).length : Int) 2) fun x2 => letm (x2 == 1) fun x3 => some x3) _ = _
 rw [rem2, bnd_s, letm_e, bnd_s, show ((((hexS b).length % 2 : Nat) : Int) == 1) = false by rw [hh, Nat.mul_mod_right]; rfl, cd_f]
 exact bytes_run (r, (i, false)) (hexS b) hd b [] [] FUEL rfl (by rw [fuel_eq]; omega) (Nat.le_refl _)
theorem bytes_ex2 {s : List UInt8} (hl : s.length ≤ 10000000) (i : Int) (bad : Bool) : ∃ b r b2, m_diag_parser_bytes (s, (i, bad)) = some (b, (r, (i, b2))) ∧ b.length ≤ s.length ∧ r.length ≤ s.length := by
 obtain ⟨d, r, b2, e, hd, hr⟩ := digits_ex hl i bad
 unfold m_diag_parser_bytes
 rw [e, bnd_s]
 have fin : ∀ v : Bool, (v = false → d.length % 2 = 0) → ∃ b r' b3, (cond v (some ([], (r, (i, true)))) (loopF (R := ((List UInt8) × S_diag_parser)) (S := ((List UInt8) × Int)) (fun self6 s5 =>
  letm (decide (s5.2 < (d.length : Int))) fun x7 =>
  cond x7 (bnd (idx d s5.2) fun x8 =>
  bnd (m_diag_nibble x8) fun x9 =>
  bnd (shlK .u8 x9 (UInt64.toNat 4 : Int)) fun x10 =>
  letm ((w64 (s5.2 + 1))) fun x11 =>
  bnd (idx d x11) fun x12 =>
  bnd (m_diag_nibble x12) fun x13 =>
  letm ((toU8 (bits .or .u8 (UInt8.toNat x10) (UInt8.toNat x13)))) fun x14 =>
  bnd (app s5.1 [x14]) fun x15 =>
  letm ((w64 (s5.2 + 2))) fun x16 =>
  self6 (x15, x16))
   (some (s5.1, (r, (i, b2))))) FUEL ([], 0)) : Option ((List UInt8) × S_diag_parser)) = some (b, (r', (i, b3))) ∧ b.length ≤ s.length ∧ r'.length ≤ s.length := by
  intro v hv
  cases v with
  | true => exact ⟨[], r, true, rfl, by simp, hr⟩
  | false =>
   obtain ⟨q, hq, h1, h2⟩ := bytes_loop (r, (i, b2)) d (by omega) (hv rfl)
   refine ⟨q.1, r, b2, ?_, by omega, hr⟩
   rw [cd_f, hq, ← h1]
 cases b2 with
 | true => exact fin true (fun h => Bool.noConfusion h)
 | false =>
  show ∃ b r' b3, bnd (bnd (Gk.rem (d.length : Int) 2) fun x2 => letm (x2 == 1) fun x3 => some x3) _ = _ ∧ _
  rw [rem2, bnd_s, letm_e, bnd_s]
  refine fin _ (fun h => ?_)
  rw [i1] at h
  simp only [beq_eq_false_iff_ne] at h
  omega
def txtB : (List UInt8 × S_diag_parser → Option ((List UInt8 × S_diag_parser) ⊕ S_diag_parser)) → List UInt8 × S_diag_parser → Option ((List UInt8 × S_diag_parser) ⊕ S_diag_parser) := fun self2 s1 =>
 letm (decide (0 < (s1.2.1.length : Int))) fun x3 =>
 cond x3 (bnd (idx s1.2.1 0) fun x4 =>
 bnd (Gk.cut s1.2.1 1 (s1.2.1.length : Int)) fun x5 =>
 letm (((UInt8.toNat x4 : Int) == (UInt8.toNat 34 : Int))) fun x6 =>
 cond x6 (some (.inl (s1.1, (x5, s1.2.2))))
  (bnd (β := Bool) (letm (decide ((UInt8.toNat x4 : Int) < (UInt8.toNat 32 : Int))) fun x7 =>
 cond x7 (some true)
  (letm (((UInt8.toNat x4 : Int) == (UInt8.toNat 127 : Int))) fun x8 =>
 some x8)) fun v9 =>
 cond v9 (some (.inl ([], (x5, (s1.2.2.1, true)))))
  (letm (((UInt8.toNat x4 : Int) != (UInt8.toNat 92 : Int))) fun x10 =>
 cond x10 (bnd (app s1.1 [x4]) fun x11 =>
 self2 (x11, (x5, s1.2.2)))
  (bnd (m_diag_parser_skip (x5, s1.2.2) [34]) fun x12 =>
 cond x12.1 (bnd (app s1.1 [34]) fun x13 =>
 self2 (x13, x12.2))
  (bnd (m_diag_parser_skip x12.2 [92]) fun x14 =>
 cond x14.1 (bnd (app s1.1 [92]) fun x15 =>
 self2 (x15, x14.2))
  (bnd (β := (Bool × S_diag_parser)) (bnd (m_diag_parser_skip x14.2 [117, 48, 48]) fun x16 =>
 cond x16.1 (letm (decide (2 ≤ (x16.2.1.length : Int))) fun x17 =>
 cond x17 (bnd (Gk.cut x16.2.1 0 2) fun x18 =>
 bnd (m_strings_Trim x18 [48, 49, 50, 51, 52, 53, 54, 55, 56, 57, 97, 98, 99, 100, 101, 102]) fun x19 =>
 letm ((x19 == [])) fun x20 =>
 some (x20, x16.2))
  (some (false, x16.2)))
  (some (false, x16.2))) fun v21 =>
 cond v21.1 (bnd (idx v21.2.1 0) fun x22 =>
 bnd (m_diag_nibble x22) fun x23 =>
 bnd (shlK .u8 x23 (UInt64.toNat 4 : Int)) fun x24 =>
 bnd (idx v21.2.1 1) fun x25 =>
 bnd (m_diag_nibble x25) fun x26 =>
 letm ((toU8 (bits .or .u8 (UInt8.toNat x24) (UInt8.toNat x26)))) fun x27 =>
 bnd (β := S_diag_parser) (cond v21.2.2.2 (some (v21.2.1, (v21.2.2.1, true)))
  (letm (decide ((UInt8.toNat 32 : Int) ≤ (UInt8.toNat x27 : Int))) fun x28 =>
 cond x28 (letm (((UInt8.toNat x27 : Int) != (UInt8.toNat 127 : Int))) fun x29 =>
 some (v21.2.1, (v21.2.2.1, x29)))
  (some (v21.2.1, (v21.2.2.1, false))))) fun v30 =>
 bnd (app s1.1 [x27]) fun x31 =>
 bnd (Gk.cut v30.1 2 (v30.1.length : Int)) fun x32 =>
 self2 (x31, (x32, v30.2)))
  (some (.inl ([], (v21.2.1, (v21.2.2.1, true)))))))))))
  (some (.inr s1.2))
theorem text_def (p : S_diag_parser) : m_diag_parser_text p = bndS (ρ := ((List UInt8) × S_diag_parser)) (ρ' := ((List UInt8) × S_diag_parser)) (Y := S_diag_parser) (loopF txtB FUEL ([], p)) (fun q => q) fun v33 => some ([], (v33.1, (v33.2.1, true))) := rfl
theorem idx0 {α : Type} (x : α) (l : List α) : idx (x :: l) 0 = some x := idx_some' (i := 0) rfl
theorem idx1 {α : Type} (x y : α) (l : List α) : idx (x :: y :: l) 1 = some y := idx_some' (i := 1) rfl
theorem cut1 {α : Type} (x : α) (l : List α) : Gk.cut (x :: l) 1 ((x :: l).length : Int) = some l := by
 have := cut_from (l := x :: l) (k := 1) (by simp)
 exact this
theorem cut2 {α : Type} (x y : α) (l : List α) : Gk.cut (x :: y :: l) 2 ((x :: y :: l).length : Int) = some l := by
 have := cut_from (l := x :: y :: l) (k := 2) (by simp)
 exact this
theorem cut02 {α : Type} (x y : α) (l : List α) : Gk.cut (x :: y :: l) 0 2 = some [x, y] := by
 unfold Gk.cut
 rw [if_pos (by simp; omega)]
 simp
theorem pos_len {α : Type} (x : α) (l : List α) : decide ((0 : Int) < ((x :: l).length : Int)) = true := decide_eq_true (by rw [List.length_cons]; omega)
theorem text_run (r : List UInt8) (i : Int) : ∀ (b acc : List UInt8) (f : Nat), b.length < f → acc.length + b.length ≤ 10000000 → loopF txtB f (acc, (b.flatMap qc ++ 34 :: r, (i, false))) = some (.inl (acc ++ b, (r, (i, false))))
 | [], acc, 0, h, _ => absurd h (Nat.not_lt_zero _)
 | [], acc, f + 1, h, _ => by
  rw [loopF_succ, List.flatMap_nil, List.nil_append, List.append_nil]
  unfold txtB
  dsimp only
  rw [letm_e, pos_len, cd_t, idx0, bnd_s, cut1, bnd_s]
  rfl
 | c :: b, acc, 0, h, _ => absurd h (Nat.not_lt_zero _)
 | c :: b, acc, f + 1, h, ha => by
  have hcc := UInt8.toNat_lt c
  rw [List.length_cons] at h ha
  have ih := fun x => text_run r i b (acc ++ [x]) f (by omega) (by rw [List.length_append]; simp only [List.length_cons, List.length_nil]; omega)
  have happ : ∀ x : UInt8, app acc [x] = some (acc ++ [x]) := fun x => app_some' (by simp only [List.length_cons, List.length_nil]; omega)
  have fin : ∀ x : UInt8, acc ++ [x] ++ b = acc ++ x :: b := fun x => by simp
  rw [loopF_succ, List.flatMap_cons, List.append_assoc]
  generalize hs : b.flatMap qc ++ 34 :: r = s at ih
  unfold qc
  by_cases c1 : c = 34 ∨ c = 92
  ·rw [if_pos c1]
   unfold txtB
   dsimp only [List.cons_append, List.nil_append]
   rw [letm_e, pos_len, cd_t, idx0, bnd_s, cut1, bnd_s, letm_e, show (((UInt8.toNat 92 : Nat) : Int) == ((UInt8.toNat 34 : Nat) : Int)) = false from rfl, cd_f, letm_e, letm_e, cd_or, bnd_s,
    show (decide (((UInt8.toNat 92 : Nat) : Int) < ((UInt8.toNat 32 : Nat) : Int)) || (((UInt8.toNat 92 : Nat) : Int) == ((UInt8.toNat 127 : Nat) : Int))) = false from rfl, cd_f, letm_e, show (((UInt8.toNat 92 : Nat) : Int) != ((UInt8.toNat 92 : Nat) : Int)) = false from rfl, cd_f]
   rcases c1 with rfl | rfl
   ·rw [skip_yes (by rw [preB_cons, preB_nil]; rfl), bnd_s]
    dsimp only
    rw [cd_t, happ, bnd_s]
    exact (ih 34).trans (by rw [fin])
   ·rw [skip_no (by rw [preB_cons]; rfl), bnd_s]
    dsimp only
    rw [cd_f, skip_yes (by rw [preB_cons, preB_nil]; rfl), bnd_s]
    dsimp only
    rw [cd_t, happ, bnd_s]
    exact (ih 92).trans (by rw [fin])
  rw [if_neg c1]
  have c1a : ¬ c = 34 := fun h => c1 (.inl h)
  have c1b : ¬ c = 92 := fun h => c1 (.inr h)
  by_cases c2 : c.toNat < 32 ∨ c = 127
  ·rw [if_pos c2]
   obtain ⟨y, h1, h2⟩ := nib_parts c
   have ht : Lib.trimS [hexd (c.toNat / 16), hexd (c.toNat % 16)] hexL = [] := trim_hex (fun x hx => by
    simp only [List.mem_cons, List.not_mem_nil, or_false] at hx
    rcases hx with rfl | rfl
    ·exact hexd_mem _ (by omega)
    ·exact hexd_mem _ (by omega))
   unfold txtB
   dsimp only [List.cons_append, List.nil_append]
   rw [letm_e, pos_len, cd_t, idx0, bnd_s, cut1, bnd_s, letm_e, show (((UInt8.toNat 92 : Nat) : Int) == ((UInt8.toNat 34 : Nat) : Int)) = false from rfl, cd_f, letm_e, letm_e, cd_or, bnd_s,
    show (decide (((UInt8.toNat 92 : Nat) : Int) < ((UInt8.toNat 32 : Nat) : Int)) || (((UInt8.toNat 92 : Nat) : Int) == ((UInt8.toNat 127 : Nat) : Int))) = false from rfl, cd_f, letm_e, show (((UInt8.toNat 92 : Nat) : Int) != ((UInt8.toNat 92 : Nat) : Int)) = false from rfl, cd_f,
    skip_no (by rw [preB_cons]; rfl), bnd_s]
   dsimp only
   rw [cd_f, skip_no (by rw [preB_cons]; rfl), bnd_s]
   dsimp only
   rw [cd_f, skip_yes (by rw [preB_cons, preB_cons, preB_cons, preB_nil]; rfl), bnd_s]
   rw [show List.drop (List.length ([117, 48, 48] : List UInt8)) (117 :: 48 :: 48 :: hexd (c.toNat / 16) :: hexd (c.toNat % 16) :: s) = hexd (c.toNat / 16) :: hexd (c.toNat % 16) :: s from rfl]
   dsimp only
   refine bnd_of (y := (true, (hexd (c.toNat / 16) :: hexd (c.toNat % 16) :: s, (i, false)))) ?_ ?_
   ·rw [cd_t, letm_e]
    rw [show decide ((2 : Int) ≤ ((hexd (c.toNat / 16) :: hexd (c.toNat % 16) :: s).length : Int)) = true from decide_eq_true (by rw [List.length_cons, List.length_cons]; omega), cd_t, cut02, bnd_s, trim_some (by simp), bnd_s, letm_e, ht]
    rfl
   ·dsimp only
    rw [cd_t, idx0, bnd_s]
    refine bnd_of (nibble_hex ⟨c.toNat / 16, by omega⟩) (bnd_of h1 ?_)
    rw [idx1, bnd_s]
    refine bnd_of (nibble_hex ⟨c.toNat % 16, by omega⟩) (letm_of h2 ?_)
    refine bnd_of (y := (hexd (c.toNat / 16) :: hexd (c.toNat % 16) :: s, (i, false))) ?_ ?_
    ·rw [cd_f, letm_e]
     have e32 : decide (((UInt8.toNat 32 : Nat) : Int) ≤ ((UInt8.toNat c : Nat) : Int)) = decide (32 ≤ c.toNat) := le_dec 32 _
     rw [e32]
     by_cases h32 : 32 ≤ c.toNat
     ·have : c = 127 := by rcases c2 with h | h; omega; exact h
      subst this
      rfl
     ·rw [decide_eq_false h32, cd_f]
    ·dsimp only
     rw [happ, bnd_s, cut2, bnd_s]
     exact (ih c).trans (by rw [fin])
  ·rw [if_neg c2]
   unfold txtB
   dsimp only [List.cons_append, List.nil_append]
   have e1 : (decide (((UInt8.toNat c : Nat) : Int) < ((UInt8.toNat 32 : Nat) : Int)) || (((UInt8.toNat c : Nat) : Int) == ((UInt8.toNat 127 : Nat) : Int))) = false := by
    rw [u8lt, u8eq, show (32 : UInt8).toNat = 32 from rfl, ← Bool.not_eq_true]
    simpa using c2
   rw [letm_e, pos_len, cd_t, idx0, bnd_s, cut1, bnd_s, letm_e, u8eq, decide_eq_false c1a, cd_f, letm_e, letm_e, cd_or, bnd_s, e1, cd_f, letm_e,
    show (((UInt8.toNat c : Nat) : Int) != ((UInt8.toNat 92 : Nat) : Int)) = !(((UInt8.toNat c : Nat) : Int) == ((UInt8.toNat 92 : Nat) : Int)) from rfl, u8eq, decide_eq_false c1b, show (!false) = true from rfl, cd_t, happ, bnd_s]
   exact (ih c).trans (by rw [fin])
theorem text_at (b r : List UInt8) (i : Int) (hl : b.length ≤ 10000000) : m_diag_parser_text (b.flatMap qc ++ 34 :: r, (i, false)) = some (b, (r, (i, false))) := by
 rw [text_def, text_run r i b [] FUEL (by rw [fuel_eq]; omega) (by simpa using hl), bndS_l]
 rfl
theorem skip_ex (s w : List UInt8) (st : Int × Bool) : ∃ v s', m_diag_parser_skip (s, st) w = some (v, (s', st)) ∧ s'.length ≤ s.length ∧ (v = true → s'.length + w.length = s.length) := by
 rw [skip_eq]
 cases h : preB s w with
 | true =>
  have := preB_len h
  exact ⟨true, s.drop w.length, rfl, by rw [List.length_drop]; omega, fun _ => by rw [List.length_drop]; omega⟩
 | false => exact ⟨false, s, rfl, Nat.le_refl _, fun h => Bool.noConfusion h⟩
theorem need_ex (s w : List UInt8) (i : Int) (bad : Bool) : ∃ s' b2, m_diag_parser_need (s, (i, bad)) w = some (s', (i, b2)) ∧ s'.length ≤ s.length ∧ (bad = true → b2 = true) := by
 rw [need_eq]
 cases bad with
 | true => exact ⟨s, true, rfl, Nat.le_refl _, fun _ => rfl⟩
 | false =>
  cases preB s w with
  | true => exact ⟨_, false, rfl, by rw [List.length_drop]; omega, fun h => Bool.noConfusion h⟩
  | false => exact ⟨s, true, rfl, Nat.le_refl _, fun _ => rfl⟩
theorem num_none {s : List UInt8} (h : (s.takeWhile isD).length = 0) : (numR s).2 = true := by
 unfold numR
 rw [List.length_eq_zero_iff.1 h]
 rfl
theorem dnum_ex {s : List UInt8} (hs : s.length ≤ 10000000) (i : Int) (bad : Bool) : ∃ n s' b2, m_diag_parser_number (s, (i, bad)) = some (n, (s', (i, b2))) ∧ s'.length ≤ s.length ∧ (b2 = false → s'.length < s.length) := by
 refine ⟨_, _, _, number_eq s i bad hs, ?_⟩
 have h := congrArg List.length (List.takeWhile_append_dropWhile (p := isD) (l := s))
 rw [List.length_append] at h
 refine ⟨by omega, fun hb => ?_⟩
 simp only [Bool.or_eq_false_iff] at hb
 have h0 : ¬ (s.takeWhile isD).length = 0 := fun h0 => by
  rw [num_none h0] at hb
  exact Bool.noConfusion hb.1.2
 omega
def TQ (L : Nat) (i : Int) : (List UInt8 × S_diag_parser) ⊕ S_diag_parser → Prop
 | .inl q => q.1.length ≤ L ∧ q.2.1.length ≤ L ∧ q.2.2.1 = i
 | .inr p => p.1.length ≤ L ∧ p.2.1 = i
theorem text_ex2 {s : List UInt8} (hs : s.length ≤ 10000000) (i : Int) (bad : Bool) : ∃ b s' b2, m_diag_parser_text (s, (i, bad)) = some (b, (s', (i, b2))) ∧ b.length ≤ s.length ∧ s'.length ≤ s.length := by
 have h := loopF_ex (S := List UInt8 × S_diag_parser) (R := (List UInt8 × S_diag_parser) ⊕ S_diag_parser) (b := txtB) (fun n x => x.2.1.length = n ∧ x.1.length + n ≤ s.length ∧ x.2.2.1 = i)
  (TQ s.length i) (fun n x self hI ih => ?_) FUEL s.length ([], (s, (i, bad))) (by rw [fuel_eq]; omega) ⟨rfl, by simp, rfl⟩
 ·obtain ⟨r, hr, hq⟩ := h
  rw [text_def, hr]
  match r, hq with
  | Sum.inl (b, (s', (i', b2))), hq =>
   obtain ⟨h1, h2, h3⟩ := hq
   have h3 : i' = i := h3
   subst h3
   exact ⟨b, s', b2, rfl, h1, h2⟩
  | Sum.inr (s', (i', b2)), hq =>
   obtain ⟨h1, h2⟩ := hq
   have h2 : i' = i := h2
   subst h2
   exact ⟨[], s', true, rfl, by simp, h1⟩
 ·obtain ⟨acc, t, j, bd⟩ := x
  obtain ⟨h1, h2, h3⟩ := hI
  have h1 : t.length = n := h1
  have h2 : acc.length + n ≤ s.length := h2
  have h3 : j = i := h3
  subst h3
  unfold txtB
  dsimp only
  match t, h1 with
  | [], h1 => exact ⟨.inr ([], (j, bd)), rfl, by simp, rfl⟩
  | c :: t, h1 =>
   rw [List.length_cons] at h1
   rw [letm_e, pos_len, cd_t, idx0, bnd_s, cut1, bnd_s]
   have happ : ∀ x : UInt8, app acc [x] = some (acc ++ [x]) := fun x => app_some' (by simp only [List.length_cons, List.length_nil]; omega)
   have step : ∀ (x : UInt8) (t' : List UInt8) (bd' : Bool), t'.length ≤ t.length → ∃ r, self (acc ++ [x], (t', (j, bd'))) = some r ∧ TQ s.length j r := fun x t' bd' hl =>
    ih t'.length _ (by omega) ⟨rfl, by show (acc ++ [x]).length + t'.length ≤ _; rw [List.length_append]; simp only [List.length_cons, List.length_nil]; omega, rfl⟩
   refine lex2 (cex2 (fun _ => ⟨_, rfl, by show acc.length ≤ _; omega, by show t.length ≤ _; omega, rfl⟩) (fun _ => ?_))
   refine bex2 (fun _ => True) ⟨_, (show _ = some (decide (((UInt8.toNat c : Nat) : Int) < ((UInt8.toNat 32 : Nat) : Int)) || (((UInt8.toNat c : Nat) : Int) == ((UInt8.toNat 127 : Nat) : Int))) by rw [letm_e, letm_e, cd_or]), trivial⟩ fun v9 _ => ?_
   refine cex2 (fun _ => ⟨_, rfl, by simp, by show t.length ≤ _; omega, rfl⟩) (fun _ => lex2 (cex2 (fun _ => ?_) (fun _ => ?_)))
   ·rw [happ, bnd_s]
    exact step c t bd (Nat.le_refl _)
   ·obtain ⟨v, s1, e1, l1, _⟩ := skip_ex t [34] (j, bd)
    rw [e1, bnd_s]
    refine cex2 (fun _ => ?_) (fun _ => ?_)
    ·rw [happ, bnd_s]
     exact step 34 s1 bd l1
    obtain ⟨v, s2, e2, l2, _⟩ := skip_ex s1 [92] (j, bd)
    show ∃ r, bnd (m_diag_parser_skip (s1, (j, bd)) [92]) _ = some r ∧ _
    rw [e2, bnd_s]
    refine cex2 (fun _ => ?_) (fun _ => ?_)
    ·rw [happ, bnd_s]
     exact step 92 s2 bd (by omega)
    refine bex2 (fun v21 => v21.2.1.length ≤ t.length ∧ v21.2.2 = (j, bd) ∧ (v21.1 = true → 2 ≤ v21.2.1.length)) ?_ fun v21 hv => ?_
    ·obtain ⟨v, s3, e3, l3, _⟩ := skip_ex s2 [117, 48, 48] (j, bd)
     show ∃ r, bnd (m_diag_parser_skip (s2, (j, bd)) [117, 48, 48]) _ = some r ∧ _
     rw [e3, bnd_s]
     refine cex2 (fun _ => lex2 (cex2 (fun hc => ?_) (fun _ => ⟨_, rfl, by show s3.length ≤ _; omega, rfl, fun h => Bool.noConfusion h⟩))) (fun _ => ⟨_, rfl, by show s3.length ≤ _; omega, rfl, fun h => Bool.noConfusion h⟩)
     have hc : 2 ≤ s3.length := by
      have := of_decide_eq_true hc
      have h3 : (2 : Int) ≤ (s3.length : Int) := this
      omega
     match s3, hc, l3 with
     | a :: b :: s3, hc, l3 =>
      show ∃ r, bnd (Gk.cut (a :: b :: s3) 0 2) _ = some r ∧ _
      rw [cut02, bnd_s, trim_some (by simp), bnd_s]
      exact lex2 ⟨_, rfl, by show (a :: b :: s3).length ≤ _; omega, rfl, fun _ => hc⟩
    ·obtain ⟨ok, s3, st⟩ := v21
     obtain ⟨l3, hst, hok⟩ := hv
     have hst : st = (j, bd) := hst
     subst hst
     refine cex2 (fun hc => ?_) (fun _ => ⟨_, rfl, by simp, by show s3.length ≤ _; have : s3.length ≤ t.length := l3; omega, rfl⟩)
     have h2 : 2 ≤ s3.length := hok hc
     have l3 : s3.length ≤ t.length := l3
     match s3, h2, l3 with
     | a :: b :: s3, h2, l3 =>
      dsimp only
      rw [idx0, bnd_s, nibble_some, bnd_s]
      obtain ⟨y, hy⟩ := shl8_ex (toU8 (max 0 (Lib.indexByte hexL a)))
      refine bex2 (fun _ => True) ⟨y, hy, trivial⟩ fun x24 _ => ?_
      rw [idx1, bnd_s, nibble_some, bnd_s, letm_e]
      refine bex2 (fun p => p.1 = a :: b :: s3 ∧ p.2.1 = j) ?_ fun v30 hv30 => ?_
      ·refine cex2 (fun _ => ⟨_, rfl, rfl, rfl⟩) (fun _ => lex2 (cex2 (fun _ => lex2 ⟨_, rfl, rfl, rfl⟩) (fun _ => ⟨_, rfl, rfl, rfl⟩)))
      ·obtain ⟨s4, j4, b4⟩ := v30
       obtain ⟨e4, e5⟩ := hv30
       have e4 : s4 = a :: b :: s3 := e4
       have e5 : j4 = j := e5
       subst e4 e5
       dsimp only
       rw [happ, bnd_s, cut2, bnd_s]
       exact step _ s3 b4 (by rw [List.length_cons, List.length_cons] at l3; omega)
def ItQ (s : List UInt8) (r : Tr × S_diag_parser) : Prop := r.2.1.length ≤ s.length ∧ (r.2.2.2 = false → r.2.1.length < s.length)
theorem list_ex (rec : S_diag_parser → Int → Option (Tr × S_diag_parser)) (lv : Int) (L : Nat) (hL : L ≤ 9000000) (hr : ∀ (s : List UInt8) (st : Int × Bool), s.length ≤ L → ∃ r, rec (s, st) lv = some r ∧ ItQ s r) (e : List UInt8) (m : Bool) (s : List UInt8) (i : Int) (bad : Bool) (hs : s.length ≤ L) :
  ∃ r, b_diag_parser_list rec (s, (i, bad)) e m lv = some r ∧ r.2.1.length ≤ s.length := by
 unfold b_diag_parser_list
 refine bex2 (fun r => r.2.1.length ≤ s.length) ?_ fun v hv => ⟨_, rfl, hv⟩
 refine loopF_ex (S := List Tr × S_diag_parser) (R := List Tr × S_diag_parser) (fun n x => x.2.1.length + (bif x.2.2.2 then 0 else 1) = n ∧ x.1.length + 2 * n ≤ 2 * (L + 1) ∧ x.2.1.length ≤ s.length) (fun r => r.2.1.length ≤ s.length) (fun n x self hI ih => ?_) FUEL (s.length + (bif bad then 0 else 1)) _ (by rw [fuel_eq]; cases bad <;> simp <;> omega) ⟨rfl, by show 0 + _ ≤ _; cases bad <;> simp <;> omega, Nat.le_refl _⟩
 obtain ⟨l, t, j, bd⟩ := x
 obtain ⟨h1, h2, h3⟩ := hI
 have h1 : t.length + (bif bd then 0 else 1) = n := h1
 have h2 : l.length + 2 * n ≤ 2 * (L + 1) := h2
 have h3 : t.length ≤ s.length := h3
 dsimp only
 cases bd with
 | true => exact ⟨_, rfl, h3⟩
 | false =>
  have h1 : t.length + 1 = n := h1
  obtain ⟨v, s1, e1, l1, _⟩ := skip_ex t e (j, false)
  refine bex2 (fun v9 => v9.2 = (s1, (j, false))) ?_ fun v9 hv9 => ?_
  ·rw [letm_e, show (!false) = true from rfl, cd_t, e1, bnd_s]
   exact lex2 ⟨_, rfl, rfl⟩
  obtain ⟨ok, q⟩ := v9
  have hv9 : q = (s1, (j, false)) := hv9
  subst hv9
  refine cex2 (fun _ => ?_) (fun _ => ⟨_, rfl, by show s1.length ≤ _; omega⟩)
  refine bex2 (fun v12 => v12.1.length ≤ s1.length) ?_ fun v12 hv12 => ?_
  ·refine lex2 (cex2 (fun _ => ?_) (fun _ => ⟨_, rfl, Nat.le_refl _⟩))
   obtain ⟨s2, b2, e2, l2, _⟩ := need_ex s1 [44, 32] j false
   exact ⟨_, bnd_of e2 rfl, l2⟩
  obtain ⟨s2, st2⟩ := v12
  have l2 : s2.length ≤ s1.length := hv12
  obtain ⟨⟨x3, s3, i3, b3⟩, e3, q1, q2⟩ := hr s2 st2 (by omega)
  have q1 : s3.length ≤ s2.length := q1
  have q2 : b3 = false → s3.length < s2.length := q2
  rw [e3, bnd_s]
  have happ : ∀ (l' : List Tr) (z : Tr), l'.length ≤ 40000000 → app l' [z] = some (l' ++ [z]) := fun l' z hz => app_some' (by simp only [List.length_cons, List.length_nil]; omega)
  rw [happ l x3 (by omega), bnd_s]
  have step : ∀ (l' : List Tr) (s' : List UInt8) (i' : Int) (b' : Bool), l'.length ≤ l.length + 2 → s'.length ≤ s2.length → (b' = false → s'.length < s2.length) → ∃ r, self (l', (s', (i', b'))) = some r ∧ r.2.1.length ≤ s.length := fun l' s' i' b' g1 g2 g3 => by
   refine ih (s'.length + (bif b' then 0 else 1)) _ ?_ ⟨rfl, ?_, by show s'.length ≤ _; omega⟩
   ·cases b' with
    | true => simp; omega
    | false => have := g3 rfl; simp; omega
   ·show l'.length + 2 * (s'.length + (bif b' then 0 else 1)) ≤ _
    cases b' with
    | true => simp; omega
    | false => have := g3 rfl; simp; omega
  cases m with
  | false => exact step _ s3 i3 b3 (by rw [List.length_append]; simp only [List.length_cons, List.length_nil]; omega) q1 q2
  | true =>
   obtain ⟨s4, b4, e4, l4, g4⟩ := need_ex s3 [58, 32] i3 b3
   show ∃ r, bnd (m_diag_parser_need (s3, (i3, b3)) [58, 32]) _ = some r ∧ _
   rw [e4, bnd_s]
   obtain ⟨⟨x5, s5, i5, b5⟩, e5, p1, p2⟩ := hr s4 (i3, b4) (by omega)
   have p1 : s5.length ≤ s4.length := p1
   have p2 : b5 = false → s5.length < s4.length := p2
   rw [e5, bnd_s, happ _ x5 (by rw [List.length_append]; simp only [List.length_cons, List.length_nil]; omega), bnd_s]
   exact step _ s5 i5 b5 (by rw [List.length_append, List.length_append]; simp only [List.length_cons, List.length_nil]; omega) (by omega) (fun hb => by have := p2 hb; omega)
theorem ditem_step (rec : S_diag_parser → Int → Option (Tr × S_diag_parser)) (L : Nat) (hL : L ≤ 9000000) (lv : Int) (h0 : 0 ≤ lv) (h100 : lv ≤ 100) (hr : lv ≤ 8 → ∀ (s : List UInt8) (st : Int × Bool), s.length ≤ L → ∃ r, rec (s, st) (lv + 1) = some r ∧ ItQ s r) (s : List UInt8) (i : Int) (bad : Bool) (hs : s.length ≤ L) :
  ∃ r, b_diag_parser_item rec (s, (i, bad)) lv = some r ∧ ItQ s r := by
 unfold b_diag_parser_item
 rw [letm_e]
 generalize w64 ((s, (i, bad)).2.1 + 1) = i1
 refine bex2 (fun v => v = (bad || decide (256 < i1) || decide (8 < lv))) ?_ fun v5 hv5 => ?_
 ·cases bad with
  | true => exact ⟨true, rfl, rfl⟩
  | false =>
   dsimp only
   rw [cd_f, letm_e, letm_e, cd_or]
   exact ⟨_, rfl, by rw [Bool.false_or]⟩
 refine cex2 (fun _ => ⟨_, rfl, Nat.le_refl _, fun h => Bool.noConfusion h⟩) (fun hc => ?_)
 rw [hc] at hv5
 have hb : bad = false ∧ lv ≤ 8 := by
  have h := hv5.symm
  simp only [Bool.or_eq_false_iff, decide_eq_false_iff_not] at h
  exact ⟨h.1.1, by omega⟩
 obtain ⟨rfl, hlv⟩ := hb
 have hr := hr hlv
 have hw : w64 (lv + 1) = lv + 1 := w64_of (by omega) (by omega)
 have done : ∀ (x : Tr) (s' : List UInt8) (i' : Int) (b' : Bool), s'.length < s.length → ∃ r, (some (x, (s', (i', b'))) : Option (Tr × S_diag_parser)) = some r ∧ ItQ s r := fun x s' i' b' h => ⟨_, rfl, Nat.le_of_lt h, fun _ => h⟩
 obtain ⟨v1, s1, e1, l1, g1⟩ := skip_ex s [104, 39] (i1, false)
 rw [show (s, (i, false)).2.2 = false from rfl, e1, bnd_s]
 refine cex2 (fun hc => ?_) (fun _ => ?_)
 ·have g1 := g1 hc
  simp only [List.length_cons, List.length_nil] at g1
  obtain ⟨b, s', b2, e, _, hl⟩ := bytes_ex2 (s := s1) (by omega) i1 false
  show ∃ r, bnd (m_diag_parser_bytes (s1, (i1, false))) _ = some r ∧ _
  rw [e, bnd_s]
  exact done _ s' i1 b2 (by omega)
 obtain ⟨v2, s2, e2, l2, g2⟩ := skip_ex s1 [34] (i1, false)
 show ∃ r, bnd (m_diag_parser_skip (s1, (i1, false)) [34]) _ = some r ∧ _
 rw [e2, bnd_s]
 refine cex2 (fun hc => ?_) (fun _ => ?_)
 ·have g2 := g2 hc
  simp only [List.length_cons, List.length_nil] at g2
  obtain ⟨b, s', b2, e, _, hl⟩ := text_ex2 (s := s2) (by omega) i1 false
  show ∃ r, bnd (m_diag_parser_text (s2, (i1, false))) _ = some r ∧ _
  rw [e, bnd_s]
  exact done _ s' i1 b2 (by omega)
 obtain ⟨v3, s3, e3, l3, g3⟩ := skip_ex s2 [91] (i1, false)
 show ∃ r, bnd (m_diag_parser_skip (s2, (i1, false)) [91]) _ = some r ∧ _
 rw [e3, bnd_s]
 refine cex2 (fun hc => ?_) (fun _ => ?_)
 ·have g3 := g3 hc
  simp only [List.length_cons, List.length_nil] at g3
  rw [letm_e, hw]
  obtain ⟨⟨l, s', i', b'⟩, e, hl⟩ := list_ex rec (lv + 1) L hL hr [93] false s3 i1 false (by omega)
  show ∃ r, bnd (b_diag_parser_list rec (s3, (i1, false)) [93] false (lv + 1)) _ = some r ∧ _
  rw [e, bnd_s]
  exact done _ s' i' b' (by have hl : s'.length ≤ s3.length := hl; omega)
 obtain ⟨v4, s4, e4, l4, g4⟩ := skip_ex s3 [123] (i1, false)
 show ∃ r, bnd (m_diag_parser_skip (s3, (i1, false)) [123]) _ = some r ∧ _
 rw [e4, bnd_s]
 refine cex2 (fun hc => ?_) (fun _ => ?_)
 ·have g4 := g4 hc
  simp only [List.length_cons, List.length_nil] at g4
  rw [letm_e, hw]
  obtain ⟨⟨l, s', i', b'⟩, e, hl⟩ := list_ex rec (lv + 1) L hL hr [125] true s4 i1 false (by omega)
  show ∃ r, bnd (b_diag_parser_list rec (s4, (i1, false)) [125] true (lv + 1)) _ = some r ∧ _
  rw [e, bnd_s]
  exact done _ s' i' b' (by have hl : s'.length ≤ s4.length := hl; omega)
 obtain ⟨v5, s5, e5, l5, g5⟩ := skip_ex s4 [115, 105, 109, 112, 108, 101, 40] (i1, false)
 show ∃ r, bnd (m_diag_parser_skip (s4, (i1, false)) [115, 105, 109, 112, 108, 101, 40]) _ = some r ∧ _
 rw [e5, bnd_s]
 refine cex2 (fun hc => ?_) (fun _ => ?_)
 ·have g5 := g5 hc
  simp only [List.length_cons, List.length_nil] at g5
  obtain ⟨n, s', b', e, hl, _⟩ := dnum_ex (s := s5) (by omega) i1 false
  show ∃ r, bnd (m_diag_parser_number (s5, (i1, false))) _ = some r ∧ _
  rw [e, bnd_s]
  obtain ⟨s6, b6, e6, l6, _⟩ := need_ex s' [41] i1 b'
  show ∃ r, bnd (m_diag_parser_need (s', (i1, b')) [41]) _ = some r ∧ _
  rw [e6, bnd_s]
  exact done _ s6 i1 b6 (by omega)
 obtain ⟨v6, s6, e6, l6, g6⟩ := skip_ex s5 [102, 108, 111, 97, 116, 39] (i1, false)
 show ∃ r, bnd (m_diag_parser_skip (s5, (i1, false)) [102, 108, 111, 97, 116, 39]) _ = some r ∧ _
 rw [e6, bnd_s]
 refine cex2 (fun hc => ?_) (fun _ => ?_)
 ·have g6 := g6 hc
  simp only [List.length_cons, List.length_nil] at g6
  obtain ⟨dd, s', b', e, hdl, hl⟩ := digits_ex (s := s6) (by omega) i1 false
  show ∃ r, bnd (m_diag_parser_digits (s6, (i1, false))) _ = some r ∧ _
  rw [e, bnd_s]
  have hp : m_strconv_ParseUint dd 16 64 = some (puRes (Gk.parseHexA dd)) := by
   unfold m_strconv_ParseUint
   rw [decide_eq_true (by omega)]; rfl
  show ∃ r, bnd (m_strconv_ParseUint dd 16 64) _ = some r ∧ _
  rw [hp, bnd_s]
  refine bex2 (fun p => p.1.length < s.length) ?_ fun p hp => ?_
  ·refine cex2 (fun _ => ⟨_, rfl, by show s'.length < _; omega⟩) (fun _ => lex2 (cex2 (fun _ => ⟨_, rfl, by show s'.length < _; omega⟩) (fun _ => lex2 ⟨_, rfl, by show s'.length < _; omega⟩)))
  ·obtain ⟨s7, i7, b7⟩ := p
   exact done _ s7 i7 b7 hp
 obtain ⟨v7, s7, e7, l7, g7⟩ := skip_ex s6 [45] (i1, false)
 show ∃ r, bnd (m_diag_parser_skip (s6, (i1, false)) [45]) _ = some r ∧ _
 rw [e7, bnd_s]
 refine cex2 (fun hc => ?_) (fun _ => ?_)
 ·have g7 := g7 hc
  simp only [List.length_cons, List.length_nil] at g7
  obtain ⟨v8, s8, e8, l8, g8⟩ := skip_ex s7 [49, 56, 52, 52, 54, 55, 52, 52, 48, 55, 51, 55, 48, 57, 53, 53, 49, 54, 49, 54] (i1, false)
  show ∃ r, bnd (m_diag_parser_skip (s7, (i1, false)) [49, 56, 52, 52, 54, 55, 52, 52, 48, 55, 51, 55, 48, 57, 53, 53, 49, 54, 49, 54]) _ = some r ∧ _
  rw [e8, bnd_s]
  refine cex2 (fun _ => done _ s8 i1 false (by omega)) (fun _ => ?_)
  obtain ⟨n, s', b', e, hl, _⟩ := dnum_ex (s := s8) (by omega) i1 false
  show ∃ r, bnd (m_diag_parser_number (s8, (i1, false))) _ = some r ∧ _
  rw [e, bnd_s]
  refine bex2 (fun p => p.1.length < s.length) ?_ fun p hp => lex2 ?_
  ·exact cex2 (fun _ => ⟨_, rfl, by show s'.length < _; omega⟩) (fun _ => lex2 ⟨_, rfl, by show s'.length < _; omega⟩)
  ·obtain ⟨s9, i9, b9⟩ := p
   exact done _ s9 i9 b9 hp
 refine loopF_ex (S := Int × (S_diag_parser × Tr)) (R := Tr × S_diag_parser) (fun n x => ∃ (k : Nat) (t : List UInt8), x = ((k : Int), ((t, (i1, false)), Tr.mk 0 0 [] [])) ∧ n + k = 4 ∧ t.length ≤ s.length) (fun r => ItQ s r) (fun n x self hI ih => ?_) FUEL 4 _ (by rw [fuel_eq]; omega) ⟨0, s7, rfl, rfl, by omega⟩
 obtain ⟨k, t, rfl, hk, ht⟩ := hI
 dsimp only
 rw [show decide (((k : Nat) : Int) < 4) = decide (k < 4) from lt_dec k 4]
 refine lex2 (cex2 (fun hc => ?_) (fun _ => ?_))
 ·rw [decide_eq_true_eq] at hc
  obtain ⟨w, hw2, hm⟩ := idx_lit nmL (v := (k : Int)) (by omega) (by show (k : Int) < 4; omega)
  have hwl : 1 ≤ w.length := by
   simp only [nmL, List.mem_cons, List.not_mem_nil, or_false] at hm
   rcases hm with rfl | rfl | rfl | rfl <;> simp
  show ∃ r, bnd (idx nmL (k : Int)) _ = some r ∧ _
  rw [hw2, bnd_s]
  obtain ⟨v9, s9, e9, l9, g9⟩ := skip_ex t w (i1, false)
  rw [e9, bnd_s]
  refine cex2 (fun hc => ?_) (fun _ => ?_)
  ·have g9 := g9 hc
   exact lex2 (lex2 (done _ s9 i1 false (by omega)))
  ·rw [letm_e, w64_of (by omega) (by omega)]
   exact ih (n - 1) _ (by omega) ⟨k + 1, s9, rfl, by omega, by omega⟩
 ·obtain ⟨nn, s', b', e, hl, hlt⟩ := dnum_ex (s := t) (by omega) i1 false
  rw [e, bnd_s]
  obtain ⟨v9, s9, e9, l9, g9⟩ := skip_ex s' [40] (i1, b')
  show ∃ r, bnd (m_diag_parser_skip (s', (i1, b')) [40]) _ = some r ∧ _
  rw [e9, bnd_s]
  refine lex2 (cex2 (fun _ => ⟨_, rfl, by show s9.length ≤ _; omega, fun hb => by have := hlt hb; show s9.length < _; omega⟩) (fun hc => ?_))
  have g9 := g9 (by revert hc; cases v9 <;> simp)
  simp only [List.length_cons, List.length_nil] at g9
  rw [letm_e, hw]
  obtain ⟨⟨x3, s3', i3, b3⟩, e3', q1, q2⟩ := hr s9 (i1, b') (by omega)
  have q1 : s3'.length ≤ s9.length := q1
  show ∃ r, bnd (rec (s9, (i1, b')) (lv + 1)) _ = some r ∧ _
  rw [e3', bnd_s]
  obtain ⟨s10, b10, e10, l10, _⟩ := need_ex s3' [41] i3 b3
  show ∃ r, bnd (m_diag_parser_need (s3', (i3, b3)) [41]) _ = some r ∧ _
  rw [e10, bnd_s]
  exact done _ s10 i3 b10 (by omega)
theorem ditem_ex (L : Nat) (hL : L ≤ 9000000) (j : Nat) : ∀ (d : Nat) (lv : Int), d ≤ 9 → lv = 9 - (d : Int) → ∀ (s : List UInt8) (st : Int × Bool), s.length ≤ L → ∃ r, n_diag_parser_item (j + d + 1) (s, st) lv = some r ∧ ItQ s r
 | 0, lv, hd, hlv, s, st, hs => ditem_step _ L hL lv (by omega) (by omega) (fun h => absurd h (by omega)) s st.1 st.2 hs
 | d + 1, lv, hd, hlv, s, st, hs => ditem_step _ L hL lv (by omega) (by omega) (fun _ s st hs => ditem_ex L hL j d (lv + 1) (by omega) (by omega) s st hs) s st.1 st.2 hs
theorem parse_shape (s : List UInt8) (hs : s.length ≤ 9000000) : (∃ x, m_diag_Parse s = some (x, 0) ∧ okT x = true ∧ txT x = s) ∨ m_diag_Parse s = some (Tr.mk 0 0 [] [], 17) := by
 obtain ⟨⟨x, s1, i1, b1⟩, e, _⟩ := ditem_ex 9000000 (by omega) 30 9 0 (by omega) (by omega) s (0, false) hs
 have e : m_diag_parser_item (s, (0, false)) 0 = some (x, (s1, (i1, b1))) := e
 unfold m_diag_Parse
 rw [e, bnd_s]
 dsimp only
 rw [prog_valid, bnd_s, letm_e, letm_e, cd_or]
 have h2 : cond b1 (some true) (some (s1 != [] || !okT x)) = some (b1 || (s1 != [] || !okT x)) := cd_or _ _
 rw [h2, bnd_s]
 cases hv : (b1 || (s1 != [] || !okT x)) with
 | true => exact .inr rfl
 | false =>
  simp only [Bool.or_eq_false_iff, Bool.not_eq_false'] at hv
  have hok := hv.2.2
  obtain ⟨h1, h2⟩ := okT_split hok
  rw [cd_f, put_top h1 (by omega) (by omega), bnd_s, letm_e]
  by_cases ht : txT x = s
  ·rw [show (txT x != s) = false by rw [ht]; simp, cd_f]
   exact .inl ⟨x, rfl, hok, ht⟩
  ·rw [show (txT x != s) = true by rw [bne_iff_ne]; exact ht, cd_t]
   exact .inr rfl
mutual
theorem txT_size : (x : Tr) → (d : Nat) → vT x d = true → (txT x).length + 2 ≤ 40 * (encT x).length
 | .mk k n b l, d, h => by
  have d1 := dig_len n
  have d2 := dig_len (n + 1)
  have hx := hexS_len b
  have hf : (hexS (be8 n)).length = 16 := by rw [hexS_len]; rfl
  have hq := qcs_len b
  have hnm := nmL_len (n.toNat - 20)
  have hbig : bigT.length = 21 := rfl
  have ho := fun m => (ownE_len k n b m).1
  have ho0 := ho 0
  have ho1 := ho (0 + 1)
  have ho := ho l.length
  have hh := fun m n => (hd_len m n).1
  rw [encT_mk, List.length_append]
  rcases vT_inv h with ⟨hk, rfl, rfl⟩ | ⟨rfl, rfl, rfl, _⟩ | ⟨rfl, rfl, rfl, _, _⟩ | ⟨rfl, rfl, rfl, hn⟩ | ⟨rfl, rfl, rfl, _⟩ | ⟨rfl, rfl, rfl, g1, gl⟩ | ⟨rfl, rfl, rfl, g1, _, gl, _⟩ | ⟨rfl, rfl, g1, y, rfl, gy⟩
  ·rcases hk with rfl | rfl
   ·rw [tx0]; omega
   ·rw [tx1]
    split
    ·omega
    ·rw [List.length_cons]; omega
  ·have := hh 2 (UInt64.ofNat b.length)
   rw [tx2, own2]; simp only [List.length_append, List.length_cons, List.length_nil]; omega
  ·have := hh 3 (UInt64.ofNat b.length)
   rw [tx3, own3]; simp only [List.length_append, List.length_cons, List.length_nil]; omega
  ·rw [tx7]
   split
   ·omega
   ·simp only [List.length_append, List.length_cons, List.length_nil]; omega
  ·rw [tx8]; simp only [List.length_append, List.length_cons, List.length_nil] at ho ⊢; omega
  ·have := txL_size l (d - 1) false 0 gl
   rw [tx4]; simp only [List.length_append, List.length_cons, List.length_nil]; omega
  ·have := txL_size l (d - 1) true 0 gl
   rw [tx5]; simp only [List.length_append, List.length_cons, List.length_nil]; omega
  ·have := txL_size [y] (d - 1) false 0 (by rw [vL_cons, vL_nil, gy]; rfl)
   rw [tx6]; simp only [List.length_append, List.length_cons, List.length_nil] at this ⊢; omega
theorem txL_size : (l : List Tr) → (d : Nat) → (m : Bool) → (i : Nat) → vL l d = true → (txL l m i).length ≤ 40 * (encL l).length
 | [], _, _, _, _ => by rw [txL_nil]; simp
 | x :: l, d, m, i, h => by
  rw [vL_cons, Bool.and_eq_true] at h
  have h1 := txT_size x d h.1
  have h2 := txL_size l d m (i + 1) h.2
  have h3 := sepT_len m i
  rw [txL_cons, encL_cons, List.length_append, List.length_append, List.length_append]
  omega
end
theorem prS_len (x : Tr) : (prS x).1.length ≤ 163840 := by
 unfold prS
 split
 ·rename_i h
  have h1 := txT_size x 8 (okT_split h).1
  unfold okT at h
  simp only [Bool.and_eq_true, decide_eq_true_eq] at h
  show (txT x).length ≤ _
  omega
 ·simp
theorem quo_ex (a : Int) : ∃ y, quo a 256 = some y := ⟨_, (by unfold quo; rw [if_neg (by omega)])⟩
theorem cut_take {l : List UInt8} {k : Int} (h0 : 0 ≤ k) (h1 : k ≤ (l.length : Int)) : ∃ r, Gk.cut l 0 k = some r ∧ r.length ≤ l.length := ⟨l.take k.toNat, (by unfold Gk.cut; rw [if_pos (by omega)]; simp), by rw [List.length_take]; omega⟩
theorem cut_drop {l : List UInt8} {k : Int} (h0 : 0 ≤ k) (h1 : k ≤ (l.length : Int)) : ∃ r, Gk.cut l k (l.length : Int) = some r ∧ r.length ≤ l.length := by
 obtain ⟨n, rfl⟩ : ∃ n : Nat, k = (n : Int) := ⟨k.toNat, by omega⟩
 exact ⟨l.drop n, cut_from (by omega), by rw [List.length_drop]; omega⟩
theorem spoilt_ex (s : List UInt8) (a b : Int) (hs : s.length ≤ 8000000) : ∃ r, m_coresecmake_Spoilt s a b = some r ∧ r.length ≤ 2 * s.length + 2 := by
 unfold m_coresecmake_Spoilt
 rw [app_some' (by rw [List.length_nil]; omega), bnd_s, List.nil_append]
 refine lex2 (cex2 (fun _ => lex2 ⟨_, rfl, by simp⟩) (fun hc => ?_))
 have hpos : 0 < s.length := by
  rw [beq_eq_false_iff_ne] at hc
  omega
 obtain ⟨k, hk, k0, k1⟩ := mod_some a (m := (s.length : Int)) (by omega) (by omega)
 rw [hk, bnd_s]
 refine bex2 (fun _ => True) (by obtain ⟨y, hy⟩ := quo_ex b; exact ⟨y, hy, trivial⟩) fun x7 _ => ?_
 obtain ⟨q, hq, _, _⟩ := mod_some x7 (m := 4) (by omega) (by omega)
 rw [hq, bnd_s]
 obtain ⟨t, ht, htl⟩ := cut_take (l := s) k0 (by omega)
 refine lex2 (cex2 (fun _ => ?_) (fun _ => lex2 (cex2 (fun _ => ?_) (fun _ => lex2 (cex2 (fun _ => ?_) (fun _ => ?_))))))
 ·obtain ⟨n, rfl⟩ : ∃ n : Nat, k = (n : Int) := ⟨k.toNat, by omega⟩
  have hn : n < s.length := by omega
  have hi : idx s (n : Int) = some s[n] := idx_some' (List.getElem?_eq_getElem hn)
  rw [letm_e, hi, bnd_s, show ((((n : Nat) : Int).toNat : Nat) : Int) = (n : Int) by omega, hi, bnd_s, letm_e]
  exact ⟨_, rfl, by rw [List.length_set]; omega⟩
 ·obtain ⟨u, hu, hul⟩ := cut_drop (l := s) (k := k + 1) (by omega) (by omega)
  rw [ht, bnd_s, letm_e, w64_of (by omega) (by omega), hu, bnd_s, app_some' (by omega), bnd_s]
  exact ⟨_, rfl, by rw [List.length_append]; omega⟩
 ·obtain ⟨u, hu, hul⟩ := cut_drop (l := s) (k := k) (by omega) (by omega)
  rw [ht, bnd_s, app_some' (by rw [List.length_nil]; omega), bnd_s, letm_e, app_some' (by simp only [List.nil_append, List.length_cons, List.length_nil]; omega), bnd_s, hu, bnd_s, app_some' (by simp only [List.length_append, List.length_cons, List.length_nil]; omega), bnd_s]
  exact ⟨_, rfl, by simp only [List.length_append, List.length_cons, List.length_nil]; omega⟩
 ·rw [ht, bnd_s]
  exact ⟨_, rfl, by omega⟩
end Go.Proofs.YtbfkbakadpkgoaaGreatDoor
