/-
  Options, plain facts: that bytes are looked through for letters ends; which options are acceptable, by both texts (OptionChecks). Of the models alone; no program; no condition but the length told.
-/
import Derived.Test.YtllomdfckciedaaDoorQ51
namespace Go.Proofs.YtllomdfckciedaaDoor
open Go.Gk Go.RowKit
theorem bex {α β : Type} {m : Option α} {k : α → Option β} (h : ∃ x, m = some x) (hk : ∀ x, ∃ y, k x = some y) : ∃ y, bnd m k = some y := by
  obtain ⟨x, rfl⟩ := h; exact hk x
theorem bexp {α β : Type} {m : Option α} {k : α → Option β} (p : α → Prop) (h : ∃ x, m = some x ∧ p x) (hk : ∀ x, p x → ∃ y, k x = some y) : ∃ y, bnd m k = some y := by
  obtain ⟨x, rfl, hp⟩ := h; exact hk x hp
theorem lex {α β : Type} {e : α} {k : α → Option β} (h : ∃ y, k e = some y) : ∃ y, letm e k = some y := h
theorem cex {α : Type} {b : Bool} {x z : Option α} (h : b = true → ∃ y, x = some y) (h2 : b = false → ∃ y, z = some y) : ∃ y, cond b x z = some y := by
  cases b with
  | true => exact h rfl
  | false => exact h2 rfl
theorem sex {α : Type} (x : α) : ∃ y, some x = some y := ⟨x, rfl⟩
theorem idx_ex {α : Type} {l : List α} {k : Nat} (h : k < l.length) : ∃ x, idx l (k : Int) = some x := ⟨l[k], idx_some' (List.getElem?_eq_getElem h)⟩
theorem cut_from {α : Type} {l : List α} {k : Nat} (h : k ≤ l.length) : Gk.cut l (k : Int) (l.length : Int) = some (l.drop k) := by
  unfold Gk.cut
  rw [if_pos (by omega)]; simp
theorem cut_ex {α : Type} {l : List α} {k : Nat} (h : k ≤ l.length) : ∃ x, Gk.cut l (k : Int) (l.length : Int) = some x ∧ x.length = l.length - k := ⟨_, cut_from h, List.length_drop⟩
theorem shl_ex (x : UInt64) (n : UInt64) : ∃ y : UInt64, (shlK .u64 x (UInt64.toNat n : Int) : Option UInt64) = some y := by
  refine ⟨_, (show (if ((UInt64.toNat n : Nat) : Int) < 0 then none else some (fromI .u64 (toI .u64 x * 2 ^ min ((UInt64.toNat n : Nat) : Int).toNat (IntKind.bits .u64)))) = some _ from if_neg (by omega))⟩
theorem word_ex {s : List UInt8} (h : 8 ≤ s.length) : ∃ x, m_unicode_utf8_word_byte s = some x := by
  unfold m_unicode_utf8_word_byte
  refine bex (idx_ex (k := 0) (by omega)) fun _ => lex ?_
  refine bex (idx_ex (k := 1) (by omega)) fun _ => lex ?_
  refine bex (shl_ex _ _) fun _ => lex ?_
  refine bex (idx_ex (k := 2) (by omega)) fun _ => lex ?_
  refine bex (shl_ex _ _) fun _ => lex ?_
  refine bex (idx_ex (k := 3) (by omega)) fun _ => lex ?_
  refine bex (shl_ex _ _) fun _ => lex ?_
  refine bex (idx_ex (k := 4) (by omega)) fun _ => lex ?_
  refine bex (shl_ex _ _) fun _ => lex ?_
  refine bex (idx_ex (k := 5) (by omega)) fun _ => lex ?_
  refine bex (shl_ex _ _) fun _ => lex ?_
  refine bex (idx_ex (k := 6) (by omega)) fun _ => lex ?_
  refine bex (shl_ex _ _) fun _ => lex ?_
  refine bex (idx_ex (k := 7) (by omega)) fun _ => lex ?_
  refine bex (shl_ex _ _) fun _ => lex ?_
  exact sex _
theorem shr_u8 : ∀ c : Fin 256, (Option.map (fun y : UInt8 => decide (y.toNat < 16)) (shrK .u8 (UInt8.ofNat c.1) (UInt64.toNat 4 : Int)) : Option Bool) = some true := by decide +kernel
theorem shr_u8' (x : UInt8) : ∃ y : UInt8, @Eq (Option UInt8) (shrK .u8 x (UInt64.toNat 4 : Int)) (some y) ∧ y.toNat < 16 := by
  have h := shr_u8 ⟨x.toNat, UInt8.toNat_lt x⟩
  have e : UInt8.ofNat x.toNat = x := by simp
  rw [show (UInt8.ofNat ((⟨x.toNat, UInt8.toNat_lt x⟩ : Fin 256).1)) = x from e] at h
  obtain ⟨y, h1, h2⟩ := Option.map_eq_some_iff.1 h
  exact ⟨y, h1, of_decide_eq_true h2⟩
theorem inner_ex (self4 : List UInt8 → Option (Bool ⊕ Unit)) (L : Nat) (h4 : ∀ t : List UInt8, t.length ≤ L → ∃ v, self4 t = some v) : ∀ (f : Nat) (s : List UInt8), s.length < f → s.length ≤ L → ∃ v, loopF (R := (Bool ⊕ Unit)) (S := (List UInt8)) (fun self25 s24 => bnd (β := Bool) (letm (decide (32 < (s24.length : Int))) fun x26 => cond x26 (bnd (m_unicode_utf8_word_byte s24) fun x27 => bnd (Gk.cut s24 8 (s24.length : Int)) fun x28 => bnd (m_unicode_utf8_word_byte x28) fun x29 => letm ((bitK .or .u64 (x27 : UInt64) (x29 : UInt64) : UInt64)) fun x30 => bnd (Gk.cut s24 16 (s24.length : Int)) fun x31 => bnd (m_unicode_utf8_word_byte x31) fun x32 => bnd (Gk.cut s24 24 (s24.length : Int)) fun x33 => bnd (m_unicode_utf8_word_byte x33) fun x34 => letm ((bitK .or .u64 (x32 : UInt64) (x34 : UInt64) : UInt64)) fun x35 => letm ((bitK .or .u64 (x30 : UInt64) (x35 : UInt64) : UInt64)) fun x36 => letm ((bitK .and .u64 (x36 : UInt64) (9259542123273814144 : UInt64) : UInt64)) fun x37 => letm (((UInt64.toNat x37 : Int) == (UInt64.toNat 0 : Int))) fun x38 => some x38) (some false)) fun v39 => cond v39 (bnd (Gk.cut s24 32 (s24.length : Int)) fun x40 => self25 x40) (self4 s24)) f s = some v
  | 0, s, hf, _ => absurd hf (Nat.not_lt_zero _)
  | f + 1, s, hf, hl => by
    rw [loopF_succ]
    refine bexp (fun b => b = true → 32 < s.length) ?_ fun b hb => ?_
    · by_cases h : 32 < s.length
      · refine (?_ : ∃ y, _ = some y).elim fun y hy => ⟨y, hy, fun _ => h⟩
        refine lex (cex (fun _ => ?_) (fun h => ?_))
        · refine bex (word_ex (by omega)) fun _ => ?_
          refine bexp _ (cut_ex (k := 8) (by omega)) fun _ h1 => ?_
          refine bex (word_ex (by omega)) fun _ => lex ?_
          refine bexp _ (cut_ex (k := 16) (by omega)) fun _ h2 => ?_
          refine bex (word_ex (by omega)) fun _ => ?_
          refine bexp _ (cut_ex (k := 24) (by omega)) fun _ h3 => ?_
          refine bex (word_ex (by omega)) fun _ => lex (lex (lex (lex (sex _))))
        · exact sex _
      · refine ⟨false, ?_, fun h => by cases h⟩
        rw [letm_e, decide_eq_false (by omega)]; rfl
    · refine cex (fun h => ?_) (fun _ => h4 s hl)
      have := hb h
      refine bexp _ (cut_ex (k := 32) (by omega)) fun t ht => ?_
      exact inner_ex self4 L h4 f t (by omega) (by omega)
theorem outer_ex : ∀ (f : Nat) (s : List UInt8), s.length < f → s.length ≤ 1000000 → ∃ v, loopF (R := (Bool ⊕ Unit)) (S := (List UInt8)) (fun self4 s3 => letm (decide (0 < (s3.length : Int))) fun x5 => cond x5 (bnd (idx s3 0) fun x6 => letm (decide ((UInt8.toNat x6 : Int) < (UInt8.toNat 128 : Int))) fun x7 => cond x7 (bnd (Gk.cut s3 1 (s3.length : Int)) fun x8 => bnd (β := Bool) (letm (decide (8 < (x8.length : Int))) fun x9 => cond x9 (bnd (m_unicode_utf8_word_byte x8) fun x10 => letm ((bitK .and .u64 (x10 : UInt64) (9259542123273814144 : UInt64) : UInt64)) fun x11 => letm (((UInt64.toNat x11 : Int) == (UInt64.toNat 0 : Int))) fun x12 => some x12) (some false)) fun v13 => cond v13 (bnd (Gk.cut x8 8 (x8.length : Int)) fun x14 => bnd (β := Bool) (letm (decide (16 < (x14.length : Int))) fun x15 => cond x15 (bnd (m_unicode_utf8_word_byte x14) fun x16 => bnd (Gk.cut x14 8 (x14.length : Int)) fun x17 => bnd (m_unicode_utf8_word_byte x17) fun x18 => letm ((bitK .or .u64 (x16 : UInt64) (x18 : UInt64) : UInt64)) fun x19 => letm ((bitK .and .u64 (x19 : UInt64) (9259542123273814144 : UInt64) : UInt64)) fun x20 => letm (((UInt64.toNat x20 : Int) == (UInt64.toNat 0 : Int))) fun x21 => some x21) (some false)) fun v22 => cond v22 (bnd (Gk.cut x14 16 (x14.length : Int)) fun x23 => loopF (R := (Bool ⊕ Unit)) (S := (List UInt8)) (fun self25 s24 => bnd (β := Bool) (letm (decide (32 < (s24.length : Int))) fun x26 => cond x26 (bnd (m_unicode_utf8_word_byte s24) fun x27 => bnd (Gk.cut s24 8 (s24.length : Int)) fun x28 => bnd (m_unicode_utf8_word_byte x28) fun x29 => letm ((bitK .or .u64 (x27 : UInt64) (x29 : UInt64) : UInt64)) fun x30 => bnd (Gk.cut s24 16 (s24.length : Int)) fun x31 => bnd (m_unicode_utf8_word_byte x31) fun x32 => bnd (Gk.cut s24 24 (s24.length : Int)) fun x33 => bnd (m_unicode_utf8_word_byte x33) fun x34 => letm ((bitK .or .u64 (x32 : UInt64) (x34 : UInt64) : UInt64)) fun x35 => letm ((bitK .or .u64 (x30 : UInt64) (x35 : UInt64) : UInt64)) fun x36 => letm ((bitK .and .u64 (x36 : UInt64) (9259542123273814144 : UInt64) : UInt64)) fun x37 => letm (((UInt64.toNat x37 : Int) == (UInt64.toNat 0 : Int))) fun x38 => some x38) (some false)) fun v39 => cond v39 (bnd (Gk.cut s24 32 (s24.length : Int)) fun x40 => self25 x40) (self4 s24)) FUEL x23) (self4 x14)) (self4 x8)) (bnd (idx glob_0 (UInt8.toNat x6 : Int)) fun x41 => letm ((toU8 (bits .and .u8 (UInt8.toNat x41) (UInt8.toNat 7)))) fun x42 => letm ((w64 (UInt8.toNat x42 : Int))) fun x43 => bnd (shrK .u8 x41 (UInt64.toNat 4 : Int)) fun x44 => bnd (idx glob_1 (UInt8.toNat x44 : Int)) fun x45 => letm ((x43 == 2)) fun x46 => cond x46 (bnd (β := Bool) (letm (decide ((s3.length : Int) < 2)) fun x47 => cond x47 (some true) (bnd (idx s3 1) fun x48 => letm (decide ((UInt8.toNat x48 : Int) < (UInt8.toNat x45.1 : Int))) fun x49 => cond x49 (some true) (bnd (idx s3 1) fun x50 => letm (decide ((UInt8.toNat x45.2 : Int) < (UInt8.toNat x50 : Int))) fun x51 => some x51))) fun v52 => cond v52 (some (.inl false)) (bnd (Gk.cut s3 2 (s3.length : Int)) fun x53 => self4 x53)) (letm ((x43 == 3)) fun x54 => cond x54 (bnd (β := Bool) (letm (decide ((s3.length : Int) < 3)) fun x55 => cond x55 (some true) (bnd (idx s3 1) fun x56 => letm (decide ((UInt8.toNat x56 : Int) < (UInt8.toNat x45.1 : Int))) fun x57 => cond x57 (some true) (bnd (idx s3 1) fun x58 => letm (decide ((UInt8.toNat x45.2 : Int) < (UInt8.toNat x58 : Int))) fun x59 => cond x59 (some true) (bnd (idx s3 2) fun x60 => letm (decide ((UInt8.toNat x60 : Int) < (UInt8.toNat 128 : Int))) fun x61 => cond x61 (some true) (bnd (idx s3 2) fun x62 => letm (decide ((UInt8.toNat 191 : Int) < (UInt8.toNat x62 : Int))) fun x63 => some x63))))) fun v64 => cond v64 (some (.inl false)) (bnd (Gk.cut s3 3 (s3.length : Int)) fun x65 => self4 x65)) (letm ((x43 == 4)) fun x66 => cond x66 (bnd (β := Bool) (letm (decide ((s3.length : Int) < 4)) fun x67 => cond x67 (some true) (bnd (idx s3 1) fun x68 => letm (decide ((UInt8.toNat x68 : Int) < (UInt8.toNat x45.1 : Int))) fun x69 => cond x69 (some true) (bnd (idx s3 1) fun x70 => letm (decide ((UInt8.toNat x45.2 : Int) < (UInt8.toNat x70 : Int))) fun x71 => cond x71 (some true) (bnd (idx s3 2) fun x72 => letm (decide ((UInt8.toNat x72 : Int) < (UInt8.toNat 128 : Int))) fun x73 => cond x73 (some true) (bnd (idx s3 2) fun x74 => letm (decide ((UInt8.toNat 191 : Int) < (UInt8.toNat x74 : Int))) fun x75 => cond x75 (some true) (bnd (idx s3 3) fun x76 => letm (decide ((UInt8.toNat x76 : Int) < (UInt8.toNat 128 : Int))) fun x77 => cond x77 (some true) (bnd (idx s3 3) fun x78 => letm (decide ((UInt8.toNat 191 : Int) < (UInt8.toNat x78 : Int))) fun x79 => some x79))))))) fun v80 => cond v80 (some (.inl false)) (bnd (Gk.cut s3 4 (s3.length : Int)) fun x81 => self4 x81)) (some (.inl false)))))) (some (.inr ()))) f s = some v
  | 0, s, hf, _ => absurd hf (Nat.not_lt_zero _)
  | f + 1, s, hf, hl => by
    have ih := fun (t : List UInt8) (ht : t.length < s.length) => outer_ex f t (by omega) (by omega)
    rw [loopF_succ]
    refine lex (cex (fun h0 => ?_) (fun _ => sex _))
    have h0 : 0 < s.length := by have := of_decide_eq_true h0; omega
    refine bex (idx_ex (k := 0) (by omega)) fun x6 => lex (cex (fun _ => ?_) (fun _ => ?_))
    · refine bexp _ (cut_ex (k := 1) (by omega)) fun x8 h8 => ?_
      refine bexp (fun b => b = true → 8 < x8.length) ?_ fun b hb => cex (fun h => ?_) (fun _ => ih _ (by omega))
      · by_cases h : 8 < x8.length
        · refine (?_ : ∃ y, _ = some y).elim fun y hy => ⟨y, hy, fun _ => h⟩
          exact lex (cex (fun _ => bex (word_ex (by omega)) fun _ => lex (lex (sex _))) (fun _ => sex _))
        · exact ⟨false, by rw [letm_e, decide_eq_false (by omega)]; rfl, fun h => by cases h⟩
      · have := hb h
        refine bexp _ (cut_ex (k := 8) (by omega)) fun x14 h14 => ?_
        refine bexp (fun b => b = true → 16 < x14.length) ?_ fun b hb => cex (fun h => ?_) (fun _ => ih _ (by omega))
        · by_cases h : 16 < x14.length
          · refine (?_ : ∃ y, _ = some y).elim fun y hy => ⟨y, hy, fun _ => h⟩
            refine lex (cex (fun _ => ?_) (fun _ => sex _))
            refine bex (word_ex (by omega)) fun _ => ?_
            refine bexp _ (cut_ex (k := 8) (by omega)) fun _ h1 => ?_
            exact bex (word_ex (by omega)) fun _ => lex (lex (lex (sex _)))
          · exact ⟨false, by rw [letm_e, decide_eq_false (by omega)]; rfl, fun h => by cases h⟩
        · have := hb h
          refine bexp _ (cut_ex (k := 16) (by omega)) fun x23 h23 => ?_
          exact inner_ex _ x23.length (fun t ht => ih t (by omega)) FUEL x23 (by rw [fuel_eq]; omega) (Nat.le_refl _)
    · refine bex (idx_ex (k := x6.toNat) (by have := UInt8.toNat_lt x6; rw [glob_0_len]; exact this)) fun x41 => lex (lex ?_)
      refine bexp _ (shr_u8' x41) fun x44 h44 => ?_
      refine bex (idx_ex (k := x44.toNat) (by rw [glob_1_len]; exact h44)) fun x45 => lex (cex (fun _ => ?_) (fun _ => lex (cex (fun _ => ?_) (fun _ => lex (cex (fun _ => ?_) (fun _ => sex _))))))
      · refine bexp (fun b => b = false → 2 ≤ s.length) ?_ fun b hb => cex (fun _ => sex _) (fun h => ?_)
        · by_cases h : 2 ≤ s.length
          · refine (?_ : ∃ y, _ = some y).elim fun y hy => ⟨y, hy, fun _ => h⟩
            refine lex (cex (fun _ => sex _) (fun _ => ?_))
            refine bex (idx_ex (k := 1) (by omega)) fun _ => lex (cex (fun _ => sex _) (fun _ => ?_))
            exact bex (idx_ex (k := 1) (by omega)) fun _ => lex (sex _)
          · exact ⟨true, by rw [letm_e, decide_eq_true (by omega)]; rfl, fun h => by cases h⟩
        · have := hb h
          refine bexp _ (cut_ex (k := 2) (by omega)) fun _ ht => ih _ (by omega)
      · refine bexp (fun b => b = false → 3 ≤ s.length) ?_ fun b hb => cex (fun _ => sex _) (fun h => ?_)
        · by_cases h : 3 ≤ s.length
          · refine (?_ : ∃ y, _ = some y).elim fun y hy => ⟨y, hy, fun _ => h⟩
            refine lex (cex (fun _ => sex _) (fun _ => ?_))
            refine bex (idx_ex (k := 1) (by omega)) fun _ => lex (cex (fun _ => sex _) (fun _ => ?_))
            refine bex (idx_ex (k := 1) (by omega)) fun _ => lex (cex (fun _ => sex _) (fun _ => ?_))
            refine bex (idx_ex (k := 2) (by omega)) fun _ => lex (cex (fun _ => sex _) (fun _ => ?_))
            exact bex (idx_ex (k := 2) (by omega)) fun _ => lex (sex _)
          · exact ⟨true, by rw [letm_e, decide_eq_true (by omega)]; rfl, fun h => by cases h⟩
        · have := hb h
          refine bexp _ (cut_ex (k := 3) (by omega)) fun _ ht => ih _ (by omega)
      · refine bexp (fun b => b = false → 4 ≤ s.length) ?_ fun b hb => cex (fun _ => sex _) (fun h => ?_)
        · by_cases h : 4 ≤ s.length
          · refine (?_ : ∃ y, _ = some y).elim fun y hy => ⟨y, hy, fun _ => h⟩
            refine lex (cex (fun _ => sex _) (fun _ => ?_))
            refine bex (idx_ex (k := 1) (by omega)) fun _ => lex (cex (fun _ => sex _) (fun _ => ?_))
            refine bex (idx_ex (k := 1) (by omega)) fun _ => lex (cex (fun _ => sex _) (fun _ => ?_))
            refine bex (idx_ex (k := 2) (by omega)) fun _ => lex (cex (fun _ => sex _) (fun _ => ?_))
            refine bex (idx_ex (k := 2) (by omega)) fun _ => lex (cex (fun _ => sex _) (fun _ => ?_))
            refine bex (idx_ex (k := 3) (by omega)) fun _ => lex (cex (fun _ => sex _) (fun _ => ?_))
            exact bex (idx_ex (k := 3) (by omega)) fun _ => lex (sex _)
          · exact ⟨true, by rw [letm_e, decide_eq_true (by omega)]; rfl, fun h => by cases h⟩
        · have := hb h
          refine bexp _ (cut_ex (k := 4) (by omega)) fun _ ht => ih _ (by omega)
theorem utf8_ex {s : List UInt8} (h : s.length ≤ 1000000) : ∃ v, m_unicode_utf8_Valid s = some v := by
  unfold m_unicode_utf8_Valid
  have e : Gk.cut s 0 (s.length : Int) = some s := by
    have := cut_from (l := s) (k := 0) (by omega)
    rwa [List.drop_zero] at this
  rw [e, bnd_s, e, bnd_s]
  obtain ⟨v, hv⟩ := outer_ex FUEL s (by rw [fuel_eq]; omega) h
  rw [hv]
  cases v with
  | inl q => exact ⟨q, rfl⟩
  | inr _ => exact ⟨true, rfl⟩
end Go.Proofs.YtllomdfckciedaaDoor
