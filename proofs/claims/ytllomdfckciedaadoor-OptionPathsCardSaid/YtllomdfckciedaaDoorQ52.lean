/-
  Options, plain facts: paths, as they are written and read. Of the models alone; no program; no condition but the lengths told.
-/
import Derived.Test.YtllomdfckciedaaDoorQ51
import Derived.Lib.SplitLaws
import Derived.Lib.IndexBytes
namespace Go.Proofs.YtllomdfckciedaaDoor
open Go.Gk Go.RowKit
/-! ### Bytes -/
def plainB (c : UInt8) : Bool := (decide (97 ≤ c) && decide (c ≤ 122)) || (decide (65 ≤ c) && decide (c ≤ 90)) || (decide (48 ≤ c) && decide (c ≤ 57)) || c == 45 || c == 46 || c == 95 || c == 126
theorem all_u8 {p : UInt8 → Prop} (h : ∀ i : Fin 256, p (UInt8.ofFin i)) (c : UInt8) : p c := by
  have := h c.toFin
  simpa using this
theorem plain_eq (c : UInt8) : m_option_plain c = some (plainB c) := by
  revert c; apply all_u8; decide +kernel
def encS (c : UInt8) : List UInt8 := bif plainB c then [c] else [37, hexd (c.toNat / 16), hexd (c.toNat % 16)]
def hexI (c : UInt8) : Int := Lib.indexByte [48, 49, 50, 51, 52, 53, 54, 55, 56, 57, 65, 66, 67, 68, 69, 70] c
theorem encC_eq (c : UInt8) : encC c = some (encS c) := by unfold encC; rw [plain_eq]; rfl
def encV (v : List UInt8) : List UInt8 := v.flatMap encS
def encP (vs : List (List UInt8)) : List UInt8 := vs.flatMap fun v => 47 :: encV v
theorem pathV_eq : ∀ v, pathV v = some (encV v)
  | [] => rfl
  | c :: r => by unfold pathV; rw [encC_eq, pathV_eq r]; rfl
theorem pathO_eq : ∀ l, pathO l = some (encP (allS l 11))
  | [] => rfl
  | o :: r => by
    unfold pathO
    rw [pathO_eq r, pathV_eq]
    unfold allS
    rw [List.filterMap_cons]
    cases h : o.1 == 11 with
    | true => simp only [bne, h, Bool.not_true, cond_false, cond_true, bnd_s]; unfold encP; rw [List.flatMap_cons]; rfl
    | false => simp only [bne, h, Bool.not_false, cond_true, cond_false]
theorem encS_len (c : UInt8) : (encS c).length ≤ 3 := by unfold encS; cases plainB c <;> simp
theorem encV_len : ∀ v : List UInt8, (encV v).length ≤ 3 * v.length
  | [] => by simp [encV]
  | c :: r => by
    have := encV_len r
    have := encS_len c
    unfold encV at *
    rw [List.flatMap_cons, List.length_append, List.length_cons]
    omega
theorem encP_len {b : Nat} : ∀ {l : List (List UInt8)}, (∀ v ∈ l, v.length ≤ b) → (encP l).length ≤ l.length * (3 * b + 1)
  | [], _ => by simp [encP]
  | v :: r, h => by
    have h1 := encP_len (b := b) (l := r) (fun x hx => h x (by simp [hx]))
    have h2 := encV_len v
    have h3 := h v (by simp)
    unfold encP at *
    rw [List.flatMap_cons, List.length_append, List.length_cons, List.length_cons, Nat.succ_mul]
    omega
theorem path_eq {m : S_api_Message} (h : (encP (allS m.2.2.2.2.1 11)).length ≤ 1000000) : m_option_Path m = some (encP (allS m.2.2.2.2.1 11)) := by
  unfold m_option_Path
  rw [pathO_eq, bnd_s, show Nat.ble (encP (allS m.2.2.2.2.1 11)).length LIM = true from Nat.ble_eq_true_of_le (by unfold LIM; omega), cond_true]
/-! ### A segment, read -/
def segS : List UInt8 → Option (List UInt8)
  | [] => some []
  | c :: r => if c = 37 then
      match r with
      | x :: y :: r' => bif decide (hexI x < 0) || (decide (hexI y < 0) || plainB (toU8 (16 * hexI x + hexI y))) then none else (segS r').map fun v => toU8 (16 * hexI x + hexI y) :: v
      | _ => none
    else bif plainB c then (segS r).map fun v => c :: v else none
theorem segS_c {c : UInt8} (hc : c ≠ 37) (r : List UInt8) : segS (c :: r) = bif plainB c then (segS r).map fun v => c :: v else none := by
  rw [segS.eq_def]; simp only [if_neg hc]
theorem segS_p (x y : UInt8) (r' : List UInt8) : segS (37 :: x :: y :: r') = bif decide (hexI x < 0) || (decide (hexI y < 0) || plainB (toU8 (16 * hexI x + hexI y))) then none else (segS r').map fun v => toU8 (16 * hexI x + hexI y) :: v := by
  rw [segS.eq_def]; simp only [if_true]
theorem segS_0 : segS [37] = none := by rw [segS.eq_def]; simp only [if_true]
theorem segS_1 (x : UInt8) : segS [37, x] = none := by rw [segS.eq_def]; simp only [if_true]
def segR : Option (List UInt8) → List UInt8 × Bool
  | some v => (v, true)
  | none => ([], false)
theorem hexI_bd (c : UInt8) : -1 ≤ hexI c ∧ hexI c ≤ 15 := by revert c; apply all_u8; decide +kernel
theorem hexd_back : ∀ n : Fin 16, hexI (hexd n) = (n : Int) ∧ hexd n ≠ 47 := by decide +kernel
theorem hexI_back (c : UInt8) : 0 ≤ hexI c → hexd (hexI c).toNat = c := by revert c; apply all_u8; decide +kernel
theorem plain37 : plainB 37 = false := rfl
theorem plain47 : plainB 47 = false := rfl
theorem encS_no (c : UInt8) : (47 : UInt8) ∉ encS c := by revert c; apply all_u8; decide +kernel
theorem encV_no (v : List UInt8) : (47 : UInt8) ∉ encV v := by
  unfold encV
  intro h
  obtain ⟨c, _, hc⟩ := List.mem_flatMap.1 h
  exact encS_no c hc
theorem segS_enc : ∀ v, segS (encV v) = some v
  | [] => rfl
  | c :: r => by
    have ih := segS_enc r
    have e : encV (c :: r) = encS c ++ encV r := by unfold encV; rw [List.flatMap_cons]
    rw [e]
    cases hp : plainB c with
    | true =>
      have e1 : encS c = [c] := by unfold encS; rw [hp]; rfl
      have hc : c ≠ 37 := by rintro rfl; rw [plain37] at hp; cases hp
      rw [e1, List.singleton_append, segS_c hc, hp, cond_true, ih]; rfl
    | false =>
      have e1 : encS c = [37, hexd (c.toNat / 16), hexd (c.toNat % 16)] := by unfold encS; rw [hp]; rfl
      have h1 := (hexd_back ⟨c.toNat / 16, by have := c.toNat_lt; omega⟩).1
      have h2 := (hexd_back ⟨c.toNat % 16, by omega⟩).1
      simp only at h1 h2
      have hu : toU8 (16 * ((c.toNat / 16 : Nat) : Int) + ((c.toNat % 16 : Nat) : Int)) = c := by
        have : (16 * ((c.toNat / 16 : Nat) : Int) + ((c.toNat % 16 : Nat) : Int)) = ((c.toNat : Nat) : Int) := by omega
        rw [this]
        apply UInt8.toNat_inj.1
        have := toU8_toNat ((c.toNat : Nat) : Int)
        have := c.toNat_lt
        omega
      rw [e1]
      show segS (37 :: hexd (c.toNat / 16) :: hexd (c.toNat % 16) :: encV r) = _
      rw [segS_p]
      simp only [h1, h2, hu, hp, ih]
      have d1 : decide (((c.toNat / 16 : Nat) : Int) < 0) = false := decide_eq_false (by omega)
      have d2 : decide (((c.toNat % 16 : Nat) : Int) < 0) = false := decide_eq_false (by omega)
      rw [d1, d2]; rfl
theorem enc_segS : ∀ (n : Nat) (s v : List UInt8), s.length ≤ n → segS s = some v → encV v = s
  | _, [], v, _, h => by
    rw [segS] at h; cases h; rfl
  | 0, c :: r, v, hn, _ => by simp at hn
  | n + 1, c :: r, v, hn, h => by
    by_cases hc : c = 37
    · subst hc
      match r, hn, h with
      | [], _, h => rw [segS_0] at h; cases h
      | [x], _, h => rw [segS_1] at h; cases h
      | x :: y :: r', hn, h =>
        rw [segS_p] at h
        obtain ⟨x0, x1⟩ := hexI_bd x
        obtain ⟨y0, y1⟩ := hexI_bd y
        by_cases hx : hexI x < 0
        · rw [decide_eq_true hx] at h; cases h
        by_cases hy : hexI y < 0
        · rw [decide_eq_true hy, Bool.true_or, Bool.or_true] at h; cases h
        rw [decide_eq_false hx, decide_eq_false hy, Bool.false_or, Bool.false_or] at h
        cases hp : plainB (toU8 (16 * hexI x + hexI y)) with
        | true => rw [hp] at h; cases h
        | false =>
          rw [hp, cond_false] at h
          obtain ⟨w, hw, rfl⟩ := Option.map_eq_some_iff.1 h
          have ih := enc_segS n r' w (by simp at hn; omega) hw
          have hu := toU8_toNat (16 * hexI x + hexI y)
          have e1 : (toU8 (16 * hexI x + hexI y)).toNat / 16 = (hexI x).toNat := by omega
          have e2 : (toU8 (16 * hexI x + hexI y)).toNat % 16 = (hexI y).toNat := by omega
          have e : encV (toU8 (16 * hexI x + hexI y) :: w) = encS (toU8 (16 * hexI x + hexI y)) ++ encV w := by unfold encV; rw [List.flatMap_cons]
          rw [e, ih, encS, hp, cond_false, e1, e2, hexI_back x (by omega), hexI_back y (by omega)]; rfl
    · rw [segS_c hc] at h
      cases hp : plainB c with
      | false => rw [hp] at h; cases h
      | true =>
        rw [hp, cond_true] at h
        obtain ⟨w, hw, rfl⟩ := Option.map_eq_some_iff.1 h
        have ih := enc_segS n r w (by simp at hn; omega) hw
        have e : encV (c :: w) = encS c ++ encV w := by unfold encV; rw [List.flatMap_cons]
        rw [e, ih, encS, hp]; rfl
theorem index_hex (c : UInt8) : m_strings_IndexByte [48, 49, 50, 51, 52, 53, 54, 55, 56, 57, 65, 66, 67, 68, 69, 70] c = some (hexI c) := rfl
theorem segment_eq {a : List UInt8} (ha : a.length ≤ 1000000) : m_option_segment a = some (segR (segS a)) := by
  unfold m_option_segment
  have key : ∀ (n : Nat) (r p b : List UInt8) (f : Nat), r.length ≤ n → r.length < f → a = p ++ r → b.length ≤ p.length →
      ∀ B : (List UInt8 × Int → Option (List UInt8 × Bool)) → List UInt8 × Int → Option (List UInt8 × Bool), (∀ (self2 : List UInt8 × Int → Option (List UInt8 × Bool)) (s1 : List UInt8 × Int), B self2 s1 = letm (decide (s1.2 < (a.length : Int))) fun x3 => cond x3 (bndS (ρ := ((List UInt8) × Bool)) (ρ' := ((List UInt8) × Bool)) (Y := ((List UInt8) × Int)) (bnd (idx a s1.2) fun x4 =>
         letm (((UInt8.toNat x4 : Int) != (UInt8.toNat 37 : Int))) fun x5 => cond x5 (bnd (m_option_plain x4) fun x6 => letm ((!x6)) fun x7 => cond x7 (some (.inl ([], false))) (bnd (app s1.1 [x4]) fun x8 => some (.inr (x8, s1.2))))
          (letm ((w64 (s1.2 + 2))) fun x9 => letm (decide ((a.length : Int) ≤ x9)) fun x10 => cond x10 (some (.inl ([], false)))
          (letm ((w64 (s1.2 + 1))) fun x11 => bnd (idx a x11) fun x12 => bnd (m_strings_IndexByte [48, 49, 50, 51, 52, 53, 54, 55, 56, 57, 65, 66, 67, 68, 69, 70] x12) fun x13 => letm ((w64 (s1.2 + 2))) fun x14 => bnd (idx a x14) fun x15 => bnd (m_strings_IndexByte [48, 49, 50, 51, 52, 53, 54, 55, 56, 57, 65, 66, 67, 68, 69, 70] x15) fun x16 =>
          bnd (β := Bool) (letm (decide (x13 < 0)) fun x17 => cond x17 (some true) (letm (decide (x16 < 0)) fun x18 => cond x18 (some true) (letm ((w64 (16 * x13))) fun x19 => letm ((w64 (x19 + x16))) fun x20 => letm ((toU8 x20)) fun x21 => bnd (m_option_plain x21) fun x22 => some x22))) fun v23 =>
          cond v23 (some (.inl ([], false))) (letm ((w64 (16 * x13))) fun x24 => letm ((w64 (x24 + x16))) fun x25 => letm ((toU8 x25)) fun x26 => bnd (app s1.1 [x26]) fun x27 => letm ((w64 (s1.2 + 2))) fun x28 => some (.inr (x27, x28)))))) (fun q => q) fun v29 =>
          letm ((w64 (v29.2 + 1))) fun x30 => self2 (v29.1, x30)) (some (s1.1, true))) →
      loopF B f (b, (p.length : Int)) = some (segR ((segS r).map fun v => b ++ v)) := by
    intro n
    induction n with
    | zero =>
      intro r p b f hn hf hr hb B hB
      obtain ⟨f, rfl⟩ : ∃ g, f = g + 1 := ⟨f - 1, by omega⟩
      obtain rfl : r = [] := List.length_eq_zero_iff.1 (by omega)
      have d : decide ((p.length : Int) < (a.length : Int)) = false := decide_eq_false (by rw [hr]; simp)
      rw [loopF_succ, hB, letm_e]
      simp only [d, cd_f, segS, Option.map_some, List.append_nil]; rfl
    | succ n ih =>
      intro r p b f hn hf hr hb B hB
      obtain ⟨f, rfl⟩ : ∃ g, f = g + 1 := ⟨f - 1, by omega⟩
      match r, hn, hf, hr with
      | [], _, _, hr =>
        have d : decide ((p.length : Int) < (a.length : Int)) = false := decide_eq_false (by rw [hr]; simp)
        rw [loopF_succ, hB, letm_e]
        simp only [d, cd_f, segS, Option.map_some, List.append_nil]; rfl
      | c :: r, hn, hf, hr =>
        have hlen : a.length = p.length + (r.length + 1) := by rw [hr]; simp
        have d : decide ((p.length : Int) < (a.length : Int)) = true := decide_eq_true (by omega)
        have hi : idx a (p.length : Int) = some c := idx_some' (by rw [hr]; simp)
        have ec : ∀ c : UInt8, ((UInt8.toNat c : Int) != (UInt8.toNat 37 : Int)) = !(decide (c = 37)) := by
          intro c
          rw [Bool.eq_iff_iff]
          simp only [bne_iff_ne, ne_eq, Bool.not_eq_true', decide_eq_false_iff_not]
          rw [Int.natCast_inj, UInt8.toNat_inj]
        rw [loopF_succ, hB]
        simp only [letm_e, d, cd_t, hi, bnd_s, ec]
        by_cases hc : c = 37
        · subst hc
          rw [decide_eq_true rfl, Bool.not_true, cd_f, w64_of (by omega) (by omega)]
          match r, hn, hf, hr, hlen with
          | [], _, _, _, hlen =>
            have d1 : decide ((a.length : Int) ≤ (p.length : Int) + 2) = true := decide_eq_true (by simp at hlen; omega)
            rw [d1, cd_t, bndS_l, segS_0]; rfl
          | [x], _, _, _, hlen =>
            have d1 : decide ((a.length : Int) ≤ (p.length : Int) + 2) = true := decide_eq_true (by simp at hlen; omega)
            rw [d1, cd_t, bndS_l, segS_1]; rfl
          | x :: y :: r, hn, hf, hr, hlen =>
            simp only [List.length_cons] at hlen hn hf
            have d1 : decide ((a.length : Int) ≤ (p.length : Int) + 2) = false := decide_eq_false (by omega)
            have hx : idx a (w64 ((p.length : Int) + 1)) = some x := by
              rw [w64_of (by omega) (by omega), show (p.length : Int) + 1 = ((p.length + 1 : Nat) : Int) by omega]
              exact idx_some' (by rw [hr]; simp)
            have hy : idx a ((p.length : Int) + 2) = some y := by
              rw [show (p.length : Int) + 2 = ((p.length + 2 : Nat) : Int) by omega]
              exact idx_some' (by rw [hr]; simp)
            obtain ⟨x0, x1⟩ := hexI_bd x
            obtain ⟨y0, y1⟩ := hexI_bd y
            rw [d1, cd_f, hx, bnd_s, index_hex, bnd_s, hy, bnd_s, index_hex, bnd_s, segS_p]
            by_cases hx : hexI x < 0
            · simp only [decide_eq_true hx, cd_t, bnd_s, bndS_l, Bool.true_or, cond_true, Option.map_none]; rfl
            by_cases hy : hexI y < 0
            · simp only [decide_eq_false hx, decide_eq_true hy, cd_f, cd_t, bnd_s, bndS_l, Bool.true_or, Bool.or_true, cond_true, Option.map_none]; rfl
            rw [w64_of (x := 16 * hexI x) (by omega) (by omega), w64_of (x := 16 * hexI x + hexI y) (by omega) (by omega)]
            simp only [decide_eq_false hx, decide_eq_false hy, cd_f, bnd_s, plain_eq, Bool.false_or]
            cases hp : plainB (toU8 (16 * hexI x + hexI y)) with
            | true => simp only [cd_t, bndS_l, cond_true, Option.map_none]; rfl
            | false =>
              rw [cd_f, app_some' (by simp; omega), bnd_s, bndS_r]
              have hnext := ih r (p ++ [37, x, y]) (b ++ [toU8 (16 * hexI x + hexI y)]) f (by omega) (by omega) (by rw [hr]; simp) (by simp; omega) B hB
              rw [w64_of (x := (p.length : Int) + 2 + 1) (by omega) (by omega), show (p.length : Int) + 2 + 1 = ((p ++ [37, x, y]).length : Int) by simp; omega, hnext, cond_false]
              cases segS r <;> simp
        · rw [decide_eq_false hc, Bool.not_false, cd_t, plain_eq, bnd_s, segS_c hc]
          cases hp : plainB c with
          | false => simp only [Bool.not_false, cd_t, bndS_l, cond_false, Option.map_none]; rfl
          | true =>
            simp only [Bool.not_true, cd_f, app_some' (show b.length + [c].length ≤ 4294967296 by simp; omega), bnd_s, bndS_r, cond_true]
            simp only [List.length_cons] at hn hf
            have hnext := ih r (p ++ [c]) (b ++ [c]) f (by omega) (by omega) (by rw [hr]; simp) (by simp; omega) B hB
            rw [w64_of (by omega) (by omega), show (p.length : Int) + 1 = ((p ++ [c]).length : Int) by simp, hnext]
            cases segS r <;> simp
  have := key a.length a [] [] FUEL (Nat.le_refl _) (by rw [fuel_eq]; omega) rfl (Nat.le_refl _) _ (fun _ _ => rfl)
  refine this.trans ?_
  cases segS a <;> simp
end Go.Proofs.YtllomdfckciedaaDoor
