/-
  Scopes, plain facts: texts written by both texts, read back; the law (ScopeTexts). Of the models alone; no program; no condition but the lengths told.
-/
import Derived.Test.YtmnbkcpopfmpdaaDoorQ74
namespace Go.Proofs.YtmnbkcpopfmpdaaDoor
open Go.Gk Go.RowKit
/-! ### Texts written -/
def letsK : Nat → Nat → List UInt8
  | 0, _ => []
  | k + 1, m => (bif m.testBit (6 - k) then [ltr (6 - k)] else []) ++ letsK k m
def partS (p : S_api_Permit) : List UInt8 := (letsK 7 p.2.2.toNat ++ (58 :: p.1)) ++ (bif p.2.1 then [47, 42] else [])
theorem letsK_len : ∀ (k m : Nat), (letsK k m).length ≤ k
  | 0, _ => by simp [letsK]
  | k + 1, m => by
    have := letsK_len k m
    unfold letsK
    rw [List.length_append]
    cases m.testBit (6 - k) <;> simp <;> omega
theorem partS_len {p : S_api_Permit} (h : p.1.length ≤ 64) : (partS p).length ≤ 74 := by
  unfold partS
  have := letsK_len 7 p.2.2.toNat
  cases p.2.1 <;> simp <;> omega
theorem lets_fin : ∀ m : Fin 128, (fun m : Nat => loopF (R := (List UInt8)) (S := ((List UInt8) × Int)) (fun self10 s9 => letm (decide (s9.2 < 7)) fun x11 => cond x11 (bnd (β := (List UInt8)) (letm ((toU64 s9.2)) fun x12 => bnd (Gk.shr (m : Int) (UInt64.toNat x12 : Int)) fun x13 => letm ((ibit .and x13 1)) fun x14 => letm ((x14 == 1)) fun x15 => cond x15 (letm ((w64 (s9.2 + 1))) fun x16 => bnd (Gk.cut [71, 80, 85, 68, 70, 65, 73] s9.2 x16) fun x17 => bnd (app s9.1 x17) fun x18 => some x18) (some s9.1)) fun v19 => letm ((w64 (s9.2 + 1))) fun x20 => self10 (v19, x20)) (some s9.1)) FUEL ([], 0)) m.1 = some (letsK 7 m.1) := by decide +kernel
theorem cut_let : ∀ j : Fin 7, Gk.cut ([71, 80, 85, 68, 70, 65, 73] : List UInt8) (w64 (((j.1 + 1 : Nat) : Int) - 1)) ((j.1 + 1 : Nat) : Int) = some [ltr j.1] := by decide +kernel
theorem lets_ref {p : S_api_Permit} (h0 : 0 ≤ p.2.2) (h1 : p.2.2 ≤ 127) (hp : p.1.length ≤ 64) : ∀ (k f : Nat) (v : List UInt8), k ≤ 7 → k < f → v.length ≤ 100000 - k → loopF (R := (List UInt8)) (S := ((List UInt8) × Int)) (fun self13 s12 => letm (decide (s12.2 ≤ 7)) fun x14 => cond x14 (bnd (β := (List UInt8)) (bnd (m_coresecref39_bit p s12.2) fun x15 => cond x15 (letm ((w64 (s12.2 - 1))) fun x16 => bnd (Gk.cut [71, 80, 85, 68, 70, 65, 73] x16 s12.2) fun x17 => bnd (app s12.1 x17) fun x18 => some x18) (some s12.1)) fun v19 => letm ((w64 (s12.2 + 1))) fun x20 => self13 (v19, x20)) (bnd (app [58] p.1) fun x21 => bnd (app s12.1 x21) fun x22 => cond p.2.1 (bnd (app x22 [47, 42]) fun x23 => some x23) (some x22))) f (v, ((8 - k : Nat) : Int)) = some (((v ++ letsK k p.2.2.toNat) ++ (58 :: p.1)) ++ (bif p.2.1 then [47, 42] else []))
  | _, 0, _, _, hf, _ => absurd hf (Nat.not_lt_zero _)
  | 0, f + 1, v, _, _, hv => by
    rw [loopF_succ, letm_e, decide_eq_false (show ¬ (((8 - 0 : Nat) : Int) ≤ 7) by omega), cd_f, app_some' (by simp; omega), bnd_s, app_some' (by simp; omega), bnd_s]
    have e : v ++ letsK 0 p.2.2.toNat = v := List.append_nil v
    rw [e]
    cases p.2.1 with
    | true => rw [cd_t, app_some' (by simp; omega), bnd_s]; rfl
    | false => rw [cd_f, cond_false, List.append_nil]; rfl
  | k + 1, f + 1, v, hk, hf, hv => by
    have hb := ref_bit (p := p) (c := ((8 - (k + 1) : Nat) : Int)) h0 h1 (by omega) (by omega)
    have hc := cut_let ⟨6 - k, by omega⟩
    have hc : Gk.cut ([71, 80, 85, 68, 70, 65, 73] : List UInt8) (w64 (((6 - k + 1 : Nat) : Int) - 1)) ((6 - k + 1 : Nat) : Int) = some [ltr (6 - k)] := hc
    rw [show 6 - k + 1 = 8 - (k + 1) by omega] at hc
    have wc : w64 (((8 - (k + 1) : Nat) : Int) + 1) = ((8 - k : Nat) : Int) := by rw [w64_of (by omega) (by omega)]; omega
    have hbit : bitS p.2.2 ((8 - (k + 1) : Nat) : Int) = p.2.2.toNat.testBit (6 - k) := by
      unfold bitS
      congr 1; omega
    rw [loopF_succ, letm_e, decide_eq_true (show (((8 - (k + 1) : Nat) : Int) ≤ 7) by omega), cd_t, hb, bnd_s, hbit, letm_e, hc, bnd_s]
    have e : letsK (k + 1) p.2.2.toNat = (bif p.2.2.toNat.testBit (6 - k) then [ltr (6 - k)] else []) ++ letsK k p.2.2.toNat := rfl
    rw [e]
    cases p.2.2.toNat.testBit (6 - k) with
    | true =>
      have ea : app v [ltr (6 - k)] = some (v ++ [ltr (6 - k)]) := app_some' (by simp; omega)
      rw [cd_t]
      show bnd (bnd (app v [ltr (6 - k)]) _) _ = _
      rw [ea, bnd_s, bnd_s, letm_e, wc, lets_ref h0 h1 hp k f _ (by omega) (by omega) (by simp; omega), cond_true, List.append_assoc v]
    | false =>
      rw [cd_f, bnd_s, letm_e, wc, cond_false, List.nil_append]
      exact lets_ref h0 h1 hp k f v (by omega) (by omega) (by omega)
def prS (l : List S_api_Permit) : List UInt8 := bif validS l then Lib.join (l.map partS) [44, 32] else []
theorem tail_len (l : List S_api_Permit) (h : ∀ p ∈ l, p.1.length ≤ 64) : (Lib.joinTail [44, 32] (l.map partS)).length ≤ 76 * l.length := by
  induction l with
  | nil => simp [Lib.joinTail]
  | cons p l ih =>
    have h1 := partS_len (h p (by simp))
    have h2 := ih fun q hq => h q (by simp [hq])
    have e : Lib.joinTail [44, 32] ((p :: l).map partS) = ([44, 32] ++ partS p) ++ Lib.joinTail [44, 32] (l.map partS) := rfl
    rw [e]
    simp only [List.length_append, List.length_cons, List.length_nil]
    omega
theorem join_len {l : List S_api_Permit} (h : ∀ p ∈ l, p.1.length ≤ 64) : (Lib.join (l.map partS) [44, 32]).length ≤ 76 * l.length := by
  cases l with
  | nil => simp [Lib.join_nil]
  | cons p l =>
    have h1 := partS_len (h p (by simp))
    have h2 := tail_len l fun q hq => h q (by simp [hq])
    rw [List.map_cons, Lib.join_cons, List.length_append, List.length_cons]
    omega
theorem print_eq (l : List S_api_Permit) : m_scope_Print l = some (prS l) := by
  unfold m_scope_Print prS
  rw [valid39, bnd_s, letm_e]
  cases hv : validS l with
  | false => rfl
  | true =>
    obtain ⟨h8, hm⟩ := validS_mem hv
    rw [Bool.not_true, cd_f, cond_true]
    have key := loopL_map (R := List (List UInt8)) (bn := fun _ s4 => some s4) partS l 0 [] (by simp; omega) (bs := fun x5 _ s7 self8 => bnd (β := (List (List UInt8))) (bnd (β := (List UInt8)) (loopF (R := (List UInt8)) (S := ((List UInt8) × Int)) (fun self10 s9 => letm (decide (s9.2 < 7)) fun x11 => cond x11 (bnd (β := (List UInt8)) (letm ((toU64 s9.2)) fun x12 => bnd (Gk.shr x5.2.2 (UInt64.toNat x12 : Int)) fun x13 => letm ((ibit .and x13 1)) fun x14 => letm ((x14 == 1)) fun x15 => cond x15 (letm ((w64 (s9.2 + 1))) fun x16 => bnd (Gk.cut [71, 80, 85, 68, 70, 65, 73] s9.2 x16) fun x17 => bnd (app s9.1 x17) fun x18 => some x18) (some s9.1)) fun v19 => letm ((w64 (s9.2 + 1))) fun x20 => self10 (v19, x20)) (some s9.1)) FUEL ([], 0)) fun v21 => bnd (app [58] x5.1) fun x22 => bnd (app v21 x22) fun x23 => bnd (β := (List UInt8)) (cond x5.2.1 (bnd (app x23 [47, 42]) fun x24 => some x24) (some x23)) fun v25 => bnd (app s7 [v25]) fun x26 => some x26) fun v27 => self8 v27) (fun p hp k s self => by
      obtain ⟨_, h1, h2, h3⟩ := hm p hp
      have hl := lets_fin ⟨p.2.2.toNat, by omega⟩
      have hl : (fun m : Nat => loopF (R := (List UInt8)) (S := ((List UInt8) × Int)) (fun self10 s9 => letm (decide (s9.2 < 7)) fun x11 => cond x11 (bnd (β := (List UInt8)) (letm ((toU64 s9.2)) fun x12 => bnd (Gk.shr (m : Int) (UInt64.toNat x12 : Int)) fun x13 => letm ((ibit .and x13 1)) fun x14 => letm ((x14 == 1)) fun x15 => cond x15 (letm ((w64 (s9.2 + 1))) fun x16 => bnd (Gk.cut [71, 80, 85, 68, 70, 65, 73] s9.2 x16) fun x17 => bnd (app s9.1 x17) fun x18 => some x18) (some s9.1)) fun v19 => letm ((w64 (s9.2 + 1))) fun x20 => self10 (v19, x20)) (some s9.1)) FUEL ([], 0)) p.2.2.toNat = some (letsK 7 p.2.2.toNat) := hl
      have hl := hl
      simp only at hl
      rw [show ((p.2.2.toNat : Nat) : Int) = p.2.2 by omega] at hl
      have hk := letsK_len 7 p.2.2.toNat
      rw [hl, bnd_s, app_some' (by simp; omega), bnd_s, app_some' (by simp; omega), bnd_s]
      have fin : (cond p.2.1 (bnd (app (letsK 7 p.2.2.toNat ++ ([58] ++ p.1)) [47, 42]) fun x24 => some x24) (some (letsK 7 p.2.2.toNat ++ ([58] ++ p.1)))) = some (partS p) := by
        unfold partS
        cases p.2.1 with
        | true => rw [cd_t, app_some' (by simp; omega), bnd_s]; rfl
        | false => rw [cd_f, cond_false, List.append_nil]; rfl
      rw [fin, bnd_s, bnd_bnd]
      congr 1)
    rw [key, bnd_s, List.nil_append]
    unfold m_strings_Join
    have hj := join_len (l := l) fun p hp => (hm p hp).2.2.2
    rw [Nat.ble_eq_true_of_le (by omega), Nat.ble_eq_true_of_le (by rw [List.length_map]; omega)]
    rfl
theorem ref_print (l : List S_api_Permit) : m_coresecref39_Print l = some (prS l) := by
  unfold m_coresecref39_Print prS
  rw [ref_valid39, bnd_s, letm_e]
  cases hv : validS l with
  | false => rfl
  | true =>
    obtain ⟨h8, hm⟩ := validS_mem hv
    rw [Bool.not_true, cd_f, cond_true]
    have step : ∀ (p : S_api_Permit) (v : List UInt8), p ∈ l → v.length ≤ 10000 → loopF (R := (List UInt8)) (S := ((List UInt8) × Int)) (fun self13 s12 => letm (decide (s12.2 ≤ 7)) fun x14 => cond x14 (bnd (β := (List UInt8)) (bnd (m_coresecref39_bit p s12.2) fun x15 => cond x15 (letm ((w64 (s12.2 - 1))) fun x16 => bnd (Gk.cut [71, 80, 85, 68, 70, 65, 73] x16 s12.2) fun x17 => bnd (app s12.1 x17) fun x18 => some x18) (some s12.1)) fun v19 => letm ((w64 (s12.2 + 1))) fun x20 => self13 (v19, x20)) (bnd (app [58] p.1) fun x21 => bnd (app s12.1 x21) fun x22 => cond p.2.1 (bnd (app x22 [47, 42]) fun x23 => some x23) (some x22))) FUEL (v, 1) = some (v ++ partS p) := fun p v hp hv => by
      obtain ⟨_, h1, h2, h3⟩ := hm p hp
      have := lets_ref (p := p) (by omega) h2 h3 7 FUEL v (by omega) (by rw [fuel_eq]; omega) (by omega)
      refine this.trans ?_
      unfold partS
      simp only [List.append_assoc]
    have key : ∀ (r : List S_api_Permit) (k : Nat) (s : List UInt8), (∀ p ∈ r, p ∈ l) → s.length + 76 * r.length ≤ 5000 → loopL (R := (List UInt8)) (S := (List UInt8)) (α := S_api_Permit) (fun _ s4 => some s4) (fun x5 k6 s7 self8 => bnd (β := (List UInt8)) (bnd (β := (List UInt8)) (letm (decide (0 < (k6 : Int))) fun x9 => cond x9 (bnd (app s7 [44, 32]) fun x10 => some x10) (some s7)) fun v11 => loopF (R := (List UInt8)) (S := ((List UInt8) × Int)) (fun self13 s12 => letm (decide (s12.2 ≤ 7)) fun x14 => cond x14 (bnd (β := (List UInt8)) (bnd (m_coresecref39_bit x5 s12.2) fun x15 => cond x15 (letm ((w64 (s12.2 - 1))) fun x16 => bnd (Gk.cut [71, 80, 85, 68, 70, 65, 73] x16 s12.2) fun x17 => bnd (app s12.1 x17) fun x18 => some x18) (some s12.1)) fun v19 => letm ((w64 (s12.2 + 1))) fun x20 => self13 (v19, x20)) (bnd (app [58] x5.1) fun x21 => bnd (app s12.1 x21) fun x22 => cond x5.2.1 (bnd (app x22 [47, 42]) fun x23 => some x23) (some x22))) FUEL (v11, 1)) fun v24 => self8 v24) r (k + 1) s = some (s ++ Lib.joinTail [44, 32] (r.map partS)) := by
      intro r
      induction r with
      | nil => intro k s _ _; rw [loopL_nil]; simp [Lib.joinTail]
      | cons p r ih =>
        intro k s hr hs
        simp only [List.length_cons] at hs
        have hpl := partS_len (hm p (hr p (by simp))).2.2.2
        rw [loopL_cons, letm_e, decide_eq_true (show (0 : Int) < ((k + 1 : Nat) : Int) by omega), cd_t, app_some' (by simp; omega), bnd_s, bnd_s, step p _ (hr p (by simp)) (by simp; omega), bnd_s, ih (k + 1) _ (fun q hq => hr q (by simp [hq])) (by simp; omega)]
        have e : Lib.joinTail [44, 32] ((p :: r).map partS) = ([44, 32] ++ partS p) ++ Lib.joinTail [44, 32] (r.map partS) := rfl
        rw [e]
        simp only [List.append_assoc]
    cases l with
    | nil => rfl
    | cons p r =>
      have hpl := partS_len (hm p (by simp)).2.2.2
      simp only [List.length_cons] at h8
      rw [loopL_cons, letm_e, decide_eq_false (show ¬ (0 : Int) < ((0 : Nat) : Int) by omega), cd_f, bnd_s, step p [] (by simp) (by simp), bnd_s, List.nil_append, key r 0 (partS p) (fun q hq => by simp [hq]) (by omega), List.map_cons, Lib.join_cons]
/-! ### What is written is read -/
theorem Lt_app : ∀ (k : Nat) (pre t : List UInt8) (m : Nat), Lt k (pre ++ 58 :: t) m = ((Lt k (pre ++ [58]) m).1, (Lt k (pre ++ [58]) m).2 ++ t)
  | 0, pre, t, m => by show (m, pre ++ 58 :: t) = (m, (pre ++ [58]) ++ t); rw [List.append_assoc]; rfl
  | k + 1, [], t, m => by
    show (if (58 : UInt8) == ltr (6 - k) then Lt k t (m + 2 ^ (6 - k)) else Lt k (58 :: t) m) = ((if (58 : UInt8) == ltr (6 - k) then Lt k [] (m + 2 ^ (6 - k)) else Lt k [58] m).1, (if (58 : UInt8) == ltr (6 - k) then Lt k [] (m + 2 ^ (6 - k)) else Lt k [58] m).2 ++ t)
    have h : ((58 : UInt8) == ltr (6 - k)) = false := by
      rw [beq_eq_false_iff_ne]
      exact fun e => ltr_ne ⟨6 - k, by omega⟩ e.symm
    rw [h]
    simp only [if_neg (show ¬ (false = true) by simp)]
    exact Lt_app k [] t m
  | k + 1, c :: pre, t, m => by
    show (if c == ltr (6 - k) then Lt k (pre ++ 58 :: t) (m + 2 ^ (6 - k)) else Lt k ((c :: pre) ++ 58 :: t) m) = ((if c == ltr (6 - k) then Lt k (pre ++ [58]) (m + 2 ^ (6 - k)) else Lt k ((c :: pre) ++ [58]) m).1, (if c == ltr (6 - k) then Lt k (pre ++ [58]) (m + 2 ^ (6 - k)) else Lt k ((c :: pre) ++ [58]) m).2 ++ t)
    split
    · exact Lt_app k pre t _
    · exact Lt_app k (c :: pre) t m
theorem Lt_fin : ∀ m : Fin 128, Lt 7 (letsK 7 m.1 ++ [58]) 0 = (m.1, [58]) := by decide +kernel
theorem wr_no {s : List UInt8} (h : wrS s = true) {c : UInt8} (hc : wrOk c = false) : c ∉ s := fun hm => by
  unfold wrS at h
  simp only [Bool.and_eq_true] at h
  have := List.all_eq_true.1 h.2.2 c hm
  rw [hc] at this; cases this
theorem finS_back {p : S_api_Permit} (h : fineS p = true) : finS p.2.2.toNat (p.1 ++ (bif p.2.1 then [47, 42] else [])) = some p := by
  unfold fineS at h
  simp only [Bool.and_eq_true, decide_eq_true_eq] at h
  obtain ⟨hw, h1, h2⟩ := h
  have hn : ((p.2.2.toNat : Nat) : Int) = p.2.2 := by omega
  unfold finS
  cases hb : p.2.1 with
  | true =>
    rw [cond_true]
    have hs : Lib.hasSuffix (p.1 ++ [47, 42]) [47, 42] = true := by
      show ([47, 42] : List UInt8).isSuffixOf _ = true
      rw [List.isSuffixOf_iff_suffix]
      exact List.suffix_append _ _
    have ht : (p.1 ++ [47, 42]).take ((p.1 ++ [47, 42]).length - 2) = p.1 := by
      rw [List.length_append, show ([47, 42] : List UInt8).length = 2 from rfl, Nat.add_sub_cancel, List.take_left]
    rw [hs]
    simp only [if_true, ht, hw, hn]
    rw [← hb]
  | false =>
    rw [cond_false, List.append_nil]
    have hs : Lib.hasSuffix p.1 [47, 42] = false := by
      cases hq : Lib.hasSuffix p.1 [47, 42] with
      | false => rfl
      | true =>
        have hq : ([47, 42] : List UInt8).isSuffixOf p.1 = true := hq
        obtain ⟨z, hz⟩ := List.isSuffixOf_iff_suffix.1 hq
        exact absurd (show (42 : UInt8) ∈ p.1 by rw [← hz]; simp) (wr_no hw (by decide))
    rw [hs]
    simp only [if_neg (show ¬ (false = true) by simp), hw, if_true, hn]
    rw [← hb]
theorem pS_back {p : S_api_Permit} (h : fineS p = true) : pS (partS p) = some p := by
  have h' := h
  unfold fineS at h'
  simp only [Bool.and_eq_true, decide_eq_true_eq] at h'
  obtain ⟨hw, h1, h2⟩ := h'
  have hL := Lt_fin ⟨p.2.2.toNat, by omega⟩
  have hL : Lt 7 (letsK 7 p.2.2.toNat ++ [58]) 0 = (p.2.2.toNat, [58]) := hL
  have e : partS p = letsK 7 p.2.2.toNat ++ 58 :: (p.1 ++ (bif p.2.1 then [47, 42] else [])) := by
    unfold partS
    rw [List.append_assoc]; rfl
  unfold pS
  rw [e, Lt_app, hL]
  show pQ p.2.2.toNat (58 :: (p.1 ++ (bif p.2.1 then [47, 42] else []))) = some p
  have hz : (p.2.2.toNat == 0) = false := by rw [beq_eq_false_iff_ne]; omega
  rw [pQ_cons, hz]
  exact finS_back h
theorem lets_no : ∀ (k m : Nat), (44 : UInt8) ∉ letsK k m
  | 0, _ => by simp [letsK]
  | k + 1, m => by
    have ih := lets_no k m
    unfold letsK
    have : ∀ j : Fin 7, ltr j.1 ≠ 44 := by decide
    have h2 := this ⟨6 - k, by omega⟩
    cases m.testBit (6 - k) with
    | true =>
      rw [cond_true, List.mem_append]
      rintro (h | h)
      · exact h2 (List.mem_singleton.1 h).symm
      · exact ih h
    | false => rw [cond_false]; exact ih
theorem part_no {p : S_api_Permit} (h : fineS p = true) : (44 : UInt8) ∉ partS p := by
  unfold fineS at h
  simp only [Bool.and_eq_true] at h
  unfold partS
  rw [List.mem_append, List.mem_append, List.mem_cons]
  rintro ((h1 | h1 | h1) | h1)
  · exact lets_no _ _ h1
  · exact absurd h1 (by decide)
  · exact wr_no h.1 (by decide) h1
  · revert h1
    cases p.2.1 with
    | true => rw [cond_true]; decide
    | false => rw [cond_false]; simp
theorem spl_join : ∀ (l : List S_api_Permit) (p : S_api_Permit), fineS p = true → (∀ q ∈ l, fineS q = true) → spl (partS p ++ Lib.joinTail [44, 32] (l.map partS)) = partS p :: l.map partS
  | [], p, hp, _ => by
    show spl (partS p ++ []) = [partS p]
    rw [List.append_nil, spl_no (part_no hp)]
  | q :: l, p, hp, h => by
    have e : Lib.joinTail [44, 32] ((q :: l).map partS) = 44 :: 32 :: (partS q ++ Lib.joinTail [44, 32] (l.map partS)) := rfl
    rw [e, spl_cons _ (part_no hp), spl_join l q (h q (by simp)) fun z hz => h z (by simp [hz])]
    rfl
theorem prs_back : ∀ (l acc : List S_api_Permit), (∀ q ∈ l, fineS q = true) → prsL (l.map partS) acc = some (acc ++ l)
  | [], acc, _ => by rw [List.append_nil]; rfl
  | p :: l, acc, h => by
    show (match pS (partS p) with | none => none | some q => prsL (l.map partS) (acc ++ [q])) = _
    rw [pS_back (h p (by simp))]
    show prsL (l.map partS) (acc ++ [p]) = _
    rw [prs_back l _ fun q hq => h q (by simp [hq]), List.append_assoc]; rfl
theorem rd_back {l : List S_api_Permit} (h : ∀ q ∈ l, fineS q = true) (hl : l.length ≤ 8) : rdS (Lib.join (l.map partS) [44, 32]) = (l, 0) := by
  cases l with
  | nil => rfl
  | cons p l =>
    have hne : (partS p ++ Lib.joinTail [44, 32] (l.map partS) == []) = false := by
      rw [beq_eq_false_iff_ne]
      unfold partS
      simp
    unfold rdS
    rw [List.map_cons, Lib.join_cons, hne, cond_false, spl_join l p (h p (by simp)) fun q hq => h q (by simp [hq]), ← List.map_cons, prs_back _ [] h, List.nil_append]
    show (bif decide (8 < ((p :: l).length : Int)) then _ else _) = _
    rw [decide_eq_false (by omega)]; rfl
/-! ### The law -/
theorem permit_refl (x : S_api_Permit) : eqS (.pr .str (.pr .bool (.int .i64))) x x = true := by
  show ((x.1 == x.1) && ((x.2.1 == x.2.1) && (x.2.2 == x.2.2))) = true
  simp
theorem rng_nat {n : Nat} (h : n ≤ 1000000) : rng (n : Int) = some n := by
  unfold rng; simp; omega
theorem same39 {l : List S_api_Permit} (h : l.length ≤ 1000000) : m_coresecref39_Same l l = some true := by
  unfold m_coresecref39_Same
  have key : ∀ (r k : Nat), r + k = l.length → loopN (R := Bool) (S := Unit) (fun _ _ => some true) (fun k5 _ self7 => bnd (idx l (k5 : Int)) fun x8 => bnd (idx l (k5 : Int)) fun x9 => letm ((!(eqS (.pr .str (.pr .bool (.int .i64))) x8 x9))) fun x10 => cond x10 (some false) (self7 ())) r k () = some true := by
    intro r
    induction r with
    | zero => intro k _; rw [loopN_zero]
    | succ r ih =>
      intro k hk
      have hix : idx l (k : Int) = some l[k] := idx_some' (List.getElem?_eq_getElem (by omega))
      rw [loopN_succ, hix, bnd_s, bnd_s, letm_e, permit_refl, Bool.not_true, cd_f]
      exact ih (k + 1) (by omega)
  rw [letm_e, bne_self_eq_false, cd_f, rng_nat h, bnd_s]
  exact key l.length 0 rfl
theorem quo_some (a : Int) : ∃ q, quo a 256 = some q := ⟨_, if_neg (by omega)⟩
theorem spoilt_some {b : List UInt8} (a3 a4 : Int) (h : b.length ≤ 100000) : ∃ z, m_coresecmake_Spoilt b a3 a4 = some z ∧ z.length ≤ 100001 := by
  unfold m_coresecmake_Spoilt
  rw [app_some' (by simp; omega), bnd_s, List.nil_append, letm_e]
  cases hz : ((b.length : Int) == 0) with
  | true => exact ⟨_, rfl, by simp⟩
  | false =>
    have hz := beq_eq_false_iff_ne.1 hz
    obtain ⟨v, e1, l1, u1⟩ := mod_some a3 (m := (b.length : Int)) (by omega) (by omega)
    obtain ⟨q, e2⟩ := quo_some a4
    obtain ⟨x, e3, l3, u3⟩ := mod_some q (m := 4) (by omega) (by omega)
    obtain ⟨n, rfl⟩ : ∃ n : Nat, v = (n : Int) := ⟨v.toNat, by omega⟩
    rw [cd_f, e1, bnd_s, e2, bnd_s, e3, bnd_s]
    have hix : idx b (n : Int) = some b[n] := idx_some' (List.getElem?_eq_getElem (by omega))
    simp only [letm_e, Int.toNat_natCast, hix, bnd_s, cut_up (show n ≤ b.length by omega)]
    cases x == 0 with
    | true => exact ⟨_, rfl, by rw [List.length_set]; omega⟩
    | false =>
      rw [cd_f]
      cases x == 1 with
      | true =>
        rw [cd_t, w64_of (by omega) (by omega), show ((n : Int) + 1) = ((n + 1 : Nat) : Int) by omega, cutk (by omega), bnd_s, app_some' (by rw [List.length_take, List.length_drop]; omega), bnd_s]
        exact ⟨_, rfl, by rw [List.length_append, List.length_take, List.length_drop]; omega⟩
      | false =>
        rw [cd_f]
        cases x == 2 with
        | true =>
          rw [cd_t, app_some' (by rw [List.length_take]; simp; omega), bnd_s, List.nil_append, app_some' (by rw [List.length_take]; simp; omega), bnd_s, cutk (by omega), bnd_s, app_some' (by rw [List.length_append, List.length_take, List.length_drop]; simp; omega), bnd_s]
          exact ⟨_, rfl, by rw [List.length_append, List.length_append, List.length_take, List.length_drop]; simp; omega⟩
        | false => exact ⟨_, rfl, by rw [List.length_take]; omega⟩
theorem ScopeTexts_true (a0 : List S_api_Permit) (a1 : List Int) (a2 : List UInt8) (a3 a4 : Int) (h1 : a1.length ≤ maxLen) : m_coreseclaw39_ScopeTexts a0 a1 a2 a3 a4 = some true := by
  unfold m_coreseclaw39_ScopeTexts
  rw [light_eq, bnd_s, letm_e, awake39]
  simp only [letm_e, cd_or, bnd_s]
  by_cases h900 : 900 < a2.length
  · rw [decide_eq_true (show (900 : Int) < (a2.length : Int) by omega), Bool.or_true]; rfl
  rw [decide_eq_false (show ¬ (900 : Int) < (a2.length : Int) by omega), Bool.or_false]
  cases (!(decide ((a0.length : Int) ≤ 20) && a0.all fun p => !decide (300 < (p.1.length : Int)))) with
  | true => rfl
  | false =>
    rw [cd_f]
    have e1 : m_coresecmake_New a1 = some (a1, 0) := rfl
    obtain ⟨l, d', e2, hl4, hfine, _⟩ := scope_some (new_ok h1)
    have hv : validS l = true := by
      unfold validS
      rw [Bool.and_eq_true, decide_eq_true_eq, List.all_eq_true]
      exact ⟨by omega, hfine⟩
    obtain ⟨_, hm⟩ := validS_mem hv
    have hpr : prS l = Lib.join (l.map partS) [44, 32] := by unfold prS; rw [hv]; rfl
    have hjl := join_len (l := l) fun p hp => (hm p hp).2.2.2
    rw [← hpr] at hjl
    have hback : rdS (prS l) = (l, 0) := by rw [hpr]; exact rd_back hfine (by omega)
    rw [e1, bnd_s, e2, bnd_s]
    show (bnd (m_coresecref39_Print l) _) = _
    rw [ref_print, bnd_s]
    obtain ⟨z, e5, hz⟩ := spoilt_some (b := prS l) a3 a4 (by omega)
    refine (loopL_pass _ 0 fun s _ k self => ?_).trans ?_
    · rw [print_eq, ref_print, bnd_s, bnd_s, bne_self_eq_false, cd_f]
    · rw [app_some' (by simp; omega), bnd_s, List.nil_append, e5, bnd_s, app_some' (by simp; omega), bnd_s, app_some' (by simp; omega), bnd_s, bnd_s]
      refine (loopL_pass _ 0 fun s hs k self => ?_).trans ?_
      · have hsl : s.length ≤ 1000000 := by
          simp only [List.mem_cons, List.not_mem_nil, or_false] at hs
          rcases hs with rfl | rfl | rfl | rfl | rfl | rfl | rfl | rfl | rfl | rfl
          · omega
          · omega
          · omega
          · simp; omega
          · simp; omega
          all_goals simp
        rw [read_eq hsl, ref_read hsl, bnd_s, bnd_s, bne_self_eq_false, cd_f]
        have hlen : (rdS s).1.length ≤ 1000000 := by
          unfold rdS
          cases s == [] with
          | true => simp
          | false =>
            rw [cond_false]
            cases prsL (spl s) [] with
            | none => simp [endS]
            | some l =>
              show (bif decide (8 < (l.length : Int)) then (([], 8) : List S_api_Permit × Int) else (l, 0)).1.length ≤ _
              by_cases h8 : 8 < l.length
              · rw [decide_eq_true (by omega)]; simp
              · rw [decide_eq_false (by omega)]; show l.length ≤ _; omega
        rw [same39 hlen, bnd_s, bnd_s, Bool.not_true, cd_f]
      · rw [read_eq (by omega), bnd_s, hback]
        show (bnd (β := Bool) (cond ((0 : Int) == 0) (bnd (m_coresecref39_Same l l) _) _) _) = _
        rw [same39 (by omega), bnd_s]; rfl
end Go.Proofs.YtmnbkcpopfmpdaaDoor
