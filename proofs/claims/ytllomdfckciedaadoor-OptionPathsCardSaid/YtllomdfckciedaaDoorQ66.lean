/-
  Options, plain facts: the law OptionPaths. Of the models alone; no program; no condition but the length told.
-/
import Derived.Test.YtllomdfckciedaaDoorQ65
namespace Go.Proofs.YtllomdfckciedaaDoor
open Go.Gk Go.RowKit
theorem cutk {s : List UInt8} {k : Nat} (h : k ≤ s.length) : Gk.cut s (k : Int) (s.length : Int) = some (s.drop k) := by
  unfold Gk.cut
  rw [if_pos (by omega)]; simp
theorem cut_up {s : List UInt8} {k : Nat} (h : k ≤ s.length) : Gk.cut s 0 (k : Int) = some (s.take k) := by
  unfold Gk.cut
  rw [if_pos (by omega)]; simp
theorem quo_some (a : Int) : ∃ q, quo a 256 = some q := ⟨_, if_neg (by omega)⟩
theorem spoilt_some {b : List UInt8} (a3 a4 : Int) (h : b.length ≤ 10000) : ∃ z, m_coresecmake_Spoilt b a3 a4 = some z ∧ z.length ≤ 10001 := by
  unfold m_coresecmake_Spoilt
  rw [app_some' (by simp; omega), bnd_s, List.nil_append, letm_e]
  cases hz : ((b.length : Int) == 0) with
  | true => exact ⟨_, rfl, by simp⟩
  | false =>
    have hz := beq_eq_false_iff_ne.1 hz
    obtain ⟨v, e1, l1, u1⟩ := mod_some a3 (m := (b.length : Int)) (by omega) (by omega)
    obtain ⟨q, e2⟩ := quo_some a4
    obtain ⟨x, e3, l3, u3⟩ := mod_some q (m := 4) (by omega) (by omega)
    obtain ⟨n, rfl⟩ : ∃ n : Nat, v = (n : Int) := ⟨v.toNat, by omega⟩
    rw [cd_f, e1, bnd_s, e2, bnd_s, e3, bnd_s]
    have hix : idx b (n : Int) = some b[n] := idx_some' (List.getElem?_eq_getElem (by omega))
    simp only [letm_e, Int.toNat_natCast, hix, bnd_s, cut_up (show n ≤ b.length by omega)]
    cases x == 0 with
    | true => exact ⟨_, rfl, by rw [List.length_set]; omega⟩
    | false =>
      rw [cd_f]
      cases x == 1 with
      | true =>
        rw [cd_t, w64_of (by omega) (by omega), show ((n : Int) + 1) = ((n + 1 : Nat) : Int) by omega, cutk (by omega), bnd_s, app_some' (by rw [List.length_take, List.length_drop]; omega), bnd_s]
        exact ⟨_, rfl, by rw [List.length_append, List.length_take, List.length_drop]; omega⟩
      | false =>
        rw [cd_f]
        cases x == 2 with
        | true =>
          rw [cd_t, app_some' (by rw [List.length_take]; simp; omega), bnd_s, List.nil_append, app_some' (by rw [List.length_take]; simp; omega), bnd_s, cutk (by omega), bnd_s, app_some' (by rw [List.length_append, List.length_take, List.length_drop]; simp; omega), bnd_s]
          exact ⟨_, rfl, by rw [List.length_append, List.length_append, List.length_take, List.length_drop]; simp; omega⟩
        | false => exact ⟨_, rfl, by rw [List.length_take]; omega⟩
theorem rng_nat {n : Nat} (h : n ≤ 1000000) : rng (n : Int) = some n := by
  unfold rng; simp; omega
theorem long_go (Z : List UInt8 → Option Bool) : ∀ (n k : Nat) (s : List UInt8), s.length + n ≤ 1000 → loopN (R := Bool) (S := (List UInt8)) (fun _ s11 => Z s11) (fun _ s32 self33 => bnd (app s32 [47]) fun x34 => self33 x34) n k s = Z (s ++ List.replicate n 47)
  | 0, k, s, _ => by rw [loopN_zero]; simp
  | n + 1, k, s, h => by
    rw [loopN_succ, app_some' (by rw [List.length_singleton]; omega), bnd_s, long_go Z n (k + 1) (s ++ [47]) (by simp; omega), List.replicate_succ]; simp
theorem both_go (m : S_api_Message) (Z : Option Bool) (hm : LenM m) (ho : m.2.2.2.2.1.length ≤ 400000) : ∀ (l : List (List UInt8)) (k : Nat), (∀ s ∈ l, s.length ≤ 100000) → loopL (R := Bool) (S := Unit) (α := (List UInt8)) (fun _ _ => Z)
    (fun x21 _ _ self24 => bnd (m_option_SetPath m x21) fun x25 => bnd (m_coresecref16_SetPath m x21) fun x26 => bnd (β := Bool) (bnd (m_coresecref15_Same x25.1 x26.1) fun x27 => letm ((!x27)) fun x28 => cond x28 (some true) (letm ((x25.2 != x26.2)) fun x29 => some x29)) fun v30 => cond v30 (some false) (self24 ())) l k () = Z
  | [], _, _ => rfl
  | s :: l, k, h => by
    obtain ⟨r, e1, e2⟩ := setPath_both hm ho (h s (by simp))
    rw [loopL_cons, both_go m Z hm ho l (k + 1) (fun x hx => h x (by simp [hx])), e1, bnd_s, e2, bnd_s, same15, bnd_s, letm_e, Bool.not_true, cd_f, letm_e, bne_self_eq_false, bnd_s, cd_f]
theorem OptionPaths_true (a0 : List Int) (a1 : List UInt8) (a2 a3 : Int) (h0 : a0.length ≤ maxLen) : m_coreseclaw16_OptionPaths a0 a1 a2 a3 = some true := by
  unfold m_coreseclaw16_OptionPaths
  rw [letm_e, awake16]
  by_cases h300 : (300 : Int) < (a1.length : Int)
  · rw [decide_eq_true h300]; rfl
  rw [decide_eq_false h300, cd_f]
  obtain ⟨m, em, gm⟩ := message_some h0
  have hL := gm.len (by omega) (by omega)
  have hol := gm.ol
  have hal : (allS m.2.2.2.2.1 11).length ≤ 7 := by
    have : (allS m.2.2.2.2.1 11).length ≤ m.2.2.2.2.1.length := by unfold allS; exact List.length_filterMap_le _ _
    omega
  have hav : ∀ v ∈ allS m.2.2.2.2.1 11, v.length ≤ 256 := by
    intro v hv
    unfold allS at hv
    obtain ⟨o, ho, he⟩ := List.mem_filterMap.1 hv
    cases hq : o.1 == 11 with
    | false => rw [hq] at he; cases he
    | true => rw [hq] at he; cases he; exact gm.srt.val o ho
  have hp : (encP (allS m.2.2.2.2.1 11)).length ≤ 6000 := by
    have := encP_len (b := 256) hav
    have := Nat.mul_le_mul_right (3 * 256 + 1) hal
    omega
  have eP : m_option_Path m = some (encP (allS m.2.2.2.2.1 11)) := path_eq (by omega)
  have eR : m_coresecref16_Path m = some (encP (allS m.2.2.2.2.1 11)) := refPath_eq hL.2.1 (by omega)
  obtain ⟨x, ex, l8, u8⟩ := mod_some a3 (m := 4) (by omega) (by omega)
  obtain ⟨n, rfl⟩ : ∃ n : Nat, x = (n : Int) := ⟨x.toNat, by omega⟩
  obtain ⟨z, ez, hz⟩ := spoilt_some (b := encP (allS m.2.2.2.2.1 11)) a2 a3 (by omega)
  have e47 : app [47] a1 = some ([47] ++ a1) := app_some' (by rw [List.length_singleton]; omega)
  have epp : app [] (encP (allS m.2.2.2.2.1 11)) = some (encP (allS m.2.2.2.2.1 11)) := app_nil_some (by omega)
  have hz' : z.length ≤ 100000 := by omega
  rw [em, bnd_s, eR, bnd_s, ex, bnd_s, letm_e, w64_of (by omega) (by omega), show (30 + (n : Int)) = ((30 + n : Nat) : Int) by omega, rng_nat (by omega), bnd_s]
  rw [long_go _ (30 + n) 0 [] (by simp; omega), e47, bnd_s, epp, bnd_s, ez, bnd_s]
  rw [both_go m _ hL (by omega) _ 0 (fun s hs => by
    simp only [List.mem_cons, List.not_mem_nil, or_false] at hs
    rcases hs with rfl | rfl | rfl | rfl | rfl | rfl | rfl | rfl | rfl
    · omega
    · omega
    · simp; omega
    · exact hz'
    all_goals simp
    omega)]
  rw [eP, bnd_s, letm_e, beq_self_eq_true, cd_t, bnd_s]; rfl
end Go.Proofs.YtllomdfckciedaaDoor
