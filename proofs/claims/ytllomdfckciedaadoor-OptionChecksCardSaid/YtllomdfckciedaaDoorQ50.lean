/-
  Options, plain facts: what numbers say (OptionNumbers); which numbers values are (OptionUints). Of the models alone; no program; no condition.
-/
import Derived.Test.YtllomdfckciedaaDoorQMk
import Derived.Test.YtllomdfckciedaaDoorQ18
namespace Go.Proofs.YtllomdfckciedaaDoor
open Go.Gk Go.RowKit
theorem awake16 : m_coreseclaw16_awake = some true := by kernel_rfl
theorem bnd_id {α : Type} (m : Option α) : bnd m (fun v => some v) = m := by cases m <;> rfl
theorem known_eq (n : Int) : ∃ r, m_option_Known n = some r ∧ m_coresecref16_Known n = some r := by
  have e : ∀ c : Int, n ≠ c → (n == c) = false := fun c h => by simpa using h
  by_cases h1 : n = 1
  · subst h1; exact ⟨_, rfl, rfl⟩
  by_cases h292 : n = 292
  · subst h292; exact ⟨_, rfl, rfl⟩
  by_cases h3 : n = 3
  · subst h3; exact ⟨_, rfl, rfl⟩
  by_cases h39 : n = 39
  · subst h39; exact ⟨_, rfl, rfl⟩
  by_cases h4 : n = 4
  · subst h4; exact ⟨_, rfl, rfl⟩
  by_cases h5 : n = 5
  · subst h5; exact ⟨_, rfl, rfl⟩
  by_cases h6 : n = 6
  · subst h6; exact ⟨_, rfl, rfl⟩
  by_cases h27 : n = 27
  · subst h27; exact ⟨_, rfl, rfl⟩
  by_cases h23 : n = 23
  · subst h23; exact ⟨_, rfl, rfl⟩
  by_cases h7 : n = 7
  · subst h7; exact ⟨_, rfl, rfl⟩
  by_cases h12 : n = 12
  · subst h12; exact ⟨_, rfl, rfl⟩
  by_cases h17 : n = 17
  · subst h17; exact ⟨_, rfl, rfl⟩
  by_cases h11 : n = 11
  · subst h11; exact ⟨_, rfl, rfl⟩
  by_cases h15 : n = 15
  · subst h15; exact ⟨_, rfl, rfl⟩
  by_cases h8 : n = 8
  · subst h8; exact ⟨_, rfl, rfl⟩
  by_cases h20 : n = 20
  · subst h20; exact ⟨_, rfl, rfl⟩
  by_cases h9 : n = 9
  · subst h9; exact ⟨_, rfl, rfl⟩
  by_cases h14 : n = 14
  · subst h14; exact ⟨_, rfl, rfl⟩
  by_cases h60 : n = 60
  · subst h60; exact ⟨_, rfl, rfl⟩
  by_cases h28 : n = 28
  · subst h28; exact ⟨_, rfl, rfl⟩
  by_cases h16 : n = 16
  · subst h16; exact ⟨_, rfl, rfl⟩
  by_cases h35 : n = 35
  · subst h35; exact ⟨_, rfl, rfl⟩
  by_cases h252 : n = 252
  · subst h252; exact ⟨_, rfl, rfl⟩
  by_cases h258 : n = 258
  · subst h258; exact ⟨_, rfl, rfl⟩
  refine ⟨((0, (0, (0, false))), false), ?_, ?_⟩
  · unfold m_option_Known
    simp only [letm_e, e _ h1, e _ h292, e _ h3, e _ h39, e _ h4, e _ h5, e _ h6, e _ h27, e _ h23, e _ h7, e _ h12, e _ h17, e _ h11, e _ h15, e _ h8, e _ h20, e _ h9, e _ h14, e _ h60, e _ h28, e _ h16, e _ h35, e _ h252, e _ h258]
    rfl
  · unfold m_coresecref16_Known
    simp only [letm_e, e _ h1, e _ h292, e _ h3, e _ h39, e _ h4, e _ h5, e _ h6, e _ h27, e _ h23, e _ h7, e _ h12, e _ h17, e _ h11, e _ h15, e _ h8, e _ h20, e _ h9, e _ h14, e _ h60, e _ h28, e _ h16, e _ h35, e _ h252, e _ h258]
    rfl
theorem crit_eq : m_coresecref16_Critical = m_option_Critical := rfl
theorem unsafe_eq : m_coresecref16_Unsafe = m_option_Unsafe := rfl
theorem nokey_eq : m_coresecref16_NoCacheKey = m_option_NoCacheKey := rfl
theorem in_some (n : Int) : ∃ b, m_option_in n = some b := by
  unfold m_option_in
  simp only [letm_e, cd_and, bnd_s]
  exact ⟨_, rfl⟩
theorem crit_some (n : Int) : ∃ b, m_option_Critical n = some b := by
  obtain ⟨b, hb⟩ := in_some n
  unfold m_option_Critical
  rw [hb]
  cases b <;> exact ⟨_, rfl⟩
theorem unsafe_some (n : Int) : ∃ b, m_option_Unsafe n = some b := by
  obtain ⟨b, hb⟩ := in_some n
  unfold m_option_Unsafe
  rw [hb]
  cases b <;> exact ⟨_, rfl⟩
theorem nokey_some (n : Int) : ∃ b, m_option_NoCacheKey n = some b := by
  obtain ⟨b, hb⟩ := in_some n
  unfold m_option_NoCacheKey
  rw [hb]
  cases b <;> exact ⟨_, rfl⟩
theorem rule_refl (x : S_api_Rule) : eqS (.pr (.int .i64) (.pr (.int .i64) (.pr (.int .i64) .bool))) x x = true := by
  obtain ⟨a, b, c, d⟩ := x
  show ((a == a) && ((b == b) && ((c == c) && (d == d)))) = true
  simp
theorem OptionNumbers_true (a0 : Int) : m_coreseclaw16_OptionNumbers a0 = some true := by
  unfold m_coreseclaw16_OptionNumbers
  obtain ⟨x1, h1, _⟩ := mod_some a0 (m := 70000) (by omega) (by omega)
  obtain ⟨x3, h3, _⟩ := mod_some a0 (m := 320) (by omega) (by omega)
  rw [h1, bnd_s, letm_e, h3, bnd_s]
  refine (loopL_search (fun _ => false) (fun _ _ => some false) _ _ ?_).trans ?_
  · intro x _ k self
    obtain ⟨r, k1, k2⟩ := known_eq x
    obtain ⟨b1, c1⟩ := crit_some x
    obtain ⟨b2, c2⟩ := unsafe_some x
    obtain ⟨b3, c3⟩ := nokey_some x
    rw [k1, bnd_s, k2, bnd_s, crit_eq, unsafe_eq, nokey_eq, c1, c2, c3]
    simp only [bnd_s, letm_e, rule_refl, bne_self_eq_false, Bool.not_true, cd_f]
  · have : ([a0, w64 (x1 - 1000), x3] : List Int).findIdx? (fun _ => false) = none := by simp
    rw [this]
    show bnd m_coreseclaw16_awake (fun x6 => some x6) = some true
    rw [awake16]; rfl
theorem short_some (l : List UInt8) : m_coresecmake_Short l = some (decide ((l.length : Int) ≤ 600)) := rfl
theorem some_some (k : Int) (n : Nat) (hn : n ≤ 1000) : ∃ l, m_coresecmake_Some k (n : Int) = some l ∧ l.length = n := by
  unfold m_coresecmake_Some
  have hr : rng (n : Int) = some n := by unfold rng; rw [if_pos (by omega)]; simp
  rw [hr, bnd_s]
  have key : ∀ (j k0 : Nat) (s : List UInt8), k0 + j ≤ 1000 → s.length + j ≤ 1000 → ∃ l, loopN (R := (List UInt8)) (S := (List UInt8)) (fun _ s3 => some s3)
      (fun k4 s5 self6 => letm ((toU64 k)) fun x7 => bnd (Gk.rem (k4 : Int) 8) fun x8 => letm ((toU64 x8)) fun x9 => letm ((8 * x9)) fun x10 => bnd (shrK .u64 x7 (UInt64.toNat x10 : Int)) fun x11 => letm ((toU8 (UInt64.toNat x11 : Int))) fun x12 => bnd (quo (k4 : Int) 8) fun x13 => letm ((toU8 x13)) fun x14 => letm ((x12 + x14)) fun x15 => bnd (app s5 [x15]) fun x16 => self6 x16) j k0 s = some l ∧ l.length = s.length + j := by
    intro j
    induction j with
    | zero => intro k0 s h1 h2; exact ⟨s, by rw [loopN_zero], rfl⟩
    | succ j ih =>
      intro k0 s h1 h2
      rw [loopN_succ]
      have hrem : Gk.rem (k0 : Int) 8 = some ((k0 : Int).tmod 8) := by unfold Gk.rem; rw [if_neg (by omega)]
      have hquo : quo (k0 : Int) 8 = some (w64 ((k0 : Int).tdiv 8)) := by unfold quo; rw [if_neg (by omega)]
      have hshr : ∀ (x : UInt64) (m : Nat), ∃ y, shrK .u64 x (m : Int) = some y := fun x m => ⟨UInt64.ofNat (x.toNat / 2 ^ min (m : Int).toNat 64), by show shr64 x _ = _; unfold shr64; rw [if_neg (by omega)]; rfl⟩
      simp only [letm_e, hrem, bnd_s, hquo]
      obtain ⟨y, hy⟩ := hshr (toU64 k) (UInt64.toNat (8 * toU64 ((k0 : Int).tmod 8)))
      rw [hy, bnd_s]
      have ha : ∀ z : UInt8, app s [z] = some (s ++ [z]) := fun z => by unfold app; rw [if_pos (by simp [LIM]; omega)]
      rw [ha, bnd_s]
      obtain ⟨l, hl, hll⟩ := ih (k0 + 1) (s ++ [toU8 (UInt64.toNat y : Int) + toU8 (w64 ((k0 : Int).tdiv 8))]) (by omega) (by simp; omega)
      exact ⟨l, hl, by rw [hll]; simp; omega⟩
  obtain ⟨l, hl, hll⟩ := key n 0 [] (by omega) (by simp; omega)
  exact ⟨l, hl, by simpa using hll⟩
theorem OptionUints_true (a0 : List UInt8) (a1 : Int) : m_coreseclaw16_OptionUints a0 a1 = some true := by
  unfold m_coreseclaw16_OptionUints
  rw [short_some, bnd_s, letm_e, awake16]
  cases decide ((a0.length : Int) ≤ 600) with
  | false => rfl
  | true =>
    rw [Bool.not_true, cd_f]
    obtain ⟨x5, h5, h50, h51⟩ := mod_some a1 (m := 6) (by omega) (by omega)
    obtain ⟨x7, h7, h70, h71⟩ := mod_some a1 (m := 9) (by omega) (by omega)
    obtain ⟨x13, h13, _, _⟩ := mod_some a1 (m := 70000) (by omega) (by omega)
    obtain ⟨x15, h15, _, _⟩ := mod_some a1 (m := 4) (by omega) (by omega)
    obtain ⟨n5, rfl⟩ : ∃ n : Nat, x5 = (n : Int) := ⟨x5.toNat, by omega⟩
    obtain ⟨n7, rfl⟩ : ∃ n : Nat, x7 = (n : Int) := ⟨x7.toNat, by omega⟩
    obtain ⟨l6, h6, h6l⟩ := some_some a1 n5 (by omega)
    obtain ⟨l9, h9, h9l⟩ := some_some a1 4 (by omega)
    have h8 : mkl (n7 : Int) (0 : UInt8) = some (List.replicate n7 0) := by
      unfold mkl
      rw [decide_eq_true (by omega), decide_eq_true (by omega)]; simp
    have h9 : m_coresecmake_Some a1 4 = some l9 := h9
    have h10 : app (List.replicate n7 (0 : UInt8)) l9 = some (List.replicate n7 0 ++ l9) := by unfold app; rw [if_pos (by simp [LIM, h9l]; omega)]
    rw [h5, bnd_s, h6, bnd_s, h7, bnd_s, h8, bnd_s, h9, bnd_s, h10, bnd_s]
    have hr : rng ((([a0, l6, List.replicate n7 0 ++ l9] : List (List UInt8)).length : Nat) : Int) = some 3 := by
      show rng ((3 : Nat) : Int) = some 3
      unfold rng; rw [if_pos (by omega)]; simp
    rw [hr, bnd_s, h13, bnd_s, letm_e, h15, bnd_s, letm_e]
    have hin : loopL (R := Bool) (S := Unit) (α := Int) (fun _ _ => bnd (some true) fun x19 => some x19)
        (fun x20 _ _ self23 => bnd (m_option_FromUint x20) fun x24 => bnd (m_coresecref16_FromUint x20) fun x25 => letm ((x24 != x25)) fun x26 => cond x26 (some false) (self23 ())) [a1, w64 (x13 - 2), w64 (4294967294 + x15)] 0 () = some true := by
      refine (loopL_search (fun _ => false) (fun _ _ => some false) _ _ ?_).trans ?_
      · intro x _ k self
        obtain ⟨l, e1, e2, _⟩ := fromUint_any x
        rw [e1, bnd_s, e2, bnd_s, letm_e, bne_self_eq_false]
      · have : ([a1, w64 (x13 - 2), w64 (4294967294 + x15)] : List Int).findIdx? (fun _ => false) = none := by simp
        rw [this]; rfl
    rw [hin]
    have hb : ∀ (k : Nat) (self : Unit → Option Bool), k < 3 → (bnd (idx [a0, l6, List.replicate n7 0 ++ l9] (k : Int)) fun x30 => bnd (m_option_Uint x30) fun x31 => bnd (m_coresecref16_Uint x30) fun x32 =>
        bnd (β := Bool) (letm ((x31.1 != x32.1)) fun x33 => cond x33 (some true) (letm ((x31.2 != x32.2)) fun x34 => some x34)) fun v35 => cond v35 (some false) (self ())) = self () := by
      intro k self hk
      obtain ⟨x, hx, _⟩ := idx_lit [a0, l6, List.replicate n7 0 ++ l9] (v := (k : Int)) (by omega) (by simp; omega)
      rw [hx, bnd_s, uint_eq, bnd_s, uint_ref_eq, bnd_s]
      simp only [letm_e, bne_self_eq_false, cd_f, bnd_s]
    rw [loopN_succ, hb 0 _ (by omega), loopN_succ, hb 1 _ (by omega), loopN_succ, hb 2 _ (by omega), loopN_zero]
end Go.Proofs.YtllomdfckciedaaDoor
