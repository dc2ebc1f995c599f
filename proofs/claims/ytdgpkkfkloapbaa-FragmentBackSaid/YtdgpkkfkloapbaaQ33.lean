/-
  Blocks inside messages, plain facts: which responses fit what was asked for. Of the models alone; no program; no condition but the lengths told.
-/
import Derived.Test.YtdgpkkfkloapbaaQ17
import Derived.Test.YtdgpkkfkloapbaaQMk
namespace Go.Proofs.Ytdgpkkfkloapbaa
open Go.Gk Go.RowKit
theorem both_cond {α : Type} {b : Bool} {x y x' y' : Option α} (h1 : ∃ r, x = some r ∧ x' = some r) (h2 : ∃ r, y = some r ∧ y' = some r) : ∃ r, cond b x y = some r ∧ cond b x' y' = some r := by
  cases b
  · exact h2
  · exact h1
theorem both_cond_q {α : Type} {Q : α → Prop} {b : Bool} {x y x' y' : Option α} (h1 : ∃ r, x = some r ∧ x' = some r ∧ Q r) (h2 : ∃ r, y = some r ∧ y' = some r ∧ Q r) : ∃ r, cond b x y = some r ∧ cond b x' y' = some r ∧ Q r := by
  cases b
  · exact h2
  · exact h1
theorem shl16 (n : Nat) : Gk.shl 16 (n : Int) = some (w64 (16 * 2 ^ min n 64)) := by
  unfold Gk.shl
  rw [if_neg (by omega), Int.toNat_natCast]
/-! ### What decks give -/
theorem allS_len (l : List S_api_Option) (n : Int) : (allS l n).length ≤ l.length := List.length_filterMap_le _ _
theorem allS_mem {l : List S_api_Option} {n : Int} {v : List UInt8} (h : v ∈ allS l n) : ∃ o ∈ l, o.2 = v := by
  unfold allS at h
  obtain ⟨o, ho, h⟩ := List.mem_filterMap.1 h
  refine ⟨o, ho, ?_⟩
  cases hq : o.1 == n with
  | true => rw [hq] at h; simpa using h
  | false => rw [hq] at h; cases h
theorem all_o (m : S_api_Message) (n : Int) : m_coresecref16_All_o m n = m_coresecref16_All m n := rfl
theorem dressed_go : ∀ (k f : Nat) (j : Nat) (d : S_coresecmake_Deck) (m : S_api_Message), k < f → k ≤ 5 → j ≤ 2 ^ (5 - k) → DeckOK d → Sz j m → ∃ m' d', loopF (R := (S_api_Message × S_coresecmake_Deck)) (S := (Int × (S_coresecmake_Deck × S_api_Message))) (fun self4 s3 =>
    letm (decide (0 < s3.1)) fun x5 => cond x5 (bnd (m_coresecmake_Deck_Next s3.2.1 19) fun x6 => bnd (idx [1, 3, 4, 6, 7, 11, 12, 14, 15, 16, 17, 23, 27, 39, 60, 252, 258, 292, 300] x6.1) fun x7 => bnd (m_coresecref16_All_o s3.2.2 x7) fun x8 => bnd (m_coresecmake_Deck_Bytes x6.2 4) fun x9 => bnd (app x8 [x9.1]) fun x10 => bnd (m_coresecref16_Set s3.2.2 x7 x10) fun x11 => letm ((w64 (s3.1 - 1))) fun x12 => self4 (x12, (x9.2, x11))) (some (s3.2.2, s3.2.1))) f ((k : Int), (d, m)) = some (m', d') ∧ DeckOK d' ∧ Sz 200 m' := by
  intro k
  induction k with
  | zero =>
    intro f j d m hf _ hj hd hm
    obtain ⟨f, rfl⟩ : ∃ g, f = g + 1 := ⟨f - 1, by omega⟩
    refine ⟨m, d, ?_, hd, hm.tok, by have := hm.ol; omega, hm.ov, hm.pay⟩
    have d0 : decide ((0 : Int) < ((0 : Nat) : Int)) = false := rfl
    rw [loopF_succ, letm_e]
    simp only [d0, cd_f]
  | succ k ih =>
    intro f j d m hf hk hj hd hm
    obtain ⟨f, rfl⟩ : ∃ g, f = g + 1 := ⟨f - 1, by omega⟩
    have hp : 2 ^ (5 - k) = 2 * 2 ^ (5 - (k + 1)) := by rw [show 5 - k = (5 - (k + 1)) + 1 by omega, Nat.pow_succ]; omega
    have hp1 : 1 ≤ 2 ^ (5 - (k + 1)) := Nat.one_le_two_pow
    have hp2 : 2 ^ (5 - (k + 1)) ≤ 2 ^ 5 := Nat.pow_le_pow_right (by omega) (by omega)
    obtain ⟨v, d1, e1, l1, u1, h1⟩ := next_some hd (n := 19) (by omega) (by omega)
    obtain ⟨x, e2, _⟩ := idx_lit ([1, 3, 4, 6, 7, 11, 12, 14, 15, 16, 17, 23, 27, 39, 60, 252, 258, 292, 300] : List Int) l1 (by show v < 19; omega)
    obtain ⟨b, d2, e3, l3, h3⟩ := bytes_some h1 (n := 4) (by omega) (by omega)
    have hal := allS_len m.2.2.2.2.1 x
    have hol := hm.ol
    have e4 : m_coresecref16_All_o m x = some (allS m.2.2.2.2.1 x) := by rw [all_o, all_ref (hm.len (by omega)).2.1]
    obtain ⟨e5, z5⟩ := hm.set x (vs := allS m.2.2.2.2.1 x ++ [b]) (j := j + 1) (by omega) (by simp; omega) (fun w hw => by
      rcases List.mem_append.1 hw with hw | hw
      · obtain ⟨o, ho, rfl⟩ := allS_mem hw; exact hm.ov o ho
      · rw [List.mem_singleton.1 hw]; exact l3)
    have dk : decide ((0 : Int) < ((k + 1 : Nat) : Int)) = true := decide_eq_true (by omega)
    have wk : w64 (((k + 1 : Nat) : Int) - 1) = (k : Int) := by rw [w64_of (by omega) (by omega)]; omega
    have ea : app (allS m.2.2.2.2.1 x) [b] = some (allS m.2.2.2.2.1 x ++ [b]) := app_some' (by simp; omega)
    rw [loopF_succ]
    simp only [letm_e, dk, cd_t, e1, e2, e3, e4, ea, e5, bnd_s, wk]
    have z6 : Sz (2 ^ (5 - k)) (withO m (setO m.2.2.2.2.1 x (allS m.2.2.2.2.1 x ++ [b]))) := ⟨z5.tok, by
      -- no more than one option more
      have key : (setO m.2.2.2.2.1 x (allS m.2.2.2.2.1 x ++ [b])).length ≤ m.2.2.2.2.1.length + 1 := by
        unfold setO allS
        simp only [List.length_append, List.length_map, List.length_singleton]
        have : ∀ l : List S_api_Option, (l.filter fun o => decide (o.1 < x)).length + (l.filterMap fun o => cond (o.1 == x) (some o.2) none).length + (l.filter fun o => decide (x < o.1)).length ≤ l.length := by
          intro l
          induction l with
          | nil => simp
          | cons o l ih =>
            simp only [List.filter_cons, List.filterMap_cons]
            rcases Int.lt_trichotomy o.1 x with h | h | h
            · have h2 : ¬ x < o.1 := by omega
              have h3 : (o.1 == x) = false := by rw [beq_eq_false_iff_ne]; omega
              simp [h, h2, h3]; omega
            · have h1 : ¬ o.1 < x := by omega
              have h2 : ¬ x < o.1 := by omega
              simp [h]; omega
            · have h2 : ¬ o.1 < x := by omega
              have h3 : (o.1 == x) = false := by rw [beq_eq_false_iff_ne]; omega
              simp [h, h2, h3]; omega
        have := this m.2.2.2.2.1
        omega
      show (setO m.2.2.2.2.1 x (allS m.2.2.2.2.1 x ++ [b])).length ≤ _
      omega, z5.ov, z5.pay⟩
    obtain ⟨m', d', g1, g2, g3⟩ := ih f _ d2 _ (by omega) (by omega) (Nat.le_refl _) h3 z6
    simp only [letm_e] at g1
    exact ⟨m', d', g1, g2, g3⟩
theorem dressed_some {d : S_coresecmake_Deck} (h : DeckOK d) {m : S_api_Message} (hm : Sz 0 m) : ∃ m' d', m_coresecmake2_dressed d m = some (m', d') ∧ DeckOK d' ∧ Sz 200 m' := by
  unfold m_coresecmake2_dressed
  obtain ⟨v, d1, e1, l1, u1, h1⟩ := next_some h (n := 6) (by omega) (by omega)
  obtain ⟨k, rfl⟩ : ∃ k : Nat, v = (k : Int) := ⟨v.toNat, by omega⟩
  rw [e1, bnd_s]
  exact dressed_go k FUEL 0 d1 m (by rw [fuel_eq]; omega) (by omega) (Nat.zero_le _) h1 hm
theorem request_some {d : S_coresecmake_Deck} (h : DeckOK d) : ∃ m d', m_coresecmake2_Request d = some (m, d') ∧ DeckOK d' ∧ Sz 200 m := by
  unfold m_coresecmake2_Request
  obtain ⟨v1, d1, e1, _, _, h1⟩ := next_some h (n := 2) (by omega) (by omega)
  obtain ⟨v2, d2, e2, l2, u2, h2⟩ := next_some h1 (n := 7) (by omega) (by omega)
  obtain ⟨v4, d4, e4, _, _, h4⟩ := next_some h2 (n := 65536) (by omega) (by omega)
  obtain ⟨b5, d5, e5, l5, h5⟩ := bytes_some h4 (n := 4) (by omega) (by omega)
  obtain ⟨b6, d6, e6, l6, h6⟩ := bytes_some h5 (n := 20) (by omega) (by omega)
  obtain ⟨m, d7, e7, h7, z7⟩ := dressed_some h6 (m := (v1, (w64 (1 + v2), (v4, (b5, ([], b6)))))) ⟨l5, by simp, by simp, l6⟩
  simp only [letm_e, e1, e2, e4, e5, e6, e7, bnd_s]
  exact ⟨m, d7, rfl, h7, z7⟩
theorem block_some {d : S_coresecmake_Deck} (h : DeckOK d) (n : Int) : ∃ b d', m_coresecmake2_Block d n = some (b, d') ∧ DeckOK d' ∧ b.length ≤ 4 := by
  unfold m_coresecmake2_Block
  obtain ⟨v1, d1, e1, _, _, h1⟩ := next_some h (n := 2) (by omega) (by omega)
  obtain ⟨v2, d2, e2, l2, u2, h2⟩ := next_some h1 (n := 3) (by omega) (by omega)
  obtain ⟨r, e3, l3⟩ := value18_some (n, (v1 == 0, v2))
  simp only [letm_e, e1, e2, e3, bnd_s]
  exact ⟨_, _, rfl, h2, l3⟩
theorem some_go (a : Int) : ∀ (r k : Nat) (b : List UInt8), k + r ≤ 1000000 → b.length + r ≤ 1000000 → ∃ z, loopN (R := (List UInt8)) (S := (List UInt8)) (fun _ s3 => some s3) (fun k4 s5 self6 => letm ((toU64 a)) fun x7 => bnd (Gk.rem (k4 : Int) 8) fun x8 => letm ((toU64 x8)) fun x9 => letm ((8 * x9)) fun x10 => bnd (shrK .u64 x7 (UInt64.toNat x10 : Int)) fun x11 => letm ((toU8 (UInt64.toNat x11 : Int))) fun x12 => bnd (quo (k4 : Int) 8) fun x13 => letm ((toU8 x13)) fun x14 => letm ((x12 + x14)) fun x15 => bnd (app s5 [x15]) fun x16 => self6 x16) r k b = some z ∧ z.length = b.length + r
  | 0, _, b, _, _ => ⟨b, rfl, rfl⟩
  | r + 1, k, b, hk, hb => by
    have e1 : Gk.rem (k : Int) 8 = some ((k % 8 : Nat) : Int) := rem_nat (b := 8) (by omega)
    have e2 : quo (k : Int) 8 = some ((k / 8 : Nat) : Int) := quo_nat (b := 8) (by omega) (by omega)
    rw [loopN_succ]
    simp only [letm_e, e1, e2, bnd_s]
    have hs : ∀ (x : UInt64) (n : Nat), ∃ y : UInt64, shrK .u64 x (n : Int) = some y := fun x n => by
      refine ⟨UInt64.ofNat (x.toNat / 2 ^ min ((n : Int)).toNat 64), ?_⟩
      show shr64 x (n : Int) = _
      unfold shr64
      rw [if_neg (by omega)]
    obtain ⟨y, hy⟩ := hs (toU64 a) (UInt64.toNat (8 * toU64 ((k % 8 : Nat) : Int)))
    rw [hy]
    show ∃ z, bnd (app b [toU8 (UInt64.toNat y : Int) + toU8 ((k / 8 : Nat) : Int)]) _ = some z ∧ _
    rw [app_some' (by simp; omega), bnd_s]
    obtain ⟨z, h1, h2⟩ := some_go a r (k + 1) (b ++ [toU8 (UInt64.toNat y : Int) + toU8 ((k / 8 : Nat) : Int)]) (by omega) (by simp; omega)
    simp only [letm_e] at h1
    exact ⟨z, h1, by simp at h2; omega⟩
theorem some_some (a n : Int) (h : n ≤ 100000) : ∃ z, m_coresecmake_Some a n = some z ∧ z.length = n.toNat := by
  unfold m_coresecmake_Some
  rw [rng_some' (by omega), bnd_s]
  obtain ⟨z, h1, h2⟩ := some_go a n.toNat 0 [] (by omega) (by simp; omega)
  exact ⟨z, h1, by simpa using h2⟩
/-! ### The block of a message -/
def soundS (l : List (List UInt8)) : S_api_Block × (Bool × Bool) := match l with
  | [] => ((0, (false, 0)), (false, false))
  | [v] => bif (parseS v).2 == 0 then ((parseS v).1, (true, true)) else ((0, (false, 0)), (true, false))
  | _ => ((0, (false, 0)), (true, false))
theorem soundS_one (v : List UInt8) : soundS [v] = bif (parseS v).2 == 0 then ((parseS v).1, (true, true)) else ((0, (false, 0)), (true, false)) := rfl
theorem parseS_err {v : List UInt8} (h : ((parseS v).2 == 0) = false) : parseS v = ((0, (false, 0)), 4) := by
  unfold parseS at h ⊢
  cases h1 : decide (3 < (v.length : Int)) with
  | true => rfl
  | false =>
    rw [h1] at h
    simp only [cond_false] at h ⊢
    cases h2 : ((uintN 0 v).1 % 8 == 7) with
    | true => rfl
    | false => rw [h2] at h; cases h
theorem sound33 {m : S_api_Message} (h : LenO m.2.2.2.2.1) (n : Int) : m_fragment_sound m n = some (soundS (allS m.2.2.2.2.1 n)) := by
  unfold m_fragment_sound
  rw [all_eq h, bnd_s, letm_e]
  cases allS m.2.2.2.2.1 n with
  | nil => rfl
  | cons v r =>
    cases r with
    | nil =>
      show cond false _ _ = _
      rw [cd_f, show idx [v] 0 = some v from rfl, bnd_s, (parse_eq v).1, bnd_s, letm_e]
      rw [soundS_one]
      cases hp : (parseS v).2 == 0 with
      | true => rfl
      | false => rw [parseS_err hp]; rfl
    | cons u r =>
      have e1 : (((v :: u :: r).length : Int) != 1) = true := by simp; omega
      have e2 : decide (0 < ((v :: u :: r).length : Int)) = true := decide_eq_true (by simp; omega)
      rw [e1, cd_t, letm_e, e2]; rfl
theorem sound33_ref {m : S_api_Message} (h : LenO m.2.2.2.2.1) (n : Int) : m_coresecref33_Sound m n = some (soundS (allS m.2.2.2.2.1 n)) := by
  unfold m_coresecref33_Sound
  rw [all_ref h, bnd_s, letm_e]
  cases allS m.2.2.2.2.1 n with
  | nil => rfl
  | cons v r =>
    have e0 : (((v :: r).length : Int) == 0) = false := by rw [beq_eq_false_iff_ne]; simp; omega
    rw [e0, cd_f, show idx (v :: r) 0 = some v from rfl, bnd_s, (parse_eq v).2, bnd_s, letm_e, letm_e, bne]
    cases r with
    | nil =>
      rw [soundS_one]
      cases hp : (parseS v).2 == 0 <;> rfl
    | cons u r =>
      have e2 : decide (1 < ((v :: u :: r).length : Int)) = true := decide_eq_true (by simp; omega)
      rw [e2]
      cases (parseS v).2 == 0 <;> rfl
def posS (b : S_api_Block) : Int := w64 (b.1 * w64 (16 * 2 ^ min (UInt64.toNat (toU64 b.2.2)) 64))
theorem pos_eq (b : S_api_Block) : m_fragment_position b = some (posS b) := by
  unfold m_fragment_position
  rw [letm_e, shl16, bnd_s, letm_e]; rfl
theorem pos_ref (b : S_api_Block) : m_coresecref33_position b = some (posS b) := by
  unfold m_coresecref33_position
  rw [letm_e, shl16, bnd_s, letm_e]; rfl
/-! ### Comparing bytes -/
end Go.Proofs.Ytdgpkkfkloapbaa
