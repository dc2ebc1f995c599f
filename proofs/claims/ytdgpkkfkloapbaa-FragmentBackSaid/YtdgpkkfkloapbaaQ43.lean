/-
  Blocks inside messages, plain facts: the law FragmentPuts. Of the models alone; no program; no condition but that a list of numbers is not longer than memory.
-/
import Derived.Test.YtdgpkkfkloapbaaQ42
namespace Go.Proofs.Ytdgpkkfkloapbaa
open Go.Gk Go.RowKit
theorem loopF_inv {S R : Type} {b : (S → Option R) → S → Option R} (I : Nat → S → Prop) (v : R) (h0 : ∀ s self, I 0 s → b self s = some v)
    (hs : ∀ n s self, I (n + 1) s → (∀ s', I n s' → self s' = some v) → b self s = some v) : ∀ (n f : Nat) (s : S), n < f → I n s → loopF b f s = some v
  | 0, f + 1, s, _, h => by rw [loopF_succ]; exact h0 s _ h
  | n + 1, f + 1, s, hf, h => by rw [loopF_succ]; exact hs n s _ h fun s' h' => loopF_inv I v h0 hs n f s' (by omega) h'
theorem bnd_ex {α β : Type} {X : Option β} {K : β → Option α} (P : β → Prop) {Q : α → Prop} (h : ∃ y, X = some y ∧ P y) (k : ∀ y, P y → ∃ r, K y = some r ∧ Q r) : ∃ r, bnd X K = some r ∧ Q r := by
  obtain ⟨y, rfl, hp⟩ := h
  exact k y hp
theorem FragmentPuts_true (a0 : List S_api_Partial) (a1 : S_api_Message) (a2 : List Int) (a3 a4 a5 : Int) (h2 : List.length a2 ≤ maxLen) : m_coreseclaw33_FragmentPuts a0 a1 a2 a3 a4 a5 = some true := by
  unfold m_coreseclaw33_FragmentPuts
  refine bnd_of (y := !lightB a0 || (!smallM a1 || !decide ((a2.length : Int) ≤ 300))) (by simp only [light_eq, message_eq, m_coresecmake_Few, letm_e, bnd_s, cd_or]) ?_
  cases hv : (!lightB a0 || (!smallM a1 || !decide ((a2.length : Int) ≤ 300))) with
  | true => rw [cd_t, awake33]; rfl
  | false =>
  simp only [Bool.or_eq_false_iff, Bool.not_eq_false'] at hv
  obtain ⟨hl0, hm1, _⟩ := hv
  have hl0 := light_len hl0
  obtain ⟨hm1, hm2, hm3⟩ := smallM_len hm1
  have hz1 : ZOK a1 := ⟨hm1, by omega, by omega⟩
  rw [cd_f]
  unfold m_coresecmake_New
  rw [bnd_s]
  obtain ⟨v0, d0, e0, _, _, hd0⟩ := next_some (new_ok h2) (n := 3) (by omega) (by omega)
  have hlist : ∃ y : List S_api_Partial × S_coresecmake_Deck, (bnd (m_coresecmake_Deck_Next (a2, 0) 3) fun x15 => letm (decide (0 < x15.1)) fun x16 => cond x16 (some ([], x15.2)) (some (a0, x15.2)) : Option (List S_api_Partial × S_coresecmake_Deck)) = some y ∧ LenP y.1 ∧ DeckOK y.2 := by
    rw [e0, bnd_s, letm_e]
    cases decide (0 < v0) with
    | true => exact ⟨_, rfl, ⟨by simp, by simp⟩, hd0⟩
    | false => exact ⟨_, rfl, hl0, hd0⟩
  obtain ⟨⟨L0, D0⟩, eL, hL, hD⟩ := hlist
  refine bnd_of eL ?_
  obtain ⟨x, dx, ex, hdx, bx⟩ := body_ok hD
  obtain ⟨y, dy, ey, hdy, by'⟩ := body_ok hdx
  refine bnd_of ex (bnd_of ey ?_)
  refine loopF_inv (I := fun n s => LenP s.1 ∧ (∃ a : Nat, s.2.1 = (a : Int) ∧ a + n ≤ 8) ∧ (n ≤ 8 ∧ s.2.2.1 = ((8 - n : Nat) : Int)) ∧ DeckOK s.2.2.2) true ?_ ?_ 8 FUEL _ (by rw [fuel_eq]; omega) ⟨hL, ⟨0, rfl, Nat.le_refl _⟩, ⟨Nat.le_refl _, rfl⟩, hdy⟩
  · rintro ⟨l, a, i, d⟩ self ⟨_, _, ⟨_, hi⟩, _⟩
    have hi' : i = 8 := hi
    subst hi'
    show bnd m_coreseclaw33_awake (fun x84 => some x84) = some true
    rw [awake33]; rfl
  · rintro n ⟨l, a, i, d⟩ self ⟨hl, ⟨at_, ha, hat⟩, ⟨hn, hi⟩, hd⟩ hself
    have ha' : a = (at_ : Int) := ha
    have hi' : i = ((8 - (n + 1) : Nat) : Int) := hi
    subst ha' hi'
    have di : decide (((8 - (n + 1) : Nat) : Int) < 8) = true := decide_eq_true (by omega)
    have wa : w64 ((at_ : Int) + 1) = ((at_ + 1 : Nat) : Int) := by rw [w64_of (by omega) (by omega)]; rfl
    have wi : w64 (((8 - (n + 1) : Nat) : Int) + 1) = ((8 - n : Nat) : Int) := by rw [w64_of (by omega) (by omega)]; omega
    simp only [letm_e, di, cd_t, wa, wi]
    have hgoal : ∀ (X : Option (Bool ⊕ (List S_api_Partial × (Int × S_coresecmake_Deck)))), (∃ r, X = some r ∧ ∃ y, r = Sum.inr y ∧ LenP y.1 ∧ (∃ a : Nat, y.2.1 = (a : Int) ∧ a + n ≤ 8) ∧ DeckOK y.2.2) → bndS X (fun q => q) (fun v82 => self (v82.1, (v82.2.1, (((8 - n : Nat) : Int), v82.2.2)))) = some true := by
      rintro X ⟨r, rfl, y, rfl, g1, g2, g3⟩
      exact hself _ ⟨g1, g2, ⟨by omega, rfl⟩, g3⟩
    refine hgoal _ ?_
    refine bnd_ex (fun v => (∃ a : Nat, v.1 = (a : Int) ∧ a + n ≤ 8) ∧ ZOK v.2.1 ∧ DeckOK v.2.2) ?_ ?_
    · obtain ⟨v, d1, e1, _, _, h1⟩ := next_some hd (n := 6) (by omega) (by omega)
      rw [e1]
      simp only [bnd_s, cd_or]
      cases (v == 0 || (v == 1 || v == 2)) with
      | true =>
        obtain ⟨r, er, zr⟩ := cut33_ref bx.ok.sz (by omega) 27 at_ 0 (by omega) (by omega)
        have er' : m_coresecref33_Cut x 27 (at_ : Int) 0 = some r := er
        simp only [cd_t, er', bnd_s]
        exact ⟨_, rfl, ⟨at_ + 1, rfl, by omega⟩, zr, h1⟩
      | false =>
      rw [cd_f]
      cases v == 3 with
      | true =>
        obtain ⟨u, d2, e2, l2, u2, h2'⟩ := next_some h1 (n := 4) (by omega) (by omega)
        obtain ⟨w, d3, e3, l3, u3, h3⟩ := next_some h2' (n := 2) (by omega) (by omega)
        obtain ⟨u, rfl⟩ : ∃ k : Nat, u = (k : Int) := ⟨u.toNat, by omega⟩
        obtain ⟨w, rfl⟩ : ∃ k : Nat, w = (k : Int) := ⟨w.toNat, by omega⟩
        obtain ⟨r, er, zr⟩ := cut33_ref by'.ok.sz (by omega) 27 u w (by omega) (by omega)
        simp only [cd_t, e2, e3, er, bnd_s]
        exact ⟨_, rfl, ⟨at_, rfl, by omega⟩, zr, h3⟩
      | false =>
      rw [cd_f]
      cases v == 4 with
      | true =>
        obtain ⟨u, d2, e2, l2, u2, h2'⟩ := next_some h1 (n := 2) (by omega) (by omega)
        obtain ⟨k, ek, _⟩ := idx_lit ([27, 23] : List Int) l2 (by show u < 2; omega)
        obtain ⟨w, d3, e3, l3, u3, h3⟩ := next_some h2' (n := 3) (by omega) (by omega)
        obtain ⟨b, d4, e4, h4, lb⟩ := block_some h3 w
        obtain ⟨e5, z5⟩ := bx.ok.sz.set k (vs := [b]) (j := 1) (by omega) (by simp) (by intro v hv; rw [List.mem_singleton.1 hv]; omega)
        simp only [cd_t, e2, ek, e3, e4, e5, bnd_s]
        exact ⟨_, rfl, ⟨at_, rfl, by omega⟩, z5.zok (by omega), h4⟩
      | false => exact ⟨_, rfl, ⟨at_, rfl, by omega⟩, hz1, h1⟩
    rintro ⟨at2, z, d2⟩ ⟨⟨a2', hq, ha2⟩, hz, hd2⟩
    have hq' : at2 = (a2' : Int) := hq
    subst hq'
    obtain ⟨vp, d3, e3, _, _, h3⟩ := next_some hd2 (n := 2) (by omega) (by omega)
    obtain ⟨vt, d4, e4, _, _, h4⟩ := next_some h3 (n := 9) (by omega) (by omega)
    simp only [e3, bnd_s]
    refine bnd_ex (fun v => DeckOK v.2.2) ?_ ?_
    · rw [e4, bnd_s]
      cases vt == 8 with
      | true => exact ⟨_, rfl, h4⟩
      | false => exact ⟨_, rfl, h4⟩
    rintro ⟨p, t, d5⟩ hd5
    simp only [outer_eq hl hz.len hz.pay, outer_ref hz.len hz.ol hz.pay, inner_eq hl hz.len hz.pay, inner_ref hz.len hz.ol hz.pay, fput_eq hl hz.len hz.pay, fput_ref hz.len hz.ol hz.pay, bnd_s, bne_self_eq_false, same_self, same15_self, Bool.not_true, cd_f]
    obtain ⟨ym, em, _⟩ := mod_some a5 (m := 60) (by omega) (by omega)
    simp only [em, bnd_s, loopL_cons, loopL_nil, fput_eq hl hz.len hz.pay, fput_ref hz.len hz.ol hz.pay, bne_self_eq_false, same_self, same15_self, Bool.not_true, cd_f]
    cases (outS l p z t).2.2.2 == 0 with
    | true => exact ⟨_, rfl, _, rfl, outS_len hl p z t, ⟨a2', rfl, ha2⟩, hd5⟩
    | false => exact ⟨_, rfl, _, rfl, hl, ⟨a2', rfl, ha2⟩, hd5⟩
end Go.Proofs.Ytdgpkkfkloapbaa
