/-
  Messages that are encoded, plain facts: such messages have an encoding, and not a long one. Of the models alone; no program; no condition but the lengths told.
-/
import Derived.Test.YtcbkmlfkfhfliaaDoorQ90
namespace Go.Proofs.YtcbkmlfkfhfliaaDoor
open Go.Gk Go.RowKit
theorem parts_some (d : Int) : ∃ x l, m_coap_parts d = some (x, l) ∧ l.length ≤ 2 := by
  unfold m_coap_parts
  simp only [letm_e]
  cases decide (d < 13) with
  | true => exact ⟨_, _, rfl, by simp⟩
  | false =>
    simp only [cond_false]
    cases decide (d < 269) with
    | true => exact ⟨_, _, rfl, by simp⟩
    | false =>
      simp only [cond_false]
      rw [shr8]
      exact ⟨_, _, rfl, by simp⟩
theorem shl_some (x : UInt8) : ∃ y, shlK .u8 x ((UInt64.toNat 4 : Nat) : Int) = some y := ⟨_, Eq.trans rfl rfl⟩
theorem enc_go (pay : List UInt8) (hp : pay.length ≤ 100) : ∀ (xs : List S_api_Option) (k : Nat) (b : List UInt8) (n : Int), (∀ o ∈ xs, o.2.length ≤ 20) → b.length + 25 * xs.length ≤ 2000 → ∃ z, loopL (R := (List UInt8)) (S := ((List UInt8) × Int)) (α := S_api_Option) (fun _ s11 =>
    bnd (β := (List UInt8)) (letm (decide (0 < (pay.length : Int))) fun x12 => cond x12 (bnd (app s11.1 [255]) fun x13 => bnd (app x13 pay) fun x14 => some x14) (some s11.1)) fun v15 => some v15)
    (fun x16 _ s18 self19 => letm ((w64 (x16.1 - s18.2))) fun x20 => bnd (m_coap_parts x20) fun x21 => bnd (m_coap_parts (x16.2.length : Int)) fun x22 => bnd (shlK .u8 x21.1 (UInt64.toNat 4 : Int)) fun x23 => letm ((toU8 (bits .or .u8 (UInt8.toNat x23) (UInt8.toNat x22.1)))) fun x24 => bnd (app s18.1 [x24]) fun x25 => bnd (app x25 x21.2) fun x26 => bnd (app x26 x22.2) fun x27 => bnd (app x27 x16.2) fun x28 => self19 (x28, x16.1)) xs k (b, n) = some z ∧ z.length ≤ b.length + 25 * xs.length + 101 := by
  intro xs
  induction xs with
  | nil =>
    intro k b n _ hb
    rw [loopL_nil, letm_e]
    cases decide (0 < (pay.length : Int)) with
    | false => exact ⟨b, rfl, by simp⟩
    | true =>
      have e1 : app b [(255 : UInt8)] = some (b ++ [255]) := app_some' (by simp; omega)
      have e2 : app (b ++ [255]) pay = some (b ++ [255] ++ pay) := app_some' (by simp; omega)
      simp only [cond_true, e1, e2, bnd_s]
      exact ⟨_, rfl, by simp; omega⟩
  | cons o xs ih =>
    intro k b n ho hb
    obtain ⟨x1, l1, e1, h1⟩ := parts_some (w64 (o.1 - n))
    obtain ⟨x2, l2, e2, h2⟩ := parts_some (o.2.length : Int)
    obtain ⟨y, e3⟩ := shl_some x1
    have hov := ho o (by simp)
    rw [List.length_cons] at hb
    have key : ∀ t : UInt8, app b [t] = some (b ++ [t]) ∧ app (b ++ [t]) l1 = some (b ++ [t] ++ l1) ∧ app (b ++ [t] ++ l1) l2 = some (b ++ [t] ++ l1 ++ l2) ∧ app (b ++ [t] ++ l1 ++ l2) o.2 = some (b ++ [t] ++ l1 ++ l2 ++ o.2) := fun t =>
      ⟨app_some' (by simp; omega), app_some' (by simp; omega), app_some' (by simp; omega), app_some' (by simp; omega)⟩
    rw [loopL_cons]
    simp only [letm_e, e1, e2, bnd_s]
    refine (fun ⟨z, h⟩ => ⟨z, (congrArg (fun q => bnd q _) e3).trans h.1, h.2⟩ : (∃ z, _ ∧ _) → _) ?_
    simp only [bnd_s, (key _).1, (key _).2.1, (key _).2.2.1, (key _).2.2.2]
    obtain ⟨z, h3, h4⟩ := ih (k + 1) (b ++ [toU8 (bits .or .u8 (UInt8.toNat y) (UInt8.toNat x2))] ++ l1 ++ l2 ++ o.2) o.1 (fun q hq => ho q (by simp [hq])) (by simp; omega)
    simp only [letm_e] at h3
    refine ⟨z, h3, ?_⟩
    simp only [List.length_append, List.length_cons, List.length_nil] at h4 ⊢
    omega
/-- Such a message is encoded. -/
theorem OkM.enc {m : S_api_Message} (h : OkM 5 m) : ∃ b, m_coap_Encode m = some (b, 0) := by
  have e0 := h.snd
  have h5 := h.tok; have h6 := h.ol
  unfold m_coap_Encode
  rw [sound_eq, e0, bnd_s, letm_e, Bool.not_true, cd_f]
  have e1 : ∀ x4 x5 x7 x8 : UInt8, app [x4, x5, x7, x8] m.2.2.2.1 = some ([x4, x5, x7, x8] ++ m.2.2.2.1) := fun _ _ _ _ => app_some' (by simp; omega)
  have e2 : ∃ z, m_coap_encode m = some z ∧ z.length ≤ 1000 := by
    unfold m_coap_encode
    simp only [shl4, shr8, letm_e, bnd_s, e1]
    obtain ⟨z, h1, h2⟩ := enc_go m.2.2.2.2.2 h.pay m.2.2.2.2.1 0 ([toU8 (ibit .or (ibit .or 64 (w64 (m.1 * 16))) (m.2.2.2.1.length : Int)), toU8 m.2.1, toU8 (m.2.2.1 / 256), toU8 m.2.2.1] ++ m.2.2.2.1) 0 h.srt.val (by simp; omega)
    simp only [letm_e] at h1
    refine ⟨z, h1, ?_⟩
    simp at h2; omega
  obtain ⟨z, e2, hz⟩ := e2
  rw [e2, bnd_s, letm_e]
  have : decide (4096 < (z.length : Int)) = false := decide_eq_false (by omega)
  rw [this, cd_f]
  exact ⟨z, rfl⟩
end Go.Proofs.YtcbkmlfkfhfliaaDoor
