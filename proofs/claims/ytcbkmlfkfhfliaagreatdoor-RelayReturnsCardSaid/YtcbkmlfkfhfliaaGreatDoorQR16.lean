/-
  What a proxy does with responses, plain facts: both texts are one. Of the models alone; no program; no condition but the lengths told.
-/
import Derived.Test.YtcbkmlfkfhfliaaGreatDoorQZ5
namespace Go.Proofs.YtcbkmlfkfhfliaaGreatDoor
open Go.Gk Go.RowKit
theorem ret_one {x : S_api_Proxy} {r : S_api_Message} (hx : LP x) (hr : LenM r) (a : Int) (Z : Option Bool) :
 (bnd (m_relay_Return x r a) fun x33 =>
 bnd (m_coresecref34_Return x r a) fun x34 =>
 bnd (β := Bool) (letm ((x33.2.2 != x34.2.2)) fun x35 =>
 cond x35 (some true)
  (bnd (m_coresecref34_Same x33.1 x34.1) fun x36 =>
 letm ((!x36)) fun x37 =>
 cond x37 (some true)
  (bnd (m_coreseclaw34_sameSent x33.2.1 x34.2.1) fun x38 =>
 letm ((!x38)) fun x39 =>
 some x39))) fun v40 =>
 cond v40 (some false) Z) = Z := by
  obtain ⟨q, e1, e2, hq⟩ := return_both hx hr a
  have h2 := ssent_self (l := q.2.1) (by have := hq.bl; omega)
  simp only [e1, e2, bnd_s, letm_e, bne_self_eq_false, cd_f, psame_self hq.lp, h2, Bool.not_true]
theorem ret_two {x : S_api_Proxy} {r : S_api_Message} (hx : LP x) (hr : LenM r) (a b : Int) (Z : Option Bool) :
 loopL (R := Bool) (S := Unit) (α := Int) (fun _ _ => Z)
  (fun x29 _ _ self32 =>
 bnd (m_relay_Return x r x29) fun x33 =>
 bnd (m_coresecref34_Return x r x29) fun x34 =>
 bnd (β := Bool) (letm ((x33.2.2 != x34.2.2)) fun x35 =>
 cond x35 (some true)
  (bnd (m_coresecref34_Same x33.1 x34.1) fun x36 =>
 letm ((!x36)) fun x37 =>
 cond x37 (some true)
  (bnd (m_coreseclaw34_sameSent x33.2.1 x34.2.1) fun x38 =>
 letm ((!x38)) fun x39 =>
 some x39))) fun v40 =>
 cond v40 (some false)
  (self32 ())) [a, b] 0 () = Z := by
  rw [loopL_cons, loopL_cons, loopL_nil, ret_one hx hr a, ret_one hx hr b]
theorem k0 {α : Type} {a b c : α} : idx [a, b, c] (((0 : Nat) : Int)) = some a := idx_some' rfl
theorem k1 {α : Type} {a b c : α} : idx [a, b, c] (((1 : Nat) : Int)) = some b := idx_some' rfl
theorem k2 {α : Type} {a b c : α} : idx [a, b, c] (((2 : Nat) : Int)) = some c := idx_some' rfl
theorem ret_loop {m : S_api_Message} (hm : LenM m) {p : S_api_Proxy} (hp : LP p) (a3 t : Int) : ∀ (xs : List S_api_Proxy) (k : Nat) (d : S_coresecmake_Deck), (∀ x ∈ xs, LP x) → DeckOK d →
 loopL (R := Bool) (S := S_coresecmake_Deck) (α := S_api_Proxy) (fun _ _ =>
 bnd (m_coreseclaw34_awake ) fun x14 =>
 some x14)
  (fun x15 _ s17 self18 =>
 bnd (m_coreseclaw34_answer s17 p) fun x19 =>
 bnd (m_coreseclaw34_answer x19.2 p) fun x20 =>
 bnd (rng ([x19.1, x20.1, m].length : Int)) fun j41 =>
 loopN (R := Bool) (S := Unit) (fun _ _ =>
 self18 x20.2)
  (fun k23 _ self25 =>
 bnd (idx [x19.1, x20.1, m] (k23 : Int)) fun x26 =>
 loopL (R := Bool) (S := Unit) (α := Int) (fun _ _ =>
 self25 ())
  (fun x29 _ _ self32 =>
 bnd (m_relay_Return x15 x26 x29) fun x33 =>
 bnd (m_coresecref34_Return x15 x26 x29) fun x34 =>
 bnd (β := Bool) (letm ((x33.2.2 != x34.2.2)) fun x35 =>
 cond x35 (some true)
  (bnd (m_coresecref34_Same x33.1 x34.1) fun x36 =>
 letm ((!x36)) fun x37 =>
 cond x37 (some true)
  (bnd (m_coreseclaw34_sameSent x33.2.1 x34.2.1) fun x38 =>
 letm ((!x38)) fun x39 =>
 some x39))) fun v40 =>
 cond v40 (some false)
  (self32 ())) [a3, t] 0 ()) j41 0 ()) xs k d = some true
  | [], k, d, _, _ => by rw [loopL_nil, awake34]; rfl
  | x :: xs, k, d, h, hd => by
    have hx := h x (by simp)
    obtain ⟨r1, d1, e1, hd1, z1⟩ := answer34 hd hp
    obtain ⟨r2, d2, e2, hd2, z2⟩ := answer34 hd1 hp
    have ih := ret_loop hm hp a3 t xs (k + 1) d2 (fun q hq => h q (by simp [hq])) hd2
    have er : rng ([r1, r2, m].length : Int) = some 3 := rng_some' (by show (3 : Int) ≤ 9223372036854775807; omega)
    rw [loopL_cons, e1, bnd_s, e2, bnd_s, er, bnd_s, loopN_succ, loopN_succ, loopN_succ, loopN_zero]
    rw [k0, bnd_s, ret_two hx z1]
    rw [k1, bnd_s, ret_two hx z2]
    rw [k2, bnd_s, ret_two hx hm]
    exact ih
theorem RelayReturns_true (a0 : S_api_Proxy) (a1 : S_api_Message) (a2 : List Int) (a3 : Int) (h : a2.length ≤ maxLen) : m_coreseclaw34_RelayReturns a0 a1 a2 a3 = some true := by
  unfold m_coreseclaw34_RelayReturns
  rw [light_eq, msgB_eq]
  simp only [bnd_s, letm_e]
  cases hl : lightB a0 with
  | false => simp only [Bool.not_false, cd_t, bnd_s, awake34]
  | true =>
    cases hm : msgB a1 with
    | false => simp only [Bool.not_true, Bool.not_false, cd_t, cd_f, bnd_s, awake34]
    | true =>
      have e0 : m_coresecmake_New a2 = some (a2, 0) := rfl
      obtain ⟨p, t, d, e1, hd, hp, _⟩ := worked_some (new_ok h)
      simp only [Bool.not_true, cd_f, bnd_s]
      rw [e0, bnd_s, e1, bnd_s]
      have := ret_loop (msgB_len hm) hp a3 t [p, a0] 0 d (fun x hx => by
        rcases List.mem_cons.1 hx with rfl | hx
        · exact hp
        · rw [List.mem_singleton.1 hx]; exact lightB_lp hl) hd
      simp only [letm_e] at this
      exact this
end Go.Proofs.YtcbkmlfkfhfliaaGreatDoor
