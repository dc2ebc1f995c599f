/-
  What a proxy does with requests, plain facts: both texts are one. Of the models alone; no program; no condition but the lengths told.
-/
import Derived.Test.YtcbkmlfkfhfliaaGreatDoorQZ5
namespace Go.Proofs.YtcbkmlfkfhfliaaGreatDoor
open Go.Gk Go.RowKit
theorem fwd_one {x : S_api_Proxy} {r : S_api_Message} (hx : LP x) (hr : LenM r) (a b : Int) (Z : Option Bool) :
 (bnd (m_relay_Forward x a r b) fun x49 =>
 bnd (m_coresecref34_Forward x a r b) fun x52 =>
 bnd (β := Bool) (cond (x49.2.2.2 != x52.2.2.2) (some true)
  (bnd (m_coresecref34_Same x49.1 x52.1) fun x54 =>
 cond (!x54) (some true)
  (bnd (m_coreseclaw34_sameList x49.2.1 x52.2.1) fun x56 =>
 cond (!x56) (some true)
  (bnd (m_coreseclaw34_sameSent x49.2.2.1 x52.2.2.1) fun x58 =>
 some (!x58))))) fun v60 =>
 cond v60 (some false) Z) = Z := by
  obtain ⟨q, e1, e2, hq⟩ := forward_both hx hr a b
  have h1 := slist_self (l := q.2.1) (by have := hq.ul; omega)
  have h2 := ssent_self (l := q.2.2.1) (by have := hq.bl; omega)
  simp only [e1, e2, bnd_s, bne_self_eq_false, cd_f, psame_self hq.lp, h1, h2, Bool.not_true]
theorem i0 {a b : Int} : idx [a, b] (0 : Int) = some a := Eq.trans rfl rfl
theorem i1 {a b : Int} : idx [a, b] (1 : Int) = some b := Eq.trans rfl rfl
theorem j0 {α : Type} {a b : α} : idx [a, b] (((0 : Nat) : Int)) = some a := idx_some' rfl
theorem j1 {α : Type} {a b : α} : idx [a, b] (((1 : Nat) : Int)) = some b := idx_some' rfl
theorem fwd_two {x : S_api_Proxy} {r : S_api_Message} (hx : LP x) (hr : LenM r) (a b c e : Int) (Z : Option Bool) :
  loopL (R := Bool) (S := Unit) (α := (List Int)) (fun _ _ => Z)
  (fun x43 _ _ self46 =>
 bnd (idx x43 0) fun x47 =>
 bnd (idx x43 1) fun x48 =>
 bnd (m_relay_Forward x x47 r x48) fun x49 =>
 bnd (idx x43 0) fun x50 =>
 bnd (idx x43 1) fun x51 =>
 bnd (m_coresecref34_Forward x x50 r x51) fun x52 =>
 bnd (β := Bool) (letm ((x49.2.2.2 != x52.2.2.2)) fun x53 =>
 cond x53 (some true)
  (bnd (m_coresecref34_Same x49.1 x52.1) fun x54 =>
 letm ((!x54)) fun x55 =>
 cond x55 (some true)
  (bnd (m_coreseclaw34_sameList x49.2.1 x52.2.1) fun x56 =>
 letm ((!x56)) fun x57 =>
 cond x57 (some true)
  (bnd (m_coreseclaw34_sameSent x49.2.2.1 x52.2.2.1) fun x58 =>
 letm ((!x58)) fun x59 =>
 some x59)))) fun v60 =>
 cond v60 (some false)
  (self46 ())) [[a, b], [c, e]] 0 () = Z := by
  rw [loopL_cons, loopL_cons, loopL_nil]
  simp only [i0, i1, letm_e, bnd_s]
  rw [fwd_one hx hr a b, fwd_one hx hr c e]
theorem fwd_pair {x : S_api_Proxy} {r m : S_api_Message} (hx : LP x) (hr : LenM r) (hm : LenM m) (a3 a4 t : Int) (Z : Option Bool) :
  (bnd (rng ([r, m].length : Int)) fun j61 =>
 loopN (R := Bool) (S := Unit) (fun _ _ => Z)
  (fun k36 _ self38 =>
 bnd (idx [r, m] (k36 : Int)) fun x39 =>
 bnd (m_coresecmake_Mod a3 4) fun x40 =>
 loopL (R := Bool) (S := Unit) (α := (List Int)) (fun _ _ =>
 self38 ())
  (fun x43 _ _ self46 =>
 bnd (idx x43 0) fun x47 =>
 bnd (idx x43 1) fun x48 =>
 bnd (m_relay_Forward x x47 x39 x48) fun x49 =>
 bnd (idx x43 0) fun x50 =>
 bnd (idx x43 1) fun x51 =>
 bnd (m_coresecref34_Forward x x50 x39 x51) fun x52 =>
 bnd (β := Bool) (letm ((x49.2.2.2 != x52.2.2.2)) fun x53 =>
 cond x53 (some true)
  (bnd (m_coresecref34_Same x49.1 x52.1) fun x54 =>
 letm ((!x54)) fun x55 =>
 cond x55 (some true)
  (bnd (m_coreseclaw34_sameList x49.2.1 x52.2.1) fun x56 =>
 letm ((!x56)) fun x57 =>
 cond x57 (some true)
  (bnd (m_coreseclaw34_sameSent x49.2.2.1 x52.2.2.1) fun x58 =>
 letm ((!x58)) fun x59 =>
 some x59)))) fun v60 =>
 cond v60 (some false)
  (self46 ())) [[a3, a4], [x40, t]] 0 ()) j61 0 ()) = Z := by
  obtain ⟨y, ey, _, _⟩ := mod_some a3 (m := 4) (by omega) (by omega)
  have er : rng ([r, m].length : Int) = some 2 := rng_some' (by show (2 : Int) ≤ 9223372036854775807; omega)
  rw [er, bnd_s, loopN_succ, loopN_succ, loopN_zero]
  rw [j0, bnd_s, ey, bnd_s, fwd_two hx hr]
  rw [j1, bnd_s, bnd_s, fwd_two hx hm]
theorem fwd_loop {m : S_api_Message} (hm : LenM m) (a3 a4 t : Int) : ∀ (xs : List S_api_Proxy) (k : Nat) (d : S_coresecmake_Deck), (∀ x ∈ xs, LP x) → DeckOK d →
  loopL (R := Bool) (S := S_coresecmake_Deck) (α := S_api_Proxy) (fun _ _ =>
 bnd (m_coreseclaw34_awake ) fun x15 =>
 some x15)
  (fun x16 _ s18 self19 =>
 bnd (β := Bool) (bnd (m_relay_Valid x16) fun x20 =>
 bnd (m_coresecref34_Valid x16) fun x21 =>
 letm ((x20 != x21)) fun x22 =>
 cond x22 (some true)
  (bnd (m_relay_Protected m) fun x23 =>
 bnd (m_coresecref34_Protected m) fun x24 =>
 letm ((x23 != x24)) fun x25 =>
 cond x25 (some true)
  (bnd (m_coresecmake_Mod a3 4) fun x26 =>
 bnd (m_relay_Drop x16 x26) fun x27 =>
 bnd (m_coresecmake_Mod a3 4) fun x28 =>
 bnd (m_coresecref34_Drop x16 x28) fun x29 =>
 bnd (m_coresecref34_Same x27 x29) fun x30 =>
 letm ((!x30)) fun x31 =>
 some x31))) fun v32 =>
 cond v32 (some false)
  (bnd (m_coreseclaw34_request s18) fun x33 =>
 bnd (rng ([x33.1, m].length : Int)) fun j61 =>
 loopN (R := Bool) (S := Unit) (fun _ _ =>
 self19 x33.2)
  (fun k36 _ self38 =>
 bnd (idx [x33.1, m] (k36 : Int)) fun x39 =>
 bnd (m_coresecmake_Mod a3 4) fun x40 =>
 loopL (R := Bool) (S := Unit) (α := (List Int)) (fun _ _ =>
 self38 ())
  (fun x43 _ _ self46 =>
 bnd (idx x43 0) fun x47 =>
 bnd (idx x43 1) fun x48 =>
 bnd (m_relay_Forward x16 x47 x39 x48) fun x49 =>
 bnd (idx x43 0) fun x50 =>
 bnd (idx x43 1) fun x51 =>
 bnd (m_coresecref34_Forward x16 x50 x39 x51) fun x52 =>
 bnd (β := Bool) (letm ((x49.2.2.2 != x52.2.2.2)) fun x53 =>
 cond x53 (some true)
  (bnd (m_coresecref34_Same x49.1 x52.1) fun x54 =>
 letm ((!x54)) fun x55 =>
 cond x55 (some true)
  (bnd (m_coreseclaw34_sameList x49.2.1 x52.2.1) fun x56 =>
 letm ((!x56)) fun x57 =>
 cond x57 (some true)
  (bnd (m_coreseclaw34_sameSent x49.2.2.1 x52.2.2.1) fun x58 =>
 letm ((!x58)) fun x59 =>
 some x59)))) fun v60 =>
 cond v60 (some false)
  (self46 ())) [[a3, a4], [x40, t]] 0 ()) j61 0 ())) xs k d = some true
  | [], k, d, _, _ => by rw [loopL_nil, awake34]; rfl
  | x :: xs, k, d, h, hd => by
    have hx := h x (by simp)
    obtain ⟨r, d', e1, hd', z⟩ := request34 hd
    have ih := fwd_loop hm a3 a4 t xs (k + 1) d' (fun q hq => h q (by simp [hq])) hd'
    obtain ⟨y, ey, _, _⟩ := mod_some a3 (m := 4) (by omega) (by omega)
    obtain ⟨q, g1, g2, g3⟩ := drop_both hx y
    rw [loopL_cons]
    refine bnd_of (y := false) ?_ ?_
    · rw [valid34_eq, rvalid34_eq hx, prot_eq hm, prot_ref hm]
      simp only [bnd_s, letm_e, bne_self_eq_false, cd_f, ey, g1, g2, psame_self g3, Bool.not_true]
    · show cond false _ _ = _
      rw [cd_f, e1, bnd_s]
      exact (fwd_pair hx (z.len (by omega)) hm a3 a4 t _).trans ih
theorem RelayForwards_true (a0 : S_api_Proxy) (a1 : S_api_Message) (a2 : List Int) (a3 a4 : Int) (h : a2.length ≤ maxLen) : m_coreseclaw34_RelayForwards a0 a1 a2 a3 a4 = some true := by
  unfold m_coreseclaw34_RelayForwards
  rw [light_eq, msgB_eq]
  simp only [bnd_s, letm_e]
  cases hl : lightB a0 with
  | false => simp only [Bool.not_false, cd_t, bnd_s, awake34]
  | true =>
    cases hm : msgB a1 with
    | false => simp only [Bool.not_true, Bool.not_false, cd_t, cd_f, bnd_s, awake34]
    | true =>
      have e0 : m_coresecmake_New a2 = some (a2, 0) := rfl
      obtain ⟨p, t, d, e1, hd, hp, _⟩ := worked_some (new_ok h)
      simp only [Bool.not_true, cd_f, bnd_s]
      rw [e0, bnd_s, e1, bnd_s]
      have := fwd_loop (msgB_len hm) a3 a4 t [p, a0] 0 d (fun x hx => by
        rcases List.mem_cons.1 hx with rfl | hx
        · exact hp
        · rw [List.mem_singleton.1 hx]; exact lightB_lp hl) hd
      simp only [letm_e] at this
      exact this
end Go.Proofs.YtcbkmlfkfhfliaaGreatDoor
