/-
  A response reaches the peer whose request it answers, plain facts. Of the models alone; no program; no condition but the lengths told.
-/
import Derived.Test.YtcbkmlfkfhfliaaDoorQ92
namespace Go.Proofs.YtcbkmlfkfhfliaaDoor
open Go.Gk Go.RowKit
theorem same15_go : ∀ (rem pre : List S_api_Option), loopL (R := Bool) (S := Unit) (α := S_api_Option) (fun _ _ => some true)
  (fun x11 k12 _ self14 => bnd (β := Bool) (bnd (idx (pre ++ rem) (k12 : Int)) fun x15 => letm ((x11.1 != x15.1)) fun x16 => cond x16 (some true) (bnd (idx (pre ++ rem) (k12 : Int)) fun x17 => letm ((x11.2 != x17.2)) fun x18 => some x18)) fun v19 => cond v19 (some false) (self14 ())) rem pre.length () = some true
  | [], _ => rfl
  | x :: rem, pre => by
    have ih := same15_go rem (pre ++ [x])
    rw [List.append_assoc, List.singleton_append, List.length_append, List.length_singleton] at ih
    have e : idx (pre ++ x :: rem) ((pre.length : Nat) : Int) = some x := idx_some' (by simp)
    rw [loopL_cons]
    simp only [e, bnd_s, letm_e, bne_self_eq_false, cd_f]
    simp only [letm_e] at ih
    exact ih
theorem same15_self (m : S_api_Message) : m_coresecref15_Same m m = some true := by
  unfold m_coresecref15_Same
  simp only [letm_e, bne_self_eq_false, cd_f, bnd_s]
  have := same15_go m.2.2.2.2.1 []
  simp only [List.nil_append, List.length_nil, letm_e] at this
  exact this
theorem equal1 (t : UInt8) : m_coresecref26_Equal [t] [t] = some true := by
  unfold m_coresecref26_Equal m_coresecref01_Compare
  have e0 : idx [t] (0 : Int) = some t := rfl
  have d1 : decide ((0 : Int) < (([t] : List UInt8).length : Int)) = true := rfl
  have d2 : decide (w64 (0 + 1) < (([t] : List UInt8).length : Int)) = false := by kernel_rfl
  have d3 : decide ((([t] : List UInt8).length : Int) < (([t] : List UInt8).length : Int)) = false := rfl
  rw [fuel_eq, loopF_succ]
  simp only [letm_e, d1, cd_t, bnd_s, e0, bne_self_eq_false, cd_f]
  rw [show (1180591620717411303423 : Nat) = 1180591620717411303422 + 1 from rfl, loopF_succ]
  simp only [d2, d3, cd_f, bnd_s]
  rfl
theorem copied_some {b : List UInt8} (h : b.length ≤ 1000) : m_relay_copied b = some b := by
  unfold m_relay_copied
  rw [app_some' (by simp; omega), bnd_s]; rfl
theorem msg_go (s1 : S_api_Message) : ∀ (xs : List S_api_Option) (k : Nat) (acc : List S_api_Option), (∀ o ∈ xs, o.2.length ≤ 20) → acc.length + xs.length ≤ 100 →
    loopL (R := S_api_Message) (S := (S_api_Message × (List S_api_Option))) (α := S_api_Option) (fun _ s4 => some (s4.1.1, (s4.1.2.1, (s4.1.2.2.1, (s4.1.2.2.2.1, (s4.2, s4.1.2.2.2.2.2))))))
      (fun x5 _ s7 self8 => bnd (m_relay_copied x5.2) fun x9 => bnd (app s7.2 [(x5.1, x9)]) fun x10 => self8 (s7.1, x10)) xs k (s1, acc) = some (s1.1, (s1.2.1, (s1.2.2.1, (s1.2.2.2.1, (acc ++ xs, s1.2.2.2.2.2)))))
  | [], k, acc, _, _ => by rw [loopL_nil, List.append_nil]
  | o :: xs, k, acc, h, hl => by
    rw [List.length_cons] at hl
    have ih := msg_go s1 xs (k + 1) (acc ++ [o]) (fun q hq => h q (by simp [hq])) (by simp; omega)
    have e1 := copied_some (b := o.2) (by have := h o (by simp); omega)
    have e2 : app acc [(o.1, o.2)] = some (acc ++ [o]) := app_some' (by simp; omega)
    rw [loopL_cons]
    simp only [e1, e2, bnd_s]
    rw [ih, List.append_assoc]; rfl
theorem message_self {m : S_api_Message} (h : OkM 5 m) : m_relay_message m = some m := by
  have h1 := copied_some (b := m.2.2.2.1) (by have := h.tok; omega)
  have h2 := copied_some (b := m.2.2.2.2.2) (by have := h.pay; omega)
  have h3 := h.ol
  have h4 := msg_go (m.1, (m.2.1, (m.2.2.1, (m.2.2.2.1, ([], m.2.2.2.2.2))))) m.2.2.2.2.1 0 [] h.srt.val (by simp; omega)
  unfold m_relay_message
  simp only [h1, h2, bnd_s]
  exact h4
theorem bnd_inv {α β : Type} {x : Option α} {f : α → Option β} {y : β} (h : bnd x f = some y) : ∃ v, x = some v ∧ f v = some y := by
  cases x with
  | none => rw [bnd_n] at h; cases h
  | some v => exact ⟨v, rfl, h⟩
theorem return_ok {ts : List UInt8} {k : Nat} {t : UInt8} (r : RetOK ts k t) {m : S_api_Message} (h : OkM 5 m) (ht : m.2.2.2.1 = nbS k) (hc : (m.2.1 == 95) = false) (hk : k ≤ 100) :
    m_relay_Return (pxS ts) m 2 = some ((nmS ts.length, ((hpS 0 ts).eraseIdx k, ([], -1))), ([((k : Int), (1, (m.2.1, (m.2.2.1, ([t], (m.2.2.2.2.1, m.2.2.2.2.2))))))], 0)) := by
  obtain ⟨b, e1⟩ := h.enc
  have e2 : m_relay_time 2 = some true := by kernel_rfl
  have e3 := message_self h
  have e4 : m_relay_copied [t] = some [t] := copied_some (by simp)
  have hcode : decide (m.2.1 < 64) = false := by
    have : ∀ y ∈ ([69, 68, 65, 132, 129, 160, 95] : List Int), decide (y < 64) = false := by decide
    exact this _ h.cl
  have dk : decide ((k : Int) < 0) = false := decide_eq_false (by omega)
  have rx := r.x
  unfold m_relay_Return
  rw [e1, bnd_s, r.v, bnd_s, letm_e, Bool.not_true, cd_f, e2, bnd_s, letm_e, Bool.not_true, cd_f]
  simp only [letm_e, hcode, bne_self_eq_false, cd_f, bnd_s, ht, r.f, dk, r.c, hc, r.i, e3, e4, Bool.not_false, cd_t]
  obtain ⟨x22, f1, rx⟩ := bnd_inv rx
  obtain ⟨x24, f2, rx⟩ := bnd_inv rx
  have d0 : decide ((0 : Int) < (([] : List UInt8).length : Int)) = false := rfl
  simp only [f1, f2, rx, bnd_s, d0, cd_f]
def innS (i : Nat) : List (List UInt8) := (List.range i).map nbS
def tokS (ts : List UInt8) : List (List UInt8) := ts.map fun t => [t]
theorem OkM.tk {m : S_api_Message} (h : OkM 5 m) {c : Int} (hc : c ∈ ([69, 68, 65, 132, 129, 160, 95] : List Int)) {b : List UInt8} (hb : b.length ≤ 8) : OkM 5 (m.1, (c, (m.2.2.1, (b, m.2.2.2.2)))) :=
  ⟨h.t0, h.t1, hc, h.i0, h.i1, hb, h.ol, h.srt, h.pay⟩
set_option maxRecDepth 4000 in
theorem sep_go (a1 : Int) (n : Nat) (hn2 : 2 ≤ n) (hn7 : n ≤ 7) : ∀ (r f : Nat) (ts : List UInt8) (d : S_coresecmake_Deck), ts.length + r = n → r < f → DeckOK d →
    loopF (R := Bool) (S := ((List (List UInt8)) × ((List (List UInt8)) × (Int × (S_api_Proxy × S_coresecmake_Deck))))) (fun self6 s5 =>
 letm (decide (s5.2.2.1 < (n : Int))) fun x7 =>
 cond x7 (bnd (m_coresecmake_Deck_Next s5.2.2.2.2 2) fun x8 =>
 letm ((toU8 x8.1)) fun x9 =>
 letm ((toU8 s5.2.2.1)) fun x10 =>
 bnd (m_coresecref16_Set (0, (2, (0, ([x9], ([], []))))) 9 [[9, x10]]) fun x11 =>
 bnd (m_relay_Forward s5.2.2.2.1 s5.2.2.1 x11 1) fun x12 =>
 bnd (β := Bool) (letm ((x12.2.2.2 != 0)) fun x13 =>
 cond x13 (some true)
  (letm (((x12.2.1.length : Int) != 1)) fun x14 =>
 some x14)) fun v15 =>
 cond v15 (some false)
  (bnd (idx x12.2.1 0) fun x16 =>
 bnd (app s5.1 [x16.2.2.2.1]) fun x17 =>
 bnd (app s5.2.1 [[x9]]) fun x18 =>
 letm ((w64 (s5.2.2.1 + 1))) fun x19 =>
 self6 (x17, (x18, (x19, (x12.1, x8.2))))))
  (bnd (m_coresecmake_Mod a1 (n : Int)) fun x20 =>
 bnd (m_coresecmake2_Response s5.2.2.2.2) fun x21 =>
 bnd (idx s5.1 x20) fun _ =>
 bnd (idx s5.1 (((x20 : Int)).toNat : Int)) fun x23 =>
 bnd (β := S_api_Message) (letm ((x21.1.2.1 == 95)) fun x24 =>
 cond x24 (some (x21.1.1, (69, (x21.1.2.2.1, (x23, x21.1.2.2.2.2)))))
  (some (x21.1.1, (x21.1.2.1, (x21.1.2.2.1, (x23, x21.1.2.2.2.2)))))) fun v25 =>
 bnd (m_relay_Return s5.2.2.2.1 v25 2) fun x26 =>
 bnd (β := Bool) (letm ((x26.2.2 != 0)) fun x27 =>
 cond x27 (some true)
  (letm (((x26.2.1.length : Int) != 1)) fun x28 =>
 cond x28 (some true)
  (bnd (idx x26.2.1 0) fun x29 =>
 letm ((x29.1 != x20)) fun x30 =>
 cond x30 (some true)
  (bnd (idx x26.2.1 0) fun x31 =>
 bnd (idx s5.2.1 x20) fun _ =>
 bnd (idx s5.2.1 (((x20 : Int)).toNat : Int)) fun x33 =>
 bnd (m_coresecref26_Equal x31.2.2.2.2.1 x33) fun x34 =>
 letm ((!x34)) fun x35 =>
 cond x35 (some true)
  (letm ((w64 ((n : Int) - 1))) fun x36 =>
 letm (((x26.1.2.1.length : Int) != x36)) fun x37 =>
 some x37))))) fun v38 =>
 cond v38 (some false)
  (bnd (idx x26.2.1 0) fun x39 =>
 bnd (m_coresecref15_Same (v25.1, (x39.2.2.1, (x39.2.2.2.1, (v25.2.2.2.1, x39.2.2.2.2.2)))) v25) fun x40 =>
 some x40))) f (innS ts.length, (tokS ts, ((ts.length : Int), (pxS ts, d)))) = some true := by
  intro r
  induction r with
  | zero =>
    intro f ts d hl hf hd
    obtain ⟨f, rfl⟩ : ∃ g, f = g + 1 := ⟨f - 1, by omega⟩
    have hln : ts.length = n := by omega
    subst hln
    have d1 : decide ((ts.length : Int) < (ts.length : Int)) = false := decide_eq_false (by omega)
    obtain ⟨y, e1, y0, y1⟩ := mod_some a1 (m := (ts.length : Int)) (by omega) (by omega)
    obtain ⟨k, rfl⟩ : ∃ k : Nat, y = (k : Int) := ⟨y.toNat, by omega⟩
    obtain ⟨t, rt⟩ := retS ts k hn2 hn7 (by omega)
    obtain ⟨m, d', e2, _, hm⟩ := response_ok hd
    have en : idx (innS ts.length) (k : Int) = some (nbS k) := rt.n
    have et : idx (tokS ts) (k : Int) = some [t] := rt.t
    rw [loopF_succ]
    simp only [letm_e, d1, cd_f, e1, bnd_s, e2, en, Int.toNat_natCast]
    have key : ∀ c : Int, c ∈ ([69, 68, 65, 132, 129, 160, 95] : List Int) → (c == 95) = false → (bnd (m_relay_Return (pxS ts) (m.1, (c, (m.2.2.1, (nbS k, m.2.2.2.2)))) 2) fun x26 =>
 bnd (β := Bool) (cond (x26.2.2 != 0) (some true)
  (cond ((x26.2.1.length : Int) != 1) (some true)
  (bnd (idx x26.2.1 0) fun x29 =>
 cond (x29.1 != (k : Int)) (some true)
  (bnd (idx x26.2.1 0) fun x31 =>
 bnd (idx (tokS ts) (k : Int)) fun _ =>
 bnd (idx (tokS ts) (k : Int)) fun x33 =>
 bnd (m_coresecref26_Equal x31.2.2.2.2.1 x33) fun x34 =>
 cond (!x34) (some true)
  (some ((x26.1.2.1.length : Int) != w64 ((ts.length : Int) - 1))))))) fun v38 =>
 cond v38 (some false)
  (bnd (idx x26.2.1 0) fun x39 =>
 bnd (m_coresecref15_Same (m.1, (x39.2.2.1, (x39.2.2.2.1, (nbS k, x39.2.2.2.2.2)))) (m.1, (c, (m.2.2.1, (nbS k, m.2.2.2.2))))) fun x40 =>
 some x40)) = some true := by
      intro c hc h95
      have hr := return_ok rt (hm.tk hc (b := nbS k) (by show 2 ≤ 8; omega)) rfl h95 (by omega)
      have e0 : ∀ u : S_relay_Sent, idx [u] (0 : Int) = some u := fun _ => rfl
      have l1 : ∀ u : S_relay_Sent, ((([u] : List S_relay_Sent).length : Int) != 1) = false := fun _ => rfl
      rw [hr, bnd_s]
      simp only [bne_self_eq_false, cd_f, l1, e0, bnd_s, et, equal1, Bool.not_true, rt.l]
      exact congrArg (fun q => bnd q some) (same15_self _)
    cases h95 : m.2.1 == 95 with
    | true =>
      simp only [cd_t, bnd_s]
      exact key 69 (by simp) rfl
    | false =>
      simp only [cd_f, bnd_s]
      exact key m.2.1 hm.cl h95
  | succ r ih =>
    intro f ts d hl hf hd
    obtain ⟨f, rfl⟩ : ∃ g, f = g + 1 := ⟨f - 1, by omega⟩
    have d1 : decide ((ts.length : Int) < (n : Int)) = true := decide_eq_true (by omega)
    obtain ⟨v, d', e1, _, _, hd'⟩ := next_some hd (n := 2) (by omega) (by omega)
    obtain ⟨u, hu, e2⟩ := fwdS (toU8 v) ts (by omega)
    have e0 : idx [u] (0 : Int) = some u := rfl
    have l1 : ((([u] : List S_api_Message).length : Int) != 1) = false := rfl
    have e3 : app (innS ts.length) [nbS ts.length] = some (innS (ts.length + 1)) := by
      rw [app_some' (by unfold innS; simp; omega)]
      unfold innS
      rw [List.range_succ, List.map_append]; rfl
    have e4 : app (tokS ts) [[toU8 v]] = some (tokS (ts ++ [toU8 v])) := by
      rw [app_some' (by unfold tokS; simp; omega)]
      unfold tokS
      rw [List.map_append]; rfl
    have w1 : w64 ((ts.length : Int) + 1) = ((ts.length + 1 : Nat) : Int) := by rw [w64_of (by omega) (by omega)]; omega
    have := ih f (ts ++ [toU8 v]) d' (by simp; omega) (by omega) hd'
    rw [List.length_append, List.length_singleton] at this
    simp only [letm_e] at this
    rw [loopF_succ]
    simp only [letm_e, d1, cd_t, e1, bnd_s, set_rq, e2, bne_self_eq_false, cd_f, l1, e0, hu, e3, e4, w1]
    exact this
theorem RelaySeparates_true (a0 : List Int) (a1 : Int) (h : a0.length ≤ maxLen) : m_coreseclaw34_RelaySeparates a0 a1 = some true := by
  have hd := new_ok h
  obtain ⟨v, d1, e1, l1, u1, h1⟩ := next_some hd (n := 6) (by omega) (by omega)
  obtain ⟨j, rfl⟩ : ∃ j : Nat, v = (j : Int) := ⟨v.toNat, by omega⟩
  have w2 : w64 (2 + (j : Int)) = ((2 + j : Nat) : Int) := by rw [w64_of (by omega) (by omega)]; omega
  have e0 : m_coresecmake_New a0 = some (a0, 0) := rfl
  unfold m_coreseclaw34_RelaySeparates
  rw [e0, bnd_s, e1, bnd_s, letm_e, w2]
  exact sep_go a1 (2 + j) (by omega) (by omega) (2 + j) FUEL [] d1 (by simp) (by rw [fuel_eq]; omega) h1
end Go.Proofs.YtcbkmlfkfhfliaaDoor
