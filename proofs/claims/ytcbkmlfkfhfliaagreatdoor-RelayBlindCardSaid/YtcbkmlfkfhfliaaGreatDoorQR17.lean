/-
  A proxy and protected messages, plain facts. Of the models alone; no program; no condition but the lengths told.
-/
import Derived.Test.YtcbkmlfkfhfliaaGreatDoorQZ5
namespace Go.Proofs.YtcbkmlfkfhfliaaGreatDoor
open Go.Gk Go.RowKit
theorem pay_go {R : Type} (K : List UInt8 → Option R) : ∀ (xs : List S_api_Message) (k : Nat) (s : List UInt8), (s ++ xs.flatMap (fun u => u.2.2.2.2.2)).length ≤ 1000000 → loopL (R := R) (S := (List UInt8)) (α := S_api_Message) (fun _ s22 => K s22)
  (fun x32 _ s34 self35 =>
 bnd (app s34 x32.2.2.2.2.2) fun x36 =>
 self35 x36) xs k s = K (s ++ xs.flatMap (fun u => u.2.2.2.2.2))
  | [], k, s, _ => by rw [loopL_nil, List.flatMap_nil, List.append_nil]
  | x :: xs, k, s, h => by
    rw [List.flatMap_cons, ← List.append_assoc] at h
    have ih := pay_go K xs (k + 1) (s ++ x.2.2.2.2.2) h
    have e : app s x.2.2.2.2.2 = some (s ++ x.2.2.2.2.2) := app_some' (by simp at h ⊢; omega)
    rw [loopL_cons, e, bnd_s, ih, List.flatMap_cons, ← List.append_assoc]
theorem goodH_app (h : S_api_Hop) : ∀ (rest pre : List S_api_Hop), goodH pre (rest ++ [h]) = (goodH pre rest && (hopB h && !((pre ++ rest).any fun d => d.2.2.1 == h.2.2.1)))
  | [], pre => by rw [List.nil_append, List.append_nil]; unfold goodH; unfold goodH; rw [Bool.and_true, Bool.true_and]
  | x :: r, pre => by
    rw [List.cons_append]
    unfold goodH
    rw [goodH_app h r (pre ++ [x]), List.append_assoc, List.singleton_append]
    simp only [Bool.and_assoc]
theorem validP_size {p : S_api_Proxy} (h : validP p = true) {s : Int} (h0 : -1 ≤ s) (h1 : s ≤ 6) : validP (p.1, (p.2.1, (p.2.2.1, s))) = true := by
  unfold validP at h ⊢
  simp only [Bool.and_eq_true, Bool.not_eq_true', decide_eq_false_iff_not] at h ⊢
  obtain ⟨⟨⟨⟨⟨⟨a1, a2⟩, a3⟩, _⟩, _⟩, a6⟩, a7⟩ := h
  exact ⟨⟨⟨⟨⟨⟨a1, a2⟩, a3⟩, by omega⟩, by omega⟩, a6⟩, a7⟩
theorem validP_more {p : S_api_Proxy} (h : validP p = true) {v : Int} (hl : p.2.1.length < 8) (hn : (p.2.1.any fun h => h.2.2.1 == nbI v) = false) {tok : List UInt8} (ht : tok.length ≤ 8) (ob : Bool) : validP ((v + 1) % 65536, (p.2.1 ++ [(1, (tok, (nbI v, ([], ob))))], (p.2.2.1, p.2.2.2))) = true := by
  unfold validP at h ⊢
  simp only [Bool.and_eq_true, Bool.not_eq_true', decide_eq_false_iff_not] at h ⊢
  obtain ⟨⟨⟨⟨⟨⟨a1, a2⟩, a3⟩, a4⟩, a5⟩, a6⟩, a7⟩ := h
  refine ⟨⟨⟨⟨⟨⟨by omega, by omega⟩, by rw [List.length_append, List.length_singleton]; omega⟩, a4⟩, a5⟩, a6⟩, ?_⟩
  rw [goodH_app, a7, Bool.true_and, List.nil_append, hn, Bool.not_false, Bool.and_true]
  unfold hopB
  simp only [Bool.and_eq_true, Bool.not_eq_true', decide_eq_false_iff_not, bne_eq_false_iff_eq]
  exact ⟨⟨⟨by omega, by omega⟩, by omega⟩, rfl⟩
theorem reqC_ok : ∀ y ∈ reqC, 1 ≤ y ∧ y ≤ 191 ∧ clsB (y / 32) = true := by decide
theorem reqC_31 : ∀ y ∈ reqC, 1 ≤ y ∧ y ≤ 31 := by decide
theorem resC_ok : ∀ y ∈ resC, 1 ≤ y ∧ y ≤ 191 ∧ clsB (y / 32) = true := by decide
theorem resC_64 : ∀ y ∈ resC, 64 ≤ y := by decide
theorem encS_ok {m : S_api_Message} (h : valM m = true) : (encS m).2 = 0 := by unfold encS; rw [h]; rfl
theorem RelayBlind_true (a0 : List Int) (a1 : Int) (h : a0.length ≤ maxLen) : m_coreseclaw34_RelayBlind a0 a1 = some true := by
  have e0 : m_coresecmake_New a0 = some (a0, 0) := rfl
  obtain ⟨p, t, d, e1, hd, hp, t0, t1⟩ := worked_some (new_ok h)
  unfold m_coreseclaw34_RelayBlind
  rw [e0, bnd_s, e1, bnd_s, rvalid34_eq hp, bnd_s, letm_e]
  cases hv : validP p with
  | false => simp only [Bool.not_false, cd_t, bnd_s, awake34]
  | true =>
    obtain ⟨y, ey, y0, y1⟩ := mod_some a1 (m := 3) (by omega) (by omega)
    have wy : w64 (y - 1) = y - 1 := w64_of (by omega) (by omega)
    obtain ⟨m, d2, e2, hd2, zm⟩ := request34 hd
    obtain ⟨e3, z3⟩ := zm.set (n := 9) (vs := [[9, 1]]) (j := 3) (by omega) (by omega) (by omega) (by simp) (by omega) (by simp)
    have hg9 : (getS (withO m (setO m.2.2.2.2.1 9 [[9, 1]])).2.2.2.2.1 9).2 = true := by
      show (getS (setO m.2.2.2.2.1 9 [[9, 1]]) 9).2 = true
      rw [get_set]
    rw [Bool.not_true, cd_f, ey, bnd_s, letm_e, wy, e2, bnd_s, e3, bnd_s]
    generalize withO m (setO m.2.2.2.2.1 9 [[9, 1]]) = x at z3 hg9 ⊢
    have hv2 := validP_size hv (s := y - 1) (by omega) (by omega)
    have hp2 : LP (p.1, (p.2.1, (p.2.2.1, y - 1))) := ⟨hp.hl, hp.hv, hp.sl, hp.sv⟩
    have vx := (z3.up (j := 5) (by omega)).val reqC_ok
    have hc := reqC_31 _ z3.cl
    have hgr : grdF (p.1, (p.2.1, (p.2.2.1, y - 1))) 1 x t = false := by
      unfold grdF
      rw [hv2, encS_ok vx]
      simp only [Bool.or_eq_false_iff, decide_eq_false_iff_not, Bool.not_true, bne_self_eq_false]
      exact ⟨trivial, by omega, by omega, by omega, by omega, trivial, by omega, by omega⟩
    obtain ⟨q, e4, _, hq⟩ := forward_both hp2 (z3.len (by omega)) 1 t
    have ho := hq.out hgr hg9
    rw [e4, bnd_s]
    rcases ho with ⟨rfl, h8⟩ | ⟨v, v0, v1, vn, h8, o1, o2, o3, o4, o5, o6⟩
    · have d0 : ∀ u : S_relay_Sent, decide (0 < (([u] : List S_relay_Sent).length : Int)) = true := fun _ => rfl
      have d1 : ∀ u : S_relay_Sent, ((([u] : List S_relay_Sent).length : Int) == 1) = true := fun _ => rfl
      have d2 : ((([] : List S_api_Message).length : Int) == 0) = true := rfl
      have d3 : ∀ u : S_relay_Sent, idx [u] (0 : Int) = some u := fun _ => rfl
      have d4 : ((163 : Int) == 163) = true := rfl
      have d5 : ((p.2.1.length : Int) == 8) = true := beq_iff_eq.2 (by have : p.2.1.length = 8 := h8; omega)
      simp only [letm_e, bne_self_eq_false, cd_f, cd_t, d0, d1, d2, d3, d4, d5, bnd_s]
    · have o2a : q.2.2.1 = [] := by rw [o2]
      have o2b : q.2.2.2 = 0 := by rw [o2]
      have d0 : decide (0 < (([] : List S_relay_Sent).length : Int)) = false := rfl
      have d1 : ((q.2.1.length : Int) == 0) = false := by
        rw [beq_eq_false_iff_ne]
        intro hc
        exact o3 (List.length_eq_zero_iff.1 (by omega))
      rw [o2a, o2b]
      simp only [letm_e, bne_self_eq_false, cd_f, d0, d1]
      have hpl := z3.pay
      have hpg := fun K => pay_go (R := Bool) K q.2.1 0 [] (by rw [List.nil_append, o6]; omega)
      rw [hpg, List.nil_append, o6]
      obtain ⟨w, d5, e5, hd5, zw⟩ := response34 hd2
      obtain ⟨e6, z6⟩ := zw.set (n := 9) (vs := [[]]) (j := 4) (by omega) (by omega) (by omega) (by simp) (by omega) (by simp)
      have hw9 : (getS (withO w (setO w.2.2.2.2.1 9 [[]])).2.2.2.2.1 9).2 = true := by
        show (getS (setO w.2.2.2.2.1 9 [[]]) 9).2 = true
        rw [get_set]
      rw [e5, bnd_s, e6, bnd_s]
      generalize withO w (setO w.2.2.2.2.1 9 [[]]) = r at z6 hw9 ⊢
      obtain ⟨u, l, hul⟩ : ∃ u l, q.2.1 = u :: l := by
        cases hq2 : q.2.1 with
        | nil => exact absurd hq2 o3
        | cons u l => exact ⟨u, l, rfl⟩
      have hu : u.2.2.2.1 = nbI v := o5 u (by rw [hul]; simp)
      have e7 : idx q.2.1 (0 : Int) = some u := by rw [hul]; exact idx_some' (i := 0) rfl
      rw [e7, bnd_s, hu]
      have z7 : OkQ resC 5 (r.1, (r.2.1, (r.2.2.1, (nbI v, r.2.2.2.2)))) := ⟨z6.t0, z6.t1, z6.cl, z6.i0, z6.i1, by show 2 ≤ 8; omega, by have := z6.ol; show r.2.2.2.2.1.length ≤ 5; omega, z6.srt, z6.pay⟩
      have vr := z7.val resC_ok
      have hc2 := resC_64 _ z6.cl
      obtain ⟨s, e8, _, hs⟩ := return_both hq.lp (z7.len (by omega)) t
      have hgr2 : grdR q.1 (r.1, (r.2.1, (r.2.2.1, (nbI v, r.2.2.2.2)))) t = false := by
        have hv3 := validP_more hv2 (v := v) h8 vn z3.tok (getS x.2.2.2.2.1 6).2
        unfold grdR
        rw [o1, hv3, encS_ok vr]
        simp only [Bool.or_eq_false_iff, decide_eq_false_iff_not, Bool.not_true, bne_self_eq_false]
        exact ⟨trivial, by omega, by omega, trivial, by omega⟩
      obtain ⟨s1, s2⟩ := hs.out hgr2 hw9 (by
        rw [o1]
        show ((p.2.1 ++ [(1, (x.2.2.2.1, (nbI v, ([], (getS x.2.2.2.2.1 6).2))))]).any fun h => h.2.2.1 == nbI v) = true
        rw [List.any_append]; simp)
      have s3 : s.1.2.2.1 = p.2.2.1 := by rw [s2, o1]
      rw [e8, bnd_s, s1, s3, equal26 (by omega)]
      simp only [beq_self_eq_true, cd_t, bnd_s, awake34]
end Go.Proofs.YtcbkmlfkfhfliaaGreatDoor
