/-
  Bodies in blocks, plain facts: what the reference's Put computes; lists are like themselves. Of the models alone; no program; no condition but that the payload is not huge.
-/
import Derived.Test.YtdgpkkfkloapbaaQ39
namespace Go.Proofs.Ytdgpkkfkloapbaa
open Go.Gk Go.RowKit
theorem old_ref (ys : List S_api_Partial) (hb : ∀ p ∈ ys, p.2.1.length ≤ 4096 ∧ p.2.2.1.length ≤ 4096) (p : Int) (k : List UInt8) (m L : Nat) (hm : m * L ≤ 2000000000) (q : PutR) :
    (cond (decide (0 < (m : Int))) (bnd (cond (decide (posOf (ys.findIdx? (own p k)) < 0)) (some true) (bnd (idx ys (posOf (ys.findIdx? (own p k)))) fun _ => bnd (idx ys ((posOf (ys.findIdx? (own p k))).toNat : Int)) fun x33 => some (!((x33.2.2.1.length : Int) == w64 ((m : Int) * (L : Int)))))) fun v36 =>
        cond v36 (some (.inl q)) (bnd (idx ys (posOf (ys.findIdx? (own p k)))) fun _ => bnd (idx ys ((posOf (ys.findIdx? (own p k))).toNat : Int)) fun x38 => bnd (app [] x38.2.2.1) fun x41 => some (.inr x41)))
      (some (.inr [])) : Option (PutR ⊕ List UInt8))
    = match oldS ys p k m L with | none => some (.inl q) | some D => some (.inr D) := by
  have w3 : w64 ((m : Int) * (L : Int)) = ((m * L : Nat) : Int) := by rw [← Int.natCast_mul, w64_of (by omega) (by omega)]
  rw [w3]
  unfold oldS
  by_cases h0 : 0 < m
  · rw [decide_eq_true (show 0 < (m : Int) by omega), if_pos h0]
    rcases find_idx (ys := ys) (f := own p k) with ⟨h1, h2⟩ | ⟨i, hi, h1, h2, _⟩
    · rw [h1, h2]; rfl
    · have hidx : idx ys (i : Int) = some ys[i] := idx_some' (List.getElem?_eq_getElem hi)
      have d1 : decide ((i : Int) < 0) = false := decide_eq_false (by omega)
      have hap : app [] ys[i].2.2.1 = some ys[i].2.2.1 := app_nil_some (by have := (hb ys[i] (List.getElem_mem hi)).2; omega)
      rw [h1, h2]
      simp only [posOf, hidx, d1, cd_t, cd_f, bnd_s, Int.toNat_natCast, Option.bind_some, hap]
      by_cases hq : ys[i].2.2.1.length = m * L
      · have : ((ys[i].2.2.1.length : Int) == ((m * L : Nat) : Int)) = true := by rw [hq]; simp
        rw [this, if_pos hq]; rfl
      · have : ((ys[i].2.2.1.length : Int) == ((m * L : Nat) : Int)) = false := by rw [beq_eq_false_iff_ne]; omega
        rw [this, if_neg hq]; rfl
  · rw [decide_eq_false (show ¬ 0 < (m : Int) by omega), if_neg h0]; rfl
theorem put_ref (a0 : List S_api_Partial) (a1 : Int) (a2 : List UInt8) (a3 : S_api_Block) (a4 : List UInt8) (a5 : Int) (h4 : a4.length ≤ 100000) : m_coresecref18_Put a0 a1 a2 a3 a4 a5 = some (putS a0 a1 a2 a3 a4 a5) := by
  unfold m_coresecref18_Put
  refine bnd_of (y := argB a0 a1 a2 a3 a5) (by simp only [letm_e, rvalid_eq, bvalid18_eq, bnd_s, cd_or]; rfl) ?_
  unfold putS
  cases hA : argB a0 a1 a2 a3 a5 with
  | true => rw [if_neg (fun h => by rw [argB_iff.2 h] at hA; cases hA)]; rfl
  | false =>
  have hA' := argB_iff.1 hA
  rw [if_pos hA', cd_f]
  obtain ⟨hv, h1, h2, h3, hs, h5, h6⟩ := hA'
  obtain ⟨hn1, hn2, hz1, hz2⟩ := sndB_iff.1 hs
  obtain ⟨num, more, size⟩ := a3
  simp only at hn1 hn2 hz1 hz2
  obtain ⟨z, rfl⟩ : ∃ z : Nat, size = (z : Int) := ⟨size.toNat, by omega⟩
  obtain ⟨m, rfl⟩ : ∃ m : Nat, num = (m : Int) := ⟨num.toNat, by omega⟩
  have hbl := (blength (z := z) (by omega)).2
  unfold validB at hv
  simp only [Bool.and_eq_true, decide_eq_true_eq] at hv
  obtain ⟨hl, hv⟩ := hv
  obtain ⟨hg, hd⟩ := valid_dist a0 [] hv
  have hb : ∀ p ∈ a0, p.2.1.length ≤ 4096 ∧ p.2.2.1.length ≤ 4096 := fun p hp => ⟨(good_iff (hg p hp).1).2.2.1, (good_iff (hg p hp).1).2.2.2.1⟩
  have hp2 : 2 ^ z ≤ 2 ^ 6 := Nat.pow_le_pow_right (by omega) (by omega)
  have hL : 16 * 2 ^ z ≤ 1024 := by omega
  simp only [Int.toNat_natCast, hbl]
  generalize 16 * 2 ^ z = L at hL ⊢
  have hmL : m * L ≤ 1048575 * 1024 := Nat.mul_le_mul (by omega) hL
  refine bnd_of (y := formB more a4.length L m) (by simp only [letm_e, bne, bnd_s, cd_or, cd_and]; exact form_eq more a4.length L m) ?_
  unfold putC
  cases hF : formB more a4.length L m with
  | true => rw [if_pos (formB_iff.1 hF)]; rfl
  | false =>
  rw [if_neg (fun h => by rw [formB_iff.2 h] at hF; cases hF), cd_f]
  simp only [letm_e, bne, bnd_s, cd_or, cd_and]
  rw [rput_go a1 a2 ((m : Int) == 0) a5 a0 0 [] (-1) (by simp; omega) hb hd]
  simp only [List.nil_append, List.length_nil, Nat.zero_add]
  have hyb : ∀ p ∈ a0.filter (keepB a1 a2 ((m : Int) == 0) a5), p.2.1.length ≤ 4096 ∧ p.2.2.1.length ≤ 4096 := fun p hp => hb p (List.mem_filter.1 hp).1
  have hyl : (a0.filter (keepB a1 a2 ((m : Int) == 0) a5)).length ≤ 4 := Nat.le_trans (List.length_filter_le _ _) hl
  generalize a0.filter (keepB a1 a2 ((m : Int) == 0) a5) = ys at hyb hyl ⊢
  have hpos : posAt 0 (-1) (ys.findIdx? (own a1 a2)) = posOf (ys.findIdx? (own a1 a2)) := by
    cases ys.findIdx? (own a1 a2) with
    | none => rfl
    | some i => exact congrArg (fun j : Nat => (j : Int)) (Nat.zero_add i)
  simp only [hpos]
  rw [putY_old]
  have ho := old_ref ys hyb a1 a2 m L (by omega) ([], ([], (false, 15)))
  cases hO : oldS ys a1 a2 m L with
  | none => rw [hO] at ho; exact bndS_ofl ho
  | some D =>
  rw [hO] at ho
  refine bndS_of (y := D) ho ?_
  have hD : D.length ≤ 4096 := oldS_len hyb hO
  have w2 : w64 (a5 + 128) = a5 + 128 := w64_of (by omega) (by omega)
  have d4 : decide (4096 < ((D ++ a4).length : Int)) = decide (4096 < D.length + a4.length) := decide_eq_decide.2 (by rw [List.length_append]; omega)
  have ca : app D a4 = some (D ++ a4) := app_some' (by omega)
  have c2 : app [] a2 = some a2 := app_nil_some (by omega)
  simp only [w2, d4, ca, c2, bnd_s]
  by_cases h5' : 4096 < D.length + a4.length
  · rw [decide_eq_true h5', if_pos h5']; rfl
  rw [decide_eq_false h5', if_neg h5', cd_f]
  rcases find_idx (ys := ys) (f := own a1 a2) with ⟨hf, _⟩ | ⟨i, hi, hf, _, ho'⟩
  · rw [hf]
    simp only [posOf]
    have d2 : decide ((0 : Int) ≤ -1) = false := by decide
    cases more with
    | false => rfl
    | true =>
      have d3 : decide ((-1 : Int) < 0) = true := by decide
      simp only [Bool.not_true, Bool.false_and, cd_f, d3, Bool.true_and]
      by_cases h6' : 4 ≤ ys.length
      · rw [decide_eq_true (show (4 : Int) ≤ (ys.length : Int) by omega), if_pos h6']; rfl
      · rw [decide_eq_false (show ¬ (4 : Int) ≤ (ys.length : Int) by omega), if_neg h6']
        show bnd (app ys [(a1, (a2, (D ++ a4, a5 + 128)))]) (fun x60 => some (x60, ([], (false, 0)))) = _
        rw [app_some' (by simp; omega)]; rfl
  · obtain ⟨o1, o2⟩ := own_iff.1 ho'
    rw [hf]
    simp only [posOf]
    have hidx : idx ys (i : Int) = some ys[i] := idx_some' (List.getElem?_eq_getElem hi)
    have d2 : decide ((0 : Int) ≤ (i : Int)) = true := decide_eq_true (by omega)
    cases more with
    | false =>
      have w4 : w64 ((i : Int) + 1) = ((i + 1 : Nat) : Int) := by rw [w64_of (by omega) (by omega)]; rfl
      have c0 : Gk.cut ys 0 (i : Int) = some ((ys.take i).drop 0) := cut_some' (lo := 0) (by omega) (by omega)
      have c1 : Gk.cut ys ((i + 1 : Nat) : Int) (ys.length : Int) = some ((ys.take ys.length).drop (i + 1)) := cut_some' (by omega) (by omega)
      simp only [Bool.not_false, Bool.true_and, cd_t, bnd_s, d2, w4, c0, c1]
      rw [app_some' (xs := ([] : List S_api_Partial)) (by simp; omega)]
      simp only [bnd_s, List.nil_append]
      rw [app_some' (by simp; omega)]
      simp only [bnd_s, List.drop_zero, List.take_length, List.eraseIdx_eq_take_drop_succ]
      rfl
    | true =>
      have d3 : decide ((i : Int) < 0) = false := decide_eq_false (by omega)
      simp only [Bool.not_true, Bool.false_and, cd_f, bnd_s, d3, hidx, Int.toNat_natCast]
      rfl
theorem same_go : ∀ (rem pre : List S_api_Partial), loopL (R := Bool) (S := Unit) (α := S_api_Partial) (fun _ _ => some true)
  (fun x5 k6 _ self8 => bnd (β := Bool) (bnd (idx (pre ++ rem) (k6 : Int)) fun x9 => letm ((x5.1 != x9.1)) fun x10 => cond x10 (some true) (bnd (idx (pre ++ rem) (k6 : Int)) fun x11 => letm ((x5.2.2.2 != x11.2.2.2)) fun x12 => cond x12 (some true) (bnd (idx (pre ++ rem) (k6 : Int)) fun x13 => letm ((x5.2.1 != x13.2.1)) fun x14 => cond x14 (some true) (bnd (idx (pre ++ rem) (k6 : Int)) fun x15 => letm ((x5.2.2.1 != x15.2.2.1)) fun x16 => some x16)))) fun v17 => cond v17 (some false) (self8 ())) rem pre.length () = some true
  | [], _ => rfl
  | x :: rem, pre => by
    have ih := same_go rem (pre ++ [x])
    rw [List.append_assoc, List.singleton_append, List.length_append, List.length_singleton] at ih
    have e : idx (pre ++ x :: rem) ((pre.length : Nat) : Int) = some x := idx_some' (by simp)
    rw [loopL_cons]
    simp only [e, bnd_s, letm_e, bne_self_eq_false, cd_f]
    simp only [letm_e] at ih
    exact ih
theorem same_self (l : List S_api_Partial) : m_coresecref18_Same l l = some true := by
  unfold m_coresecref18_Same
  simp only [letm_e, bne_self_eq_false, cd_f]
  have := same_go l []
  simp only [List.nil_append, List.length_nil, letm_e] at this
  exact this
theorem same15_go : ∀ (rem pre : List S_api_Option), loopL (R := Bool) (S := Unit) (α := S_api_Option) (fun _ _ => some true)
  (fun x11 k12 _ self14 => bnd (β := Bool) (bnd (idx (pre ++ rem) (k12 : Int)) fun x15 => letm ((x11.1 != x15.1)) fun x16 => cond x16 (some true) (bnd (idx (pre ++ rem) (k12 : Int)) fun x17 => letm ((x11.2 != x17.2)) fun x18 => some x18)) fun v19 => cond v19 (some false) (self14 ())) rem pre.length () = some true
  | [], _ => rfl
  | x :: rem, pre => by
    have ih := same15_go rem (pre ++ [x])
    rw [List.append_assoc, List.singleton_append, List.length_append, List.length_singleton] at ih
    have e : idx (pre ++ x :: rem) ((pre.length : Nat) : Int) = some x := idx_some' (by simp)
    rw [loopL_cons]
    simp only [e, bnd_s, letm_e, bne_self_eq_false, cd_f]
    simp only [letm_e] at ih
    exact ih
theorem same15_self (m : S_api_Message) : m_coresecref15_Same m m = some true := by
  unfold m_coresecref15_Same
  simp only [letm_e, bne_self_eq_false, cd_f, bnd_s]
  have := same15_go m.2.2.2.2.1 []
  simp only [List.nil_append, List.length_nil, letm_e] at this
  exact this
end Go.Proofs.Ytdgpkkfkloapbaa
