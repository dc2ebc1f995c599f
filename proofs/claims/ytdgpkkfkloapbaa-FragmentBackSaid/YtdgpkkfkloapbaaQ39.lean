/-
  Bodies in blocks, plain facts: what Put computes, by both texts. Of the models alone; no program; no condition but that the payload is not huge.
-/
import Derived.Test.YtdgpkkfkloapbaaQ38
namespace Go.Proofs.Ytdgpkkfkloapbaa
open Go.Gk Go.RowKit
theorem bnd_of {α β : Type} {X : Option β} {K : β → Option α} {y : β} {r : Option α} (h : X = some y) (h2 : K y = r) : bnd X K = r := by rw [h]; exact h2
theorem bndS_of {ρ ρ' Y : Type} {X : Option (ρ ⊕ Y)} {w : ρ → ρ'} {K : Y → Option ρ'} {y : Y} {r : Option ρ'} (h : X = some (.inr y)) (h2 : K y = r) : bndS X w K = r := by rw [h]; exact h2
theorem bndS_ofl {ρ ρ' Y : Type} {X : Option (ρ ⊕ Y)} {w : ρ → ρ'} {K : Y → Option ρ'} {q : ρ} (h : X = some (.inl q)) : bndS X w K = some (w q) := by rw [h]; rfl
def argB (a0 : List S_api_Partial) (a1 : Int) (a2 : List UInt8) (a3 : S_api_Block) (a5 : Int) : Bool :=
  !validB a0 || (decide (a1 < 0) || (decide (65536 < a1) || (decide (4096 < (a2.length : Int)) || (!sndB a3 || (decide (a5 < 0) || decide (1073741824 < a5))))))
theorem argB_iff {a0 : List S_api_Partial} {a1 : Int} {a2 : List UInt8} {a3 : S_api_Block} {a5 : Int} : argB a0 a1 a2 a3 a5 = false ↔ validB a0 = true ∧ 0 ≤ a1 ∧ a1 ≤ 65536 ∧ a2.length ≤ 4096 ∧ sndB a3 = true ∧ 0 ≤ a5 ∧ a5 ≤ 1073741824 := by
  unfold argB
  simp only [Bool.or_eq_false_iff, Bool.not_eq_false', decide_eq_false_iff_not]
  constructor
  · rintro ⟨h1, h2, h3, h4, h5, h6, h7⟩; exact ⟨h1, by omega, by omega, by omega, h5, by omega, by omega⟩
  · rintro ⟨h1, h2, h3, h4, h5, h6, h7⟩; exact ⟨h1, by omega, by omega, by omega, h5, by omega, by omega⟩
/-- The form of a block: its length. -/
def formB (more : Bool) (c L m : Nat) : Bool := cond more (!(c == L)) (decide (L < c) || (c == 0 && decide (0 < m)))
theorem formB_iff {more : Bool} {c L m : Nat} : formB more c L m = true ↔ ((more = true ∧ c ≠ L) ∨ (more = false ∧ (L < c ∨ c = 0 ∧ 0 < m))) := by
  unfold formB
  cases more <;> simp
theorem form_eq (more : Bool) (c L m : Nat) : (cond more (some (!((c : Int) == (L : Int)) || (!more && (decide ((L : Int) < (c : Int)) || (((c : Int) == 0) && decide (0 < (m : Int))))))) (some (!more && (decide ((L : Int) < (c : Int)) || (((c : Int) == 0) && decide (0 < (m : Int)))))) : Option Bool) = some (formB more c L m) := by
  have e1 : ((c : Int) == (L : Int)) = (c == L) := by
    by_cases h : c = L
    · subst h; simp
    · rw [beq_eq_false_iff_ne.2 h, beq_eq_false_iff_ne]; omega
  have e2 : ((c : Int) == 0) = (c == 0) := by
    by_cases h : c = 0
    · subst h; rfl
    · rw [beq_eq_false_iff_ne.2 h, beq_eq_false_iff_ne]; omega
  have e3 : decide ((L : Int) < (c : Int)) = decide (L < c) := decide_eq_decide.2 (by omega)
  have e4 : decide (0 < (m : Int)) = decide (0 < m) := decide_eq_decide.2 (by omega)
  rw [e1, e2, e3, e4]
  unfold formB
  cases more
  · rfl
  · show some (_ || (false && _)) = some _
    rw [Bool.false_and, Bool.or_false]; rfl
/-- What is to be put behind. -/
def oldS (ys : List S_api_Partial) (p : Int) (k : List UInt8) (m L : Nat) : Option (List UInt8) :=
  if 0 < m then (ys.find? (own p k)).bind fun x => if x.2.2.1.length = m * L then some x.2.2.1 else none else some []
theorem putY_old (ys : List S_api_Partial) (p : Int) (k : List UInt8) (m : Nat) (more : Bool) (L : Nat) (c : List UInt8) (t : Int) : putY ys p k m more L c t = match oldS ys p k m L with
    | none => ([], ([], (false, 15)))
    | some D =>
      if 4096 < D.length + c.length then ([], ([], (false, 8))) else
      match more, ys.findIdx? (own p k) with
      | false, some i => (ys.eraseIdx i, (D ++ c, (true, 0)))
      | false, none => (ys, (D ++ c, (true, 0)))
      | true, some i => (ys.set i (p, (k, (D ++ c, t + 128))), ([], (false, 0)))
      | true, none => if 4 ≤ ys.length then ([], ([], (false, 16))) else (ys ++ [(p, (k, (D ++ c, t + 128)))], ([], (false, 0))) := rfl
theorem oldS_len {ys : List S_api_Partial} {p : Int} {k : List UInt8} {m L : Nat} {D : List UInt8} (hb : ∀ p ∈ ys, p.2.1.length ≤ 4096 ∧ p.2.2.1.length ≤ 4096) (h : oldS ys p k m L = some D) : D.length ≤ 4096 := by
  unfold oldS at h
  by_cases h0 : 0 < m
  · rw [if_pos h0] at h
    obtain ⟨x, hx1, hx2⟩ := Option.bind_eq_some_iff.1 h
    have hxm := List.mem_of_find?_eq_some hx1
    split at hx2
    · cases hx2; exact (hb x hxm).2
    · cases hx2
  · rw [if_neg h0] at h; cases h; simp
theorem find_idx {ys : List S_api_Partial} {f : S_api_Partial → Bool} : (ys.findIdx? f = none ∧ ys.find? f = none) ∨ ∃ (i : Nat) (hi : i < ys.length), ys.findIdx? f = some i ∧ ys.find? f = some ys[i] ∧ f ys[i] = true := by
  cases hf : ys.findIdx? f with
  | none =>
    refine .inl ⟨rfl, ?_⟩
    rw [List.find?_eq_none]; rw [List.findIdx?_eq_none_iff] at hf; intro x hx; rw [hf x hx]; simp
  | some i =>
    obtain ⟨hi, ho, hj⟩ := List.findIdx?_eq_some_iff_getElem.1 hf
    refine .inr ⟨i, hi, rfl, ?_, ho⟩
    rw [List.find?_eq_some_iff_getElem]
    exact ⟨ho, i, hi, rfl, fun j hj' => by rw [Bool.eq_false_iff.2 (hj j hj')]; rfl⟩
/-- What is found of the old body, in the block package's words. -/
theorem old_eq (ys : List S_api_Partial) (p : Int) (k : List UInt8) (m L : Nat) (hm : m * L ≤ 2000000000) (q : PutR) :
    (cond (decide (0 < (m : Int))) (bnd (cond (decide (posOf (ys.findIdx? (own p k)) < 0)) (some true) (bnd (idx ys (posOf (ys.findIdx? (own p k)))) fun _ => bnd (idx ys ((posOf (ys.findIdx? (own p k))).toNat : Int)) fun x33 => some (!((x33.2.2.1.length : Int) == w64 ((m : Int) * (L : Int)))))) fun v36 =>
        cond v36 (some (.inl q)) (bnd (idx ys (posOf (ys.findIdx? (own p k)))) fun _ => bnd (idx ys ((posOf (ys.findIdx? (own p k))).toNat : Int)) fun x38 => some (.inr x38.2.2.1)))
      (some (.inr [])) : Option (PutR ⊕ List UInt8))
    = match oldS ys p k m L with | none => some (.inl q) | some D => some (.inr D) := by
  have w3 : w64 ((m : Int) * (L : Int)) = ((m * L : Nat) : Int) := by rw [← Int.natCast_mul, w64_of (by omega) (by omega)]
  rw [w3]
  unfold oldS
  by_cases h0 : 0 < m
  · rw [decide_eq_true (show 0 < (m : Int) by omega), if_pos h0]
    rcases find_idx (ys := ys) (f := own p k) with ⟨h1, h2⟩ | ⟨i, hi, h1, h2, _⟩
    · rw [h1, h2]; rfl
    · have hidx : idx ys (i : Int) = some ys[i] := idx_some' (List.getElem?_eq_getElem hi)
      have d1 : decide ((i : Int) < 0) = false := decide_eq_false (by omega)
      rw [h1, h2]
      simp only [posOf, hidx, d1, cd_t, cd_f, bnd_s, Int.toNat_natCast, Option.bind_some]
      by_cases hq : ys[i].2.2.1.length = m * L
      · have : ((ys[i].2.2.1.length : Int) == ((m * L : Nat) : Int)) = true := by rw [hq]; simp
        rw [this, if_pos hq]; rfl
      · have : ((ys[i].2.2.1.length : Int) == ((m * L : Nat) : Int)) = false := by rw [beq_eq_false_iff_ne]; omega
        rw [this, if_neg hq]; rfl
  · rw [decide_eq_false (show ¬ 0 < (m : Int) by omega), if_neg h0]; rfl
theorem put_spec (a0 : List S_api_Partial) (a1 : Int) (a2 : List UInt8) (a3 : S_api_Block) (a4 : List UInt8) (a5 : Int) (h4 : a4.length ≤ 100000) : m_block_Put a0 a1 a2 a3 a4 a5 = some (putS a0 a1 a2 a3 a4 a5) := by
  unfold m_block_Put
  refine bnd_of (y := argB a0 a1 a2 a3 a5) (by simp only [letm_e, bvalid_eq, bsound_eq, bnd_s, cd_or]; rfl) ?_
  unfold putS
  cases hA : argB a0 a1 a2 a3 a5 with
  | true => rw [if_neg (fun h => by rw [argB_iff.2 h] at hA; cases hA)]; rfl
  | false =>
  have hA' := argB_iff.1 hA
  rw [if_pos hA', cd_f]
  obtain ⟨hv, h1, h2, h3, hs, h5, h6⟩ := hA'
  obtain ⟨hn1, hn2, hz1, hz2⟩ := sndB_iff.1 hs
  obtain ⟨num, more, size⟩ := a3
  simp only at hn1 hn2 hz1 hz2
  obtain ⟨z, rfl⟩ : ∃ z : Nat, size = (z : Int) := ⟨size.toNat, by omega⟩
  obtain ⟨m, rfl⟩ : ∃ m : Nat, num = (m : Int) := ⟨num.toNat, by omega⟩
  refine bnd_of (blength (z := z) (by omega)).1 ?_
  unfold validB at hv
  simp only [Bool.and_eq_true, decide_eq_true_eq] at hv
  obtain ⟨hl, hv⟩ := hv
  obtain ⟨hg, hd⟩ := valid_dist a0 [] hv
  have hb : ∀ p ∈ a0, p.2.1.length ≤ 4096 ∧ p.2.2.1.length ≤ 4096 := fun p hp => ⟨(good_iff (hg p hp).1).2.2.1, (good_iff (hg p hp).1).2.2.2.1⟩
  have hp2 : 2 ^ z ≤ 2 ^ 6 := Nat.pow_le_pow_right (by omega) (by omega)
  have hL : 16 * 2 ^ z ≤ 1024 := by omega
  simp only [Int.toNat_natCast]
  generalize 16 * 2 ^ z = L at hL ⊢
  have hmL : m * L ≤ 1048575 * 1024 := Nat.mul_le_mul (by omega) hL
  refine bnd_of (y := formB more a4.length L m) (by simp only [letm_e, bne, cd_or, cd_and]; exact form_eq more a4.length L m) ?_
  unfold putC
  cases hF : formB more a4.length L m with
  | true => rw [if_pos (formB_iff.1 hF)]; rfl
  | false =>
  rw [if_neg (fun h => by rw [formB_iff.2 h] at hF; cases hF), cd_f]
  refine bnd_of (kept_eq a1 a2 ((m : Int) == 0) a5 a0 (by omega) hb) ?_
  have hyb : ∀ p ∈ a0.filter (keepB a1 a2 ((m : Int) == 0) a5), p.2.1.length ≤ 4096 ∧ p.2.2.1.length ≤ 4096 := fun p hp => hb p (List.mem_filter.1 hp).1
  have hyl : (a0.filter (keepB a1 a2 ((m : Int) == 0) a5)).length ≤ 4 := Nat.le_trans (List.length_filter_le _ _) hl
  generalize a0.filter (keepB a1 a2 ((m : Int) == 0) a5) = ys at hyb hyl ⊢
  refine bnd_of (find_eq ys a1 a2) ?_
  rw [putY_old]
  have ho := old_eq ys a1 a2 m L (by omega) ([], ([], (false, 15)))
  cases hO : oldS ys a1 a2 m L with
  | none => rw [hO] at ho; exact bndS_ofl (by simp only [letm_e, bne]; exact ho)
  | some D =>
  rw [hO] at ho
  refine bndS_of (y := D) (by simp only [letm_e, bne]; exact ho) ?_
  have hD : D.length ≤ 4096 := oldS_len hyb hO
  have w1 : w64 ((D.length : Int) + (a4.length : Int)) = ((D.length + a4.length : Nat) : Int) := by rw [w64_of (by omega) (by omega)]; simp
  have w2 : w64 (a5 + 128) = a5 + 128 := w64_of (by omega) (by omega)
  have d4 : decide (4096 < ((D.length + a4.length : Nat) : Int)) = decide (4096 < D.length + a4.length) := decide_eq_decide.2 (by omega)
  have ck : m_bytes_Clone_o D = some D := clone_some (by omega)
  have ca : app D a4 = some (D ++ a4) := app_some' (by omega)
  simp only [letm_e, w1, w2, d4, ck, ca, bnd_s, cd_and]
  by_cases h5' : 4096 < D.length + a4.length
  · rw [decide_eq_true h5', if_pos h5']; rfl
  rw [decide_eq_false h5', if_neg h5', cd_f]
  rcases find_idx (ys := ys) (f := own a1 a2) with ⟨hf, _⟩ | ⟨i, hi, hf, _, ho'⟩
  · rw [hf]
    simp only [posOf]
    have d2 : decide ((0 : Int) ≤ -1) = false := by decide
    cases more with
    | false => rfl
    | true =>
      simp only [Bool.not_true, Bool.false_and, cd_f, d2]
      by_cases h6' : 4 ≤ ys.length
      · rw [decide_eq_true (show (4 : Int) ≤ (ys.length : Int) by omega), if_pos h6']; rfl
      · rw [decide_eq_false (show ¬ (4 : Int) ≤ (ys.length : Int) by omega), if_neg h6']
        have c2 : m_bytes_Clone_o a2 = some a2 := clone_some (by omega)
        rw [cd_f, c2, bnd_s, app_some' (by simp; omega)]; rfl
  · obtain ⟨o1, o2⟩ := own_iff.1 ho'
    rw [hf]
    simp only [posOf]
    have hidx : idx ys (i : Int) = some ys[i] := idx_some' (List.getElem?_eq_getElem hi)
    have d2 : decide ((0 : Int) ≤ (i : Int)) = true := decide_eq_true (by omega)
    cases more with
    | false =>
      have w4 : w64 ((i : Int) + 1) = ((i + 1 : Nat) : Int) := by rw [w64_of (by omega) (by omega)]; rfl
      have c0 : Gk.cut ys 0 (i : Int) = some ((ys.take i).drop 0) := cut_some' (lo := 0) (by omega) (by omega)
      have c1 : Gk.cut ys ((i + 1 : Nat) : Int) (ys.length : Int) = some ((ys.take ys.length).drop (i + 1)) := cut_some' (by omega) (by omega)
      simp only [Bool.not_false, Bool.true_and, cd_t, bnd_s, d2, w4, c0, c1]
      rw [app_some' (by simp; omega)]
      simp only [bnd_s, List.drop_zero, List.take_length, List.eraseIdx_eq_take_drop_succ]
      rfl
    | true =>
      simp only [Bool.not_true, Bool.false_and, cd_f, bnd_s, d2, cd_t, hidx, Int.toNat_natCast]
      have g2 : idx (ys.set i (ys[i].1, (ys[i].2.1, (D ++ a4, ys[i].2.2.2)))) (i : Int) = some (ys[i].1, (ys[i].2.1, (D ++ a4, ys[i].2.2.2))) := idx_some' (by rw [List.getElem?_set_self hi])
      rw [g2]
      simp only [bnd_s, List.set_set, o1, o2]
      rfl
end Go.Proofs.Ytdgpkkfkloapbaa
