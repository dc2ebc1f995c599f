/-
  Chapter 18, plain facts: what Put computes, as one function. Of the models alone; no program; no condition but that the payload is not huge.
-/
import Derived.Test.YtaefnnamjphieaaL18D
namespace Go.Proofs.Ytaefnnamjphieaa
open Go.Gk
/-- The same, behind what is kept (ys). -/
def putY (ys : List S_api_Partial) (p : Int) (k : List UInt8) (m : Nat) (more : Bool) (L : Nat) (c : List UInt8) (t : Int) : (List S_api_Partial) × (List UInt8) × Bool × Int :=
    match (if 0 < m then (ys.find? (own p k)).bind fun x => if x.Data.length = m * L then some x.Data else none else some [] : Option (List UInt8)) with
    | none => ([], [], false, 15)
    | some D =>
      if 4096 < D.length + c.length then ([], [], false, 8) else
      match more, ys.findIdx? (own p k) with
      | false, some i => (ys.eraseIdx i, D ++ c, true, 0)
      | false, none => (ys, D ++ c, true, 0)
      | true, some i => (ys.set i { Peer := p, Key := k, Data := D ++ c, Until := t + 128 }, [], false, 0)
      | true, none => if 4 ≤ ys.length then ([], [], false, 16) else (ys ++ [{ Peer := p, Key := k, Data := D ++ c, Until := t + 128 }], [], false, 0)
/-- A block that may arrive: L bytes are a block's length, m its number. -/
def putC (l : List S_api_Partial) (p : Int) (k : List UInt8) (m : Nat) (z more : Bool) (L : Nat) (c : List UInt8) (t : Int) : (List S_api_Partial) × (List UInt8) × Bool × Int :=
    if (more = true ∧ c.length ≠ L) ∨ (more = false ∧ (L < c.length ∨ c.length = 0 ∧ 0 < m)) then ([], [], false, 4) else
    putY (l.filter (keepB p k z t)) p k m more L c t
/-- What a block that arrives does to a list of partial bodies. -/
def putS (l : List S_api_Partial) (p : Int) (k : List UInt8) (b : S_api_Block) (c : List UInt8) (t : Int) : (List S_api_Partial) × (List UInt8) × Bool × Int :=
  if validB l = true ∧ 0 ≤ p ∧ p ≤ 65536 ∧ k.length ≤ 4096 ∧ sndB b = true ∧ 0 ≤ t ∧ t ≤ 1073741824 then putC l p k b.Num.toNat (b.Num == 0) b.More (16 * 2 ^ b.Size.toNat) c t
  else ([], [], false, 1)
theorem put_spec (a0 : List S_api_Partial) (a1 : Int) (a2 : List UInt8) (a3 : S_api_Block) (a4 : List UInt8) (a5 : Int) (h4 : a4.length ≤ 100000) : m_block_Put a0 a1 a2 a3 a4 a5 = some (putS a0 a1 a2 a3 a4 a5) := by
  unfold m_block_Put putS
  simp only [letm, bvalid_eq, sound_eq, bnd_some']
  have hs0 : sndB { Num := a3.Num, More := a3.More, Size := a3.Size } = sndB a3 := rfl
  rw [hs0]
  cases hv : validB a0 with
  | false => rw [if_neg (by simp)]; rfl
  | true =>
  simp only [Bool.not_true, cond_false]
  by_cases c1 : a1 < 0
  · simp only [decide_eq_true c1, cond_true]; rw [if_neg (by omega)]; rfl
  by_cases c2 : 65536 < a1
  · simp only [decide_eq_false c1, decide_eq_true c2, cond_true, cond_false]; rw [if_neg (by omega)]; rfl
  by_cases c3 : 4096 < (a2.length : Int)
  · simp only [decide_eq_false c1, decide_eq_false c2, decide_eq_true c3, cond_true, cond_false]; rw [if_neg (by omega)]; rfl
  simp only [decide_eq_false c1, decide_eq_false c2, decide_eq_false c3, cond_false]
  cases hs : sndB a3 with
  | false => rw [if_neg (by simp)]; rfl
  | true =>
  simp only [Bool.not_true, cond_false]
  by_cases c5 : a5 < 0
  · simp only [decide_eq_true c5, cond_true]; rw [if_neg (by omega)]; rfl
  by_cases c6 : 1073741824 < a5
  · simp only [decide_eq_false c5, decide_eq_true c6, cond_false]; rw [if_neg (by omega)]; rfl
  rw [if_pos ⟨by simp, by omega, by omega, by omega, by simp, by omega, by omega⟩]
  simp only [decide_eq_false c5, decide_eq_false c6, cond_false, bnd_some']
  -- a list and a block that may be
  obtain ⟨hn1, hn2, hz1, hz2⟩ := sndB_iff.1 hs
  obtain ⟨num, more, size⟩ := a3
  simp only at hn1 hn2 hz1 hz2 ⊢
  obtain ⟨z, rfl⟩ : ∃ z : Nat, size = (z : Int) := ⟨size.toNat, by omega⟩
  obtain ⟨m, rfl⟩ : ∃ m : Nat, num = (m : Int) := ⟨num.toNat, by omega⟩
  obtain ⟨e1, e2⟩ := length_eq (s := z) (by omega)
  rw [e1]
  simp only [bnd_some', Int.toNat_natCast]
  unfold validB at hv
  simp only [Bool.and_eq_true, decide_eq_true_eq] at hv
  obtain ⟨hl, hv⟩ := hv
  obtain ⟨hg, hd⟩ := valid_dist a0 [] hv
  have hb : ∀ p ∈ a0, p.Key.length ≤ 4096 ∧ p.Data.length ≤ 4096 := fun p hp => ⟨(good_iff (hg p hp).1).2.2.1, (good_iff (hg p hp).1).2.2.2.1⟩
  have hp2 : 2 ^ z ≤ 2 ^ 6 := Nat.pow_le_pow_right (by omega) (by omega)
  have hL : 16 * 2 ^ z ≤ 1024 := by omega
  generalize 16 * 2 ^ z = L at hL ⊢
  unfold putC putY
  have hmL : m * L ≤ 1048575 * 1024 := Nat.mul_le_mul (by omega) hL
  have ebad : (bnd ((cond more (cond ((a4.length : Int) != ((L : Nat) : Int)) (some (true)) (cond (!more) (cond (decide (((L : Nat) : Int) < (a4.length : Int))) (some (true)) (cond ((a4.length : Int) == 0) (some (decide (0 < (m : Int)))) (some (false)))) (some (false))))
      (cond (!more) (cond (decide (((L : Nat) : Int) < (a4.length : Int))) (some (true)) (cond ((a4.length : Int) == 0) (some (decide (0 < (m : Int)))) (some (false)))) (some (false)))) : Option (Bool)) fun y => some y)
      = some (decide ((more = true ∧ a4.length ≠ L) ∨ (more = false ∧ (L < a4.length ∨ a4.length = 0 ∧ 0 < m)))) := by
    cases more with
    | true =>
      by_cases h : a4.length = L
      · simp [bnd, h]
      · have : ((a4.length : Int) != (L : Int)) = true := by rw [bne_iff_ne]; omega
        simp [bnd, h, this]
    | false =>
      by_cases h1 : L < a4.length
      · have : decide (((L : Nat) : Int) < (a4.length : Int)) = true := decide_eq_true (by omega)
        simp [bnd, h1]
      · have d1 : decide (((L : Nat) : Int) < (a4.length : Int)) = false := decide_eq_false (by omega)
        by_cases h2 : a4.length = 0
        · have d2 : ((a4.length : Int) == 0) = true := by rw [beq_iff_eq]; omega
          simp only [d1, d2, cond_false, cond_true, bnd, Bool.not_false]
          simp [h2]
        · have d2 : ((a4.length : Int) == 0) = false := by rw [beq_eq_false_iff_ne]; omega
          simp only [d1, d2, cond_false, bnd, Bool.not_false, cond_true]
          simp [h1, h2]
  have ebad' := fun (K : Bool → Option ((List S_api_Partial) × (List UInt8) × Bool × Int)) => congrArg (fun o => bnd o K) ebad
  have hbb : ∀ (o : Option Bool) (K : Bool → Option ((List S_api_Partial) × (List UInt8) × Bool × Int)), bnd (bnd o fun y => some y) K = bnd o K := by intro o K; cases o <;> rfl
  simp only [hbb] at ebad'
  rw [ebad']
  have hm0 : (0 < (m : Int)) = (0 < m) := by simp
  simp only [hm0, bnd_some']
  by_cases hbad : (more = true ∧ a4.length ≠ L) ∨ (more = false ∧ (L < a4.length ∨ a4.length = 0 ∧ 0 < m))
  · rw [decide_eq_true hbad, if_pos hbad]; rfl
  rw [decide_eq_false hbad, if_neg hbad]
  simp only [cond_false]
  unfold m_block_kept
  rw [kept_l1 a1 a2 ((m : Int) == 0) a5 a0 0 [] (by simp; omega) hb]
  simp only [bnd_some', List.nil_append, find_eq]
  have hyb : ∀ p ∈ a0.filter (keepB a1 a2 ((m : Int) == 0) a5), p.Key.length ≤ 4096 ∧ p.Data.length ≤ 4096 := fun p hp => hb p (List.mem_filter.1 hp).1
  have hyl : (a0.filter (keepB a1 a2 ((m : Int) == 0) a5)).length ≤ 4 := Nat.le_trans (List.length_filter_le _ _) hl
  generalize a0.filter (keepB a1 a2 ((m : Int) == 0) a5) = ys at hyb hyl ⊢
  have w2 : w64 (a5 + 128) = a5 + 128 := w64_of (by omega) (by omega)
  have w3 : w64 ((m : Int) * ((L : Nat) : Int)) = ((m * L : Nat) : Int) := by rw [← Int.natCast_mul, w64_of (by omega) (by omega)]
  -- the old body
  have hold : (cond (decide (0 < m)) (bnd (cond (decide (posOf (ys.findIdx? (own a1 a2)) < 0)) (some true) (bnd (idx ys (posOf (ys.findIdx? (own a1 a2)))) fun x133 => some ((x133.Data.length : Int) != w64 ((m : Int) * ((L : Nat) : Int)))) : Option Bool) fun y111 =>
        (cond y111 (some (Sum.inl ([], [], false, 15))) (bnd (idx ys (posOf (ys.findIdx? (own a1 a2)))) fun x189 => some (Sum.inr x189.Data))))
        (some (Sum.inr ([]))) : Option (((List S_api_Partial) × (List UInt8) × Bool × Int) ⊕ (List UInt8)))
      = match (if 0 < m then (ys.find? (own a1 a2)).bind fun x => if x.Data.length = m * L then some x.Data else none else some [] : Option (List UInt8)) with
        | none => some (Sum.inl ([], [], false, 15))
        | some D => some (Sum.inr D) := by
    rw [w3]
    by_cases h0 : 0 < m
    · rw [decide_eq_true h0, if_pos h0]
      cases hf : ys.findIdx? (own a1 a2) with
      | none =>
        have : ys.find? (own a1 a2) = none := by
          rw [List.find?_eq_none]; rw [List.findIdx?_eq_none_iff] at hf; intro x hx; rw [hf x hx]; simp
        rw [this]; rfl
      | some i =>
        obtain ⟨hi, ho, hj⟩ := List.findIdx?_eq_some_iff_getElem.1 hf
        have : ys.find? (own a1 a2) = some ys[i] := by
          rw [List.find?_eq_some_iff_getElem]
          exact ⟨ho, i, hi, rfl, fun j hj' => by rw [Bool.eq_false_iff.2 (hj j hj')]; rfl⟩
        rw [this]
        have hidx : idx ys (i : Int) = some ys[i] := idx_some' (List.getElem?_eq_getElem hi)
        have d1 : decide ((i : Int) < 0) = false := decide_eq_false (by omega)
        simp only [posOf, hidx, d1, cond_true, cond_false, bnd_some', Option.bind_some]
        by_cases hq : ys[i].Data.length = m * L
        · have : ((ys[i].Data.length : Int) != ((m * L : Nat) : Int)) = false := by rw [hq]; simp
          rw [this, if_pos hq]; rfl
        · have : ((ys[i].Data.length : Int) != ((m * L : Nat) : Int)) = true := by rw [bne_iff_ne]; omega
          rw [this, if_neg hq]; rfl
    · rw [decide_eq_false h0, if_neg h0]; rfl
  rw [hold]
  generalize hO : (if 0 < m then (ys.find? (own a1 a2)).bind fun x => if x.Data.length = m * L then some x.Data else none else some [] : Option (List UInt8)) = old
  cases old with
  | none => rfl
  | some D =>
  have hD : D.length ≤ 4096 := by
    by_cases h0 : 0 < m
    · rw [if_pos h0] at hO
      obtain ⟨x, hx1, hx2⟩ := Option.bind_eq_some_iff.1 hO
      have hxm := List.mem_of_find?_eq_some hx1
      split at hx2
      · cases hx2; exact (hyb x hxm).2
      · cases hx2
    · rw [if_neg h0] at hO; cases hO; simp
  have w1 : w64 ((D.length : Int) + (a4.length : Int)) = ((D.length + a4.length : Nat) : Int) := by rw [w64_of (by omega) (by omega)]; simp
  simp only [bndS_inr, w1, w2, app_some' (show D.length + a4.length ≤ 4294967296 by omega), bnd_some', clone_some (show D.length ≤ 4294967296 by omega)]
  have d4 : decide (4096 < ((D.length + a4.length : Nat) : Int)) = decide (4096 < D.length + a4.length) := by congr 1; simp; omega
  rw [d4]
  by_cases h5 : 4096 < D.length + a4.length
  · rw [decide_eq_true h5, if_pos h5]; rfl
  rw [decide_eq_false h5, if_neg h5]
  simp only [cond_false]
  cases hf : ys.findIdx? (own a1 a2) with
  | none =>
    simp only [posOf]
    have d2 : ∀ (inst : Decidable ((0 : Int) ≤ -1)), @decide _ inst = false := fun inst => decide_eq_false (by omega)
    cases more with
    | false => rfl
    | true =>
      simp only [Bool.not_true, cond_false, bnd_some', d2]
      by_cases h6 : 4 ≤ ys.length
      · have : ∀ (inst : Decidable ((4 : Int) ≤ (ys.length : Int))), @decide _ inst = true := fun inst => decide_eq_true (by omega)
        rw [this, if_pos h6]; rfl
      · have : ∀ (inst : Decidable ((4 : Int) ≤ (ys.length : Int))), @decide _ inst = false := fun inst => decide_eq_false (by omega)
        rw [this, if_neg h6]
        simp only [cond_false, clone_some (show a2.length ≤ 4294967296 by omega), bnd_some']
        rw [app_some' (by simp; omega)]; rfl
  | some i =>
    obtain ⟨hi, ho, _⟩ := List.findIdx?_eq_some_iff_getElem.1 hf
    obtain ⟨o1, o2⟩ := own_iff.1 ho
    simp only [posOf]
    have hget : ys[i]? = some ys[i] := List.getElem?_eq_getElem hi
    have hidx : idx ys (i : Int) = some ys[i] := idx_some' hget
    have d2 : ∀ (inst : Decidable ((0 : Int) ≤ (i : Int))), @decide _ inst = true := fun inst => decide_eq_true (by omega)
    cases more with
    | false =>
      have w4 : w64 ((i : Int) + 1) = ((i + 1 : Nat) : Int) := by rw [w64_of (by omega) (by omega)]; rfl
      have c0 : cut ys 0 (i : Int) = some ((ys.take i).drop 0) := cut_some' (lo := 0) (by omega) (by omega)
      have c1 : cut ys ((i + 1 : Nat) : Int) (ys.length : Int) = some ((ys.take ys.length).drop (i + 1)) := cut_some' (by omega) (by omega)
      simp only [Bool.not_false, cond_true, bnd_some', d2, w4, c0, c1]
      rw [app_some' (by simp; omega)]
      simp only [bnd_some', List.drop_zero, List.take_length, List.eraseIdx_eq_take_drop_succ]
      rfl
    | true =>
      simp only [Bool.not_true, cond_false, bnd_some', d2, cond_true, hidx, Int.toNat_natCast]
      have g2 : idx (ys.set i { Peer := ys[i].Peer, Key := ys[i].Key, Data := D ++ a4, Until := ys[i].Until }) (i : Int) = some { Peer := ys[i].Peer, Key := ys[i].Key, Data := D ++ a4, Until := ys[i].Until } := idx_some' (by rw [List.getElem?_set_self hi])
      rw [g2]
      simp only [bnd_some', List.set_set, o1, o2]
      rfl
theorem put_both (a0 : List S_api_Partial) (a1 : Int) (a2 : List UInt8) (a3 : S_api_Block) (a4 : List UInt8) (a5 : Int) (h4 : a4.length ≤ 100000) : m_coresecref18_Put a0 a1 a2 a3 a4 a5 = some (putS a0 a1 a2 a3 a4 a5) := by
  obtain ⟨r, h1, h2⟩ := put_eq a0 a1 a2 a3 a4 a5 h4
  rw [h2, ← h1, put_spec a0 a1 a2 a3 a4 a5 h4]
theorem putS_ok {l : List S_api_Partial} {p : Int} {k : List UInt8} {b : S_api_Block} {c : List UInt8} {t : Int} (hv : validB l = true) (h1 : 0 ≤ p) (h2 : p ≤ 65536) (h3 : k.length ≤ 4096) (hs : sndB b = true) (h4 : 0 ≤ t) (h5 : t ≤ 1073741824) :
    putS l p k b c t = putC l p k b.Num.toNat (b.Num == 0) b.More (16 * 2 ^ b.Size.toNat) c t := by
  unfold putS; rw [if_pos ⟨hv, h1, h2, h3, hs, h4, h5⟩]
section
variable {l ys : List S_api_Partial} {p : Int} {k : List UInt8} {c : List UInt8} {t : Int} {z : Bool} {L m : Nat}
theorem putC_new (hy : l.filter (keepB p k z t) = ys) (hc : c.length = L) (hL : L ≤ 4096) (hn : ys.findIdx? (own p k) = none) (hl : ys.length < 4) :
    putC l p k 0 z true L c t = (ys ++ [{ Peer := p, Key := k, Data := c, Until := t + 128 }], [], false, 0) := by
  unfold putC putY
  rw [hy, if_neg (by simp [hc])]
  have h5 : ¬ 4096 < 0 + c.length := by omega
  have h6 : ¬ 4 ≤ ys.length := by omega
  simp only [Nat.lt_irrefl, if_false, List.length_nil, h5, hn, h6, List.nil_append]
theorem putC_state (hy : l.filter (keepB p k z t) = ys) (hm : 0 < m) (hc : c.length = L) (hn : ∀ x, ys.find? (own p k) = some x → x.Data.length ≠ m * L) : putC l p k m z true L c t = ([], [], false, 15) := by
  unfold putC putY
  rw [hy, if_neg (by simp [hc]), if_pos hm]
  cases hf : ys.find? (own p k) with
  | none => rfl
  | some x => rw [Option.bind_some, if_neg (hn x hf)]
theorem putC_old {i : Nat} {x : S_api_Partial} (hy : l.filter (keepB p k z t) = ys) (hm : 0 < m) (hc : c.length = L) (hf : ys.find? (own p k) = some x) (hi : ys.findIdx? (own p k) = some i) (hx : x.Data.length = m * L) (hL : x.Data.length + L ≤ 4096) :
    putC l p k m z true L c t = (ys.set i { Peer := p, Key := k, Data := x.Data ++ c, Until := t + 128 }, [], false, 0) := by
  unfold putC putY
  have h5 : ¬ 4096 < x.Data.length + c.length := by omega
  rw [hy, if_neg (by simp [hc]), if_pos hm, hf, Option.bind_some, if_pos hx, hi]
  simp only [h5, if_false]
theorem putC_one (hy : l.filter (keepB p k z t) = ys) (hc : c.length ≤ L) (hL : L ≤ 4096) (hn : ys.findIdx? (own p k) = none) :
    putC l p k 0 z false L c t = (ys, c, true, 0) := by
  unfold putC putY
  have h4 : ¬ L < c.length := by omega
  have h5 : ¬ 4096 < 0 + c.length := by omega
  rw [hy, if_neg (by simp [h4]), hn]
  simp only [Nat.lt_irrefl, if_false, List.length_nil, h5, List.nil_append]
theorem putC_last {i : Nat} {x : S_api_Partial} (hy : l.filter (keepB p k z t) = ys) (hm : 0 < m) (hc : c.length ≤ L) (hc0 : 0 < c.length) (hf : ys.find? (own p k) = some x) (hi : ys.findIdx? (own p k) = some i) (hx : x.Data.length = m * L) (hL : x.Data.length + L ≤ 4096) :
    putC l p k m z false L c t = (ys.eraseIdx i, x.Data ++ c, true, 0) := by
  unfold putC putY
  have h4 : ¬ L < c.length := by omega
  have h5 : ¬ 4096 < x.Data.length + c.length := by omega
  have h7 : ¬ c.length = 0 := by omega
  rw [hy, if_neg (by simp [h4, hm]; intro h; simp [h] at hc0), if_pos hm, hf, Option.bind_some, if_pos hx, hi]
  simp only [h5, if_false]
end
theorem putC_len (l : List S_api_Partial) (hl : l.length ≤ 4) (p : Int) (k : List UInt8) (m : Nat) (z more : Bool) (L : Nat) (c : List UInt8) (t : Int) : (putC l p k m z more L c t).1.length ≤ 4 := by
  have hy : (l.filter (keepB p k z t)).length ≤ 4 := Nat.le_trans (List.length_filter_le _ _) hl
  unfold putC putY
  generalize l.filter (keepB p k z t) = ys at hy
  split
  · simp
  split
  · simp
  split
  · simp
  split
  · exact Nat.le_trans (List.length_eraseIdx_le _ _) hy
  · exact hy
  · simp; omega
  · split
    · simp
    · simp; omega
theorem putS_len (l : List S_api_Partial) (p : Int) (k : List UInt8) (b : S_api_Block) (c : List UInt8) (t : Int) : (putS l p k b c t).1.length ≤ 4 := by
  unfold putS
  split
  · rename_i h
    have : l.length ≤ 4 := by
      have := h.1
      unfold validB at this
      simp only [Bool.and_eq_true, decide_eq_true_eq] at this
      exact this.1
    exact putC_len l this _ _ _ _ _ _ _ _
  · simp
end Go.Proofs.Ytaefnnamjphieaa
