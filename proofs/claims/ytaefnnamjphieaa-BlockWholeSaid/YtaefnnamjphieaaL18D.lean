/-
  Chapter 18, plain facts: what becomes of a block that arrives is the same for the program and for the reference. Of the models alone; no program; bounds on lengths are all that is asked.
-/
import Derived.Test.YtaefnnamjphieaaL18C
namespace Go.Proofs.Ytaefnnamjphieaa
open Go.Gk
/-- The same peer and key. -/
def own (a1 : Int) (a2 : List UInt8) (p : S_api_Partial) : Bool := p.Peer == a1 && p.Key == a2
theorem own_iff {a1 : Int} {a2 : List UInt8} {p : S_api_Partial} : own a1 a2 p = true ↔ p.Peer = a1 ∧ p.Key = a2 := by unfold own; simp
def posOf : Option Nat → Int
  | some i => (i : Int)
  | none => -1
theorem find_l1 (a1 : Int) (a2 : List UInt8) : ∀ (xs : List S_api_Partial) (k : Nat), m_block_find_l1 a1 a2 xs k = some (match xs.findIdx? (own a1 a2) with | some i => Sum.inl ((k + i : Nat) : Int) | none => Sum.inr ())
  | [], _ => rfl
  | x :: xs, k => by
    rw [m_block_find_l1, List.findIdx?_cons]
    have e : (letm (x.Peer == a1) fun x42 => (cond x42 (bnd (m_bytes_Equal x.Key a2) fun y45 => some (y45)) (some (false))) : Option Bool) = some (own a1 a2 x) := by
      unfold own m_bytes_Equal
      simp only [letm, bnd_some']
      cases x.Peer == a1 <;> rfl
    rw [e, bnd_some']
    cases h : own a1 a2 x with
    | true => simp
    | false =>
      simp only [cond_false, find_l1 a1 a2 xs (k + 1)]
      cases xs.findIdx? (own a1 a2) with
      | none => rfl
      | some i => simp; omega
theorem find_eq (xs : List S_api_Partial) (a1 : Int) (a2 : List UInt8) : m_block_find xs a1 a2 = some (posOf (xs.findIdx? (own a1 a2))) := by
  unfold m_block_find
  rw [find_l1]
  cases xs.findIdx? (own a1 a2) with
  | none => rfl
  | some i => simp [bndS, posOf]

/-- An element that may be, by itself. -/
def goodP (p : S_api_Partial) : Bool := !(decide (p.Peer < 0) || (decide (65536 < p.Peer) || (decide (4096 < (p.Key.length : Int)) || (decide (4096 < (p.Data.length : Int)) || decide (p.Until < 0)))))
def validL : List S_api_Partial → List S_api_Partial → Bool
  | _, [] => true
  | pre, x :: rem => goodP x && (!(pre.any (own x.Peer x.Key)) && validL (pre ++ [x]) rem)
theorem cut_pre {α : Type} (pre rem : List α) : cut (pre ++ rem) 0 ((pre.length : Nat) : Int) = some pre := by
  have := cut_some' (xs := pre ++ rem) (lo := 0) (hi := pre.length) (by omega) (by simp)
  rw [show ((0 : Nat) : Int) = 0 from rfl] at this
  rw [this]; simp
theorem findIdx_any {xs : List S_api_Partial} {f : S_api_Partial → Bool} : decide (0 ≤ posOf (xs.findIdx? f)) = xs.any f := by
  cases h : xs.findIdx? f with
  | none =>
    rw [List.findIdx?_eq_none_iff] at h
    have : xs.any f = false := by
      rw [List.any_eq_false]; intro x hx; simp [h x hx]
    rw [this]; rfl
  | some i =>
    have := List.findIdx?_isSome (xs := xs) (p := f)
    rw [h] at this
    rw [← this]; simp [posOf]
theorem valid_l1 : ∀ (rem pre : List S_api_Partial), m_block_Valid_l1 (pre ++ rem) rem pre.length = some (if validL pre rem then Sum.inr () else Sum.inl false)
  | [], _ => by simp [m_block_Valid_l1, validL]
  | x :: rem, pre => by
    rw [m_block_Valid_l1]
    have ih := valid_l1 rem (pre ++ [x])
    rw [List.append_assoc, List.singleton_append, List.length_append, List.length_singleton] at ih
    simp only [letm, cut_pre, bnd_some', find_eq, findIdx_any]
    unfold validL goodP
    cases decide (x.Peer < 0) <;> cases decide (65536 < x.Peer) <;> cases decide (4096 < (x.Key.length : Int)) <;> cases decide (4096 < (x.Data.length : Int)) <;> cases decide (x.Until < 0) <;> try rfl
    cases pre.any (own x.Peer x.Key) with
    | true => rfl
    | false => simpa [bnd] using ih
theorem rvalid_l2 (x : S_api_Partial) : ∀ (xs : List S_api_Partial) (k : Nat), m_coresecref18_Valid_l2 x xs k = some (if xs.any (own x.Peer x.Key) then Sum.inl false else Sum.inr ())
  | [], _ => rfl
  | y :: xs, k => by
    rw [m_coresecref18_Valid_l2]
    have e : (letm (y.Peer == x.Peer) fun x94 => (cond x94 (letm (y.Key == x.Key) fun x97 => some (x97)) (some (false))) : Option Bool) = some (own x.Peer x.Key y) := by
      unfold own
      simp only [letm]
      cases y.Peer == x.Peer <;> rfl
    rw [e, bnd_some', List.any_cons]
    cases own x.Peer x.Key y with
    | true => rfl
    | false => simp [rvalid_l2 x xs (k + 1)]
theorem rvalid_l1 : ∀ (rem pre : List S_api_Partial), m_coresecref18_Valid_l1 (pre ++ rem) rem pre.length = some (if validL pre rem then Sum.inr () else Sum.inl false)
  | [], _ => by simp [m_coresecref18_Valid_l1, validL]
  | x :: rem, pre => by
    rw [m_coresecref18_Valid_l1]
    have ih := rvalid_l1 rem (pre ++ [x])
    rw [List.append_assoc, List.singleton_append, List.length_append, List.length_singleton] at ih
    simp only [letm, cut_pre, bnd_some', rvalid_l2]
    unfold validL goodP
    cases decide (x.Peer < 0) <;> cases decide (65536 < x.Peer) <;> cases decide (4096 < (x.Key.length : Int)) <;> cases decide (4096 < (x.Data.length : Int)) <;> cases decide (x.Until < 0) <;> try rfl
    cases pre.any (own x.Peer x.Key) with
    | true => rfl
    | false => simpa [bnd, bndS] using ih
/-- A list that may be. -/
def validB (l : List S_api_Partial) : Bool := decide (l.length ≤ 4) && validL [] l
theorem bvalid_eq (l : List S_api_Partial) : m_block_Valid l = some (validB l) := by
  unfold m_block_Valid validB
  have := valid_l1 l []
  simp only [List.nil_append, List.length_nil] at this
  rw [this]
  simp only [letm]
  by_cases h : 4 < (l.length : Int)
  · rw [decide_eq_true h, decide_eq_false (by omega : ¬ l.length ≤ 4)]; rfl
  · rw [decide_eq_false h, decide_eq_true (by omega : l.length ≤ 4)]
    cases validL [] l <;> rfl
theorem rvalid_eq (l : List S_api_Partial) : m_coresecref18_Valid l = some (validB l) := by
  unfold m_coresecref18_Valid validB
  have := rvalid_l1 l []
  simp only [List.nil_append, List.length_nil] at this
  rw [this]
  simp only [letm]
  by_cases h : 4 < (l.length : Int)
  · rw [decide_eq_true h, decide_eq_false (by omega : ¬ l.length ≤ 4)]; rfl
  · rw [decide_eq_false h, decide_eq_true (by omega : l.length ≤ 4)]
    cases validL [] l <;> rfl

/-- Which elements stay. -/
def keepB (a1 : Int) (a2 : List UInt8) (z : Bool) (a5 : Int) (p : S_api_Partial) : Bool := !(decide (p.Until ≤ a5) || (own a1 a2 p && z))
theorem kept_l1 (a1 : Int) (a2 : List UInt8) (z : Bool) (a5 : Int) : ∀ (rem : List S_api_Partial) (k : Nat) (acc : List S_api_Partial), acc.length + rem.length ≤ 100 → (∀ p ∈ rem, p.Key.length ≤ 4096 ∧ p.Data.length ≤ 4096) → m_block_kept_l1 a1 a2 z a5 rem k acc = some (acc ++ rem.filter (keepB a1 a2 z a5))
  | [], _, acc, _, _ => by simp [m_block_kept_l1]
  | x :: rem, k, acc, hl, hb => by
    rw [m_block_kept_l1]
    simp only [List.length_cons] at hl
    obtain ⟨hk, hd⟩ := hb x (by simp)
    have e : (letm (decide (x.Until ≤ a5)) fun x46 => (cond x46 (some (true)) ((cond z (letm (x.Peer == a1) fun x51 => (cond x51 (bnd (m_bytes_Equal x.Key a2) fun y54 => some (y54)) (some (false)))) (some (false))))) : Option Bool) = some (!(keepB a1 a2 z a5 x)) := by
      unfold keepB own m_bytes_Equal
      simp only [letm, bnd_some']
      cases decide (x.Until ≤ a5) <;> cases z <;> cases x.Peer == a1 <;> cases x.Key == a2 <;> rfl
    rw [e, bnd_some', List.filter_cons]
    cases keepB a1 a2 z a5 x with
    | false =>
      simp only [Bool.not_false, cond_true]
      rw [kept_l1 a1 a2 z a5 rem (k + 1) acc (by omega) (fun p hp => hb p (by simp [hp]))]
      simp
    | true =>
      simp only [Bool.not_true, cond_false, clone_some (show x.Key.length ≤ 4294967296 by omega), clone_some (show x.Data.length ≤ 4294967296 by omega), bnd_some']
      rw [app_some' (by simp; omega), bnd_some', kept_l1 a1 a2 z a5 rem (k + 1) _ (by simp; omega) (fun p hp => hb p (by simp [hp]))]
      simp
theorem valid_dist : ∀ (rem pre : List S_api_Partial), validL pre rem = true → (∀ x ∈ rem, goodP x = true ∧ ∀ p ∈ pre, own x.Peer x.Key p = false) ∧ rem.Pairwise (fun p q => own q.Peer q.Key p = false)
  | [], _, _ => by simp
  | x :: rem, pre, h => by
    simp only [validL, Bool.and_eq_true, Bool.not_eq_true', List.any_eq_false, Bool.not_eq_true] at h
    obtain ⟨h1, h2, h3⟩ := h
    obtain ⟨i1, i2⟩ := valid_dist rem (pre ++ [x]) h3
    refine ⟨fun y hy => ?_, List.pairwise_cons.2 ⟨fun y hy => (i1 y hy).2 x (by simp), i2⟩⟩
    rcases List.mem_cons.1 hy with rfl | hy
    · exact ⟨h1, fun p hp => by simpa using h2 p hp⟩
    · exact ⟨(i1 y hy).1, fun p hp => (i1 y hy).2 p (by simp [hp])⟩
theorem own_dist {a1 : Int} {a2 : List UInt8} {x y : S_api_Partial} (hx : own a1 a2 x = true) (h : own y.Peer y.Key x = false) : own a1 a2 y = false := by
  obtain ⟨h1, h2⟩ := own_iff.1 hx
  cases hy : own a1 a2 y with
  | false => rfl
  | true =>
    obtain ⟨h3, h4⟩ := own_iff.1 hy
    have : own y.Peer y.Key x = true := own_iff.2 ⟨by rw [h1, h3], by rw [h2, h4]⟩
    rw [this] at h; cases h
theorem rput_l1 (a1 : Int) (a2 : List UInt8) (a3 : S_api_Block) (a5 : Int) : ∀ (rem : List S_api_Partial) (k : Nat) (acc : List S_api_Partial) (at_ : Int), acc.length + rem.length ≤ 100 → (∀ p ∈ rem, p.Key.length ≤ 4096 ∧ p.Data.length ≤ 4096) → rem.Pairwise (fun p q => own q.Peer q.Key p = false) →
    m_coresecref18_Put_l1 a1 a2 a3 a5 rem k acc at_ = some (acc ++ rem.filter (keepB a1 a2 (a3.Num == 0) a5), match (rem.filter (keepB a1 a2 (a3.Num == 0) a5)).findIdx? (own a1 a2) with | some i => ((acc.length + i : Nat) : Int) | none => at_)
  | [], _, acc, _, _, _, _ => by simp [m_coresecref18_Put_l1]
  | x :: rem, k, acc, at_, hl, hb, hd => by
    rw [m_coresecref18_Put_l1]
    simp only [List.length_cons] at hl
    obtain ⟨hk, hdl⟩ := hb x (by simp)
    obtain ⟨hd1, hd2⟩ := List.pairwise_cons.1 hd
    have e1 : (letm (x.Peer == a1) fun x134 => (cond x134 (letm (x.Key == a2) fun x137 => some (x137)) (some (false))) : Option Bool) = some (own a1 a2 x) := by
      unfold own
      simp only [letm]
      cases x.Peer == a1 <;> rfl
    rw [e1, bnd_some']
    have e2 : (letm (decide (x.Until ≤ a5)) fun x142 => (cond x142 (some (true)) ((cond (own a1 a2 x) (letm (a3.Num == 0) fun x147 => some (x147)) (some (false))))) : Option Bool) = some (!(keepB a1 a2 (a3.Num == 0) a5 x)) := by
      unfold keepB
      simp only [letm]
      cases decide (x.Until ≤ a5) <;> cases own a1 a2 x <;> cases a3.Num == 0 <;> rfl
    rw [e2, bnd_some', List.filter_cons]
    cases keepB a1 a2 (a3.Num == 0) a5 x with
    | false =>
      simp only [Bool.not_false, cond_true]
      rw [rput_l1 a1 a2 a3 a5 rem (k + 1) acc at_ (by omega) (fun p hp => hb p (by simp [hp])) hd2]
      simp
    | true =>
      simp only [Bool.not_true, cond_false]
      cases ho : own a1 a2 x with
      | true =>
        simp only [cond_true, bnd_some', app_some' (show ([] : List UInt8).length + x.Key.length ≤ 4294967296 by simp; omega), app_some' (show ([] : List UInt8).length + x.Data.length ≤ 4294967296 by simp; omega)]
        rw [app_some' (by simp; omega), bnd_some', rput_l1 a1 a2 a3 a5 rem (k + 1) _ _ (by simp; omega) (fun p hp => hb p (by simp [hp])) hd2]
        have hn : (rem.filter (keepB a1 a2 (a3.Num == 0) a5)).findIdx? (own a1 a2) = none := by
          rw [List.findIdx?_eq_none_iff]
          intro y hy
          exact own_dist ho (hd1 y (List.mem_filter.1 hy).1)
        rw [hn]
        simp [List.findIdx?_cons, ho]
      | false =>
        simp only [cond_false, bnd_some', app_some' (show ([] : List UInt8).length + x.Key.length ≤ 4294967296 by simp; omega), app_some' (show ([] : List UInt8).length + x.Data.length ≤ 4294967296 by simp; omega)]
        rw [app_some' (by simp; omega), bnd_some', rput_l1 a1 a2 a3 a5 rem (k + 1) _ _ (by simp; omega) (fun p hp => hb p (by simp [hp])) hd2]
        simp only [if_true, List.findIdx?_cons, ho, Bool.false_eq_true, if_false, List.nil_append, List.append_assoc, List.singleton_append, List.length_append, List.length_singleton]
        cases (rem.filter (keepB a1 a2 (a3.Num == 0) a5)).findIdx? (own a1 a2) with
        | none => rfl
        | some i =>
          have : ((acc.length + 1 + i : Nat) : Int) = ((acc.length + (i + 1) : Nat) : Int) := by omega
          simpa using this
theorem bndS_pair {ρ Y : Type} {m1 m2 : Option (ρ ⊕ Y)} {K1 K2 : Y → Option ρ} (Q : Y → Prop) (h : (∃ q, m1 = some (.inl q) ∧ m2 = some (.inl q)) ∨ (∃ y, Q y ∧ m1 = some (.inr y) ∧ m2 = some (.inr y))) (hk : ∀ y, Q y → ∃ r, K1 y = some r ∧ K2 y = some r) :
    ∃ r, bndS m1 (fun q => q) K1 = some r ∧ bndS m2 (fun q => q) K2 = some r := by
  rcases h with ⟨q, rfl, rfl⟩ | ⟨y, hq, rfl, rfl⟩
  · exact ⟨q, rfl, rfl⟩
  · exact hk y hq
theorem good_iff {p : S_api_Partial} (h : goodP p = true) : 0 ≤ p.Peer ∧ p.Peer ≤ 65536 ∧ p.Key.length ≤ 4096 ∧ p.Data.length ≤ 4096 ∧ 0 ≤ p.Until := by
  unfold goodP at h
  simp only [Bool.not_eq_true', Bool.or_eq_false_iff, decide_eq_false_iff_not] at h
  obtain ⟨h1, h2, h3, h4, h5⟩ := h
  exact ⟨by omega, by omega, by omega, by omega, by omega⟩
/-- A block that arrives: the program and the reference do the same. -/
theorem put_eq (a0 : List S_api_Partial) (a1 : Int) (a2 : List UInt8) (a3 : S_api_Block) (a4 : List UInt8) (a5 : Int) (h4 : a4.length ≤ 100000) : ∃ r, m_block_Put a0 a1 a2 a3 a4 a5 = some r ∧ m_coresecref18_Put a0 a1 a2 a3 a4 a5 = some r := by
  unfold m_block_Put m_coresecref18_Put
  simp only [letm, bvalid_eq, rvalid_eq, sound_eq, valid_eq, bnd_some']
  have hs0 : sndB { Num := a3.Num, More := a3.More, Size := a3.Size } = sndB a3 := rfl
  rw [hs0]
  cases hv : validB a0 with
  | false => exact ⟨_, rfl, rfl⟩
  | true =>
  simp only [Bool.not_true, cond_false]
  by_cases c1 : a1 < 0
  · simp only [decide_eq_true c1, cond_true]; exact ⟨_, rfl, rfl⟩
  by_cases c2 : 65536 < a1
  · simp only [decide_eq_false c1, decide_eq_true c2, cond_true, cond_false]; exact ⟨_, rfl, rfl⟩
  by_cases c3 : 4096 < (a2.length : Int)
  · simp only [decide_eq_false c1, decide_eq_false c2, decide_eq_true c3, cond_true, cond_false]; exact ⟨_, rfl, rfl⟩
  simp only [decide_eq_false c1, decide_eq_false c2, decide_eq_false c3, cond_false]
  cases hs : sndB a3 with
  | false => exact ⟨_, rfl, rfl⟩
  | true =>
  simp only [Bool.not_true, cond_false]
  by_cases c5 : a5 < 0
  · simp only [decide_eq_true c5, cond_true]; exact ⟨_, rfl, rfl⟩
  by_cases c6 : 1073741824 < a5
  · simp only [decide_eq_false c5, decide_eq_true c6, cond_false]; exact ⟨_, rfl, rfl⟩
  simp only [decide_eq_false c5, decide_eq_false c6, cond_false, bnd_some']
  -- a list and a block that may be
  obtain ⟨hn1, hn2, hz1, hz2⟩ := sndB_iff.1 hs
  obtain ⟨num, more, size⟩ := a3
  simp only at hn1 hn2 hz1 hz2 ⊢
  obtain ⟨z, rfl⟩ : ∃ z : Nat, size = (z : Int) := ⟨size.toNat, by omega⟩
  obtain ⟨e1, e2⟩ := length_eq (s := z) (by omega)
  rw [e1, e2]
  simp only [bnd_some']
  unfold validB at hv
  simp only [Bool.and_eq_true, decide_eq_true_eq] at hv
  obtain ⟨hl, hv⟩ := hv
  obtain ⟨hg, hd⟩ := valid_dist a0 [] hv
  have hb : ∀ p ∈ a0, p.Key.length ≤ 4096 ∧ p.Data.length ≤ 4096 := fun p hp => ⟨(good_iff (hg p hp).1).2.2.1, (good_iff (hg p hp).1).2.2.2.1⟩
  generalize (((16 * 2 ^ z : Nat) : Int)) = L
  -- the payload's length
  have shape : ∀ (B : Option Bool) (K1 K2 : Bool → Option ((List S_api_Partial) × (List UInt8) × Bool × Int)), (∃ b, B = some b) → (∀ b, ∃ r, K1 b = some r ∧ K2 b = some r) → ∃ r, bnd B K1 = some r ∧ bnd B K2 = some r := fun B K1 K2 ⟨b, hb⟩ h => by rw [hb]; exact h b
  refine shape _ _ _ ?_ fun b => ?_
  · cases more <;> cases (a4.length : Int) != L <;> cases decide (L < (a4.length : Int)) <;> cases (a4.length : Int) == 0 <;> exact ⟨_, rfl⟩
  cases b with
  | true => exact ⟨_, rfl, rfl⟩
  | false =>
  simp only [cond_false]
  unfold m_block_kept
  rw [kept_l1 a1 a2 (num == 0) a5 a0 0 [] (by simp; omega) hb, rput_l1 a1 a2 { Num := num, More := more, Size := (z : Int) } a5 a0 0 [] (-1) (by simp; omega) hb hd]
  simp only [bnd_some', List.nil_append, List.length_nil, Nat.zero_add, find_eq]
  have hyb : ∀ p ∈ a0.filter (keepB a1 a2 (num == 0) a5), p.Key.length ≤ 4096 ∧ p.Data.length ≤ 4096 := fun p hp => hb p (List.mem_filter.1 hp).1
  have hyl : (a0.filter (keepB a1 a2 (num == 0) a5)).length ≤ 4 := Nat.le_trans (List.length_filter_le _ _) hl
  generalize a0.filter (keepB a1 a2 (num == 0) a5) = ys at hyb hyl ⊢
  have hpos : (match ys.findIdx? (own a1 a2) with | some i => ((i : Nat) : Int) | none => -1) = posOf (ys.findIdx? (own a1 a2)) := by
    cases ys.findIdx? (own a1 a2) <;> rfl
  rw [hpos]
  cases hf : ys.findIdx? (own a1 a2) with
  | none =>
    simp only [posOf]
    have d1 : decide ((-1 : Int) < 0) = true := rfl
    have d2 : decide ((0 : Int) ≤ -1) = false := rfl
    refine bndS_pair (fun Y => Y.length ≤ 4096) ?_ fun Y hY => ?_
    · cases decide (0 < num) with
      | true => exact .inl ⟨_, rfl, rfl⟩
      | false => exact .inr ⟨[], by simp, rfl, rfl⟩
    · have w1 : w64 ((Y.length : Int) + (a4.length : Int)) = ((Y ++ a4).length : Int) := by rw [w64_of (by omega) (by omega)]; simp
      simp only [w1, app_some' (show Y.length + a4.length ≤ 4294967296 by omega), bnd_some', clone_some (show Y.length ≤ 4294967296 by omega), d1, d2]
      cases decide (4096 < ((Y ++ a4).length : Int)) with
      | true => exact ⟨_, rfl, rfl⟩
      | false =>
        cases more with
        | false => exact ⟨_, rfl, rfl⟩
        | true =>
          simp only [cond_false, cond_true, Bool.not_true, bnd_some']
          cases decide (4 ≤ (ys.length : Int)) with
          | true => exact ⟨_, rfl, rfl⟩
          | false =>
            simp only [cond_false, clone_some (show a2.length ≤ 4294967296 by omega), app_some' (show ([] : List UInt8).length + a2.length ≤ 4294967296 by simp; omega), bnd_some', List.nil_append]
            rw [app_some' (by simp; omega)]
            exact ⟨_, rfl, rfl⟩
  | some i =>
    obtain ⟨hi, ho, _⟩ := List.findIdx?_eq_some_iff_getElem.1 hf
    obtain ⟨o1, o2⟩ := own_iff.1 ho
    simp only [posOf]
    have hget : ys[i]? = some ys[i] := List.getElem?_eq_getElem hi
    have hidx : idx ys (i : Int) = some ys[i] := idx_some' hget
    have hxb := hyb ys[i] (List.getElem_mem hi)
    generalize ys[i] = x at hget hidx hxb o1 o2
    have d1 : decide ((i : Int) < 0) = false := decide_eq_false (by omega)
    have d2 : decide ((0 : Int) ≤ (i : Int)) = true := decide_eq_true (by omega)
    simp only [hidx, bnd_some', d1, d2]
    refine bndS_pair (fun Y => Y.length ≤ 4096) ?_ fun Y hY => ?_
    · cases decide (0 < num) with
      | false => exact .inr ⟨[], by simp, rfl, rfl⟩
      | true =>
        simp only [cond_true, cond_false, bnd_some', app_some' (show ([] : List UInt8).length + x.Data.length ≤ 4294967296 by simp; omega), List.nil_append]
        cases (x.Data.length : Int) != w64 (num * L) with
        | true => exact .inl ⟨_, rfl, rfl⟩
        | false => exact .inr ⟨x.Data, hxb.2, rfl, rfl⟩
    · have w1 : w64 ((Y.length : Int) + (a4.length : Int)) = ((Y ++ a4).length : Int) := by rw [w64_of (by omega) (by omega)]; simp
      simp only [w1, app_some' (show Y.length + a4.length ≤ 4294967296 by omega), bnd_some', clone_some (show Y.length ≤ 4294967296 by omega)]
      cases decide (4096 < ((Y ++ a4).length : Int)) with
      | true => exact ⟨_, rfl, rfl⟩
      | false =>
        have w2 : w64 ((i : Int) + 1) = ((i + 1 : Nat) : Int) := by rw [w64_of (by omega) (by omega)]; rfl
        have c0 : cut ys 0 (i : Int) = some ((ys.take i).drop 0) := cut_some' (lo := 0) (by omega) (by omega)
        have c1 : cut ys ((i + 1 : Nat) : Int) (ys.length : Int) = some ((ys.take ys.length).drop (i + 1)) := cut_some' (by omega) (by omega)
        cases more with
        | false =>
          simp only [cond_false, cond_true, Bool.not_false, bnd_some', w2, c0, c1]
          rw [app_some' (xs := ([] : List S_api_Partial)) (by simp; omega)]
          simp only [bnd_some', List.nil_append]
          rw [app_some' (by simp; omega)]
          exact ⟨_, rfl, rfl⟩
        | true =>
          simp only [cond_false, cond_true, Bool.not_true, bnd_some', clone_some (show a2.length ≤ 4294967296 by omega), app_some' (show ([] : List UInt8).length + a2.length ≤ 4294967296 by simp; omega), List.nil_append, Int.toNat_natCast]
          have g2 : idx (ys.set i { Peer := x.Peer, Key := x.Key, Data := Y ++ a4, Until := x.Until }) (i : Int) = some { Peer := x.Peer, Key := x.Key, Data := Y ++ a4, Until := x.Until } := idx_some' (by rw [List.getElem?_set_self hi])
          rw [g2]
          simp only [bnd_some', List.set_set, o1, o2]
          exact ⟨_, rfl, rfl⟩
theorem same_l1 : ∀ (rem pre : List S_api_Partial), m_coresecref18_Same_l1 (pre ++ rem) rem pre.length = some (Sum.inr ())
  | [], _ => rfl
  | x :: rem, pre => by
    rw [m_coresecref18_Same_l1]
    have e : idx (pre ++ x :: rem) ((pre.length : Nat) : Int) = some x := idx_some' (by simp)
    simp only [e, bnd_some', letm, bne_self_eq_false, cond_false]
    have ih := same_l1 rem (pre ++ [x])
    rw [List.append_assoc, List.singleton_append, List.length_append, List.length_singleton] at ih
    exact ih
theorem same_self (l : List S_api_Partial) : m_coresecref18_Same l l = some true := by
  unfold m_coresecref18_Same
  simp only [letm, bne_self_eq_false, cond_false]
  have := same_l1 l []
  simp only [List.nil_append, List.length_nil] at this
  rw [this]; rfl
end Go.Proofs.Ytaefnnamjphieaa
