/-
  A region that draws the order of its operations: each operation is looked at once, in whatever order. Over whatever program; no condition.
-/
import Derived.Test.YtbfkbakadpkgoaaGreatDoorLoop
import Derived.StillTail
namespace Go.Gk
open Go.RowKit
def dstOf (l : List Oper) (i : Nat) : Nat := ((l[i]?).bind (·.dst)).getD 0
def backB (l : List Oper) (n : Nat) : Bool := (List.range n).all fun i => match l[i]? with
 | some o => o.after.all (fun e => !Region.binds .any e || decide (e.on < i)) && o.dst.isSome && (List.range i).all (fun j => dstOf l j != dstOf l i)
 | none => false
def tailB (l : List Oper) (n : Nat) : Bool := (List.range l.length).all fun t => decide (t < n) || (List.range t).all (fun j => Region.waitsFor .any l.toArray t j)
def firstN (l : List Oper) (n : Nat) : Array Bool := ((List.range l.length).map fun i => decide (i < n)).toArray
def drawB (l : List Oper) (n : Nat) (F : List (Nat × Value)) : Bool :=
 decide (n ≤ l.length) && backB l n && tailB l n && Region.seqB .any l.toArray (l.length - n) n (firstN l n) && F.all fun p => (List.range n).all fun i => dstOf l i != p.1
def upd (L : Nat → Bool) (i : Nat) : Nat → Bool := fun j => if j = i then true else L j
def Ke (ks : List Nat) (lab : Lab) (w : World) (lab' : Lab) (w' : World) : Prop :=
 w.heap.size ≤ w'.heap.size ∧ ∀ b, b < w.heap.size → ks.contains (lab b) = false → lab' b = lab b ∧ w'.heap[b]? = w.heap[b]?
theorem Ke.refl {ks : List Nat} {lab : Lab} {w : World} : Ke ks lab w lab w := ⟨Nat.le_refl _, fun _ _ _ => ⟨rfl, rfl⟩⟩
theorem Ste.ke {ks : List Nat} {lab lab' : Lab} {w w' : World} {k : Nat} (e : Ste lab k w lab' w') (hk : ks.contains k = true) : Ke ks lab w lab' w' :=
 ⟨e.size, fun b hb h => ⟨e.same b hb, e.block b hb (.inr fun h' => by rw [h', hk] at h; cases h)⟩⟩
theorem Ke.keeps {ks : List Nat} {lab lab' : Lab} {w w' : World} (h : Ke ks lab w lab' w') (h0 : ks.contains 0 = false) : Keeps lab w lab' w' :=
 ⟨h.1, fun b hb hl => by obtain ⟨h1, h2⟩ := h.2 b hb (by rw [hl]; exact h0); exact ⟨h1.trans hl, h2⟩⟩
theorem Ke.mask {ks : List Nat} {lab lab' : Lab} {w w' : World} {q : Nat} (h : Ke ks lab w lab' w') (h0 : ks.contains 0 = false) (hq : ks.contains q = false) : Keeps (mask lab q) w (mask lab' q) w' :=
 ⟨h.1, fun b hb hl => by
  unfold Gk.mask at hl ⊢
  by_cases hbq : lab b = q
  ·obtain ⟨h1, h2⟩ := h.2 b hb (by rw [hbq]; exact hq)
   exact ⟨by rw [h1, if_pos hbq], h2⟩
  ·rw [if_neg hbq] at hl
   obtain ⟨h1, h2⟩ := h.2 b hb (by rw [hl]; exact h0)
   exact ⟨by rw [h1, if_neg hbq]; exact hl, h2⟩⟩
theorem Own.ke {α : Type} {ρ : Rep α} {ks : List Nat} {lab lab' : Lab} {w w' : World} {k E c : Nat} {oa : Option Addr} {xs : List α} (o : Own ρ lab w k E oa c xs) (h : Ke ks lab w lab' w') (h0 : ks.contains 0 = false) (hk : ks.contains k = false) : Own ρ lab' w' k E oa c xs := by
 obtain ⟨css, h1, h2⟩ := o
 refine ⟨css, h1.keep (h.keeps h0), ?_⟩
 rcases h2 with h2 | ⟨g, cur, ha, hg, h3, h4, h5, h6, h7⟩
 ·exact .inl h2
 ·have hlt : g < w.heap.size := (Array.getElem?_eq_some_iff.1 hg).1
  obtain ⟨e1, e2⟩ := h.2 g hlt (by rw [h7]; exact hk)
  exact .inr ⟨g, cur, ha, e2.trans hg, h3, h4, h5, h6, e1.trans h7⟩
theorem Box.ke {ks : List Nat} {lab lab' : Lab} {w w' : World} {k g T : Nat} {cs : List Value} (b : Box lab w k g T cs) (h : Ke ks lab w lab' w') (hk : ks.contains k = false) : Box lab' w' k g T cs := by
 obtain ⟨e1, e2⟩ := h.2 g b.lt (by rw [b.2]; exact hk)
 exact ⟨e2.trans b.1, e1.trans b.2⟩
def OpOb (ks : Nat → List Nat) (P : Program) (N : Nat) (l : List Oper) (n : Nat) (F0 : List (Nat × Value)) (R : Nat → (Nat → Bool) → Lab → World → Value → Prop) (Q : (Nat → Bool) → Lab → World → Prop) (i : Nat) : Prop :=
 ∀ (o : Oper) (L : Nat → Bool) (F : List (Nat × Value)) (lab : Lab) (w : World), l[i]? = some o → L i = false → (∀ j, Region.waitsFor .any l.toArray i j = true → L j = true) → (∀ j j', Region.waitsFor .any l.toArray j j' = true → L j = true → L j' = true) →
  (∀ t v, look F0 t = some v → look F t = some v) → (∀ j, j < n → L j = true → ∃ v, look F (dstOf l j) = some v ∧ R j L lab w v) → Q L lab w →
  LW P N l.toArray [o] F w (fun e a' w' => e = .normal ∧ ∃ lab' v, Sat ((dstOf l i, v) :: F) N a' ∧ R i (upd L i) lab' w' v ∧ Ke (ks i) lab w lab' w' ∧ Q (upd L i) lab' w')
theorem Ste.draw {lab : Lab} {w : World} (t : Top lab w) (m : Nat) : Ste lab 0 w lab { w with drawn := m } := ⟨rfl, rfl, rfl, Nat.le_refl _, fun _ _ _ => rfl, fun _ _ => rfl, t⟩
section
variable {P : Program} {N : Nat} {F0 : List (Nat × Value)} {w : World} {K : Kont} {lab : Lab}
theorem getD_set' (L : Array Bool) (i j : Nat) (b : Bool) (hi : i < L.size) : (L.setIfInBounds i true).getD j b = if j = i then true else L.getD j b := by
 by_cases h : j = i
 ·subst h; simp [hi]
 ·have : i ≠ j := fun e => h e.symm
  simp [h, this, Array.getElem?_setIfInBounds]
def Lf (listed : Array Bool) : Nat → Bool := fun i => listed.getD i false
theorem wpOp_of_LW {l : List Oper} {i : Nat} {o : Oper} {F : List (Nat × Value)} {a : Act} {K' : Act → World → Prop} {kk : Kont} (ho : l[i]? = some o) (ha : Sat F N a) (h : LW P N l.toArray [o] F w kk)
  (hk : ∀ e a' w', kk e a' w' → e = .normal ∧ K' a' w') : wpOp P l.toArray K i K' a w := by
 have hw := h a ha
 unfold wpList at hw
 unfold wpOp
 simp only [List.getElem?_toArray, ho]
 split
 ·rename_i hwant
  rw [if_pos hwant] at hw
  rcases hw with hw | ⟨_, a', w', hq⟩
  ·refine .inl ?_
   unfold Oper.wp at hw ⊢
   generalize (execOp a.eval o).run P w = q at hw ⊢
   have nx : ∀ a' w', wpList P l.toArray kk [] a' w' → K' a' w' := fun a' w' hh => (hk _ _ _ hh).2
   cases q with
   | ok nxt w' =>
    cases nxt <;> simp only [Oper.upon] at hw ⊢ <;> first | exact nx _ _ hw | (refine hw.mono fun e w'' he => ?_; cases e with | returned v => exact nx _ _ he | panicked c => exact absurd (hk _ _ _ he).1 (by simp) | outgrown => exact (let ⟨a', w', hq⟩ := (show LetsOut kk from he); absurd (hk _ _ _ hq).1 (by simp))) | exact hw.mono fun _ _ he => nx _ _ he | exact hw
   | halt x w' =>
    cases x <;> simp only [Oper.upon] at hw ⊢ <;> first | exact hw | (obtain ⟨h0, _⟩ := hk _ _ _ hw; cases h0)
  ·obtain ⟨h0, _⟩ := hk _ _ _ hq; cases h0
 ·rename_i hwant
  rw [if_neg hwant] at hw
  exact (hk _ _ _ hw).2
theorem beq_false {a b : Nat} (h : a ≠ b) : Nat.beq a b = false := by
 cases hb : Nat.beq a b with
 | false => rfl
 | true => exact absurd (Nat.eq_of_beq_eq_true hb) h
theorem look_mem : ∀ {F : List (Nat × Value)} {t : Nat} {u : Value}, look F t = some u → ∃ p ∈ F, p.1 = t
 | [], _, _, h => by simp [look] at h
 | p :: r, t, u, h => by
  unfold look at h
  split at h
  ·rename_i hbq; exact ⟨p, by simp, Nat.eq_of_beq_eq_true hbq⟩
  ·obtain ⟨q, hq, he⟩ := look_mem h; exact ⟨q, by simp [hq], he⟩
structure HI (l : List Oper) (n : Nat) (listed : Array Bool) : Prop where
 size : listed.size = l.length
 closed : ∀ j j', Region.waitsFor .any l.toArray j j' = true → Lf listed j = true → Lf listed j' = true
 tail : ∀ j, n ≤ j → Lf listed j = false
def cnt (n : Nat) (L : Nat → Bool) : Nat := ((List.range n).filter fun i => !L i).length
theorem cnt_upd {n i : Nat} {L : Nat → Bool} (hi : i < n) (h : L i = false) : cnt n (upd L i) + 1 = cnt n L := by
 unfold cnt
 induction n with
 | zero => omega
 | succ n ih =>
  rw [List.range_succ, List.filter_append, List.filter_append, List.length_append, List.length_append]
  by_cases hin : i = n
  ·subst hin
   have e : (List.range i).filter (fun j => !upd L i j) = (List.range i).filter fun j => !L j := by
    apply List.filter_congr
    intro j hj
    have : j ≠ i := by have := List.mem_range.1 hj; omega
    simp [upd, this]
   rw [e]
   simp [upd, h]
  ·have := ih (by omega)
   have e : upd L i n = L n := by unfold upd; rw [if_neg (fun e => hin e.symm)]
   simp only [List.filter_cons, List.filter_nil, e]
   omega
theorem cnt_zero {n : Nat} {L : Nat → Bool} (h : cnt n L = 0) : ∀ i, i < n → L i = true := fun i hi => by
 unfold cnt at h
 have := List.eq_nil_of_length_eq_zero h
 have h2 := List.filter_eq_nil_iff.1 this i (List.mem_range.2 hi)
 simpa using h2
def Dn (l : List Oper) (L : Nat → Bool) (i p : Nat) : Prop := L i = false ∧ L p = true ∧ ∀ a b, Region.waitsFor .any l.toArray a b = true → L a = true → L b = true
def pathB (l : List Oper) : Nat → List Nat → Nat → Bool
 | p, [], c => Region.waitsFor .any l.toArray p c
 | p, q :: qs, c => Region.waitsFor .any l.toArray p q && pathB l q qs c
theorem Dn.no {l : List Oper} {L : Nat → Bool} {c p : Nat} (h : Dn l L c p) (path : List Nat) (hp : pathB l p path c = true) : False := by
 obtain ⟨h1, h2, h3⟩ := h
 have : ∀ (path : List Nat) (p : Nat), L p = true → pathB l p path c = true → L c = true := by
  intro path
  induction path with
  | nil => intro p h2 hp; exact h3 _ _ hp h2
  | cons q qs ih =>
   intro p h2 hp
   simp only [pathB, Bool.and_eq_true] at hp
   exact ih q (h3 _ _ hp.1 h2) hp.2
 rw [this path p h2 hp] at h1; cases h1
theorem head_any {ks : Nat → List Nat} {l : List Oper} {n : Nat} {R : Nat → (Nat → Bool) → Lab → World → Value → Prop} {Q : (Nat → Bool) → Lab → World → Prop} (hchk : drawB l n F0 = true)
  (hst : ∀ j i L lab w lab' w' v, i ≠ j → Dn l L i j → Ke (ks i) lab w lab' w' → R j L lab w v → R j (upd L i) lab' w' v) (hop : ∀ i, i < n → OpOb ks P N l n F0 R Q i)
  (htail : ∀ F lab2 w2, (∀ t v, look F0 t = some v → look F t = some v) → (∀ i, i < n → ∃ v, look F (dstOf l i) = some v ∧ R i (fun j => decide (j < n)) lab2 w2 v) → Q (fun j => decide (j < n)) lab2 w2 → LW P N l.toArray (l.drop n) F w2 K) :
  ∀ (m : Nat) (listed : Array Bool) (a : Act) (F : List (Nat × Value)) (lab : Lab) (w : World), HI l n listed → cnt n (Lf listed) = m → Sat F N a → (∀ t v, look F0 t = some v → look F t = some v) →
   (∀ i, i < n → Lf listed i = true → ∃ v, look F (dstOf l i) = some v ∧ R i (Lf listed) lab w v) → Q (Lf listed) lab w → wpAny P .any l.toArray K (m + (l.length - n)) listed a w := by
 simp only [drawB, Bool.and_eq_true, decide_eq_true_eq] at hchk
 obtain ⟨⟨⟨⟨hn, hback⟩, htl⟩, hseq⟩, hF⟩ := hchk
 intro m
 induction m with
 | zero =>
  intro listed a F lab w inv hc ha hb hr hq
  have hall := cnt_zero hc
  have hL : Lf listed = fun j => decide (j < n) := by
   funext j
   rcases Nat.lt_or_ge j n with h | h
   ·rw [hall j h]; simp [h]
   ·rw [inv.tail j h]; simp; omega
  have hlisted : listed = firstN l n := by
   apply Array.ext
   ·simp [firstN, inv.size]
   ·intro j h1 h2
    have := congrFun hL j
    simp only [Lf] at this
    rw [Array.getD_eq_getD_getElem?, Array.getElem?_eq_getElem h1] at this
    simp at this
    simp [firstN, this]
  rw [hL] at hq hr
  have := htail F lab w hb (fun i hi => hr i hi (by simp [hi])) hq a ha
  have h2 := wpAny_of_seq (md := .any) (Q' := K) (l.drop n) n listed a w (fun j => by simp [List.getElem?_drop]) (by rw [List.length_drop, hlisted]; exact hseq) this
  simpa using h2
 | succ m ih =>
  intro listed a F lab w inv hc ha hb hr hq
  rw [show m + 1 + (l.length - n) = (m + (l.length - n)) + 1 by omega]
  -- some operation of the head is left: the least is ready
  have hex : ∃ i, i < n ∧ Lf listed i = false := by
   apply Classical.byContradiction
   intro hno
   have : cnt n (Lf listed) = 0 := by
    unfold cnt
    rw [List.length_eq_zero_iff, List.filter_eq_nil_iff]
    intro i hi
    have := List.mem_range.1 hi
    by_cases h : Lf listed i = true
    ·simp [h]
    ·exact absurd ⟨i, this, by simpa using h⟩ hno
   omega
  obtain ⟨i0, hi0⟩ := hex
  obtain ⟨k, ⟨hkn, hk0⟩, hmin⟩ := least (p := fun i => i < n ∧ Lf listed i = false) i0 hi0
  have hklt : k < l.length := by omega
  have hback' := fun i (hi : i < n) => List.all_eq_true.1 hback i (List.mem_range.2 hi)
  have hready : k ∈ Region.ready .any l.toArray listed := by
   refine mem_ready.2 ⟨getD_in (by rw [inv.size]; exact hklt) hk0, l[k], by simp [hklt], fun e he hbnd => ?_⟩
   have := hback' k hkn
   rw [List.getElem?_eq_getElem hklt] at this
   simp only [Bool.and_eq_true] at this
   have h2 := Array.all_eq_true_iff_forall_mem.1 this.1.1 e he
   simp [hbnd] at h2
   apply Classical.byContradiction
   intro hne
   have : Lf listed e.on = false := by unfold Lf; simpa using hne
   have := hmin e.on ⟨by omega, this⟩
   omega
  refine ⟨fun h0 => (by rw [h0] at hready; cases hready), fun i hi => ?_⟩
  obtain ⟨hil, o, hio, hie⟩ := mem_ready.1 hi
  have hio' : l[i]? = some o := by simpa using hio
  have hilt : i < l.length := (List.getElem?_eq_some_iff.1 hio').1
  have hiL : Lf listed i = false := getD_both hil
  have hwait : ∀ j, Region.waitsFor .any l.toArray i j = true → Lf listed j = true := fun j hj => by
   obtain ⟨o', ho', e, he, hbnd, hon⟩ := Region.waitsFor_spec hj
   have : o' = o := Option.some.inj (ho'.symm.trans hio)
   subst this; subst hon
   exact hie e he hbnd
  have hin : i < n := by
   rcases Nat.lt_or_ge i n with h | h
   ·exact h
   ·have := List.all_eq_true.1 htl i (List.mem_range.2 hilt)
    simp only [Bool.or_eq_true, decide_eq_true_eq] at this
    rcases this with h' | h'
    ·omega
    ·have := List.all_eq_true.1 h' k (List.mem_range.2 (by omega))
     rw [hwait k this] at hk0; cases hk0
  refine wpOp_of_LW hio' ha (hop i hin o (Lf listed) F lab w hio' hiL hwait inv.closed hb hr hq) fun e a' w' hkk => ?_
  obtain ⟨h0, lab', v, hs, hR, hkeep, hq'⟩ := hkk
  refine ⟨h0, ?_⟩
  have hset : Lf (listed.setIfInBounds i true) = upd (Lf listed) i := by
   funext j; unfold Lf upd; exact getD_set' listed i j false (by rw [inv.size]; exact hilt)
  refine ih _ _ ((dstOf l i, v) :: F) lab' w' ⟨by simp [inv.size], fun j j' hj hl => ?_, fun j hj => ?_⟩ ?_ hs (fun t u ht => ?_) (fun j hj hl => ?_) (by rw [hset]; exact hq')
  ·rw [hset] at hl ⊢
   unfold upd at hl ⊢
   by_cases hji : j = i
   ·subst hji
    by_cases hj'i : j' = j
    ·simp [hj'i]
    ·simp [hj'i, hwait j' hj]
   ·rw [if_neg hji] at hl
    by_cases hj'i : j' = i
    ·simp [hj'i]
    ·simp [hj'i, inv.closed j j' hj hl]
  ·rw [hset]; unfold upd; rw [if_neg (by omega)]; exact inv.tail j hj
  ·have := cnt_upd hin hiL; rw [hset]; omega
  ·have h1 := hb t u ht
   unfold look
   have hne : Nat.beq (dstOf l i) t = false := by
    have hmem : ∃ p ∈ F0, p.1 = t := look_mem ht
    obtain ⟨p, hp, rfl⟩ := hmem
    have := List.all_eq_true.1 (List.all_eq_true.1 hF p hp) i (List.mem_range.2 hin)
    simp at this
    exact beq_false this
   simp [hne, h1]
  ·rw [hset] at hl
   unfold upd at hl
   by_cases hji : j = i
   ·subst hji
    exact ⟨v, by simp [look], by rw [hset]; exact hR⟩
   ·rw [if_neg hji] at hl
    obtain ⟨u, hu, hRj⟩ := hr j hj hl
    refine ⟨u, ?_, by rw [hset]; exact hst _ _ _ _ _ _ _ _ (fun e => hji e.symm) ⟨hiL, hl, inv.closed⟩ hkeep hRj⟩
    have hne : Nat.beq (dstOf l i) (dstOf l j) = false := by
     rcases Nat.lt_or_ge j i with h | h
     ·have := hback' i hin
      rw [hio'] at this
      simp only [Bool.and_eq_true] at this
      have := List.all_eq_true.1 this.2 j (List.mem_range.2 h)
      simp at this
      exact beq_false fun e => this e.symm
     ·have := hback' j hj
      rw [List.getElem?_eq_getElem (by omega)] at this
      simp only [Bool.and_eq_true] at this
      have := List.all_eq_true.1 this.2 i (List.mem_range.2 (by omega))
      simp at this
      exact beq_false this
    unfold look
    simp [hne, hu]
theorem CW.draw {ks : Nat → List Nat} {l : List Oper} {id : Nat} (hm : P.follows .mixedOrders = true) (n : Nat) (hchk : drawB l n F0 = true) (t : Top lab w)
  (h : ∀ w', Ste lab 0 w lab w' → ∃ (R : Nat → (Nat → Bool) → Lab → World → Value → Prop) (Q : (Nat → Bool) → Lab → World → Prop),
   (∀ j i L lab w lab' w' v, i ≠ j → Dn l L i j → Ke (ks i) lab w lab' w' → R j L lab w v → R j (upd L i) lab' w' v) ∧ Q (fun _ => false) lab w' ∧ (∀ i, i < n → OpOb ks P N l n F0 R Q i) ∧
   (∀ F lab2 w2, (∀ t v, look F0 t = some v → look F t = some v) → (∀ i, i < n → ∃ v, look F (dstOf l i) = some v ∧ R i (fun j => decide (j < n)) lab2 w2 v) → Q (fun j => decide (j < n)) lab2 w2 → LW P N l.toArray (l.drop n) F w2 K)) :
  CW P N (.region id l.toArray true) F0 w K := fun a ha => by
 obtain ⟨R, Q, hst, hq, hop, htail⟩ := h _ (Ste.draw t (w.drawn + 1))
 have hn : n ≤ l.length := by
  simp only [drawB, Bool.and_eq_true, decide_eq_true_eq] at hchk; exact hchk.1.1.1.1
 refine wp_region_any hm ?_
 have hL : Lf (Array.replicate l.toArray.size false) = fun _ => false := by
  funext j; unfold Lf; exact getD_replicate_false _ _
 have := head_any hchk hst hop htail n (Array.replicate l.toArray.size false) a F0 lab { w with drawn := w.drawn + 1 } ⟨by simp, fun j j' _ h => (by rw [hL] at h; cases h), fun j _ => by rw [hL]⟩
  (by rw [hL]; unfold cnt; rw [List.filter_eq_self.2 (by simp)]; simp) ha (fun _ _ h => h) (fun i _ h => (by rw [hL] at h; cases h)) (by rw [hL]; exact hq)
 rw [show n + (l.length - n) = l.toArray.size by simp; omega] at this
 exact this
abbrev Rr := (Nat → Bool) → Lab → World → Value → Prop
def Rof (Rs : List Rr) (i : Nat) (L : Nat → Bool) (lab : Lab) (w : World) (v : Value) : Prop :=
 match Rs[i]? with
 | some r => r L lab w v
 | none => True
def StabAll (ks : Nat → List Nat) (l : List Oper) : Nat → List Rr → Prop
 | _, [] => True
 | p, r :: rs => (∀ i L lab w lab' w' v, i ≠ p → Dn l L i p → Ke (ks i) lab w lab' w' → Keeps lab w lab' w' → r L lab w v → r (upd L i) lab' w' v) ∧ StabAll ks l (p + 1) rs
theorem StabAll.get {ks : Nat → List Nat} {l : List Oper} (h0 : ∀ i, (ks i).contains 0 = false) : ∀ {p : Nat} {Rs : List Rr}, StabAll ks l p Rs → ∀ j i L lab w lab' w' v, i ≠ p + j → Dn l L i (p + j) → Ke (ks i) lab w lab' w' → Rof Rs j L lab w v → Rof Rs j (upd L i) lab' w' v
 | _, [], _, _, _, _, _, _, _, _, _, _, _, _, _ => trivial
 | _, _ :: _, h, 0, _, _, _, _, _, _, _, hne, hd, hk, hr => h.1 _ _ _ _ _ _ _ hne hd hk (hk.keeps (h0 _)) hr
 | p, _ :: _, h, j + 1, i, L, lab, w, lab', w', v, hne, hd, hk, hr => StabAll.get h0 h.2 j i L lab w lab' w' v (by omega) (by rw [show p + 1 + j = p + (j + 1) by omega]; exact hd) hk hr
theorem evs_cons {F : List (Nat × Value)} {x : Operand} {xs : List Operand} {v : Value} {vs : List Value} (h : ev F x = some v) (hs : evs F xs = some vs) : evs F (x :: xs) = some (v :: vs) := by
 simp [evs, h, hs]
theorem Keeps.rfl' {lab : Lab} {w : World} : Keeps lab w lab w := ⟨Nat.le_refl _, fun _ _ h => ⟨h, rfl⟩⟩
theorem Cx.mask {pts : List Nat} {w0 : World} {lab0 : Lab} {k : Nat} (h : Cx pts w0 lab0 w lab) (hk : Nat.ble 2 k = true) : Cx pts w0 lab0 w (Gk.mask lab k) :=
 ⟨h.os, h.tape, h.output, h.size, h.block, fun b hb hp => by
  have hk' : 2 ≤ k := by simpa using hk
  have h1 := h.low b hb hp
  have h2 := lin_le lab0 b
  unfold Gk.mask
  rw [if_neg (by omega), h1], h.top.mask⟩
theorem Box.mask {k k' g : Nat} {T : TypeId} {cs : List Value} (b : Box lab w k g T cs) (h : Nat.beq k k' = false) : Box (Gk.mask lab k') w k g T cs := ⟨b.1, by
 have hne : k ≠ k' := fun e => by subst e; simp at h
 have := b.2
 unfold Gk.mask; rw [if_neg (by omega)]; exact this⟩
theorem Own.mask {α : Type} {ρ : Rep α} {k k' E c : Nat} {oa : Option Addr} {xs : List α} (o : Own ρ lab w k E oa c xs) (h : Nat.beq k k' = false) : Own ρ (Gk.mask lab k') w k E oa c xs := by
 have hne : k ≠ k' := fun e => by subst e; simp at h
 obtain ⟨css, h1, h2⟩ := o
 refine ⟨css, h1.keep Keeps.mask, ?_⟩
 rcases h2 with h2 | ⟨g, cur, ha, hg, h3, h4, h5, h6, h7⟩
 ·exact .inl h2
 ·exact .inr ⟨g, cur, ha, hg, h3, h4, h5, h6, by unfold Gk.mask; rw [if_neg (by omega)]; exact h7⟩
def linp (lab : Lab) (g : Nat) : Lab := fun b => if b = g then 2 else lin lab b
theorem Cx.startP {kp g : Nat} {T : TypeId} {cs : List Value} (t : Top lab w) (b : Box lab w kp g T cs) : Cx [g] w lab w (linp lab g) :=
 ⟨rfl, rfl, rfl, Nat.le_refl _, fun _ _ _ => rfl, fun b _ hp => by simp at hp; simp [linp, hp], fun c hc => by
  have := b.lt
  have hne : c ≠ g := by omega
  simp [linp, hne, lin, t c hc]⟩
theorem Box.inP {kp g : Nat} {T : TypeId} {cs : List Value} (b : Box lab w kp g T cs) : Box (linp lab g) w 2 g T cs := ⟨b.1, by simp [linp]⟩
theorem Keeps.linp {kp g : Nat} {T : TypeId} {cs : List Value} (b : Box lab w kp g T cs) (hk : Nat.beq kp 0 = false) : Keeps lab w (linp lab g) w := by
 refine ⟨Nat.le_refl _, fun c _ h => ⟨?_, rfl⟩⟩
 have hne : c ≠ g := fun e => by subst e; have := b.2; rw [h] at this; subst this; simp at hk
 simp [Gk.linp, hne, Gk.lin, h]
section
variable {w0 w' : World} {lab0 : Lab} {kp g : Nat} {T T' : TypeId} {cs cs' : List Value}
theorem Box.out {k : Nat} (b : Box lab w k g T cs) (h : Cx [] w0 lab0 w lab) (t : Top lab0 w0) (hk : Nat.ble 2 k = true) (k' : Nat) : ∃ lab', Ste lab0 0 w0 lab' w ∧ Box lab' w k' g T cs ∧ Keeps lab w lab' w := by
 have hk' : 2 ≤ k := by simpa using hk
 have hge : w0.heap.size ≤ g := by
  rcases Nat.lt_or_ge g w0.heap.size with hl | hl
  ·have := h.low g hl (by simp)
   have := lin_le lab0 g
   have := b.2
   omega
  ·exact hl
 have hlt := b.lt
 have hs := h.ste t
 have hk2 := h.keeps t
 refine ⟨relab lab0 g k', ⟨hs.os, hs.tape, hs.output, hs.size, hs.block, fun c hc => by unfold relab; rw [if_neg (by omega)], fun c hc => by unfold relab; rw [if_neg (by omega)]; exact t c (Nat.le_trans h.size hc)⟩, ⟨b.1, by simp [relab]⟩, ⟨Nat.le_refl _, fun c hc h0 => ⟨?_, rfl⟩⟩⟩
 have hne : c ≠ g := fun e => by subst e; have := b.2; omega
 unfold relab
 rw [if_neg hne]
 exact (hk2.2 c hc h0).1
end
end
end Go.Gk
