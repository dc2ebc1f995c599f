/-
  The evaluator of a region that draws its order: the head is run in the text's order, and a check of pairs says that any order gives the same. Over whatever program; no condition.
-/
import Derived.Test.YtbfkbakadpkgoaaGreatDoorYRg
namespace Go.Gk
open Go.RowKit
section
variable {P : Program} {N : Nat} {K : Kont}
def edgB (l : List Oper) (n : Nat) : Bool := (List.range n).all fun i => match l[i]? with
 | some o => o.after.all (fun e => !Region.binds .any e || decide (e.on < i))
 | none => false
def dstB (l : List Oper) (n : Nat) : Bool := (List.range n).all fun i => match l[i]? with
 | some o => match o.dst with
  | some d => (List.range i).all fun j => match l[j]? with
   | some o' => match o'.dst with | some d' => !Nat.beq d' d | none => true
   | none => true
  | none => true
 | none => true
theorem head_inv {l : List Oper} {n : Nat} {I : (Nat → Bool) → List (Nat × Value) → World → Prop} (hn : n ≤ l.length) (hback : edgB l n = true) (htl : tailB l n = true) (hseq : Region.seqB .any l.toArray (l.length - n) n (firstN l n) = true)
  (hop : ∀ i, i < n → ∀ o L F w, l[i]? = some o → L i = false → (∀ j, Region.waitsFor .any l.toArray i j = true → L j = true) → (∀ j j', Region.waitsFor .any l.toArray j j' = true → L j = true → L j' = true) → (∀ j, n ≤ j → L j = false) → I L F w →
   LW P N l.toArray [o] F w (fun e a' w' => e = .normal ∧ ∃ F', Sat F' N a' ∧ I (upd L i) F' w'))
  (htail : ∀ F w, I (fun j => decide (j < n)) F w → LW P N l.toArray (l.drop n) F w K) :
  ∀ (m : Nat) (listed : Array Bool) (a : Act) (F : List (Nat × Value)) (w : World), HI l n listed → cnt n (Lf listed) = m → Sat F N a → I (Lf listed) F w → wpAny P .any l.toArray K (m + (l.length - n)) listed a w := by
 intro m
 induction m with
 | zero =>
  intro listed a F w inv hc ha hq
  have hall := cnt_zero hc
  have hL : Lf listed = fun j => decide (j < n) := by
   funext j
   rcases Nat.lt_or_ge j n with h | h
   ·rw [hall j h]; simp [h]
   ·rw [inv.tail j h]; simp; omega
  have hlisted : listed = firstN l n := by
   apply Array.ext
   ·simp [firstN, inv.size]
   ·intro j h1 h2
    have := congrFun hL j
    simp only [Lf] at this
    rw [Array.getD_eq_getD_getElem?, Array.getElem?_eq_getElem h1] at this
    simp at this
    simp [firstN, this]
  rw [hL] at hq
  have := htail F w hq a ha
  have h2 := wpAny_of_seq (md := .any) (Q' := K) (l.drop n) n listed a w (fun j => by simp [List.getElem?_drop]) (by rw [List.length_drop, hlisted]; exact hseq) this
  simpa using h2
 | succ m ih =>
  intro listed a F w inv hc ha hq
  rw [show m + 1 + (l.length - n) = (m + (l.length - n)) + 1 by omega]
  have hex : ∃ i, i < n ∧ Lf listed i = false := by
   apply Classical.byContradiction
   intro hno
   have : cnt n (Lf listed) = 0 := by
    unfold cnt
    rw [List.length_eq_zero_iff, List.filter_eq_nil_iff]
    intro i hi
    have := List.mem_range.1 hi
    by_cases h : Lf listed i = true
    ·simp [h]
    ·exact absurd ⟨i, this, by simpa using h⟩ hno
   omega
  obtain ⟨i0, hi0⟩ := hex
  obtain ⟨k, ⟨hkn, hk0⟩, hmin⟩ := least (p := fun i => i < n ∧ Lf listed i = false) i0 hi0
  have hklt : k < l.length := by omega
  have hback' := fun i (hi : i < n) => List.all_eq_true.1 hback i (List.mem_range.2 hi)
  have hready : k ∈ Region.ready .any l.toArray listed := by
   refine mem_ready.2 ⟨getD_in (by rw [inv.size]; exact hklt) hk0, l[k], by simp [hklt], fun e he hbnd => ?_⟩
   have := hback' k hkn
   rw [List.getElem?_eq_getElem hklt] at this
   have h2 := Array.all_eq_true_iff_forall_mem.1 this e he
   simp [hbnd] at h2
   apply Classical.byContradiction
   intro hne
   have : Lf listed e.on = false := by unfold Lf; simpa using hne
   have := hmin e.on ⟨by omega, this⟩
   omega
  refine ⟨fun h0 => (by rw [h0] at hready; cases hready), fun i hi => ?_⟩
  obtain ⟨hil, o, hio, hie⟩ := mem_ready.1 hi
  have hio' : l[i]? = some o := by simpa using hio
  have hilt : i < l.length := (List.getElem?_eq_some_iff.1 hio').1
  have hiL : Lf listed i = false := getD_both hil
  have hwait : ∀ j, Region.waitsFor .any l.toArray i j = true → Lf listed j = true := fun j hj => by
   obtain ⟨o', ho', e, he, hbnd, hon⟩ := Region.waitsFor_spec hj
   have : o' = o := Option.some.inj (ho'.symm.trans hio)
   subst this; subst hon
   exact hie e he hbnd
  have hin : i < n := by
   rcases Nat.lt_or_ge i n with h | h
   ·exact h
   ·have := List.all_eq_true.1 htl i (List.mem_range.2 hilt)
    simp only [Bool.or_eq_true, decide_eq_true_eq] at this
    rcases this with h' | h'
    ·omega
    ·have := List.all_eq_true.1 h' k (List.mem_range.2 (by omega))
     rw [hwait k this] at hk0; cases hk0
  refine wpOp_of_LW hio' ha (hop i hin o (Lf listed) F w hio' hiL hwait inv.closed inv.tail hq) fun e a' w' hkk => ?_
  obtain ⟨h0, F', hs, hq'⟩ := hkk
  refine ⟨h0, ?_⟩
  have hset : Lf (listed.setIfInBounds i true) = upd (Lf listed) i := by
   funext j; unfold Lf upd; exact getD_set' listed i j false (by rw [inv.size]; exact hilt)
  refine ih _ _ F' w' ⟨by simp [inv.size], fun j j' hj hl => ?_, fun j hj => ?_⟩ ?_ hs (by rw [hset]; exact hq')
  ·rw [hset] at hl ⊢
   unfold upd at hl ⊢
   by_cases hji : j = i
   ·subst hji
    by_cases hj'i : j' = j
    ·simp [hj'i]
    ·simp [hj'i, hwait j' hj]
   ·rw [if_neg hji] at hl
    by_cases hj'i : j' = i
    ·simp [hj'i]
    ·simp [hj'i, inv.closed j j' hj hl]
  ·rw [hset]; unfold upd; rw [if_neg (by omega)]; exact inv.tail j hj
  ·have := cnt_upd hin hiL; rw [hset]; omega
end
def isIn (l : List Nat) (n : Nat) : Bool := hasN l n
theorem hasN_mem : ∀ {l : List Nat} {n : Nat}, hasN l n = true ↔ n ∈ l
 | [], n => by simp [hasN]
 | x :: r, n => by
  unfold hasN
  rw [Bool.or_eq_true, hasN_mem, List.mem_cons]
  constructor
  ·rintro (h | h)
   ·exact .inl (Nat.eq_of_beq_eq_true h).symm
   ·exact .inr h
  ·rintro (rfl | h)
   ·exact .inl (Nat.beq_refl _)
   ·exact .inr h
def meets : List Nat → List Nat → Bool
 | [], _ => false
 | x :: r, l => hasN l x || meets r l
theorem meets_ex : ∀ {a b : List Nat}, (∃ x, x ∈ a ∧ x ∈ b) → meets a b = true
 | [], _, ⟨x, h, _⟩ => by simp at h
 | y :: r, b, ⟨x, h, h2⟩ => by
  unfold meets
  rcases List.mem_cons.1 h with rfl | h
  ·rw [hasN_mem.2 h2]; rfl
  ·rw [meets_ex ⟨x, h, h2⟩, Bool.or_true]
def getL (l : List (List Nat)) (n : Nat) : List Nat := match nth l n with | some x => x | none => []
def addW (t : List (List Nat)) : List Nat → List Nat
 | [] => []
 | d :: r => match hasN (addW t r) d with
  | true => addW t r
  | false => d :: (getL t d ++ addW t r)
theorem addW_mem {t : List (List Nat)} {j : Nat} : ∀ {ds : List Nat}, j ∈ addW t ds → j ∈ ds ∨ ∃ k, k ∈ ds ∧ j ∈ getL t k
 | [], h => by simp [addW] at h
 | d :: r, h => by
  unfold addW at h
  have up : (j ∈ r ∨ ∃ k, k ∈ r ∧ j ∈ getL t k) → j ∈ d :: r ∨ ∃ k, k ∈ d :: r ∧ j ∈ getL t k := by
   rintro (h | ⟨k, h1, h2⟩)
   ·exact .inl (List.mem_cons_of_mem _ h)
   ·exact .inr ⟨k, List.mem_cons_of_mem _ h1, h2⟩
  split at h
  ·exact up (addW_mem h)
  ·rcases List.mem_cons.1 h with rfl | h
   ·exact .inl (by simp)
   ·rcases List.mem_append.1 h with h | h
    ·exact .inr ⟨d, by simp, h⟩
    ·exact up (addW_mem h)
def waitT (l : List Oper) : Nat → List (List Nat)
 | 0 => []
 | n + 1 =>
  let t := waitT l n
  let ds := (List.range n).filter fun j => Region.waitsFor .any l.toArray n j
  t ++ [addW t ds]
theorem waitT_len (l : List Oper) : ∀ n, (waitT l n).length = n
 | 0 => rfl
 | n + 1 => by simp [waitT, waitT_len l n]
theorem waitT_ok {l : List Oper} {L : Nat → Bool} (hc : ∀ j j', Region.waitsFor .any l.toArray j j' = true → L j = true → L j' = true) : ∀ n i j, j ∈ getL (waitT l n) i → (L i = true ∨ ∀ k, Region.waitsFor .any l.toArray i k = true → L k = true) → L j = true
 | 0, i, j, h, _ => by simp [waitT, getL, nth] at h
 | n + 1, i, j, h, hi => by
  have hl := waitT_len l n
  unfold getL at h
  rw [nth_eq] at h
  simp only [waitT] at h
  by_cases hin : i < n
  ·rw [List.getElem?_append_left (by omega)] at h
   have := waitT_ok hc n i j (by unfold getL; rw [nth_eq]; exact h) hi
   exact this
  ·by_cases hen : i = n
   ·subst hen
    rw [List.getElem?_append_right (by omega), hl, Nat.sub_self] at h
    simp only [List.getElem?_cons_zero] at h
    have hi' : ∀ k, Region.waitsFor .any l.toArray i k = true → L k = true := fun k hk => by
     rcases hi with hi | hi
     ·exact hc _ _ hk hi
     ·exact hi k hk
    rcases addW_mem h with h | ⟨k, hk, hj⟩
    ·exact hi' j (List.mem_filter.1 h).2
    ·exact waitT_ok hc i k j hj (.inl (hi' k (List.mem_filter.1 hk).2))
   ·rw [List.getElem?_eq_none (by simp [hl]; omega)] at h
    simp at h
def opX : Op → List Operand
 | .move x => [x] | .assign x => [x] | .pick c x y => [c, x, y] | .box _ x => [x] | .fieldAddr _ x _ => [x] | .nilCheck x => [x] | .load _ x => [x] | .store _ x y => [x, y]
 | .binOp _ _ x y _ => [x, y] | .unOp _ _ x => [x] | .convert _ _ x => [x] | .build _ ps => ps.toList.map (·.2) | .buildSlice _ _ ps => ps.toList.map (·.2) | .makeSlice _ x _ => [x]
 | .slice _ x lo hi mx => x :: (lo.toList ++ (hi.toList ++ mx.toList)) | .indexAddr _ x y => [x, y] | .index _ x y => [x, y] | .lookup _ x y _ => [x, y] | .mapUpdate _ x y z => [x, y, z] | .extract x _ => [x] | .field _ x _ => [x] | .makeFunc _ _ caps => caps.toList
 | .call c => c.args.toList ++ (match c.callee with | .value f => [f] | _ => [])
 | _ => []
def tmps : List Operand → List Nat
 | [] => []
 | .tmp t :: r => t :: tmps r
 | _ :: r => tmps r
theorem tmps_mem : ∀ {l : List Operand} {t : Nat}, Operand.tmp t ∈ l → t ∈ tmps l
 | [], t, h => by simp at h
 | x :: r, t, h => by
  rcases List.mem_cons.1 h with rfl | h
  ·simp [tmps]
  ·have := tmps_mem h
   cases x <;> simp [tmps, this]
section
variable {P : Program} {ps ps' : PS}
theorem resL_congr : ∀ {xs : List Operand}, (∀ x ∈ xs, resO ps x = resO ps' x) → resL ps xs = resL ps' xs
 | [], _ => rfl
 | x :: xs, h => by unfold resL; rw [h x (by simp), resL_congr fun y hy => h y (by simp [hy])]
theorem resP_congr : ∀ {xs : List (Nat × Operand)}, (∀ x ∈ xs.map (·.2), resO ps x = resO ps' x) → resP ps xs = resP ps' xs
 | [], _ => rfl
 | (i, x) :: xs, h => by unfold resP; rw [h x (by simp), resP_congr fun y hy => h y (by simp at hy ⊢; exact .inr hy)]
theorem opI_congr {x : Option Operand} (h : ∀ y ∈ x.toList, resO ps y = resO ps' y) : opI ps x = opI ps' x := by
 cases x with
 | none => rfl
 | some x => simp only [opI, h x (by simp)]
theorem evOp_congr {T : Tab P} {own rng : List Nat} {dst : Option Nat} {op : Op} (hn : ps.nxt = ps'.nxt) (h : ∀ x ∈ opX op, resO ps x = resO ps' x) : evOp T own rng ps dst op = evOp T own rng ps' dst op := by
 cases op <;> cases dst <;> first | rfl | skip
 case move.some x d => simp only [evOp]; rw [h x (by simp [opX])]
 case assign.some x d => simp only [evOp]; rw [h x (by simp [opX])]
 case pick.some c x y d => simp only [evOp]; rw [h c (by simp [opX]), h x (by simp [opX]), h y (by simp [opX])]
 case alloc.some t d => simp only [evOp, hn]
 case box.some t x d => simp only [evOp, hn]; rw [h x (by simp [opX])]
 case fieldAddr.some t x f d => simp only [evOp]; rw [h x (by simp [opX])]
 case nilCheck.some x d => simp only [evOp]; rw [h x (by simp [opX])]
 case load.some t x d => simp only [evOp, hn]; rw [h x (by simp [opX])]
 case store.none t x y => simp only [evOp, hn]; rw [h x (by simp [opX]), h y (by simp [opX])]
 case binOp.some o t x y t' d => simp only [evOp]; rw [h x (by simp [opX]), h y (by simp [opX])]
 case unOp.some o t x d => cases o <;> first | rfl | (simp only [evOp]; rw [h x (by simp [opX])])
 case convert.some s t x d => simp only [evOp]; rw [h x (by simp [opX])]
 case build.some t ps0 d => simp only [evOp]; rw [resP_congr (by simpa [opX] using h)]
 case field.some t x f d => simp only [evOp]; rw [h x (by simp [opX])]
 case makeFunc.none fn fs caps => cases fn <;> rfl
 case makeFunc.some fn fs caps d => cases fn <;> first | rfl | (simp only [evOp]; rw [resL_congr (by simpa [opX] using h)])
 case buildSlice.some t n ps0 d => simp only [evOp, hn]; rw [resP_congr (by simpa [opX] using h)]
 case makeSlice.some t x y d => simp only [evOp, hn]; rw [h x (by simp [opX])]
 case slice.some t x lo hi mx d =>
  cases mx with
  | none => simp only [evOp, hn]; rw [h x (by simp [opX]), opI_congr (x := lo) (fun y hy => h y (by simp [opX] at hy ⊢; exact .inr (.inl hy))), opI_congr (x := hi) (fun y hy => h y (by simp [opX] at hy ⊢; exact .inr (.inr hy)))]
  | some m =>
   cases lo with
   | some _ => cases hi <;> rfl
   | none =>
    cases hi with
    | none => rfl
    | some q => simp only [evOp]; rw [h x (by simp [opX]), h q (by simp [opX]), h m (by simp [opX])]
 case unOp.none o t x => cases o <;> rfl
 case slice.none t x lo hi mx => cases mx <;> cases lo <;> cases hi <;> rfl
 case index.some t x y d => simp only [evOp]; rw [h x (by simp [opX]), h y (by simp [opX])]
 case indexAddr.some t x y d => simp only [evOp]; rw [h x (by simp [opX]), h y (by simp [opX])]
 case makeMap.some t r d => cases r <;> simp only [evOp, hn]
 case makeMap.none t r => cases r <;> rfl
 case lookup.some t x y ok d => simp only [evOp]; rw [h x (by simp [opX]), h y (by simp [opX])]
 case mapUpdate.none t x y z => simp only [evOp]; rw [h x (by simp [opX]), h y (by simp [opX]), h z (by simp [opX])]
 case extract.some x i d => simp only [evOp]; rw [h x (by simp [opX])]
 case call.some c d =>
  have hL : ∀ l, c.args.toList = l → resL ps l = resL ps' l := fun l hl => resL_congr fun x hx => h x (by simp only [opX]; rw [hl]; exact List.mem_append_left _ hx)
  have h1 : ∀ x, x ∈ c.args.toList → resO ps x = resO ps' x := fun x hx => h x (by simp only [opX]; exact List.mem_append_left _ hx)
  have h2 : ∀ f, c.callee = .value f → resO ps f = resO ps' f := fun f hf => h f (by simp only [opX]; rw [hf]; exact List.mem_append_right _ (List.mem_singleton.2 rfl))
  simp only [evOp, hn]
  generalize hc : c.callee = cal at h2
  generalize ha : c.args.toList = al at hL h1
  generalize c.argTypes.toList = tl
  split <;> first | rfl | skip
  ·rename_i x t; rw [h1 x (by simp)]
  ·rename_i x y t t'; rw [h1 x (by simp), h1 y (by simp)]
  ·rename_i l x y; rw [h1 x (by simp), h1 y (by simp)]
  ·rename_i l x y; rw [h1 x (by simp), h1 y (by simp)]
  ·rename_i f xs l; rw [hL _ rfl]
  ·rename_i s xs l; rw [hL _ rfl, h2 _ rfl]
end
end Go.Gk
