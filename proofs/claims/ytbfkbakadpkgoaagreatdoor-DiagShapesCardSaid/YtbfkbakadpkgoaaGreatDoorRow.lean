/-
  Rows of a call's own: elements that are written, and cuts. Over whatever program; no condition.
-/
import Derived.Test.YtbfkbakadpkgoaaGreatDoorDraw
namespace Go.Gk
open Go.RowKit
section
variable {P : Program} {N : Nat} {ops : Array Oper} {rest : List Oper} {F : List (Nat × Value)} {w : World} {K : Kont} {lab : Lab}
variable {ty : TypeId} {pos : String} {af : Array Edge} {g : Option (Nat × Bool)} {d : Nat} {x y z : Operand} {v u : Value} {α β : Type} {r : α} {T E S t t' : TypeId}
variable {ρ : Rep β} {oa : Option Addr} {c k nb : Nat} {xs : List β} {zv : Value}
def FlatO (ρ : Rep β) (lab : Lab) (w : World) (k : Nat) (oa : Option Addr) (xs : List β) : Prop :=
 (oa = none → xs = []) ∧ (∀ ad, oa = some ad → lab ad.block = k ∧ ad.block < w.heap.size) ∧ ∃ css, Alls ρ lab w css xs ∧ ∀ ad, oa = some ad → ∀ j u, css.flatten[j]? = some u → w.cell? (ad.add j) = some u
theorem FlatO.flat (h : FlatO ρ lab w k oa xs) : Flat ρ lab w oa xs := ⟨h.1, h.2.2⟩
theorem FlatO.ke {ks : List Nat} {lab' : Lab} {w' : World} (f : FlatO ρ lab w k oa xs) (h : Ke ks lab w lab' w') (h0 : ks.contains 0 = false) (hk : ks.contains k = false) : FlatO ρ lab' w' k oa xs := by
 obtain ⟨h1, h2, css, h3, h4⟩ := f
 refine ⟨h1, fun ad ha => ?_, css, h3.keep (h.keeps h0), fun ad ha j u hu => ?_⟩
 ·obtain ⟨hl, hb⟩ := h2 ad ha
  obtain ⟨e1, _⟩ := h.2 _ hb (by rw [hl]; exact hk)
  exact ⟨e1.trans hl, Nat.lt_of_lt_of_le hb h.1⟩
 ·obtain ⟨hl, hb⟩ := h2 ad ha
  obtain ⟨_, e2⟩ := h.2 _ hb (by rw [hl]; exact hk)
  rw [World.cell?_of_block (w := w) (by rw [block_add]; exact e2)]
  exact h4 ad ha j u hu
theorem Alls.take {css : List (List Value)} : ∀ (n : Nat) {css : List (List Value)} {xs : List β}, Alls ρ lab w css xs → Alls ρ lab w (css.take n) (xs.take n)
 | 0, _, _, _ => by simp [Alls]
 | n + 1, [], [], _ => trivial
 | n + 1, _ :: _, _ :: _, ⟨h1, h2⟩ => ⟨h1, Alls.take (css := []) n h2⟩
theorem Alls.drop : ∀ (n : Nat) {css : List (List Value)} {xs : List β}, Alls ρ lab w css xs → Alls ρ lab w (css.drop n) (xs.drop n)
 | 0, _, _, h => by simpa using h
 | n + 1, [], [], _ => trivial
 | n + 1, _ :: _, _ :: _, ⟨_, h2⟩ => by simpa using Alls.drop n h2
theorem flatten_take {sz : Nat} : ∀ (n : Nat) (css : List (List Value)), (∀ cs ∈ css, cs.length = sz) → n ≤ css.length → css.flatten.take (n * sz) = (css.take n).flatten
 | 0, _, _, _ => by simp
 | n + 1, [], _, h => by simp at h
 | n + 1, cs :: css, hl, h => by
  have hc := hl cs (by simp)
  simp only [List.flatten_cons, List.take_succ_cons]
  rw [List.take_append, List.take_of_length_le (by rw [hc, Nat.add_mul]; omega), hc, show (n + 1) * sz - sz = n * sz by rw [Nat.add_mul]; omega, flatten_take n css (fun cs h => hl cs (by simp [h])) (by simpa using h)]
theorem flatten_drop {sz : Nat} : ∀ (n : Nat) (css : List (List Value)), (∀ cs ∈ css, cs.length = sz) → n ≤ css.length → css.flatten.drop (n * sz) = (css.drop n).flatten
 | 0, _, _, _ => by simp
 | n + 1, [], _, h => by simp at h
 | n + 1, cs :: css, hl, h => by
  have hc := hl cs (by simp)
  simp only [List.flatten_cons, List.drop_succ_cons]
  rw [List.drop_append, List.drop_of_length_le (by rw [hc, Nat.add_mul]; omega), hc, show (n + 1) * sz - sz = n * sz by rw [Nat.add_mul]; omega, flatten_drop n css (fun cs h => hl cs (by simp [h])) (by simpa using h)]
  simp
theorem Own.take (o : Own ρ lab w k E oa c xs) (n : Nat) (hn : n ≤ xs.length) : Own ρ lab w k E oa c (xs.take n) := by
 obtain ⟨css, h1, h2⟩ := o
 refine ⟨css.take n, Alls.take (css := []) n h1, ?_⟩
 rcases h2 with ⟨h, h', rfl⟩ | ⟨g, cur, ha, hg, h3, h4, h5, h6, h7⟩
 ·exact .inl ⟨h, h', by simp⟩
 ·refine .inr ⟨g, cur, ha, hg, by simp; omega, h4, h5, ?_, h7⟩
  rw [List.length_take, Nat.min_eq_left hn, ← flatten_take n css (fun cs h => (h1.each cs h).1) (by rw [h1.len]; exact hn), ← h6, List.take_take, Nat.min_eq_left (Nat.mul_le_mul_right _ hn)]
theorem LW.slice_hO {hi : Int} {kh : IntKind} {kk : List β → Option α} (hm : bnd (cut xs 0 hi) kk = some r) (o : Own ρ lab w k E oa c xs) (hT : TySl P T E ρ.sz nb zv) (hw : Wn ops F g) (hdN : Nat.blt d N = true) (hx : ev F x = some (.slice oa xs.length c)) (hz : ev F z = some (.int kh hi))
  (h : ∀ zs, kk zs = some r → Own ρ lab w k E oa c zs → LW P N ops rest ((d, .slice oa zs.length c) :: F) w K) : LW P N ops (⟨some d, .slice T x none (some z) none, ty, pos, af, g⟩ :: rest) F w K := by
 obtain ⟨zs, hz', hk⟩ := bnd_some hm
 obtain ⟨⟨h1, h2, h3⟩, rfl⟩ := cut_some hz'
 have hle : xs.length ≤ c := by
  obtain ⟨_, _, ⟨_, rfl, rfl⟩ | ⟨_, _, _, _, h3, _⟩⟩ := o
  ·simp
  ·exact h3
 have ho := o.take hi.toNat (by omega)
 have hE := hT.elem
 have hoa : (if c = 0 then oa else oa.map (·.add (0 * ρ.sz))) = oa := by
  split
  ·rfl
  ·cases oa <;> simp [Addr.add]
 refine LW.val rfl hw rfl hdN (w' := w) (v := .slice oa (xs.take hi.toNat).length c) (fun a ha => ?_) ?_
 ·have := run_slice_h (P := P) w T oa xs.length c hE.1 kh hi h2 (by omega)
  simp only [execOp, ha.eval hx, Option.map_some, Option.map_none, ha.eval hz, run_sliceAt_slice w T _ _ _ _ hE.1, this, hE.2, hT.sizeOf, Sem.run_bind, Result.andThen_ok, Sem.run_pure, sliced, hoa, List.length_take]
  rw [Nat.min_eq_left (by omega)]; rfl
 ·have := h _ hk (by simpa using ho)
  simpa using this
theorem LW.slice_lO {lo : Int} {kl : IntKind} {kk : List β → Option α} (hm : bnd (cut xs lo xs.length) kk = some r) (o : Own ρ lab w k E oa c xs) (hT : TySl P T E ρ.sz nb zv) (hw : Wn ops F g) (hdN : Nat.blt d N = true) (hx : ev F x = some (.slice oa xs.length c)) (hy : ev F y = some (.int kl lo))
  (h : ∀ zs oa' c', kk zs = some r → FlatO ρ lab w k oa' zs → LW P N ops rest ((d, .slice oa' zs.length c') :: F) w K) : LW P N ops (⟨some d, .slice T x (some y) none none, ty, pos, af, g⟩ :: rest) F w K := by
 obtain ⟨zs, hz', hk⟩ := bnd_some hm
 obtain ⟨⟨h1, h2, h3⟩, rfl⟩ := cut_some hz'
 have hE := hT.elem
 have hls : lo.toNat ≤ xs.length := by omega
 have hlen : xs.length - lo.toNat = ((xs.take (xs.length : Int).toNat).drop lo.toNat).length := by simp
 refine LW.val rfl hw rfl hdN (w' := w) (v := sliced oa lo.toNat xs.length c ρ.sz) (fun a ha => ?_) ?_
 ·have := run_slice_l (P := P) w T oa xs.length c hE.1 kl lo h1 (by omega)
  simp only [execOp, ha.eval hx, Option.map_some, Option.map_none, ha.eval hy, run_sliceAt_slice w T _ _ _ _ hE.1, this, hE.2, hT.sizeOf, Sem.run_bind, Result.andThen_ok, Sem.run_pure]
 ·have e : (xs.take (xs.length : Int).toNat).drop lo.toNat = xs.drop lo.toNat := by simp
  unfold sliced
  rw [hlen]
  refine h _ _ _ hk ?_
  rw [e]
  obtain ⟨css, a1, a2⟩ := o
  rcases a2 with ⟨rfl, rfl, rfl⟩ | ⟨g', cur, rfl, hg, h3, h4, h5, h6, h7⟩
  ·exact ⟨fun _ => by simp, fun ad h => (by simp at h), [], (by simp [Alls]), fun ad h => (by simp at h)⟩
  ·have hgl : g' < w.heap.size := (Array.getElem?_eq_some_iff.1 hg).1
   refine ⟨fun h => ?_, fun ad h => ?_, css.drop lo.toNat, a1.drop _, fun ad h j u hu => ?_⟩
   ·split at h <;> simp at h
   ·split at h
    ·simp at h; subst h; exact ⟨h7, hgl⟩
    ·simp at h; subst h; rw [block_add]; exact ⟨h7, hgl⟩
   ·rw [← flatten_drop _ css (fun cs h => (a1.each cs h).1) (by rw [a1.len]; exact hls), ← h6, List.getElem?_drop] at hu
    have hlt : lo.toNat * ρ.sz + j < xs.length * ρ.sz := by
     rcases Nat.lt_or_ge (lo.toNat * ρ.sz + j) (xs.length * ρ.sz) with h | h
     ·exact h
     ·rw [List.getElem?_eq_none (by simp; omega)] at hu; cases hu
    rw [List.getElem?_take_of_lt hlt] at hu
    have hc : c ≠ lo.toNat := fun e => by
     subst e
     have : xs.length = lo.toNat := by omega
     rw [this] at hlt; omega
    rw [if_neg hc] at h
    simp at h; subst h
    rw [add_add', add_lit0, Nat.zero_add, cell_of_row w g' _ cur E (0, 0) hg]
    simpa using hu
theorem Alls.set : ∀ {css : List (List Value)} {xs : List β} (n : Nat) {cs : List Value} {e : β}, Alls ρ lab w css xs → ρ.rd lab w cs e → Alls ρ lab w (css.set n cs) (xs.set n e)
 | [], [], _, _, _, _, _ => trivial
 | _ :: _, _ :: _, 0, _, _, ⟨_, h2⟩, h => ⟨h, h2⟩
 | _ :: _, _ :: _, n + 1, _, _, ⟨h1, h2⟩, h => ⟨h1, Alls.set n h2 h⟩
theorem flatten_set {sz : Nat} : ∀ (n : Nat) (css : List (List Value)) (cs : List Value) (j : Nat) (v : Value), (∀ cs ∈ css, cs.length = sz) → css[n]? = some cs → j < sz → (css.set n (cs.set j v)).flatten = css.flatten.set (n * sz + j) v
 | _, [], _, _, _, _, h, _ => by simp at h
 | 0, c :: css, cs, j, v, hl, h, hj => by
  simp at h; subst h
  have := hl c (by simp)
  simp only [List.set_cons_zero, List.flatten_cons, Nat.zero_mul, Nat.zero_add]
  rw [List.set_append_left _ _ (by omega)]
 | n + 1, c :: css, cs, j, v, hl, h, hj => by
  have hc := hl c (by simp)
  simp only [List.set_cons_succ, List.flatten_cons]
  rw [flatten_set n css cs j v (fun cs h => hl cs (by simp [h])) (by simpa using h) hj, List.set_append_right _ _ (by rw [hc, Nat.add_mul]; omega), hc, show (n + 1) * sz + j - sz = n * sz + j by rw [Nat.add_mul]; omega]
theorem own_store {n off : Nat} {e e' : β} {cs : List Value} {p : Addr} (t : Top lab w) (hk : Nat.beq k 0 = false) (o : Own ρ lab w k E oa c xs) (hp : OAt oa ρ.sz n p) (hat : At (mask lab k) w p cs) (he : xs[n]? = some e) (hl : cs.length = ρ.sz) (ho : off < ρ.sz)
  (hy : ρ.rd lab w (cs.set off v) e') : (∃ u, w.cell? (p.add off) = some u) ∧ w.frozen? (p.add off) = false ∧ Ste lab k w lab (w.setCell (p.add off) v) ∧ Own ρ lab (w.setCell (p.add off) v) k E oa c (xs.set n e') := by
 obtain ⟨css, a1, a2⟩ := o
 obtain ⟨ad, hoa, rfl⟩ := hp
 have hn : n < xs.length := (List.getElem?_eq_some_iff.1 he).1
 rcases a2 with ⟨h, _⟩ | ⟨g', cur, ha, hg, h3, h4, h5, h6, h7⟩
 ·rw [hoa] at h; cases h
 ·rw [hoa] at ha; cases ha
  obtain ⟨cs0, hc0, _⟩ := a1.get he
  have hlen := fun cs h => (a1.each cs h).1
  have hb : (n + 1) * ρ.sz ≤ xs.length * ρ.sz := Nat.mul_le_mul_right _ hn
  rw [Nat.add_mul] at hb
  have hcap : xs.length * ρ.sz ≤ c * ρ.sz := Nat.mul_le_mul_right _ h3
  have key : ∀ j, j < ρ.sz → cur[n * ρ.sz + j]? = cs0[j]? := fun j hj => by
   have e1 := flatten_get css hlen n j cs0 hc0 hj
   rw [← h6, List.getElem?_take_of_lt (by omega)] at e1
   simpa using e1
  have hcs : cs = cs0 := by
   apply List.ext_getElem?
   intro j
   have l0 : cs0.length = ρ.sz := hlen cs0 (List.mem_of_getElem? hc0)
   by_cases hj : j < ρ.sz
   ·have e2 := (hat j cs[j] (List.getElem?_eq_getElem (by omega))).2
    rw [add_add', add_lit0, Nat.zero_add, cell_of_row w g' _ cur E (0, 0) hg, key j hj] at e2
    rw [e2, List.getElem?_eq_getElem (by omega)]
   ·rw [List.getElem?_eq_none (by omega), List.getElem?_eq_none (by omega)]
  subst hcs
  have hadd : (Addr.add ⟨g', 0, none⟩ (n * ρ.sz)).add off = ⟨g', n * ρ.sz + off, none⟩ := by rw [add_add', add_lit0, Nat.zero_add]
  rw [hadd]
  have hst := Ste.setCell (w := w) (i := n * ρ.sz + off) t hk h7 v
  refine ⟨?_, frozen_of_row w g' _ cur E hg, hst, css.set n (cs.set off v), (a1.keep hst.keeps).set n (ρ.keep hst.keeps hy), .inr ⟨g', cur.setIfInBounds (n * ρ.sz + off) v, hoa, ?_, by simpa using h3, h4, by simpa using h5, ?_, h7⟩⟩
  ·rw [cell_of_row w g' _ cur E (0, 0) hg]
   exact ⟨_, Array.getElem?_eq_getElem (by omega)⟩
  ·exact heap_setCell_same w g' _ _ _ v hg
  ·rw [flatten_set n css cs off v hlen hc0 ho, ← h6]
   simp only [Array.toList_setIfInBounds, List.length_set]
   rw [List.take_set]
theorem flatten_setAll {sz : Nat} : ∀ (n : Nat) (css : List (List Value)) (vs : List Value), (∀ cs ∈ css, cs.length = sz) → n < css.length → (css.set n vs).flatten = css.flatten.take (n * sz) ++ vs ++ css.flatten.drop (n * sz + sz)
 | _, [], _, _, h => by simp at h
 | 0, c :: css, vs, hl, h => by
  have := hl c (by simp)
  simp only [List.set_cons_zero, List.flatten_cons, Nat.zero_mul, Nat.zero_add, List.take_zero, List.nil_append]
  rw [List.drop_append, List.drop_of_length_le (by omega)]
  simp [this]
 | n + 1, c :: css, vs, hl, h => by
  have hc := hl c (by simp)
  have e1 : (n + 1) * sz = n * sz + sz := by rw [Nat.add_mul]; omega
  simp only [List.set_cons_succ, List.flatten_cons]
  rw [flatten_setAll n css vs (fun cs h => hl cs (by simp [h])) (by simpa using h), List.take_append, List.drop_append, List.take_of_length_le (l := c) (by omega), List.drop_of_length_le (l := c) (by omega), hc, e1, show n * sz + sz - sz = n * sz by omega, show n * sz + sz + sz - sz = n * sz + sz by omega]
  simp
theorem own_storen {n : Nat} {e e' : β} {vs : List Value} {p : Addr} (t : Top lab w) (hk : Nat.beq k 0 = false) (o : Own ρ lab w k E oa c xs) (hp : OAt oa ρ.sz n p) (he : xs[n]? = some e) (hl : vs.length = ρ.sz) (h1 : ∀ u ∈ vs, u.oneCell' = true)
  (hy : ρ.rd lab w vs e') : ∃ w', (storeCells p vs 0).run P w = .ok () w' ∧ Ste lab k w lab w' ∧ Own ρ lab w' k E oa c (xs.set n e') := by
 obtain ⟨css, a1, a2⟩ := o
 obtain ⟨ad, hoa, rfl⟩ := hp
 have hn : n < xs.length := (List.getElem?_eq_some_iff.1 he).1
 rcases a2 with ⟨h, _⟩ | ⟨g', cur, ha, hg, h3, h4, h5, h6, h7⟩
 ·rw [hoa] at h; cases h
 ·rw [hoa] at ha; cases ha
  have hlen := fun cs h => (a1.each cs h).1
  have hb : (n + 1) * ρ.sz ≤ xs.length * ρ.sz := Nat.mul_le_mul_right _ hn
  rw [Nat.add_mul] at hb
  have hcap : xs.length * ρ.sz ≤ c * ρ.sz := Nat.mul_le_mul_right _ h3
  have b : Box lab w k g' E cur.toList := ⟨hg, h7⟩
  obtain ⟨w', hr, b', hs⟩ := run_storeCells (P := P) vs (n * ρ.sz) cur.toList w b (by simp; omega) h1 0 (n * ρ.sz) rfl
  have hst := hs t hk
  have hadd : (Addr.add ⟨g', 0, none⟩ (n * ρ.sz)) = ⟨g', n * ρ.sz, none⟩ := by rw [add_lit0, Nat.zero_add]
  rw [hadd]
  refine ⟨w', hr, hst, css.set n vs, (a1.keep hst.keeps).set n (ρ.keep hst.keeps hy), .inr ⟨g', _, hoa, b'.1, by simpa using h3, h4, ?_, ?_, b'.2⟩⟩
  ·simp; omega
  ·rw [flatten_setAll n css vs hlen (by rw [a1.len]; exact hn), ← h6, hl]
   simp only [List.length_set]
   have hsz : (cur.toList.take (n * ρ.sz)).length = n * ρ.sz := by simp; omega
   have e1 : cur.toList.take (n * ρ.sz) = (cur.toList.take (xs.length * ρ.sz)).take (n * ρ.sz) := by rw [List.take_take, Nat.min_eq_left (by omega)]
   have e2 : xs.length * ρ.sz - (n * ρ.sz + ρ.sz) + (n * ρ.sz + ρ.sz) = xs.length * ρ.sz := by omega
   rw [List.take_append, List.take_of_length_le (l := cur.toList.take (n * ρ.sz) ++ vs) (by simp only [List.length_append, hsz, hl]; omega), List.length_append, hsz, hl, List.take_drop, Nat.add_comm (n * ρ.sz + ρ.sz), e2, ← e1]
def mkl {β : Type} (n : Int) (z : β) : Option (List β) := bif decide (0 ≤ n) && decide (n ≤ 65536) then some (List.replicate n.toNat z) else none
theorem mkl_some {n : Int} {z : β} {zs : List β} (h : mkl n z = some zs) : 0 ≤ n ∧ n ≤ 65536 ∧ zs = List.replicate n.toNat z := by
 unfold mkl at h
 by_cases h1 : 0 ≤ n <;> by_cases h2 : n ≤ 65536 <;> simp_all
theorem Alls.replicate {cs : List Value} {z : β} (h : ρ.rd lab w cs z) : ∀ n, Alls ρ lab w (List.replicate n cs) (List.replicate n z)
 | 0 => trivial
 | n + 1 => ⟨h, Alls.replicate h n⟩
theorem flatten_replicate_get {l : List Value} : ∀ (n i : Nat), i < n * l.length → (List.replicate n l).flatten[i]? = l[i % l.length]?
 | 0, i, h => by simp at h
 | n + 1, i, h => by
  rw [List.replicate_succ, List.flatten_cons]
  by_cases hi : i < l.length
  ·rw [List.getElem?_append_left hi, Nat.mod_eq_of_lt hi]
  ·rw [List.getElem?_append_right (by omega), flatten_replicate_get n (i - l.length) (by rw [Nat.add_mul] at h; omega), ← Nat.mod_eq_sub_mod (by omega)]
theorem LW.make {n : Int} {kn kc : IntKind} {z : β} {zc : List Value} {nb : Nat} {zv : Value} (k : Nat) {kk : List β → Option α} (hm : bnd (mkl n z) kk = some r) (hT : TySl P T E ρ.sz nb zv) (hE : TyZero P E zv) (hz : zv.cells = zc.toArray) (hrd : ∀ lab w, ρ.rd lab w zc z) (hzl : Nat.beq zc.length ρ.sz = true) (hb : Nat.ble nb 32768 = true) (t : Top lab w)
  (hw : Wn ops F g) (hdN : Nat.blt d N = true) (hx : ev F x = some (.int kn n)) (hy : ev F y = some (.int kc n))
  (h : ∀ zs oa c lab' w', kk zs = some r → Ste lab 0 w lab' w' → Own ρ lab' w' k E oa c zs → LW P N ops rest ((d, .slice oa zs.length c) :: F) w' K) : LW P N ops (⟨some d, .makeSlice T x y, ty, pos, af, g⟩ :: rest) F w K := by
 obtain ⟨zs, hz', hk⟩ := bnd_some hm
 obtain ⟨h0, h1, rfl⟩ := mkl_some hz'
 obtain ⟨i, hi, hiz, hsz, hby⟩ := hT.info
 have hpos := hT.pos
 have hzl' : zc.length = ρ.sz := Nat.eq_of_beq_eq_true hzl
 have hnb : nb ≤ 32768 := by simpa using hb
 obtain ⟨m, rfl⟩ : ∃ m : Nat, n = (m : Int) := ⟨n.toNat, by omega⟩
 simp only [Int.toNat_natCast] at hk h ⊢
 have ste := Ste.alloc t k (.cells (List.replicate m zc).flatten.toArray E)
 have hcells : madeCells zv.cells (m * i.size) = (List.replicate m zc).flatten.toArray := by
  unfold madeCells
  apply Array.ext_getElem?
  intro j
  rw [hz, hsz]
  by_cases hj : j < m * ρ.sz
  ·have := flatten_replicate_get (l := zc) m j (by rw [hzl']; exact hj)
   have hjm : j % zc.length < zc.length := Nat.mod_lt _ (by omega)
   simp [hj, this, List.getElem?_eq_getElem hjm]
  ·have hl : ((List.replicate m zc).flatten).length = m * ρ.sz := by simp [hzl']
   rw [Array.getElem?_eq_none (by simp; omega), Array.getElem?_eq_none (by simp [hzl']; omega)]
 have hbytes : (i.bytes : Int) * (m : Int) ≤ 281474976710656 := by
  have a1 : i.bytes * m ≤ 32768 * 65536 := Nat.mul_le_mul (by omega) (by omega)
  have a2 : ((i.bytes * m : Nat) : Int) = (i.bytes : Int) * (m : Int) := Int.natCast_mul _ _
  omega
 have hrun := run_make (P := P) w T E i zv hT.und hi hiz kn kc (m : Int) (m : Int) (by omega) (Int.le_refl _) hbytes (by omega)
 rw [Int.toNat_natCast, hcells] at hrun
 refine LW.val rfl hw rfl hdN (w' := w.alloc (.cells (List.replicate m zc).flatten.toArray E)) (v := .slice (some ⟨w.heap.size, 0, none⟩) m m) (fun a ha => ?_) ?_
 ·simp only [execOp, ha.eval hx, ha.eval hy, Sem.run_bind, hrun, Result.andThen_ok, Sem.run_pure]
 ·have := h _ (some ⟨w.heap.size, 0, none⟩) m _ _ hk ste ⟨List.replicate m zc, Alls.replicate (hrd _ _) m, .inr ⟨w.heap.size, (List.replicate m zc).flatten.toArray, rfl, heap_alloc_new w _, by simp, by unfold maxLen; omega, by simp [hzl'], ?_, by simp [relab]⟩⟩
  ·simpa using this
  ·simp [List.take_of_length_le, hzl']
def eq1 (P : Program) (t : TypeId) (a b : Value) : Option Bool :=
 match P.underlying t, a, b with
 | some (.int _), .int k x, .int k' y => if k = k' then some (x == y) else none
 | some .bool, .bool x, .bool y => some (x == y)
 | some .string, .string x, .string y => some (x.toList == y.toList)
 | _, _, _ => none
def eqB (P : Program) (xs ys : List Value) : List Field → Option Bool
 | [] => some true
 | f :: fs => bif f.name == "_" then none else
  match xs[f.offset]?, ys[f.offset]? with
  | some a, some b =>
   match eq1 P f.type a b, eqB P xs ys fs with
   | some p, some q => some (p && q)
   | _, _ => none
  | _, _ => none
theorem eq1_run {a b : Value} {q : Bool} (dd : Nat) (h : eq1 P t a b = some q) : (isAgg t).run P w = .ok false w ∧ (Op.equalIn (dd + 1) t a b).run P w = .ok q w := by
 unfold eq1 at h
 split at h
 ·rename_i h1
  split at h
  ·rename_i hk; subst hk; cases h; exact ⟨by simp [isAgg, run_underlying h1], run_equalIn_int w dd t _ _ _ _ h1⟩
  ·cases h
 ·rename_i h1; cases h; exact ⟨by simp [isAgg, run_underlying h1], run_equalIn_bool' w dd t _ _ h1⟩
 ·rename_i h1; cases h; exact ⟨by simp [isAgg, run_underlying h1], run_equalIn_string w dd t _ _ h1⟩
 ·cases h
theorem eqB_run {xs ys : List Value} (dd : Nat) : ∀ {fs : List Field} {q : Bool}, eqB P xs ys fs = some q → (Op.eqFields (dd + 1) xs.toArray ys.toArray fs).run P w = .ok q w
 | [], q, h => by cases h; simp [Op.eqFields]
 | f :: fs, q, h => by
  unfold eqB at h
  cases hn : f.name == "_" with
  | true => rw [hn] at h; cases h
  | false =>
   rw [hn] at h
   simp only [cond_false] at h
   split at h
   ·rename_i a b ha hb
    split at h
    ·rename_i p q' hp hq
     cases h
     obtain ⟨h1, h2⟩ := eq1_run (w := w) dd hp
     have hne : f.name ≠ "_" := by simpa using hn
     have ih := eqB_run dd hq
     simp only [Op.eqFields, if_pos hne, part, Sem.run_bind, h1, Result.andThen_ok, List.getElem?_toArray, ha, hb, Bool.false_eq_true, if_false, Sem.run_pure, h2]
     cases p
     ·simp
     ·simp [ih]
    ·cases h
   ·cases h
def EqT (P : Program) (t : TypeId) (xs ys : List Value) (b : Bool) : Prop := P.eqGuardType P.depth t = false ∧ P.underlying t = some (.struct (P.fieldsOf t)) ∧ P.stoodInHeld t = false ∧ eqB P xs ys (P.fieldsOf t).toList = some b
theorem EqT.run {xs ys : List Value} {b : Bool} (h : EqT P t xs ys b) : (Op.equalIn 10000 t (.agg xs.toArray) (.agg ys.toArray)).run P w = .ok b w := by
 rw [show (10000 : Nat) = 9999 + 1 from rfl, run_equalIn_agg w 9999 t _ _ h.2.1 h.2.2.1]
 exact eqB_run 9998 h.2.2.2
theorem run_binG (op : BinOp) (xt yt : TypeId) {a : Act} {u v q : Value} (hu : a.eval x = u) (hv : a.eval y = v) (hg : (eqGuard op xt x y u v).run P w = .ok () w) (hb : (binOp op xt u v).run P w = .ok q w) :
  (execOp a.eval ⟨some d, .binOp op xt x y yt, ty, pos, af, g⟩).run P w = .ok (.value q) w := by
 simp [execOp, hu, hv, hg, hb]
theorem LW.eqA {xs ys : List Value} {b : Bool} {k : Bool → Option α} (hm : letm b k = some r) (he : EqT P t xs ys b) (hw : Wn ops F g) (hdN : Nat.blt d N = true) (hx : ev F x = some (.agg xs.toArray)) (hy : ev F y = some (.agg ys.toArray))
  (h : ∀ c, k c = some r → LW P N ops rest ((d, .bool c) :: F) w K) : LW P N ops (⟨some d, .binOp .eql t x y t', ty, pos, af, g⟩ :: rest) F w K :=
 LW.val rfl hw rfl hdN (fun _ ha => run_binG _ _ _ (ha.eval hx) (ha.eval hy) (run_eqGuard_agg w .eql t x y _ _ he.1) (by rw [run_eql_struct, he.run]; rfl)) (h _ hm)
theorem LW.neA {xs ys : List Value} {b : Bool} {k : Bool → Option α} (hm : letm (!b) k = some r) (he : EqT P t xs ys b) (hw : Wn ops F g) (hdN : Nat.blt d N = true) (hx : ev F x = some (.agg xs.toArray)) (hy : ev F y = some (.agg ys.toArray))
  (h : ∀ c, k c = some r → LW P N ops rest ((d, .bool c) :: F) w K) : LW P N ops (⟨some d, .binOp .neq t x y t', ty, pos, af, g⟩ :: rest) F w K :=
 LW.val rfl hw rfl hdN (fun _ ha => run_binG _ _ _ (ha.eval hx) (ha.eval hy) (run_eqGuard_agg w .neq t x y _ _ he.1) (by rw [run_neq_struct, he.run]; rfl)) (h _ hm)
end
end Go.Gk
