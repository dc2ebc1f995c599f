/-
  Rows of a call's own, append; composite values; what a call leaves to its caller. Over whatever program; no condition.
-/
import Derived.Test.YtbfkbakadpkgoaaGreatDoorRulm
import Derived.Laws.BytesArg
namespace Go.Gk
open Go.RowKit
def lin (lab : Lab) : Lab := fun b => if lab b = 0 then 0 else 1
structure Cx (pts : List Nat) (w0 : World) (lab0 : Lab) (w : World) (lab : Lab) : Prop where
 os : w.os = w0.os
 tape : w.tape = w0.tape
 output : w.output = w0.output
 size : w0.heap.size ≤ w.heap.size
 block : ∀ b, b < w0.heap.size → b ∉ pts → w.heap[b]? = w0.heap[b]?
 low : ∀ b, b < w0.heap.size → b ∉ pts → lab b = lin lab0 b
 top : Top lab w
section
variable {pts : List Nat} {w0 w w' : World} {lab0 lab lab' : Lab} {k : Nat}
theorem lin_le (lab : Lab) (b : Nat) : lin lab b ≤ 1 := by unfold lin; split <;> omega
theorem Cx.start (t : Top lab w) : Cx [] w lab w (lin lab) :=
 ⟨rfl, rfl, rfl, Nat.le_refl _, fun _ _ _ => rfl, fun _ _ _ => rfl, fun b hb => by simp [lin, t b hb]⟩
theorem Keeps.lin : Keeps lab w (lin lab) w := ⟨Nat.le_refl _, fun b _ h => ⟨by simp [Gk.lin, h], rfl⟩⟩
theorem Cx.step (h : Cx pts w0 lab0 w lab) (e : Ste lab k w lab' w') (hk : Nat.beq k 1 = false) : Cx pts w0 lab0 w' lab' := by
 have hk1 : k ≠ 1 := fun e => by subst e; simp at hk
 refine ⟨e.os.trans h.os, e.tape.trans h.tape, e.output.trans h.output, Nat.le_trans h.size e.size, fun b hb hp => ?_, fun b hb hp => ?_, e.top⟩
 ·refine (e.block b (Nat.lt_of_lt_of_le hb h.size) ?_).trans (h.block b hb hp)
  by_cases hk0 : k = 0
  ·exact .inl hk0
  ·refine .inr ?_
   rw [h.low b hb hp]
   have := lin_le lab0 b
   omega
 ·exact (e.same b (Nat.lt_of_lt_of_le hb h.size)).trans (h.low b hb hp)
theorem Cx.ste (h : Cx [] w0 lab0 w lab) (t : Top lab0 w0) : Ste lab0 0 w0 lab0 w :=
 ⟨h.os, h.tape, h.output, h.size, fun b hb _ => h.block b hb (by simp), fun _ _ => rfl, fun b hb => t b (Nat.le_trans h.size hb)⟩
theorem Cx.keeps (h : Cx [] w0 lab0 w lab) (t : Top lab0 w0) : Keeps lab w lab0 w :=
 ⟨Nat.le_refl _, fun b _ h0 => ⟨by
  rcases Nat.lt_or_ge b w0.heap.size with hb | hb
  ·have := h.low b hb (by simp)
   rw [h0] at this
   unfold lin at this
   split at this
   ·assumption
   ·cases this
  ·exact t b hb, rfl⟩⟩
end
theorem flatten_get {sz : Nat} : ∀ (css : List (List Value)), (∀ cs ∈ css, cs.length = sz) → ∀ (i j : Nat) (cs : List Value), css[i]? = some cs → j < sz → css.flatten[i * sz + j]? = cs[j]?
 | [], _, i, j, cs, h, _ => by simp at h
 | c :: r, hl, 0, j, cs, h, hj => by
  simp at h
  subst h
  simp only [List.flatten_cons, Nat.zero_mul, Nat.zero_add]
  exact List.getElem?_append_left (by rw [hl c (by simp)]; exact hj)
 | c :: r, hl, i + 1, j, cs, h, hj => by
  have hc : c.length = sz := hl c (by simp)
  simp only [List.flatten_cons]
  rw [List.getElem?_append_right (by rw [hc, Nat.add_mul]; omega), hc, show (i + 1) * sz + j - sz = i * sz + j by rw [Nat.add_mul]; omega]
  exact flatten_get r (fun cs h => hl cs (by simp [h])) i j cs (by simpa using h) hj
theorem flatten_len {sz : Nat} : ∀ (css : List (List Value)), (∀ cs ∈ css, cs.length = sz) → css.flatten.length = css.length * sz
 | [], _ => by simp
 | c :: r, hl => by
  simp only [List.flatten_cons, List.length_append, List.length_cons, hl c (by simp), flatten_len r (fun cs h => hl cs (by simp [h])), Nat.add_mul]
  omega
section
variable {α : Type} {ρ : Rep α} {lab lab' : Lab} {w w' : World} {oa : Option Addr} {c k k' E : Nat} {xs : List α}
def Alls (ρ : Rep α) (lab : Lab) (w : World) : List (List Value) → List α → Prop
 | [], [] => True
 | cs :: css, x :: xs => ρ.rd lab w cs x ∧ Alls ρ lab w css xs
 | _, _ => False
theorem Alls.keep (hk : Keeps lab w lab' w') : ∀ {css : List (List Value)} {xs : List α}, Alls ρ lab w css xs → Alls ρ lab' w' css xs
 | [], [], _ => trivial
 | _ :: _, _ :: _, ⟨h1, h2⟩ => ⟨ρ.keep hk h1, Alls.keep hk h2⟩
theorem Alls.len : ∀ {css : List (List Value)} {xs : List α}, Alls ρ lab w css xs → css.length = xs.length
 | [], [], _ => rfl
 | _ :: _, _ :: _, ⟨_, h2⟩ => by simp [Alls.len h2]
theorem Alls.each : ∀ {css : List (List Value)} {xs : List α}, Alls ρ lab w css xs → ∀ cs ∈ css, cs.length = ρ.sz ∧ ∀ u ∈ cs, u.oneCell' = true
 | [], [], _, cs, h => by simp at h
 | _ :: _, _ :: _, ⟨h1, h2⟩, cs, h => by
  rcases List.mem_cons.1 h with rfl | h
  ·exact ⟨ρ.len h1, ρ.one h1⟩
  ·exact Alls.each h2 cs h
theorem Alls.get : ∀ {css : List (List Value)} {xs : List α}, Alls ρ lab w css xs → ∀ {i : Nat} {x : α}, xs[i]? = some x → ∃ cs, css[i]? = some cs ∧ ρ.rd lab w cs x
 | [], [], _, i, x, h => by simp at h
 | _ :: _, _ :: _, ⟨h1, _⟩, 0, x, h => by simp at h; subst h; exact ⟨_, rfl, h1⟩
 | _ :: _, _ :: _, ⟨_, h2⟩, i + 1, x, h => by simpa using Alls.get h2 (by simpa using h)
theorem Alls.append : ∀ {css : List (List Value)} {xs : List α} {ds : List (List Value)} {ys : List α}, Alls ρ lab w css xs → Alls ρ lab w ds ys → Alls ρ lab w (css ++ ds) (xs ++ ys)
 | [], [], _, _, _, h => h
 | _ :: _, _ :: _, _, _, ⟨h1, h2⟩, h => ⟨h1, Alls.append h2 h⟩
def Own (ρ : Rep α) (lab : Lab) (w : World) (k : Nat) (E : TypeId) (oa : Option Addr) (c : Nat) (xs : List α) : Prop :=
 ∃ css, Alls ρ lab w css xs ∧ ((oa = none ∧ c = 0 ∧ xs = []) ∨
  ∃ g cur, oa = some ⟨g, 0, none⟩ ∧ w.heap[g]? = some (.cells cur E (0, 0)) ∧ xs.length ≤ c ∧ c ≤ maxLen ∧ cur.size = c * ρ.sz ∧ cur.toList.take (xs.length * ρ.sz) = css.flatten ∧ lab g = k)
theorem Own.nil : Own ρ lab w k E none 0 [] := ⟨[], trivial, .inl ⟨rfl, rfl, rfl⟩⟩
theorem Own.step (h : Own ρ lab w k E oa c xs) (e : Ste lab k' w lab' w') (hne : Nat.beq k k' = false) : Own ρ lab' w' k E oa c xs := by
 have hk : k ≠ k' := fun e => by subst e; simp at hne
 obtain ⟨css, h1, h2⟩ := h
 refine ⟨css, h1.keep e.keeps, ?_⟩
 rcases h2 with h2 | ⟨g, cur, ha, hg, h3, h4, h5, h6, h7⟩
 ·exact .inl h2
 ·have hlt : g < w.heap.size := (Array.getElem?_eq_some_iff.1 hg).1
  exact .inr ⟨g, cur, ha, (e.block g hlt (.inr (by rw [h7]; exact hk))).trans hg, h3, h4, h5, h6, (e.same g hlt).trans h7⟩
theorem Own.ownsRow {css : List (List Value)} (h2 : (oa = none ∧ c = 0 ∧ xs = []) ∨
  ∃ g cur, oa = some ⟨g, 0, none⟩ ∧ w.heap[g]? = some (.cells cur E (0, 0)) ∧ xs.length ≤ c ∧ c ≤ maxLen ∧ cur.size = c * ρ.sz ∧ cur.toList.take (xs.length * ρ.sz) = css.flatten ∧ lab g = k) (h1 : Alls ρ lab w css xs) :
  w.ownsRow 0 E ρ.sz (.slice oa xs.length c) xs.length css.flatten := by
 refine ⟨?_, ?_⟩
 ·rw [flatten_len css (fun cs h => (h1.each cs h).1), h1.len]
 ·rcases h2 with ⟨rfl, rfl, rfl⟩ | ⟨g, cur, rfl, hg, h3, h4, h5, h6, _⟩
  ·exact .inl ⟨rfl, rfl⟩
  ·exact .inr ⟨g, c, cur, rfl, Nat.zero_le _, hg, h3, h4, h5, h6⟩
theorem Own.sl (h : Own ρ lab w k E oa c xs) (hk : Keeps lab w lab' w) (h0 : ∀ b, b < w.heap.size → lab b = k → lab' b = 0) : SL ρ lab' w oa c xs := by
 obtain ⟨css, h1, h2⟩ := h
 rcases h2 with ⟨rfl, rfl, rfl⟩ | ⟨g, cur, rfl, hg, h3, h4, h5, h6, h7⟩
 ·exact SL.nil
 ·refine ⟨h3, h4, fun i x hx => ?_⟩
  obtain ⟨cs, hc, hrd⟩ := h1.get hx
  have hlt : i < xs.length := (List.getElem?_eq_some_iff.1 hx).1
  refine ⟨_, cs, rfl, ρ.keep hk hrd, fun j u hu => ?_⟩
  have hgl : g < w.heap.size := (Array.getElem?_eq_some_iff.1 hg).1
  refine ⟨by rw [block_add]; exact h0 g hgl h7, ?_⟩
  have hj : j < ρ.sz := by
   have := ρ.len hrd
   rcases Nat.lt_or_ge j cs.length with h | h
   ·omega
   ·rw [List.getElem?_eq_none h] at hu; cases hu
  rw [add_add', add_lit0, Nat.zero_add, cell_of_row w g _ cur E (0, 0) hg]
  have e := flatten_get css (fun cs h => (h1.each cs h).1) i j cs hc hj
  rw [← h6, hu, List.getElem?_take_of_lt (by
   have : (i + 1) * ρ.sz ≤ xs.length * ρ.sz := Nat.mul_le_mul_right _ hlt
   rw [Nat.add_mul] at this; omega)] at e
  simpa using e
def Flat (ρ : Rep α) (lab : Lab) (w : World) (oa : Option Addr) (xs : List α) : Prop :=
 (oa = none → xs = []) ∧ ∃ css, Alls ρ lab w css xs ∧ ∀ ad, oa = some ad → ∀ j u, css.flatten[j]? = some u → w.cell? (ad.add j) = some u
theorem Own.flat (h : Own ρ lab w k E oa c xs) : Flat ρ lab w oa xs := by
 obtain ⟨css, h1, h2⟩ := h
 rcases h2 with ⟨rfl, rfl, rfl⟩ | ⟨g, cur, rfl, hg, h3, h4, h5, h6, h7⟩
 ·exact ⟨fun _ => rfl, css, h1, fun _ h => by cases h⟩
 ·refine ⟨fun h => (by cases h), css, h1, fun ad e j u hu => ?_⟩
  cases e
  rw [add_lit0, Nat.zero_add, cell_of_row w g _ cur E (0, 0) hg]
  rw [← h6] at hu
  have hlt : j < xs.length * ρ.sz := by
   rcases Nat.lt_or_ge j (xs.length * ρ.sz) with h | h
   ·exact h
   ·rw [List.getElem?_eq_none (by simp; omega)] at hu; cases hu
  rw [List.getElem?_take_of_lt hlt] at hu
  simpa using hu
theorem SL.flat (s : SL ρ lab w oa c xs) : ∃ css, Alls ρ lab w css xs ∧ ∀ ad, oa = some ad → ∀ j u, css.flatten[j]? = some u → w.cell? (ad.add j) = some u := by
 obtain ⟨_, _, h⟩ := s
 rcases Option.eq_none_or_eq_some oa with rfl | ⟨ad, rfl⟩
 ·match xs, h with
  | [], _ => exact ⟨[], trivial, fun _ h => by cases h⟩
  | x :: _, h => obtain ⟨_, _, h, _⟩ := h 0 x rfl; cases h
 ·have key : ∀ (ys : List α) (n : Nat), (∀ i x, ys[i]? = some x → xs[n + i]? = some x) → ∃ css, Alls ρ lab w css ys ∧ ∀ j u, css.flatten[j]? = some u → w.cell? (ad.add (n * ρ.sz + j)) = some u := by
   intro ys
   induction ys with
   | nil => exact fun n _ => ⟨[], trivial, fun j u hu => by simp at hu⟩
   | cons y ys ih =>
    intro n hn
    obtain ⟨css, h1, h2⟩ := ih (n + 1) (fun i x hx => by have := hn (i + 1) x (by simpa using hx); rwa [show n + (i + 1) = n + 1 + i by omega] at this)
    obtain ⟨ad', cs, hA, hrd, hat⟩ := h n y (by simpa using hn 0 y rfl)
    cases hA
    have hl := ρ.len hrd
    refine ⟨cs :: css, ⟨hrd, h1⟩, fun j u hu => ?_⟩
    simp only [List.flatten_cons] at hu
    rcases Nat.lt_or_ge j cs.length with hj | hj
    ·rw [List.getElem?_append_left hj] at hu
     have := (hat j u hu).2
     rwa [add_add'] at this
    ·rw [List.getElem?_append_right hj] at hu
     have := h2 _ _ hu
     rwa [show (n + 1) * ρ.sz + (j - cs.length) = n * ρ.sz + j by rw [Nat.add_mul]; omega] at this
  obtain ⟨css, h1, h2⟩ := key xs 0 (fun i x hx => by simpa using hx)
  exact ⟨css, h1, fun ad' e j u hu => by cases e; simpa using h2 j u hu⟩
end
section
variable {α : Type} {ρ : Rep α} {lab : Lab} {w : World} {oa : Option Addr} {c : Nat} {xs : List α}
theorem SL.flat' (s : SL ρ lab w oa c xs) : Flat ρ lab w oa xs := by
 refine ⟨fun h => ?_, s.flat⟩
 subst h
 match xs, s with
 | [], _ => rfl
 | x :: _, s => obtain ⟨_, _, h, _⟩ := s.at_ (i := 0) (x := x) rfl; cases h
end
section
variable {P : Program} {N : Nat} {ops : Array Oper} {rest : List Oper} {F : List (Nat × Value)} {w : World} {K : Kont} {lab : Lab}
variable {ty : TypeId} {pos : String} {af : Array Edge} {g : Option (Nat × Bool)} {d : Nat} {x y z : Operand} {v u : Value} {α β : Type} {r : α} {T E : TypeId}
theorem run_append_of_nil (base : Nat) (t ty e : TypeId) (i : TypeInfo) (size : Nat) (ht : P.underlying t = some (.slice e)) (hi : P.info? e = some i)
  (v : Value) (n : Nat) (xs : List Value) (hown : w.ownsRow base e size v n xs) (c : Nat) : (Builtin.append_ #[t, t] ty #[v, .slice none 0 c]).run P w = .ok v w := by
 rcases hown.2 with ⟨rfl, rfl⟩ | ⟨g, cap, cur, rfl, _, _, hnc, _⟩
 ·simp [Builtin.append_, run_underlying ht, sizeOf, typeInfo, hi, Builtin.lenOf, Builtin.firstCells]
 ·simp [Builtin.append_, run_underlying ht, sizeOf, typeInfo, hi, Builtin.lenOf, Builtin.firstCells, hnc, storeCells]
theorem app_some {xs ys zs : List β} (h : app xs ys = some zs) : xs.length + ys.length ≤ LIM ∧ zs = xs ++ ys := by
 unfold app at h
 split at h
 ·exact ⟨by assumption, by simpa using h.symm⟩
 ·cases h
theorem run_append_own' {ρ : Rep β} {oa oa' : Option Addr} {c c' k nb : Nat} {xs ys : List β} {zv : Value} (t : Top lab w) (hk0 : Nat.beq k 0 = false) (o : Own ρ lab w k E oa c xs) (s : Flat ρ lab w oa' ys) (hT : TySl P T E ρ.sz nb zv) (hb : Nat.ble nb 32768 = true) (hl : xs.length + ys.length ≤ LIM) (ty : TypeId) :
  ∃ oa2 c2 lab2 w2, (Builtin.append_ #[T, T] ty #[.slice oa xs.length c, .slice oa' ys.length c']).run P w = .ok (.slice oa2 (xs ++ ys).length c2) w2 ∧ Ste lab k w lab2 w2 ∧ Own ρ lab2 w2 k E oa2 c2 (xs ++ ys) := by
 obtain ⟨css, h1, h2⟩ := o
 have hown := Own.ownsRow h2 h1
 obtain ⟨i, hi, hz, hsz, hby⟩ := hT.info
 obtain ⟨hnil, ds, d1, d2⟩ := s
 rcases Option.eq_none_or_eq_some oa' with rfl | ⟨ad, rfl⟩
 ·match ys, hnil rfl with
  | [], _ =>
   refine ⟨oa, c, lab, w, ?_, ⟨rfl, rfl, rfl, Nat.le_refl _, fun _ _ _ => rfl, fun _ _ => rfl, t⟩, by simpa using ⟨css, h1, h2⟩⟩
   have := run_append_of_nil (P := P) (w := w) 0 T ty E i ρ.sz hT.und hi _ _ _ hown c'
   simpa using this
 ·have hb' : nb ≤ 32768 := by simpa using hb
  have hlen : ds.flatten.length = ys.length * ρ.sz := by rw [flatten_len ds (fun cs h => (d1.each cs h).1), d1.len]
  have hone : ∀ u ∈ ds.flatten, u.oneCell' = true := fun u hu => by
   obtain ⟨cs, hcs, hu⟩ := List.mem_flatten.1 hu
   exact (d1.each cs hcs).2 u hu
  unfold LIM at hl
  obtain ⟨v', w', hrun, hown', hg, _, hblk⟩ := run_append_own_at (P := P) w 0 T ty E i zv ρ.sz nb hT.und hi hz hsz hby hT.zn hT.pos _ _ _ hown ad ys.length c' ds.flatten hlen (d2 ad rfl) hone
   (by unfold maxLen; omega) (Nat.le_trans (Nat.mul_le_mul hl hb') (by decide)) (Nat.zero_le _)
  -- the labels behind it
  let lab2 : Lab := fun b => if b = w.heap.size ∧ w.heap.size < w'.heap.size ∧ v'.ownBlock = some b then k else lab b
  have hrow : ∀ b, b < w.heap.size → lab b ≠ k → some b ≠ (Value.slice oa xs.length c).ownBlock := fun b hb hne e => by
   rcases h2 with ⟨rfl, _⟩ | ⟨g, cur, rfl, _, _, _, _, _, h7⟩
   ·simp [Value.ownBlock] at e
   ·simp [Value.ownBlock] at e; subst e; exact hne h7
  have ste : Ste lab k w lab2 w' := by
   refine ⟨hg.os, hg.tape, hg.output, hg.size, fun b hb h => ?_, fun b hb => ?_, fun b hb => ?_⟩
   ·refine hg.block b hb ?_
    rcases h with h | h
    ·subst h; simp at hk0
    ·exact hrow b hb h
   ·simp only [lab2]; rw [if_neg (by omega)]
   ·simp only [lab2]; rw [if_neg (by omega)]; exact t b (Nat.le_trans hg.size hb)
  have hform : ∃ oa2 c2, v' = .slice oa2 (xs ++ ys).length c2 := by
   rcases hown'.2 with ⟨rfl, h0⟩ | ⟨g, cap, cur, rfl, _⟩
   ·exact ⟨none, 0, by rw [List.length_append, h0]⟩
   ·exact ⟨_, cap, by rw [List.length_append]⟩
  obtain ⟨oa2, c2, rfl⟩ := hform
  refine ⟨oa2, c2, lab2, w', hrun, ste, css ++ ds, (h1.append d1).keep ste.keeps, ?_⟩
  rcases hown'.2 with ⟨hv, h0⟩ | ⟨g, cap, cur, hv, _, hcur, hle, hmx, hsize, htake⟩
  ·injection hv with e1 e2 e3
   exact .inl ⟨e1, e3, List.eq_nil_of_length_eq_zero (by rw [List.length_append]; exact h0)⟩
  ·injection hv with e1 e2 e3
   subst e1; subst e3
   refine .inr ⟨g, cur, rfl, hcur, by rw [List.length_append]; exact hle, hmx, hsize, by rw [List.length_append, htake, List.flatten_append], ?_⟩
   simp only [Value.ownBlock] at hblk
   have hgl : g < w'.heap.size := (Array.getElem?_eq_some_iff.1 hcur).1
   simp only [lab2, Value.ownBlock]
   rcases Nat.lt_or_ge g w.heap.size with hlt | hge
   ·rw [if_neg (by omega)]
    rcases hblk with hblk | hblk
    ·rcases h2 with ⟨rfl, _⟩ | ⟨g', cur', rfl, _, _, _, _, _, h7⟩
     ·simp at hblk
     ·simp at hblk; subst hblk; exact h7
    ·simp at hblk; omega
   ·have : g = w.heap.size := by
     rcases hblk with hblk | hblk
     ·rcases h2 with ⟨rfl, _⟩ | ⟨g', cur', rfl, hg', _, _, _, _, h7⟩
      ·simp at hblk
      ·simp at hblk; subst hblk
       have := (Array.getElem?_eq_some_iff.1 hg').1; omega
     ·simpa using hblk
    rw [if_pos ⟨this, by omega, by simp⟩]
theorem LW.append {ρ : Rep β} {oa oa' : Option Addr} {c c' k nb : Nat} {xs ys : List β} {zv : Value} {kk : List β → Option α} (hm : bnd (app xs ys) kk = some r) (o : Own ρ lab w k E oa c xs) (s : Flat ρ lab w oa' ys)
  (t : Top lab w) (hk0 : Nat.beq k 0 = false) (hT : TySl P T E ρ.sz nb zv) (hb : Nat.ble nb 32768 = true)
  (hw : Wn ops F g) (hdN : Nat.blt d N = true) (hx : ev F x = some (.slice oa xs.length c)) (hy : ev F y = some (.slice oa' ys.length c'))
  (h : ∀ zs oa2 c2 lab2 w2, kk zs = some r → Ste lab k w lab2 w2 → Own ρ lab2 w2 k E oa2 c2 zs → LW P N ops rest ((d, .slice oa2 zs.length c2) :: F) w2 K) :
  LW P N ops (⟨some d, .call { callee := .builtin .append, args := #[x, y], argTypes := #[T, T] }, ty, pos, af, g⟩ :: rest) F w K := by
 obtain ⟨zs, hz, hk⟩ := bnd_some hm
 obtain ⟨hl, rfl⟩ := app_some hz
 obtain ⟨oa2, c2, lab2, w2, hrun, hs, ho⟩ := run_append_own' (P := P) (c' := c') t hk0 o s hT hb hl ty
 exact LW.val rfl hw rfl hdN (fun a ha => by simp [execOp, resolve, invoke, builtin, ha.eval hx, ha.eval hy, hrun]) (h _ _ _ _ _ hk hs ho)
theorem LW.build {parts : List (Nat × Operand)} {vs : List (Nat × Value)} {cs : List Value} (he : parts.map (fun p => (p.1, ev F p.2)) = vs.map (fun p => (p.1, some p.2))) (hb : P.built T vs = some cs.toArray)
  (hw : Wn ops F g) (hdN : Nat.blt d N = true) (h : LW P N ops rest ((d, .agg cs.toArray) :: F) w K) : LW P N ops (⟨some d, .build T parts.toArray, ty, pos, af, g⟩ :: rest) F w K :=
 LW.val rfl hw rfl hdN (fun a ha => by
  have e : parts.map (fun p => (p.1, a.eval p.2)) = vs := by
   clear hb
   induction parts generalizing vs with
   | nil => cases vs <;> simp_all
   | cons p r ih =>
    cases vs with
    | nil => simp at he
    | cons q vs =>
     simp only [List.map_cons, List.cons.injEq, Prod.mk.injEq] at he
     obtain ⟨⟨h1, h2⟩, h3⟩ := he
     simp only [List.map_cons, List.cons.injEq]
     exact ⟨by rw [ha.eval h2, h1], ih h3⟩
  have hr := run_build (P := P) w T (parts.map fun p => (p.1, a.eval p.2)).toArray cs.toArray (by rw [e]; exact hb)
  simp only [execOp, Sem.run_bind, List.map_toArray]
  rw [hr]; simp) h
def zcells (z : Value) (n : Nat) : Array Value := (Array.range n).map fun i => z.cells[i % z.cells.size]!
theorem LW.buildSlice {ρ : Rep β} {parts : List (Nat × Operand)} {vs : List (Nat × Value)} {css : List (List Value)} {xs : List β} {n nb : Nat} {zv : Value} (he : parts.map (fun p => (p.1, ev F p.2)) = vs.map (fun p => (p.1, some p.2)))
  (hT : TySl P T E ρ.sz nb zv) (hE : TyZero P E zv) (hf : Instr.fill (fun i => some (i * ρ.sz, ρ.sz)) (zcells zv (n * ρ.sz)) vs = some css.flatten.toArray) (hbig : Nat.ble (n * ρ.sz) 16777216 = true) (hn : Nat.beq n xs.length = true) (hrd : Alls ρ lab w css xs) (t : Top lab w)
  (hw : Wn ops F g) (hdN : Nat.blt d N = true)
  (h : ∀ oa c lab' w', Ste lab 0 w lab' w' → SL ρ lab' w' oa c xs → LW P N ops rest ((d, .slice oa xs.length c) :: F) w' K) : LW P N ops (⟨some d, .buildSlice T n parts.toArray, ty, pos, af, g⟩ :: rest) F w K := by
 have hn' := Nat.eq_of_beq_eq_true hn
 have hbig' : n * ρ.sz ≤ 16777216 := by simpa using hbig
 subst hn'
 obtain ⟨i, hi, hz, hsz, hby⟩ := hT.info
 have ste := Ste.alloc t 0 (.cells css.flatten.toArray E)
 have hlab : relab lab w.heap.size 0 = lab := by
  funext b
  simp only [relab]
  split
  ·rename_i e; subst e; exact (t _ (Nat.le_refl _)).symm
  ·rfl
 rw [hlab] at ste
 have hpos := hT.pos
 have hxl : xs.length ≤ 16777216 := Nat.le_trans (Nat.le_mul_of_pos_right _ hpos) hbig'
 refine LW.val rfl hw rfl hdN (w' := w.alloc (.cells css.flatten.toArray E)) (v := .slice (some ⟨w.heap.size, 0, none⟩) xs.length xs.length) (fun a ha => ?_) (h _ _ _ _ ste ?_)
 ·have e : parts.map (fun p => (p.1, a.eval p.2)) = vs := by
   clear hf
   induction parts generalizing vs with
   | nil => cases vs <;> simp_all
   | cons p r ih =>
    cases vs with
    | nil => simp at he
    | cons q vs =>
     simp only [List.map_cons, List.cons.injEq, Prod.mk.injEq] at he
     obtain ⟨⟨h1, h2⟩, h3⟩ := he
     simp only [List.map_cons, List.cons.injEq]
     exact ⟨by rw [ha.eval h2, h1], ih h3⟩
  have hle : ¬ (xs.length * ρ.sz > 2 ^ 24) := by omega
  have hr0 : Array.range 0 = #[] := rfl
  unfold zcells at hf
  by_cases h0 : xs.length * ρ.sz = 0
  ·rw [h0, hr0] at hf
   simp only [Array.map_empty] at hf
   simp only [execOp, Instr.buildSlice, Sem.run_bind, List.map_toArray, run_underlying hT.und, Result.andThen_ok, sizeOf, typeInfo, run_program, hi, Sem.run_pure, hsz, e]
   simp [h0, hr0, hf, newRow, World.alloc_eq']
  ·simp only [execOp, Instr.buildSlice, Sem.run_bind, List.map_toArray, run_underlying hT.und, Result.andThen_ok, sizeOf, typeInfo, run_program, hi, Sem.run_pure, hsz, e, hle, h0, if_false, hE w, hf]
   simp [newRow, World.alloc_eq']
 ·refine ⟨Nat.le_refl _, by unfold maxLen; omega, fun j q hq => ?_⟩
  obtain ⟨cs, hc, hr⟩ := hrd.get hq
  refine ⟨_, cs, rfl, ρ.keep ste.keeps hr, fun m u hu => ⟨by rw [block_add]; exact t _ (Nat.le_refl _), ?_⟩⟩
  have hm : m < ρ.sz := by
   have := ρ.len hr
   rcases Nat.lt_or_ge m cs.length with h | h
   ·omega
   ·rw [List.getElem?_eq_none h] at hu; cases hu
  rw [add_add', add_lit0, Nat.zero_add, cell_of_row _ w.heap.size _ _ E (0, 0) (heap_alloc_new w _)]
  have := flatten_get css (fun cs h => (hrd.each cs h).1) j m cs hc hm
  simpa [hu] using this
theorem LW.buildOwn {ρ : Rep β} {parts : List (Nat × Operand)} {vs : List (Nat × Value)} {css : List (List Value)} {xs : List β} {n nb : Nat} (k : Nat) {zv : Value} (he : parts.map (fun p => (p.1, ev F p.2)) = vs.map (fun p => (p.1, some p.2)))
  (hT : TySl P T E ρ.sz nb zv) (hE : TyZero P E zv) (hf : Instr.fill (fun i => some (i * ρ.sz, ρ.sz)) (zcells zv (n * ρ.sz)) vs = some css.flatten.toArray) (hbig : Nat.ble (n * ρ.sz) 16777216 = true) (hn : Nat.beq n xs.length = true) (hrd : Alls ρ lab w css xs) (t : Top lab w)
  (hw : Wn ops F g) (hdN : Nat.blt d N = true)
  (h : ∀ oa c lab' w', Ste lab 0 w lab' w' → Own ρ lab' w' k E oa c xs → LW P N ops rest ((d, .slice oa xs.length c) :: F) w' K) : LW P N ops (⟨some d, .buildSlice T n parts.toArray, ty, pos, af, g⟩ :: rest) F w K := by
 have hn' := Nat.eq_of_beq_eq_true hn
 have hbig' : n * ρ.sz ≤ 16777216 := by simpa using hbig
 subst hn'
 obtain ⟨i, hi, hz, hsz, hby⟩ := hT.info
 have ste := Ste.alloc t k (.cells css.flatten.toArray E)
 have hpos := hT.pos
 have hxl : xs.length ≤ 16777216 := Nat.le_trans (Nat.le_mul_of_pos_right _ hpos) hbig'
 refine LW.val rfl hw rfl hdN (w' := w.alloc (.cells css.flatten.toArray E)) (v := .slice (some ⟨w.heap.size, 0, none⟩) xs.length xs.length) (fun a ha => ?_) (h _ _ _ _ ste ?_)
 ·have e : parts.map (fun p => (p.1, a.eval p.2)) = vs := by
   clear hf
   induction parts generalizing vs with
   | nil => cases vs <;> simp_all
   | cons p r ih =>
    cases vs with
    | nil => simp at he
    | cons q vs =>
     simp only [List.map_cons, List.cons.injEq, Prod.mk.injEq] at he
     obtain ⟨⟨h1, h2⟩, h3⟩ := he
     simp only [List.map_cons, List.cons.injEq]
     exact ⟨by rw [ha.eval h2, h1], ih h3⟩
  have hle : ¬ (xs.length * ρ.sz > 2 ^ 24) := by omega
  have hr0 : Array.range 0 = #[] := rfl
  unfold zcells at hf
  by_cases h0 : xs.length * ρ.sz = 0
  ·rw [h0, hr0] at hf
   simp only [Array.map_empty] at hf
   simp only [execOp, Instr.buildSlice, Sem.run_bind, List.map_toArray, run_underlying hT.und, Result.andThen_ok, sizeOf, typeInfo, run_program, hi, Sem.run_pure, hsz, e]
   simp [h0, hr0, hf, newRow, World.alloc_eq']
  ·simp only [execOp, Instr.buildSlice, Sem.run_bind, List.map_toArray, run_underlying hT.und, Result.andThen_ok, sizeOf, typeInfo, run_program, hi, Sem.run_pure, hsz, e, hle, h0, if_false, hE w, hf]
   simp [newRow, World.alloc_eq']
 ·refine ⟨css, hrd.keep ste.keeps, .inr ⟨w.heap.size, css.flatten.toArray, rfl, heap_alloc_new w _, Nat.le_refl _, by unfold maxLen; omega, ?_, ?_, by simp [relab]⟩⟩
  ·rw [List.size_toArray, flatten_len css (fun cs h => (hrd.each cs h).1), hrd.len]
  ·have := flatten_len css (fun cs h => (hrd.each cs h).1)
   rw [hrd.len] at this
   rw [← this]
   exact List.take_length
theorem SL.bytes {oa : Option Addr} {c : Nat} {xs : List UInt8} (s : SL Rep.u8 lab w oa c xs) : (Conv.bytesToString (.slice oa xs.length c)).run P w = .ok (strV xs) w := by
 obtain ⟨css, h1, h2⟩ := s.flat
 have hcss : css.flatten = xs.map fun x => Value.int .u8 (x.toNat : Int) := by
  clear h2 s
  induction css generalizing xs with
  | nil => cases xs with
   | nil => rfl
   | cons _ _ => exact h1.elim
  | cons cs css ih => cases xs with
   | nil => exact h1.elim
   | cons x xs =>
    obtain ⟨e, h1⟩ := h1
    have e' : cs = [.int .u8 (x.toNat : Int)] := e
    rw [List.flatten_cons, e', ih h1]; rfl
 rcases Option.eq_none_or_eq_some oa with rfl | ⟨ad, rfl⟩
 ·match xs, s with
  | [], _ => rfl
  | x :: _, s => obtain ⟨_, _, h, _⟩ := s.at_ (i := 0) (x := x) rfl; cases h
 ·have hl := run_loadCells_list (P := P) w ad css.flatten (h2 ad rfl)
  rw [hcss, List.length_map] at hl
  have hm : (xs.map fun x => Value.int .u8 (x.toNat : Int)) = (xs.map fun x => (x.toNat : Int)).map (Value.int .u8) := by simp
  rw [hm] at hl
  rw [run_bytesToString w ad xs.length c _ hl, foldl_push_bytes]
  simp [strV, ByteArray.empty, ByteArray.emptyWithCapacity, Function.comp_def]
  rfl
end
end Go.Gk
