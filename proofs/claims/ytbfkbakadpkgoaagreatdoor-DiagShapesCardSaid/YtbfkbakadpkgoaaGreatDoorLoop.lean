/-
  Rules for loops, joins, rows of a call's own that are read; over whatever program. No condition.
-/
import Derived.Test.YtbfkbakadpkgoaaGreatDoorConv
namespace Go.Gk
open Go.RowKit
def bndS {ρ ρ' Y : Type} (m : Option (ρ ⊕ Y)) (w : ρ → ρ') (k : Y → Option ρ') : Option ρ' :=
 match m with
 | none => none
 | some (.inl q) => some (w q)
 | some (.inr y) => k y
theorem bndS_some {ρ ρ' Y : Type} {m : Option (ρ ⊕ Y)} {w : ρ → ρ'} {k : Y → Option ρ'} {r : ρ'} (h : bndS m w k = some r) :
  ∃ s, m = some s ∧ (∀ q, s = .inl q → some (w q) = some r) ∧ ∀ y, s = .inr y → k y = some r := by
 unfold bndS at h
 split at h
 ·cases h
 ·rename_i q; exact ⟨_, rfl, fun q' e => by cases e; exact h, fun y e => by cases e⟩
 ·rename_i y; exact ⟨_, rfl, fun q' e => (by cases e), fun y e => by cases e; exact h⟩
def rng (n : Int) : Option Nat := if n ≤ 9223372036854775807 then some n.toNat else none
theorem rng_some {n : Int} {j : Nat} (h : rng n = some j) : n ≤ 9223372036854775807 ∧ j = n.toNat := by
 unfold rng at h
 split at h
 ·exact ⟨by assumption, by simpa using h.symm⟩
 ·cases h
theorem w64_succ {k n : Nat} (h : k < n) (hn : n ≤ maxLen) : w64 ((k : Int) + 1) = ((k + 1 : Nat) : Int) := by
 unfold maxLen at hn
 rw [w64_in (by omega)]; omega
theorem w64_succ' {k : Nat} {n : Int} (h : (k : Int) < n) (hn : n ≤ 9223372036854775807) : w64 ((k : Int) + 1) = ((k + 1 : Nat) : Int) := by
 rw [w64_in (by omega)]; omega
def mask (lab : Lab) (k : Nat) : Lab := fun b => if lab b = k then 0 else lab b
theorem Keeps.mask {lab : Lab} {k : Nat} {w : World} : Keeps lab w (mask lab k) w := ⟨Nat.le_refl _, fun b _ h => ⟨by unfold Gk.mask; split <;> simp_all, rfl⟩⟩
theorem Top.mask {lab : Lab} {k : Nat} {w : World} (t : Top lab w) : Top (mask lab k) w := fun b hb => by unfold Gk.mask; split <;> simp [t b hb]
section
variable {P : Program} {N : Nat} {ops : Array Oper} {rest : List Oper} {F : List (Nat × Value)} {w : World} {K : Kont} {lab : Lab}
variable {ty : TypeId} {pos : String} {af : Array Edge} {g : Option (Nat × Bool)} {d : Nat} {x y z : Operand} {v u : Value} {α β : Type} {r : α} {T E S t t' : TypeId}
theorem CW.cond_t {c : Operand} {p q : Code} (hx : ev F c = some (.bool true)) (h : CW P N p F w K) : CW P N (.cond c p q) F w K := CW.cond hx (fun _ => h) (fun e => by cases e)
theorem CW.cond_f {c : Operand} {p q : Code} (hx : ev F c = some (.bool false)) (h : CW P N q F w K) : CW P N (.cond c p q) F w K := CW.cond hx (fun e => by cases e) (fun _ => h)
theorem info_of {E n nb : Nat} {zv : Value} (h : (P.info? E).map (fun i => (i.zero, i.size, i.bytes)) = some (some zv, n, nb)) : ∃ i, P.info? E = some i ∧ i.zero = some zv ∧ i.size = n ∧ i.bytes = nb := by
 cases hi : P.info? E with
 | none => rw [hi] at h; cases h
 | some i => rw [hi] at h; simp at h; exact ⟨i, rfl, h.1, h.2.1, h.2.2⟩
theorem Own.view {ρ : Rep β} {oa : Option Addr} {c k : Nat} {xs : List β} (o : Own ρ lab w k E oa c xs) : SL ρ (mask lab k) w oa c xs :=
 o.sl Keeps.mask (fun b _ h => by simp [mask, h])
theorem Cx.own0 {w0 : World} {lab0 : Lab} {k : Nat} (h : Cx [] w0 lab0 w lab) (t : Top lab0 w0) (hk : Nat.ble 2 k = true) : ∀ b, b < w.heap.size → lab b = k → lab0 b = 0 := fun b _ hb => by
 have hk' : 2 ≤ k := by simpa using hk
 rcases Nat.lt_or_ge b w0.heap.size with hl | hl
 ·have := h.low b hl (by simp)
  have := lin_le lab0 b
  omega
 ·exact t b hl
theorem Own.out {ρ : Rep β} {w0 : World} {lab0 : Lab} {oa : Option Addr} {c k : Nat} {xs : List β} (o : Own ρ lab w k E oa c xs) (h : Cx [] w0 lab0 w lab) (t : Top lab0 w0) (hk : Nat.ble 2 k = true) (k' : Nat) :
  ∃ lab', Ste lab0 0 w0 lab' w ∧ Own ρ lab' w k' E oa c xs := by
 have hk' : 2 ≤ k := by simpa using hk
 obtain ⟨css, h1, h2⟩ := o
 rcases h2 with h2 | ⟨g, cur, ha, hg, h3, h4, h5, h6, h7⟩
 ·exact ⟨lab0, h.ste t, css, h1.keep (h.keeps t), .inl h2⟩
 ·have hge : w0.heap.size ≤ g := by
   rcases Nat.lt_or_ge g w0.heap.size with hl | hl
   ·have := h.low g hl (by simp)
    have := lin_le lab0 g
    omega
   ·exact hl
  have hlt : g < w.heap.size := (Array.getElem?_eq_some_iff.1 hg).1
  have hs := h.ste t
  have hk2 := h.keeps t
  refine ⟨relab lab0 g k', ⟨hs.os, hs.tape, hs.output, hs.size, hs.block, fun b hb => by unfold relab; rw [if_neg (by omega)], fun b hb => by unfold relab; rw [if_neg (by omega)]; exact t b (Nat.le_trans h.size hb)⟩, css, ?_, .inr ⟨g, cur, ha, hg, h3, h4, h5, h6, by simp [relab]⟩⟩
  refine h1.keep ⟨Nat.le_refl _, fun b hb h0 => ⟨?_, rfl⟩⟩
  have hne : b ≠ g := fun e => by subst e; omega
  unfold relab
  rw [if_neg hne]
  exact (hk2.2 b hb h0).1
theorem LW.lss_lit {a b : Int} {ik : IntKind} {tv : Bool} (he : decide (a < b) = tv) (hw : Wn ops F g) (hdN : Nat.blt d N = true) (hx : ev F x = some (.int ik a)) (hy : ev F y = some (.int ik b))
  (h : LW P N ops rest ((d, .bool tv) :: F) w K) : LW P N ops (⟨some d, .binOp .lss t x y t', ty, pos, af, g⟩ :: rest) F w K :=
 LW.lss (kb := some) (r := tv) (by rw [he]; rfl) hw hdN hx hy (fun c hc => by cases hc; exact h)
theorem LW.add_lit {a b c : Int} (he : w64 (a + b) = c) (hw : Wn ops F g) (hdN : Nat.blt d N = true) (hx : ev F x = some (.int .i64 a)) (hy : ev F y = some (.int .i64 b))
  (h : LW P N ops rest ((d, .int .i64 c) :: F) w K) : LW P N ops (⟨some d, .binOp .add t x y t', ty, pos, af, g⟩ :: rest) F w K :=
 LW.add (k := some) (r := c) (by rw [he]; rfl) hw hdN hx hy (fun c hc => by cases hc; exact h)
def OAt (oa : Option Addr) (sz n : Nat) (p : Addr) : Prop := ∃ ad, oa = some ad ∧ p = ad.add (n * sz)
theorem LW.indexO {ρ : Rep β} {oa : Option Addr} {c q : Nat} {xs : List β} {i : Int} {k : β → Option α} {nb : Nat} {zv : Value} {yk : IntKind} (hm : bnd (idx xs i) k = some r) (o : Own ρ lab w q E oa c xs) (hT : TySl P T E ρ.sz nb zv)
  (hw : Wn ops F g) (hdN : Nat.blt d N = true) (hx : ev F x = some (.slice oa xs.length c)) (hy : ev F y = some (.int yk i))
  (h : ∀ e p cs, k e = some r → ρ.rd lab w cs e → At (mask lab q) w p cs → xs[i.toNat]? = some e → OAt oa ρ.sz i.toNat p → LW P N ops rest ((d, .pointer (some p)) :: F) w K) : LW P N ops (⟨some d, .indexAddr T x y, ty, pos, af, g⟩ :: rest) F w K := by
 obtain ⟨e, he, hk⟩ := bnd_some hm
 have he' := he
 unfold idx at he'
 split at he'
 ·rename_i h0
  obtain ⟨css, h1, h2⟩ := o
  obtain ⟨cs, hc, hrd⟩ := h1.get he'
  have hlt : i.toNat < xs.length := (List.getElem?_eq_some_iff.1 he').1
  have o' : Own ρ lab w q E oa c xs := ⟨css, h1, h2⟩
  have s := o'.view
  obtain ⟨ad, cs2, rfl, hrd2, hat⟩ := s.at_ he'
  rcases h2 with ⟨h, _⟩ | ⟨g', cur, ha, hg, h3, h4, h5, h6, h7⟩
  ·cases h
  ·cases ha
   have hcs : cs2 = cs := by
    apply List.ext_getElem?
    intro j
    have l1 := ρ.len hrd
    have l2 := ρ.len hrd2
    by_cases hj : j < ρ.sz
    ·have e1 := flatten_get css (fun cs h => (h1.each cs h).1) i.toNat j cs hc hj
     have e2 := (hat j cs2[j] (List.getElem?_eq_getElem (by omega))).2
     rw [add_add', add_lit0, Nat.zero_add, cell_of_row w g' _ cur E (0, 0) hg] at e2
     rw [← h6, List.getElem?_take_of_lt (by
      have : (i.toNat + 1) * ρ.sz ≤ xs.length * ρ.sz := Nat.mul_le_mul_right _ hlt
      rw [Nat.add_mul] at this; omega)] at e1
     rw [← e1, List.getElem?_eq_getElem (by omega), ← e2]
     simp
    ·rw [List.getElem?_eq_none (by omega), List.getElem?_eq_none (by omega)]
   subst hcs
   obtain ⟨inf, hi, _, hsz, _⟩ := hT.info
   refine LW.val rfl hw rfl hdN (fun a ha => ?_) (h e _ cs2 hk hrd hat he' ⟨_, rfl, rfl⟩)
   have hlt' : i < (xs.length : Int) := by omega
   simp [execOp, ha.eval hx, ha.eval hy, Instr.indexAt, asIntOf, run_underlying hT.und, h0, hlt', sizeOf, typeInfo, hi, hsz]
 ·cases he'
theorem LW.nilCheck {p : Addr} (hw : Wn ops F g) (hdN : Nat.blt d N = true) (hx : ev F x = some (.pointer (some p))) (h : LW P N ops rest ((d, .pointer (some p)) :: F) w K) : LW P N ops (⟨some d, .nilCheck x, ty, pos, af, g⟩ :: rest) F w K :=
 LW.val rfl hw rfl hdN (fun a ha => by simp [execOp, ha.eval hx]) h
theorem LW.min2 {a b : Int} {k : Int → Option α} {ts : Array TypeId} (hm : letm (min a b) k = some r) (hw : Wn ops F g) (hdN : Nat.blt d N = true) (hx : ev F x = some (.int .i64 a)) (hy : ev F y = some (.int .i64 b))
  (h : ∀ c, k c = some r → LW P N ops rest ((d, .int .i64 c) :: F) w K) : LW P N ops (⟨some d, .call { callee := .builtin .min, args := #[x, y], argTypes := ts }, ty, pos, af, g⟩ :: rest) F w K :=
 LW.val rfl hw rfl hdN (fun q ha => by
  have e : (if b < a then b else a) = min a b := by split <;> omega
  simp only [execOp, resolve, invoke, builtin, Sem.run_bind, Sem.run_pure, Result.andThen_ok, List.map_toArray, List.map_cons, List.map_nil, ha.eval hx, ha.eval hy, run_min_int2, e]) (h _ hm)
theorem LW.max2 {a b : Int} {k : Int → Option α} {ts : Array TypeId} (hm : letm (max a b) k = some r) (hw : Wn ops F g) (hdN : Nat.blt d N = true) (hx : ev F x = some (.int .i64 a)) (hy : ev F y = some (.int .i64 b))
  (h : ∀ c, k c = some r → LW P N ops rest ((d, .int .i64 c) :: F) w K) : LW P N ops (⟨some d, .call { callee := .builtin .max, args := #[x, y], argTypes := ts }, ty, pos, af, g⟩ :: rest) F w K :=
 LW.val rfl hw rfl hdN (fun q ha => by
  have e : (if b > a then b else a) = max a b := by split <;> omega
  simp only [execOp, resolve, invoke, builtin, Sem.run_bind, Sem.run_pure, Result.andThen_ok, List.map_toArray, List.map_cons, List.map_nil, ha.eval hx, ha.eval hy, run_max_int2, e]) (h _ hm)
end
end Go.Gk
