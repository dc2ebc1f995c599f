/-
  What values in memory stand for (slices, structs), and what a step of the walk leaves of it. No condition; nothing here speaks of a program.
-/
import Derived.Test.YtbfkbakadpkgoaaGreatDoorBase
import Derived.Maps.AppendAt
namespace Go.Gk
open Go.RowKit
def letm {α β : Type} (e : β) (k : β → Option α) : Option α := k e
def bnd {α β : Type} (m : Option β) (k : β → Option α) : Option α := m.bind k
theorem bnd_some {α β : Type} {m : Option β} {k : β → Option α} {r : α} (h : bnd m k = some r) : ∃ y, m = some y ∧ k y = some r := by
 cases m with
 | none => simp [bnd] at h
 | some y => exact ⟨y, rfl, h⟩
theorem cond_t {α : Type} {b : Bool} {x y : Option α} {r : α} (h : (bif b then x else y) = some r) (hb : b = true) : x = some r := by subst hb; exact h
theorem cond_f {α : Type} {b : Bool} {x y : Option α} {r : α} (h : (bif b then x else y) = some r) (hb : b = false) : y = some r := by subst hb; exact h
def w64 (x : Int) : Int := IntKind.i64.wrap x
def idx {α : Type} (xs : List α) (i : Int) : Option α := if 0 ≤ i then xs[i.toNat]? else none
def LIM : Nat := 4294967296
def app {α : Type} (xs ys : List α) : Option (List α) := if xs.length + ys.length ≤ LIM then some (xs ++ ys) else none
abbrev Lab := Nat → Nat
structure Ste (lab : Lab) (k : Nat) (w : World) (lab' : Lab) (w' : World) : Prop where
 os : w'.os = w.os
 tape : w'.tape = w.tape
 output : w'.output = w.output
 size : w.heap.size ≤ w'.heap.size
 block : ∀ b, b < w.heap.size → (k = 0 ∨ lab b ≠ k) → w'.heap[b]? = w.heap[b]?
 same : ∀ b, b < w.heap.size → lab' b = lab b
 top : ∀ b, w'.heap.size ≤ b → lab' b = 0
def Top (lab : Lab) (w : World) : Prop := ∀ b, w.heap.size ≤ b → lab b = 0
def Keeps (lab : Lab) (w : World) (lab' : Lab) (w' : World) : Prop :=
 w.heap.size ≤ w'.heap.size ∧ ∀ b, b < w.heap.size → lab b = 0 → lab' b = 0 ∧ w'.heap[b]? = w.heap[b]?
theorem Ste.keeps {lab lab' : Lab} {k : Nat} {w w' : World} (h : Ste lab k w lab' w') : Keeps lab w lab' w' :=
 ⟨h.size, fun b hb h0 => ⟨(h.same b hb).trans h0, h.block b hb (by by_cases hk : k = 0 <;> simp_all <;> omega)⟩⟩
structure Rep (α : Type) where
 sz : Nat
 rd : Lab → World → List Value → α → Prop
 len : ∀ {lab w cs x}, rd lab w cs x → cs.length = sz
 one : ∀ {lab w cs x}, rd lab w cs x → ∀ u ∈ cs, u.oneCell' = true
 keep : ∀ {lab w lab' w' cs x}, Keeps lab w lab' w' → rd lab w cs x → rd lab' w' cs x
def At (lab : Lab) (w : World) (p : Addr) (cs : List Value) : Prop := ∀ j u, cs[j]? = some u → lab p.block = 0 ∧ w.cell? (p.add j) = some u
theorem block_add (a : Addr) (n : Nat) : (a.add n).block = a.block := by unfold Addr.add; split <;> rfl
theorem add_add' (a : Addr) (i j : Nat) : (a.add i).add j = a.add (i + j) := by
 unfold Addr.add
 by_cases hi : i = 0 <;> by_cases hj : j = 0 <;> simp [hi, hj, Nat.add_assoc]
theorem cell_lt {w : World} {p : Addr} {u : Value} (h : w.cell? p = some u) : p.block < w.heap.size := block_lt_of_cell h
theorem At.keep {lab lab' : Lab} {w w' : World} {p : Addr} {cs : List Value} (hk : Keeps lab w lab' w') (h : At lab w p cs) : At lab' w' p cs := fun j u hu => by
 obtain ⟨h0, hc⟩ := h j u hu
 have hlt := cell_lt hc
 rw [block_add] at hlt
 obtain ⟨h1, h2⟩ := hk.2 _ hlt h0
 exact ⟨h1, by rw [World.cell?_of_block (w := w) (by rw [block_add]; exact h2)]; exact hc⟩
def SL {α : Type} (ρ : Rep α) (lab : Lab) (w : World) (oa : Option Addr) (c : Nat) (xs : List α) : Prop :=
 xs.length ≤ c ∧ c ≤ maxLen ∧ ∀ i x, xs[i]? = some x → ∃ ad cs, oa = some ad ∧ ρ.rd lab w cs x ∧ At lab w (ad.add (i * ρ.sz)) cs
section
variable {α : Type} {ρ : Rep α} {lab lab' : Lab} {w w' : World} {oa : Option Addr} {c k : Nat} {xs : List α}
theorem SL.keep (hk : Keeps lab w lab' w') (h : SL ρ lab w oa c xs) : SL ρ lab' w' oa c xs :=
 ⟨h.1, h.2.1, fun i x hx => by obtain ⟨ad, cs, h1, h2, h3⟩ := h.2.2 i x hx; exact ⟨ad, cs, h1, ρ.keep hk h2, h3.keep hk⟩⟩
theorem SL.step (h : SL ρ lab w oa c xs) (e : Ste lab k w lab' w') : SL ρ lab' w' oa c xs := h.keep e.keeps
theorem SL.le (h : SL ρ lab w oa c xs) : xs.length ≤ maxLen := Nat.le_trans h.1 h.2.1
theorem SL.nil : SL ρ lab w none 0 [] := ⟨Nat.le_refl _, by decide, fun i x hx => by simp at hx⟩
theorem SL.at_ (h : SL ρ lab w oa c xs) {i : Nat} {x : α} (hx : xs[i]? = some x) : ∃ ad cs, oa = some ad ∧ ρ.rd lab w cs x ∧ At lab w (ad.add (i * ρ.sz)) cs := h.2.2 i x hx
end
theorem At.step {lab lab' : Lab} {w w' : World} {k : Nat} {p : Addr} {cs : List Value} (h : At lab w p cs) (e : Ste lab k w lab' w') : At lab' w' p cs := h.keep e.keeps
def Rep.i64 : Rep Int where
 sz := 1
 rd := fun _ _ cs x => cs = [.int .i64 x]
 len := fun h => by rw [h]; rfl
 one := fun h u hu => by rw [h] at hu; simp at hu; rw [hu]; rfl
 keep := fun _ h => h
def Rep.u8 : Rep UInt8 where
 sz := 1
 rd := fun _ _ cs x => cs = [.int .u8 (x.toNat : Int)]
 len := fun h => by rw [h]; rfl
 one := fun h u hu => by rw [h] at hu; simp at hu; rw [hu]; rfl
 keep := fun _ h => h
def Rep.u64 : Rep UInt64 where
 sz := 1
 rd := fun _ _ cs x => cs = [.int .u64 (x.toNat : Int)]
 len := fun h => by rw [h]; rfl
 one := fun h u hu => by rw [h] at hu; simp at hu; rw [hu]; rfl
 keep := fun _ h => h
def Rep.u32 : Rep UInt32 where
 sz := 1
 rd := fun _ _ cs x => cs = [.int .u32 (x.toNat : Int)]
 len := fun h => by rw [h]; rfl
 one := fun h u hu => by rw [h] at hu; simp at hu; rw [hu]; rfl
 keep := fun _ h => h
def Rep.bool : Rep Bool where
 sz := 1
 rd := fun _ _ cs x => cs = [.bool x]
 len := fun h => by rw [h]; rfl
 one := fun h u hu => by rw [h] at hu; simp at hu; rw [hu]; rfl
 keep := fun _ h => h
def strV (l : List UInt8) : Value := .string ⟨l.toArray⟩
def Rep.str : Rep (List UInt8) where
 sz := 1
 rd := fun _ _ cs x => cs = [strV x]
 len := fun h => by rw [h]; rfl
 one := fun h u hu => by rw [h] at hu; simp at hu; rw [hu]; rfl
 keep := fun _ h => h
def Rep.sl {α : Type} (ρ : Rep α) : Rep (List α) where
 sz := 1
 rd := fun lab w cs x => ∃ oa c, cs = [.slice oa x.length c] ∧ SL ρ lab w oa c x
 len := fun ⟨_, _, h, _⟩ => by rw [h]; rfl
 one := fun ⟨_, _, h, _⟩ u hu => by rw [h] at hu; simp at hu; rw [hu]; rfl
 keep := fun hk ⟨oa, c, h, hs⟩ => ⟨oa, c, h, hs.keep hk⟩
def Box (lab : Lab) (w : World) (k : Nat) (g : Nat) (T : TypeId) (cs : List Value) : Prop := w.heap[g]? = some (.cells cs.toArray T (0, 0)) ∧ lab g = k
section
variable {lab lab' : Lab} {w w' : World} {k k' g : Nat} {T : TypeId} {cs : List Value}
theorem Box.lt (h : Box lab w k g T cs) : g < w.heap.size := (Array.getElem?_eq_some_iff.1 h.1).1
theorem Box.step (h : Box lab w k g T cs) (e : Ste lab k' w lab' w') (hne : Nat.beq k k' = false) : Box lab' w' k g T cs := by
 have hk : k ≠ k' := fun e => by subst e; simp at hne
 refine ⟨?_, (e.same g h.lt).trans h.2⟩
 rw [e.block g h.lt (.inr (by rw [h.2]; exact hk))]
 exact h.1
theorem Box.cell (h : Box lab w k g T cs) (i : Nat) : w.cell? ⟨g, i, none⟩ = cs[i]? := by
 rw [cell_of_row w g i cs.toArray T (0, 0) h.1]; simp
theorem Box.frozen (h : Box lab w k g T cs) (i : Nat) : w.frozen? ⟨g, i, none⟩ = false := frozen_of_row w g i cs.toArray T h.1
end
def relab (lab : Lab) (g k : Nat) : Lab := fun b => if b = g then k else lab b
theorem Ste.alloc {lab : Lab} {w : World} (t : Top lab w) (k : Nat) (o : Obj) : Ste lab 0 w (relab lab w.heap.size k) (w.alloc o) := by
 refine ⟨rfl, rfl, rfl, by simp, fun b hb _ => Below.heap_alloc w o b hb, fun b hb => by simp [relab]; omega, fun b hb => ?_⟩
 simp at hb
 simp only [relab]
 rw [if_neg (by omega)]
 exact t b (by omega)
theorem Box.alloc {lab : Lab} {w : World} (k : Nat) (T : TypeId) (cs : List Value) : Box (relab lab w.heap.size k) (w.alloc (.cells cs.toArray T)) k w.heap.size T cs :=
 ⟨heap_alloc_new w _, by simp [relab]⟩
theorem Ste.setCell {lab : Lab} {w : World} (t : Top lab w) {k g i : Nat} (hk0 : Nat.beq k 0 = false) (hk : lab g = k) (v : Value) : Ste lab k w lab (w.setCell ⟨g, i, none⟩ v) := by
 refine ⟨rfl, rfl, rfl, by simp [World.setCell], fun b hb h => ?_, fun _ _ => rfl, fun b hb => t b (by simpa [World.setCell] using hb)⟩
 by_cases hbg : b = g
 ·subst hbg
  rcases h with h | h
  ·subst h; simp at hk0
  ·exact absurd hk h
 ·exact heap_setCell_other w _ b v (by simpa using hbg)
end Go.Gk
