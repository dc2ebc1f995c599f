/-
  A row whose last element is itself a row of the call's own, all other elements data. Over whatever program; no condition.
-/
import Derived.Test.YtbfkbakadpkgoaaGreatDoorYMem
namespace Go.Gk
open Go.RowKit
section
variable {α β : Type} {ρ : Rep β} {lab lab' : Lab} {w w' : World} {oa oa' : Option Addr} {c c' k k' E E2 : Nat} {t : PT}
theorem Own.blk {xs : List β} (o : Own ρ lab w k E oa c xs) : oa = none ∨ ∃ g, oa = some ⟨g, 0, none⟩ ∧ g < w.heap.size ∧ lab g = k := by
 obtain ⟨css, _, h⟩ := o
 rcases h with ⟨h, _⟩ | ⟨g, cur, ha, hg, _, _, _, _, h7⟩
 ·exact .inl h
 ·exact .inr ⟨g, ha, (Array.getElem?_eq_some_iff.1 hg).1, h7⟩
theorem Apart.of {ρ' : Rep α} {xs : List β} {ys : List α} (o : Own ρ lab w k E oa c xs) (o' : Own ρ' lab w k' E2 oa' c' ys) (hne : k ≠ k') : Apart oa oa' := by
 intro g g' h h' e
 subst e
 rcases o.blk with hb | ⟨g1, hb, _, h1⟩
 ·rw [h] at hb; cases hb
 rcases o'.blk with hc | ⟨g2, hc, _, h2⟩
 ·rw [h'] at hc; cases hc
 rw [h] at hb; cases hb
 rw [h'] at hc; cases hc
 exact hne (h1.symm.trans h2)
theorem relo_at (g : Nat) : relo lab (some ⟨g, 0, none⟩) k g = k := by unfold relo; simp
theorem relo_ne {g b : Nat} (h : b ≠ g) : relo lab (some ⟨g, 0, none⟩) k b = lab b := by unfold relo; simp [h]
theorem Own.stpR {ks : List Nat} {xs : List β} (o : Own ρ lab w k E oa c xs) (tp : Top lab w) (k' : Nat) (hk : ks.contains k = true) (hk0 : k ≠ 0) : Stp ks lab w (relo lab oa k') w := by
 rcases o.blk with rfl | ⟨g, rfl, hg, hl⟩
 ·exact Stp.refl tp
 ·refine ⟨rfl, rfl, rfl, Nat.le_refl _, fun _ _ _ => rfl, fun b hb h => relo_ne fun e => ?_, fun b hb => ?_⟩
  ·subst e
   rcases h with h | h
   ·omega
   ·rw [hl, hk] at h; cases h
  ·rw [relo_ne (by omega)]; exact tp b hb
theorem Own.relab {xs : List β} (o : Own ρ lab w k E oa c xs) (tp : Top lab w) (k' : Nat) (hk0 : k ≠ 0) : Own ρ (relo lab oa k') w k' E oa c xs := by
 have hs := (o.stpR (ks := [k]) tp k' (by simp) hk0).keeps
 obtain ⟨css, h1, h2⟩ := o
 refine ⟨css, h1.keep hs, ?_⟩
 rcases h2 with h | ⟨g, cur, rfl, hg, h3, h4, h5, h6, h7⟩
 ·exact .inl h
 ·exact .inr ⟨g, cur, rfl, hg, h3, h4, h5, h6, relo_at g⟩
theorem Own.off {ρ' : Rep α} {xs : List β} {ys : List α} (o : Own ρ lab w k E oa c xs) (o' : Own ρ' lab w k' E2 oa' c' ys) (tp : Top lab w) (q : Nat) (hk0 : k' ≠ 0) (ha : Apart oa oa') : Own ρ (relo lab oa' q) w k E oa c xs := by
 have hs := (o'.stpR (ks := [k']) tp q (by simp) hk0).keeps
 obtain ⟨css, h1, h2⟩ := o
 refine ⟨css, h1.keep hs, ?_⟩
 rcases h2 with h | ⟨g, cur, rfl, hg, h3, h4, h5, h6, h7⟩
 ·exact .inl h
 ·refine .inr ⟨g, cur, rfl, hg, h3, h4, h5, h6, ?_⟩
  rcases o'.blk with rfl | ⟨g', rfl, _, _⟩
  ·exact h7
  ·rw [relo_ne (ha g g' rfl rfl)]; exact h7
theorem raw_sl {xs : List (List (den t))} {vs : List Value} (o : Own Rep.raw lab w k E oa c vs) (h : All2 (fun y v => Dat (.sl t) y lab' w v) xs vs) (hk : Keeps lab w lab' w) (h0 : ∀ b, b < w.heap.size → lab b = k → lab' b = 0) : SL (rep (.sl t)) lab' w oa c xs := by
 have s := o.sl hk h0
 refine ⟨by rw [h.len]; exact s.1, s.2.1, fun i x hx => ?_⟩
 obtain ⟨v, hv, hd⟩ := h.get hx
 obtain ⟨ad, cs, h1, h2, h3⟩ := s.at_ hv
 obtain ⟨ds, d1, d2⟩ := hd
 have d2 : ds = [v] := d2
 rw [h2.1] at h3
 exact ⟨ad, [v], h1, by rw [← d2]; exact d1, h3⟩
theorem OwnQ.nil : OwnQ t lab w k E E2 none 0 [] := .inl ⟨rfl, rfl, rfl⟩
theorem OwnQ.view {xs : List (List (den t))} (o : OwnQ t lab w k E E2 oa c xs) : SL (rep (.sl t)) (mask lab k) w oa c xs := by
 rcases o with ⟨rfl, rfl, rfl⟩ | ⟨ys, z, vs, a', c', rfl, h1, h2, h3, _⟩
 ·exact SL.nil
 ·refine raw_sl h1 ((h2.datKeep Keeps.mask).append (.cons (Dat.ofSl h3.view) .nil)) Keeps.mask (fun b _ h => by simp [mask, h])
def lastAt {α : Type} (xs : List α) (i : Nat) : Option α := if i + 1 = xs.length then xs[i]? else none
theorem lastAt_eq {α : Type} {xs : List α} {i : Nat} {z : α} (h : lastAt xs i = some z) : xs = xs.dropLast ++ [z] ∧ i = xs.dropLast.length := by
 unfold lastAt at h
 split at h
 ·rename_i hi
  have hne : xs ≠ [] := fun e => by subst e; simp at h
  have hl : xs.getLast hne = z := by
   rw [List.getLast_eq_getElem]
   have : xs.length - 1 = i := by omega
   simp only [this]
   rw [List.getElem?_eq_getElem (by omega)] at h
   exact Option.some.inj h
  refine ⟨?_, by simp; omega⟩
  rw [← hl, List.dropLast_concat_getLast]
 ·cases h
theorem snoc_inj {α : Type} {a b : List α} {x y : α} (h : a ++ [x] = b ++ [y]) : a = b ∧ x = y := by
 have := List.append_inj_left' h rfl
 exact ⟨this, by rw [this] at h; simpa using h⟩
theorem OwnQ.take {xs : List (List (den t))} {z : List (den t)} {i : Nat} {p : Addr} (o : OwnQ t lab w k E E2 oa c xs) (tp : Top lab w) (hk : Nat.beq k 0 = false) (k' : Nat) (hz : lastAt xs i = some z) (hp : OAt oa 1 i p) :
  ∃ a' c' lab', w.cell? p = some (.slice a' z.length c') ∧ Stp [k] lab w lab' w ∧ Own (rep t) lab' w k' E2 a' c' z ∧ OwnP t lab' w k E oa c xs := by
 have hk0 := ne0 hk
 obtain ⟨e1, e2⟩ := lastAt_eq hz
 rcases o with ⟨rfl, _, _⟩ | ⟨ys, z', vs, a', c', hxs, h1, h2, h3, h4⟩
 ·simp at e1
 ·rw [hxs] at e1 e2
  obtain ⟨hy, hzz⟩ := snoc_inj e1
  subst hzz
  rw [← hy] at e2
  have hl : List.length (α := List (den t)) ys = vs.length := h2.len
  have hv : (vs ++ [Value.slice a' z'.length c'])[i]? = some (.slice a' z'.length c') := by
   rw [e2, hl]; simp
  have hcell : w.cell? p = some (.slice a' z'.length c') := by
   obtain ⟨ad, q1, rfl⟩ := hp
   obtain ⟨ad', cs, q2, q3, q4⟩ := h1.view.at_ hv
   rw [q1] at q2; cases q2
   have q3 := q3.1
   subst q3
   have := (q4 0 _ rfl).2
   rw [add_zero'] at this
   exact this
  have hs := h3.stpR (ks := [k]) tp k' (by simp) hk0
  exact ⟨a', c', relo lab a' k', hcell, hs, h3.relab tp k' hk0, ys, z', vs, _, hxs, h1.off h3 tp k' hk0 h4, h2.datKeep hs.keeps⟩
theorem OwnP.put {P : Program} {T : TypeId} {xs : List (List (den t))} {z0 z : List (den t)} {i : Nat} {p : Addr} {a' : Option Addr} (o : OwnP t lab w k E oa c xs) (o' : Own (rep t) lab w k' E2 a' c' z) (tp : Top lab w) (hk : Nat.beq k 0 = false) (hk' : Nat.beq k' 0 = false) (hne : Nat.beq k k' = false) (hz : lastAt xs i = some z0) (hp : OAt oa 1 i p) (hT : TyOne P T) :
  ∃ lab' w', (Instr.storeAt T (.pointer (some p)) (.slice a' z.length c')).run P w = .ok () w' ∧ Stp [k, k'] lab w lab' w' ∧ OwnQ t lab' w' k E E2 oa c (xs.dropLast ++ [z]) := by
 have hk0 := ne0 hk
 have hk0' := ne0 hk'
 have hne' : k ≠ k' := fun e => by subst e; simp at hne
 obtain ⟨e1, e2⟩ := lastAt_eq hz
 obtain ⟨ys, z', vs, u, hxs, h1, h2⟩ := o
 rw [hxs] at e1 e2
 obtain ⟨hy, hzz⟩ := snoc_inj e1
 rw [← hy] at e2
 have hl : List.length (α := List (den t)) ys = vs.length := h2.len
 have hv : (vs ++ [u])[i]? = some u := by rw [e2, hl]; simp
 have hat : At (mask lab k) w p [u] := by
  obtain ⟨ad, q1, rfl⟩ := hp
  obtain ⟨ad', cs, q2, q3, q4⟩ := h1.view.at_ hv
  rw [q1] at q2; cases q2
  have q3 := q3.1
  subst q3
  exact q4
 obtain ⟨⟨cu, hcu⟩, hf, hs, ho⟩ := own_store (v := .slice a' z.length c') (e' := .slice a' z.length c') (off := 0) tp hk h1 hp hat hv rfl (by show 0 < 1; omega) ⟨rfl, rfl⟩
 rw [add_zero'] at hcu hf hs ho
 have hrun := run_store1 (P := P) (w := w) (v := .slice a' z.length c') hT rfl rfl hcu hf
 have hset : (vs ++ [u]).set i (.slice a' z.length c') = vs ++ [.slice a' z.length c'] := by
  rw [e2, hl, List.set_append_right _ _ (Nat.le_refl _)]; simp
 rw [hset] at ho
 have o2 := o'.step hs (by
  cases hb : Nat.beq k' k with
  | false => rfl
  | true => exact absurd (Nat.eq_of_beq_eq_true hb).symm hne')
 have s2 := o2.stpR (ks := [k, k']) hs.top k (by simp) hk0'
 have s1 : Stp [k, k'] lab w lab (w.setCell p (.slice a' z.length c')) := hs.stp (.inl (by simp))
 refine ⟨relo lab a' k, _, hrun, s1.trans s2, .inr ⟨ys, z, vs, a', c', by rw [hxs]; simp, ?_, (h2.datKeep hs.keeps).datKeep s2.keeps, o2.relab hs.top k hk0', Apart.of ho o2 hne'⟩⟩
 exact ho.off o2 hs.top k hk0' (Apart.of ho o2 hne')
theorem OwnQ.settle {xs : List (List (den t))} (o : OwnQ t lab w k E E2 oa c xs) (tp : Top lab w) (hk : Nat.beq k 0 = false) :
  ∃ lab' vs, Stp [k] lab w lab' w ∧ Own Rep.raw lab' w k E oa c vs ∧ All2 (fun y v => Dat (.sl t) y lab' w v) xs vs := by
 have hk0 := ne0 hk
 rcases o with ⟨rfl, rfl, rfl⟩ | ⟨ys, z, vs, a', c', rfl, h1, h2, h3, h4⟩
 ·exact ⟨lab, [], Stp.refl tp, Own.nil, .nil⟩
 ·have hs := h3.stpR (ks := [k]) tp 0 (by simp) hk0
  refine ⟨relo lab a' 0, _, hs, h1.off h3 tp 0 hk0 h4, (h2.datKeep hs.keeps).append (.cons (Dat.ofSl ?_) .nil)⟩
  exact (h3.relab tp 0 hk0).sl ⟨Nat.le_refl _, fun _ _ h => ⟨h, rfl⟩⟩ fun b _ h => h
theorem ne_beq {a b : Nat} (h : a ≠ b) : Nat.beq a b = false := by
 cases hb : Nat.beq a b with
 | false => rfl
 | true => exact absurd (Nat.eq_of_beq_eq_true hb) h
theorem OwnQ.app {P : Program} {T nb : Nat} {zv : Value} {k2 c2 : Nat} {oa2 : Option Addr} {xs : List (List (den t))} {z : List (den t)} (o : OwnQ t lab w k E E2 oa c xs) (o2 : OwnQ t lab w k2 E E2 oa2 c2 [z]) (tp : Top lab w) (hk : Nat.beq k 0 = false) (hk2 : Nat.beq k2 0 = false) (hne : Nat.beq k k2 = false) (hT : TySl P T E 1 nb zv) (hb : Nat.ble nb 32768 = true) (hl : xs.length + 1 ≤ LIM) (ty : TypeId) :
  ∃ oa3 c3 lab3 w3, (Builtin.append_ #[T, T] ty #[.slice oa xs.length c, .slice oa2 1 c2]).run P w = .ok (.slice oa3 (xs ++ [z]).length c3) w3 ∧ Stp [k, k2] lab w lab3 w3 ∧ OwnQ t lab3 w3 k E E2 oa3 c3 (xs ++ [z]) := by
 have hne' : k ≠ k2 := fun e => by subst e; simp at hne
 have hk2' := ne0 hk2
 obtain ⟨lab1, vs, s1, h1, h2⟩ := o.settle tp hk
 have o2' := o2.stp s1 (by
  cases hc : ([k] : List Nat).contains k2 with
  | false => rfl
  | true => simp at hc; exact absurd hc.symm hne')
 rcases o2' with ⟨h, _, _⟩ | ⟨ys, z', vs2, a', c', he, g1, g2, g3, g4⟩
 ·cases h
 ·have hz : ys = [] ∧ z = z' := by
   cases ys with
   | nil => exact ⟨rfl, by simpa using he⟩
   | cons y r => cases r <;> simp at he
  obtain ⟨rfl, rfl⟩ := hz
  have hv2 : vs2 = [] := by cases g2; rfl
  subst hv2
  have hlv : List.length (α := List (den t)) xs = vs.length := h2.len
  obtain ⟨oa3, c3, lab3, w3, hrun, hst, ho⟩ := run_append_own' (P := P) (ρ := Rep.raw) (c' := c2) (nb := nb) (zv := zv) s1.top hk h1 g1.flat hT hb (by rw [← hlv]; exact hl) ty
  have g3' := g3.step hst (ne_beq fun e => hne' e.symm)
  have s3 := g3'.stpR (ks := [k, k2]) hst.top k (by simp) hk2'
  have hap : Apart oa3 a' := Apart.of ho g3' hne'
  refine ⟨oa3, c3, relo lab3 a' k, w3, ?_, ((s1.mono (ks' := [k, k2]) (fun q hq => by simp at hq; simp [hq])).trans (hst.stp (.inl (by simp)))).trans s3, .inr ⟨xs, z, vs, a', c', rfl, ?_, (h2.datKeep hst.keeps).datKeep s3.keeps, g3'.relab hst.top k hk2', hap⟩⟩
  ·rw [hlv]
   have e : (xs ++ [z]).length = (vs ++ [Value.slice a' z.length c']).length := by simp; exact hlv
   rw [e]; exact hrun
  ·exact ho.off g3' hst.top k hk2' hap
end
end Go.Gk
