/-
  A function's contract from the evaluator: how it begins, what it hands back. Over whatever program; no condition.
-/
import Derived.Test.YtbfkbakadpkgoaaGreatDoorYCd
namespace Go.Gk
open Go.RowKit
def iniS : (ps : List PK) → hl ps → Nat → List (Nat × Nat × SV)
 | [], _, _ => []
 | .d t :: ps, a, i => (i, 0, .dat t a.1) :: iniS ps a.2 (i + 1)
 | .p _ _ :: ps, a, i => (i, 0, .ptr 0 0) :: iniS ps a.2 (i + 1)
 | .r _ _ :: ps, a, i => (i, 0, .own 0) :: iniS ps a.2 (i + 1)
def iniM : (ps : List PK) → hl ps → List (Nat × Nat × MEnt)
 | [], _ => []
 | .d _ :: ps, a => iniM ps a.2
 | .p T t :: _, a => [(0, 0, .box 2 T t a.1)]
 | .r E t :: _, a => [(0, 0, .row 3 E t a.1)]
def ini (ps : List PK) (a : hl ps) : PS := ⟨1, iniS ps a 0, iniM ps a⟩
def e0 (ei : EI) : Env := fun _ => ei
def EIOK (ei : EI) (gp : Nat) (lab : Lab) (w : World) : (ps : List PK) → hl ps → List Value → Prop
 | .d _ :: ps, a, _ :: vs => EIOK ei gp lab w ps a.2 vs
 | .p _ _ :: _, _, _ => ei.oa = some ⟨gp, 0, none⟩
 | .r E t :: _, a, v :: _ => v = .slice ei.oa ei.n ei.c ∧ ei.n = List.length (α := den t) a.1 ∧ ei.sz = csz t ∧ Own (rep t) lab w 3 E ei.oa ei.c a.1
 | _, _, _ => True
theorem eiok_no {ei : EI} {gp : Nat} {lab : Lab} {w : World} : ∀ {ps : List PK} {a : hl ps} {vs : List Value}, hasQ ps = false → EIOK ei gp lab w ps a vs
 | [], _, _, _ => trivial
 | .d _ :: ps, a, [], h => trivial
 | .d _ :: ps, a, _ :: vs, h => eiok_no (ps := ps) h
 | .p _ _ :: _, _, _, h => by cases h
 | .r _ _ :: _, _, _, h => by cases h
theorem oneQ_no : ∀ {ps : List PK}, hasQ ps = false → oneQ ps = true
 | [], _ => rfl
 | .d _ :: ps, h => oneQ_no (ps := ps) h
 | .p _ _ :: _, h => by cases h
 | .r _ _ :: _, h => by cases h
theorem nq {b : Bool} (h : (!b) = true) : b = false := by cases b <;> first | rfl | cases h
section
variable {lab lab1 : Lab} {w : World} {kp gp : Nat} {ei : EI}
theorem look_zip : ∀ (l : List Value) (n i : Nat), look ((l.zipIdx n).map fun p => (p.2, p.1)) (n + i) = l[i]?
 | [], _, _ => rfl
 | v :: l, n, 0 => by simp [look]
 | v :: l, n, i + 1 => by
  rw [List.zipIdx_cons, List.map_cons]
  have : n + (i + 1) ≠ n := by omega
  rw [look_ne this, show n + (i + 1) = n + 1 + i by omega, look_zip l (n + 1) i]
  rfl
theorem iniS_ok (hk : Keeps lab w lab1 w) : ∀ {ps : List PK} {a : hl ps} {vs : List Value} {n : Nat}, ArgsOK kp gp lab w ps a vs → oneQ ps = true → EIOK ei gp lab1 w ps a vs → ∀ s st sv, (s, st, sv) ∈ iniS ps a n → st = 0 ∧ n ≤ s ∧ (∀ j ∈ refs sv, j = 0) ∧ ∃ v, vs[s - n]? = some v ∧ RV (e0 ei) sv lab1 w v
 | [], _, _, _, _, _, _, s, st, sv, h => by simp [iniS] at h
 | .d t :: ps, a, [], n, h, _, _, _, _, _, _ => h.elim
 | .p T t :: ps, a, [], n, h, _, _, _, _, _, _ => h.elim
 | .r E t :: ps, a, [], n, h, _, _, _, _, _, _ => h.elim
 | .d t :: ps, a, v :: vs, n, h, hq, he, s, st, sv, hm => by
  rcases List.mem_cons.1 hm with e | hm
  ·injection e with e1 e2; injection e2 with e2 e3; subst e1 e2 e3
   exact ⟨rfl, Nat.le_refl _, fun j hj => by simp [refs, refs0] at hj, v, by simp, Dat.keep hk h.1⟩
  ·obtain ⟨h1, h2, h3, u, h4, h5⟩ := iniS_ok hk h.2 hq he s st sv hm
   refine ⟨h1, by omega, h3, u, ?_, h5⟩
   rw [show s - n = (s - (n + 1)) + 1 by omega, List.getElem?_cons_succ]; exact h4
 | .p T t :: ps, a, v :: vs, n, h, hq, he, s, st, sv, hm => by
  rcases List.mem_cons.1 hm with e | hm
  ·injection e with e1 e2; injection e2 with e2 e3; subst e1 e2 e3
   exact ⟨rfl, Nat.le_refl _, fun j hj => by simp [refs, refs0] at hj; exact hj, v, by simp, gp, he, h.1⟩
  ·obtain ⟨h1, h2, h3, u, h4, h5⟩ := iniS_ok hk h.2.2 (oneQ_no (nq hq)) (eiok_no (nq hq)) s st sv hm
   refine ⟨h1, by omega, h3, u, ?_, h5⟩
   rw [show s - n = (s - (n + 1)) + 1 by omega, List.getElem?_cons_succ]; exact h4
 | .r E t :: ps, a, v :: vs, n, h, hq, he, s, st, sv, hm => by
  rcases List.mem_cons.1 hm with e | hm
  ·injection e with e1 e2; injection e2 with e2 e3; subst e1 e2 e3
   exact ⟨rfl, Nat.le_refl _, fun j hj => by simp [refs, refs0] at hj; exact hj, v, by simp, he.1⟩
  ·obtain ⟨h1, h2, h3, u, h4, h5⟩ := iniS_ok hk h.2 (oneQ_no (nq hq)) (eiok_no (nq hq)) s st sv hm
   refine ⟨h1, by omega, h3, u, ?_, h5⟩
   rw [show s - n = (s - (n + 1)) + 1 by omega, List.getElem?_cons_succ]; exact h4
theorem iniS_ge : ∀ {ps : List PK} {a : hl ps} {n : Nat} {x : Nat × Nat × SV}, x ∈ iniS ps a n → n ≤ x.1
 | [], _, _, _, h => by simp [iniS] at h
 | .d t :: ps, a, n, x, h => by
  rcases List.mem_cons.1 h with rfl | h
  ·exact Nat.le_refl _
  ·have := iniS_ge h; omega
 | .p T t :: ps, a, n, x, h => by
  rcases List.mem_cons.1 h with rfl | h
  ·exact Nat.le_refl _
  ·have := iniS_ge h; omega
 | .r T t :: ps, a, n, x, h => by
  rcases List.mem_cons.1 h with rfl | h
  ·exact Nat.le_refl _
  ·have := iniS_ge h; omega
theorem iniS_kn : ∀ (ps : List PK) (a : hl ps) (n : Nat), KN (iniS ps a n)
 | [], _, _ => List.Pairwise.nil
 | .d t :: ps, a, n => List.pairwise_cons.2 ⟨fun x hx => by have := iniS_ge hx; show n ≠ x.1; omega, iniS_kn ps a.2 (n + 1)⟩
 | .p T t :: ps, a, n => List.pairwise_cons.2 ⟨fun x hx => by have := iniS_ge hx; show n ≠ x.1; omega, iniS_kn ps a.2 (n + 1)⟩
 | .r T t :: ps, a, n => List.pairwise_cons.2 ⟨fun x hx => by have := iniS_ge hx; show n ≠ x.1; omega, iniS_kn ps a.2 (n + 1)⟩
theorem args_box : ∀ {ps : List PK} {a : hl ps} {vs : List Value}, ArgsOK kp gp lab w ps a vs → hasP ps = true → ∃ T cs, Box lab w kp gp T cs
 | [], _, _, _, h => by cases h
 | .d t :: ps, a, [], h, _ => h.elim
 | .p T t :: ps, a, [], h, _ => h.elim
 | .r T t :: ps, a, [], h, _ => h.elim
 | .d t :: ps, a, v :: vs, h, hp => args_box h.2 hp
 | .r t _ :: ps, a, v :: vs, h, hp => args_box h.2 hp
 | .p T t :: ps, a, v :: vs, h, _ => by obtain ⟨cs, hb, _⟩ := h.2.1; exact ⟨T, cs, hb⟩
theorem args_eiok_p : ∀ {ps : List PK} {a : hl ps} {vs : List Value}, hasP ps = true → oneQ ps = true → ei.oa = some ⟨gp, 0, none⟩ → EIOK ei gp lab1 w ps a vs
 | [], _, _, h, _, _ => by cases h
 | .d t :: ps, a, [], _, _, _ => trivial
 | .d t :: ps, a, v :: vs, hp, hq, he => args_eiok_p (ps := ps) hp hq he
 | .p T t :: ps, a, vs, _, _, he => by cases vs <;> exact he
 | .r T t :: ps, a, vs, hp, hq, _ => by
  have := hasQ_noP (nq hq)
  have hp : hasP ps = true := hp
  rw [this] at hp; cases hp
theorem Own.linr {t : PT} {E c : Nat} {oa : Option Addr} {xs : List (den t)} (o : Own (rep t) lab w kp E oa c xs) (hk : Keeps lab w lab1 w) (hg : ∀ g, oa = some ⟨g, 0, none⟩ → lab1 g = 3) : Own (rep t) lab1 w 3 E oa c xs := by
 obtain ⟨css, h1, h2⟩ := o
 refine ⟨css, h1.keep hk, ?_⟩
 rcases h2 with h2 | ⟨g, cur, ha, hg2, h3, h4, h5, h6, h7⟩
 ·exact .inl h2
 ·exact .inr ⟨g, cur, ha, hg2, h3, h4, h5, h6, hg g ha⟩
theorem args_row (hkp : kp ≠ 0) (tp : Top lab w) : ∀ {ps : List PK} {a : hl ps} {vs : List Value}, ArgsOK kp gp lab w ps a vs → hasQ ps = true → hasP ps = false →
  ∃ pts lab1 ei, Keeps lab w lab1 w ∧ Cx pts w lab w lab1 ∧ EIOK ei gp lab1 w ps a vs ∧ (∀ g ∈ pts, ei.oa = some ⟨g, 0, none⟩ ∧ lab g = kp)
 | [], _, _, _, h, _ => by cases h
 | .d t :: ps, a, [], h, _, _ => h.elim
 | .r t _ :: ps, a, [], h, _, _ => h.elim
 | .p T t :: ps, a, vs, _, _, h => by cases h
 | .d t :: ps, a, v :: vs, h, hq, hp => args_row hkp tp (ps := ps) h.2 hq hp
 | .r E t :: ps, a, v :: vs, h, _, _ => by
  obtain ⟨⟨oa, c, hv, o⟩, _⟩ := h
  have o' := o
  obtain ⟨css, h1, h2⟩ := o
  rcases h2 with ⟨h2, h3, h4⟩ | ⟨g, cur, ha, hg2, h3, h4, h5, h6, h7⟩
  ·exact ⟨[], lin lab, ⟨oa, List.length (α := den t) a.1, c, csz t, 0, .un, []⟩, Keeps.lin, Cx.start tp, ⟨hv, rfl, rfl, o'.linr Keeps.lin fun g hg => by rw [h2] at hg; cases hg⟩, fun g hg => by simp at hg⟩
  ·have hlt : g < w.heap.size := (Array.getElem?_eq_some_iff.1 hg2).1
   have hkk : Keeps lab w (fun b => if b = g then 3 else lin lab b) w := ⟨Nat.le_refl _, fun b _ h0 => ⟨by
    have hne : b ≠ g := fun e => by subst e; rw [h7] at h0; exact hkp h0
    simp [hne, Gk.lin, h0], rfl⟩⟩
   refine ⟨[g], fun b => if b = g then 3 else lin lab b, ⟨oa, List.length (α := den t) a.1, c, csz t, 0, .un, []⟩, hkk, ⟨rfl, rfl, rfl, Nat.le_refl _, fun _ _ _ => rfl, fun b _ hp => by simp at hp; simp [hp], fun b hb => ?_⟩, ⟨hv, rfl, rfl, o'.linr hkk fun g' hg' => ?_⟩, fun g' hg' => ?_⟩
   ·have hne : b ≠ g := by omega
    simp [hne, lin, tp b hb]
   ·rw [ha] at hg'; cases hg'; simp
   ·have := List.mem_singleton.1 hg'; subst this; exact ⟨ha, h7⟩
theorem iniM_ok (hk : Keeps lab w lab1 w) : ∀ {ps : List PK} {a : hl ps} {vs : List Value}, (hasP ps = true → ∀ T cs, Box lab w kp gp T cs → Box lab1 w 2 gp T cs) → ArgsOK kp gp lab w ps a vs → EIOK ei gp lab1 w ps a vs → ∀ i st m, (i, st, m) ∈ iniM ps a → st = 0 ∧ i = 0 ∧ m.lbl ≠ 0 ∧ mrefs m = [] ∧ MemOK (e0 ei) lab1 w i m
 | [], _, _, _, _, _, _, _, _, h => by simp [iniM] at h
 | .d t :: ps, a, [], _, h, _, _, _, _, _ => h.elim
 | .p T t :: ps, a, [], _, h, _, _, _, _, _ => h.elim
 | .r T t :: ps, a, [], _, h, _, _, _, _, _ => h.elim
 | .d t :: ps, a, v :: vs, hb, h, he, i, st, m, hm => iniM_ok (ps := ps) hk (fun hp => hb hp) h.2 he i st m hm
 | .r E t :: ps, a, v :: vs, hb, h, he, i, st, m, hm => by
  have := List.mem_singleton.1 hm
  injection this with e1 e2; injection e2 with e2 e3; subst e1 e2 e3
  exact ⟨rfl, rfl, by show (3 : Nat) ≠ 0; omega, rfl, he.2.1, he.2.2.1, he.2.2.2⟩
 | .p T t :: ps, a, v :: vs, hb, h, he, i, st, m, hm => by
  have := List.mem_singleton.1 hm
  injection this with e1 e2; injection e2 with e2 e3; subst e1 e2 e3
  obtain ⟨cs, hb', hr⟩ := h.2.1
  exact ⟨rfl, rfl, by show (2 : Nat) ≠ 0; omega, rfl, gp, cs, he, hb rfl T cs hb', (rep t).keep hk hr⟩
theorem iniM_kn : ∀ (ps : List PK) (a : hl ps), KN (iniM ps a)
 | [], _ => List.Pairwise.nil
 | .d _ :: ps, a => iniM_kn ps a.2
 | .p _ _ :: _, _ => List.pairwise_cons.2 ⟨fun x hx => by simp at hx, List.Pairwise.nil⟩
 | .r _ _ :: _, _ => List.pairwise_cons.2 ⟨fun x hx => by simp at hx, List.Pairwise.nil⟩
theorem ini_ok {pts : List Nat} {w0 : World} {lab0 : Lab} {ps : List PK} {a : hl ps} {vs : List Value} (hk : Keeps lab w lab1 w) (hb : hasP ps = true → ∀ T cs, Box lab w kp gp T cs → Box lab1 w 2 gp T cs) (h : ArgsOK kp gp lab w ps a vs) (hq : oneQ ps = true) (he : EIOK ei gp lab1 w ps a vs) (cx : Cx pts w0 lab0 w lab1) (gl : GL lab1 w) (hp : ∀ g ∈ pts, ei.oa = some ⟨g, 0, none⟩) :
  Inv pts w0 lab0 (e0 ei) (ini ps a) (vs.zipIdx.map fun p => (p.2, p.1)) lab1 w := by
 refine ⟨⟨fun s st sv hm => ?_, fun i st m hm => ?_, gl⟩, ⟨fun s st sv hm => ?_, fun i st m hm => ?_, fun i st m hm h0 => ?_, iniS_kn _ _ _, iniM_kn _ _, Nat.one_pos⟩, cx, fun g hg => hp g hg⟩
 ·obtain ⟨_, _, _, v, h1, h2⟩ := iniS_ok hk h hq he s st sv hm
  refine ⟨v, ?_, h2⟩
  have := look_zip vs 0 s
  rw [Nat.zero_add] at this
  rw [this]; simpa using h1
 ·exact (iniM_ok hk hb h he i st m hm).2.2.2.2
 ·obtain ⟨h1, _, h3, _⟩ := iniS_ok hk h hq he s st sv hm
  subst h1
  exact ⟨Nat.one_pos, fun j hj => by rw [h3 j hj]; exact Nat.one_pos⟩
 ·obtain ⟨h1, h2, _, h3, _⟩ := iniM_ok hk hb h he i st m hm
  subst h1 h2
  exact ⟨Nat.one_pos, Nat.one_pos, fun j hj => by rw [h3] at hj; simp at hj⟩
 ·exact absurd h0 (iniM_ok hk hb h he i st m hm).2.2.1
end
def rowS (ps : PS) (s : Nat) : Option (Nat × TypeId × ((t : PT) × List (den t))) :=
 match findK ps.sl s with
 | some (_, .own id) => match findK ps.mem id with
  | some (_, .row k E t xs) => some (k, E, ⟨t, xs⟩)
  | _ => none
 | _ => none
def boxS (ps : PS) (s : Nat) : Option (Nat × TypeId × ((t : PT) × den t)) :=
 match findK ps.sl s with
 | some (_, .ptr id 0) => match findK ps.mem id with
  | some (_, .box k T t x) => some (k, T, ⟨t, x⟩)
  | _ => none
 | _ => none
def finD {P : Program} (te : List (TE P)) (ps : PS) (kf : Nat) (t : PT) : ResultVar → Option (den t)
 | .tmp s => match findK ps.sl s with
  | some (_, sv) => match asT t (sv, entOf ps sv) with
   | some x => some x
   | none => match rowS ps s with
    | some (k, _, ⟨t', xs⟩) => match Nat.ble 3 k && !Nat.beq k kf with
     | true => castT (.sl t') t xs
     | false => none
    | none => none
  | none => none
 | .cell s T => match boxS ps s, findTE te T with
  | some (_, _, ⟨t', x⟩), some e => match aggT t && PT.eqb e.pt t with
   | true => castT t' t x
   | false => none
  | _, _ => none
def aghT (ps : PS) (s : Nat) : Option (Nat × TypeId × ((t : PT) × den t) × Nat × ((u : PT) × List (den u))) :=
 match findK ps.sl s with
 | some (_, .agh t x off id) => match rowOf ps id with
  | some (k, E, r) => some (k, E, ⟨t, x⟩, off, r)
  | none => none
 | _ => none
def aghC (ps : PS) (s : Nat) : Option (Nat × TypeId × ((t : PT) × den t) × Nat × ((u : PT) × List (den u))) :=
 match findK ps.sl s with
 | some (_, .ptr id 0) => match findK ps.mem id with
  | some (_, .boxh _ _ t x [(off, rid)]) => match rowOf ps rid with
   | some (k, E, r) => some (k, E, ⟨t, x⟩, off, r)
   | none => none
  | _ => none
 | _ => none
def aghS (ps : PS) : ResultVar → Option (Nat × TypeId × ((t : PT) × den t) × Nat × ((u : PT) × List (den u)))
 | .tmp s => aghT ps s
 | .cell s _ => aghC ps s
def cellT {P : Program} (te : List (TE P)) (t : PT) : ResultVar → Bool
 | .tmp _ => true
 | .cell _ T => match findTE te T with
  | some e => aggT t && PT.eqb e.pt t
  | none => false
def finO (ps : PS) : (os : List RK) → Option (hlR os)
 | [] => some ()
 | .x T t :: os => match findK ps.mem 0, finO ps os with
  | some (_, .box k T' t' x), some r => match Nat.beq k 2 && Nat.beq T' T, castT t' t x with
   | true, some y => some (y, r)
   | _, _ => none
  | _, _ => none
 | _ :: _ => none
def finR {P : Program} (te : List (TE P)) (ps : PS) (kf : Nat) : (rs : List RK) → List ResultVar → (os : List RK) → Option (hlR (rs ++ os))
 | [], [], os => finO ps os
 | .d t :: rs, q :: qs, os => match finD te ps kf t q, finR te ps kf rs qs os with
  | some x, some r => some (x, r)
  | _, _ => none
 | .o E t :: rs, .tmp s :: qs, os => match rowS ps s, finR te ps kf rs qs os with
  | some (k, E', ⟨t', xs⟩), some r => match Nat.beq k kf && Nat.ble 3 k && Nat.beq E' E, castT (.sl t') (.sl t) xs with
   | true, some y => some (y, r)
   | _, _ => none
  | _, _ => none
 | .p T t :: rs, .tmp s :: qs, os => match boxS ps s, finR te ps kf rs qs os with
  | some (k, T', ⟨t', x⟩), some r => match Nat.beq k kf && Nat.ble 3 k && Nat.beq T' T, castT t' t x with
   | true, some y => some (y, r)
   | _, _ => none
  | _, _ => none
 | .h t off E u :: rs, q :: qs, os => match aghS ps q, finR te ps kf rs qs os with
  | some (k, E', ⟨t', x⟩, off', ⟨u', xs⟩), some r => match Nat.beq k kf && Nat.ble 3 k && Nat.beq E' E && Nat.beq off' off && cellT te t' q, castT t' t x, castT (.sl u') (.sl u) xs with
   | true, some y, some ys => some ((y, ys), r)
   | _, _, _ => none
  | _, _ => none
 | _, _, _ => none
def freshK (ps : PS) : List RK → List ResultVar → Nat
 | .o _ _ :: _, .tmp s :: _ => match rowS ps s with | some (k, _) => k | none => 1
 | .p _ _ :: _, .tmp s :: _ => match boxS ps s with | some (k, _) => k | none => 1
 | .h _ _ _ _ :: _, q :: _ => match aghS ps q with | some (k, _) => k | none => 1
 | _ :: rs, _ :: qs => freshK ps rs qs
 | _, _ => 1
def fin {P : Program} (te : List (TE P)) (rs : List RK) (qs : List ResultVar) (os : List RK) (ps : PS) : Option (tupR (rs ++ os)) :=
 match finR te ps (freshK ps rs qs) rs qs os with
 | some r => some (ofHL _ r)
 | none => none
section
variable {P : Program} {e : Env} {ps : PS} {F : List (Nat × Value)} {lab lab' : Lab} {w : World} {k kp gp kf : Nat}
theorem rowS_ok {s q : Nat} {E : TypeId} {t : PT} {xs : List (den t)} (hs : Sim e ps F lab w) (h : rowS ps s = some (q, E, ⟨t, xs⟩)) : ∃ oa c, look F s = some (.slice oa xs.length c) ∧ Own (rep t) lab w q E oa c xs := by
 unfold rowS at h
 split at h
 ·rename_i st id hf
  split at h
  ·rename_i st' k' E' t' xs' hm
   cases h
   obtain ⟨v, h1, h2⟩ := hs.sl _ _ _ (findK_mem hf)
   obtain ⟨h3, _, h4⟩ := hs.mem _ _ _ (findK_mem hm)
   have h2 : v = .slice (e id).oa (e id).n (e id).c := h2
   exact ⟨(e id).oa, (e id).c, by rw [h1, h2, h3], h4⟩
  ·cases h
 ·cases h
theorem boxS_ok {s q : Nat} {T : TypeId} {t : PT} {x : den t} (hs : Sim e ps F lab w) (h : boxS ps s = some (q, T, ⟨t, x⟩)) : ∃ g cs, look F s = some (.pointer (some ⟨g, 0, none⟩)) ∧ Box lab w q g T cs ∧ (rep t).rd lab w cs x := by
 unfold boxS at h
 split at h
 ·rename_i st id hf
  split at h
  ·rename_i st' k' T' t' x' hm
   cases h
   obtain ⟨v, h1, h2⟩ := hs.sl _ _ _ (findK_mem hf)
   obtain ⟨g, cs, h3, h4, h5⟩ := hs.mem _ _ _ (findK_mem hm)
   obtain ⟨g2, h6, h7⟩ := h2
   have h3 : (e id).oa = _ := h3
   rw [h3] at h6; cases h6
   exact ⟨g, cs, by rw [h1, h7], h4, h5⟩
  ·cases h
 ·cases h
theorem finD_ok {te : List (TE P)} {q : ResultVar} {t : PT} {x : den t} (hs : Sim e ps F lab w) (hk : Keeps lab w lab' w) (hO : ∀ q, 3 ≤ q → q ≠ kf → ∀ b, b < w.heap.size → lab b = q → lab' b = 0) (h : finD te ps kf t q = some x) : ∃ v, Rv P F w q v ∧ Dat t x lab' w v := by
 cases q with
 | tmp s =>
  simp only [finD] at h
  split at h
  ·rename_i st sv hf
   obtain ⟨v, h1, h2⟩ := hs.sl _ _ _ (findK_mem hf)
   split at h
   ·rename_i y hy
    cases h
    exact ⟨v, h1, (asT_ok (a := (sv, entOf ps sv)) ⟨h2, fun m hm => entOf_ok hs hm⟩ hy).keep hk⟩
   ·split at h
    ·rename_i q E t' xs hr
     split at h
     ·rename_i hb
      simp only [Bool.and_eq_true] at hb
      obtain ⟨oa, c, h3, h4⟩ := rowS_ok hs hr
      obtain ⟨rfl, rfl⟩ := castT_some h
      have hne : q ≠ kf := fun e => by subst e; simp at hb
      exact ⟨_, h3, Dat.ofSl (h4.sl hk (hO q (Nat.le_of_ble_eq_true hb.1) hne))⟩
     ·cases h
    ·cases h
  ·cases h
 | cell s T =>
  simp only [finD] at h
  split at h
  ·rename_i q T' t' y te' hb hte
   split at h
   ·rename_i hc
    simp only [Bool.and_eq_true] at hc
    obtain ⟨g, cs, h3, h4, h5⟩ := boxS_ok hs hb
    have e1 := findTE_id hte
    have e2 := PT.eqb_eq hc.2
    obtain ⟨rfl, rfl⟩ := castT_some h
    have hA := te'.ok.agg (by rw [e2]; exact hc.1)
    rw [e1, e2] at hA
    refine ⟨_, h4.rv hA ?_ h3, cs, (rep _).keep hk h5, ?_⟩
    ·rw [(rep _).len h5, rep_sz]; simp
    ·unfold IsV; rw [hc.1]
   ·cases h
  ·cases h
theorem aghS_ok {te : List (TE P)} {q : ResultVar} {k' off : Nat} {E : TypeId} {t u : PT} {x : den t} {xs : List (den u)} (hs : Sim e ps F lab w) (h : aghS ps q = some (k', E, ⟨t, x⟩, off, ⟨u, xs⟩)) (hc : cellT te t q = true) :
  ∃ (cs : List Value) (oa : Option Addr) (c : Nat), Rv P F w q (.agg cs.toArray) ∧ (rep t).rd lab w (cs.set off (.slice none 0 0)) x ∧ cs[off]? = some (.slice oa xs.length c) ∧ Own (rep u) lab w k' E oa c xs := by
 cases q with
 | tmp s =>
  have h : aghT ps s = _ := h
  unfold aghT at h
  split at h
  ·rename_i st t0 x0 off0 id hf
   split at h
   ·rename_i k0 E0 r hr
    cases h
    obtain ⟨st', hm⟩ := rowOf_ok hr
    obtain ⟨v, h1, cs, rfl, h2, h3⟩ := hs.sl _ _ _ (findK_mem hf)
    obtain ⟨h4, _, h5⟩ := hs.mem _ _ _ (findK_mem hm)
    have h4 : (e id).n = xs.length := h4
    exact ⟨cs, _, _, h1, h2, by rw [h3, h4], h5⟩
   ·cases h
  ·cases h
 | cell s T =>
  have h : aghC ps s = _ := h
  unfold aghC at h
  split at h
  ·rename_i st id hf
   split at h
   ·rename_i st2 kb B t0 x0 off0 rid hm
    split at h
    ·rename_i k0 E0 r hr
     cases h
     obtain ⟨st', hm2⟩ := rowOf_ok hr
     obtain ⟨v, h1, h2⟩ := hs.sl _ _ _ (findK_mem hf)
     obtain ⟨G, cs, b1, b2, b3, b4, _⟩ := hs.mem _ _ _ (findK_mem hm)
     obtain ⟨h4, _, h5⟩ := hs.mem _ _ _ (findK_mem hm2)
     have h4 : (e rid).n = xs.length := h4
     have b1 : (e id).oa = some ⟨G, 0, none⟩ := b1
     obtain ⟨G', g1, rfl⟩ := h2
     rw [b1] at g1; cases g1
     have hc : (match findTE te T with | some e => aggT t && PT.eqb e.pt t | none => false) = true := hc
     split at hc
     ·rename_i te' hte
      rw [Bool.and_eq_true] at hc
      have e1 := findTE_id hte
      have e2 := PT.eqb_eq hc.2
      have hA := te'.ok.agg (by rw [e2]; exact hc.1)
      rw [e1, e2] at hA
      have hb3 : (rep t).rd lab w (cs.set off (.slice none 0 0)) x := b3
      have hl : cs.length = csz t := by
       have := (rep t).len hb3
       rw [List.length_set] at this; rw [this, rep_sz]
      exact ⟨cs, _, _, b2.rv hA (by rw [hl]; simp) h1, hb3, by rw [b4 (off, rid) (by simp), h4], h5⟩
     ·cases hc
    ·cases h
   ·cases h
  ·cases h
theorem finO_ok (hs : Sim e ps F lab w) (hk : Keeps lab w lab' w) : ∀ {os : List RK} {r : hlR os}, (os ≠ [] → ∀ T cs, Box lab w 2 gp T cs → Box lab' w kp gp T cs) → (os ≠ [] → (e 0).oa = some ⟨gp, 0, none⟩) → finO ps os = some r → ResOK k kp gp lab' w os r []
 | [], _, _, _, _ => trivial
 | .d _ :: _, _, _, _, h => by cases h
 | .o _ _ :: _, _, _, _, h => by cases h
 | .p _ _ :: _, _, _, _, h => by cases h
 | .h _ _ _ _ :: _, _, _, _, h => by cases h
 | .x T t :: os, r, hX, ha, h => by
  unfold finO at h
  split at h
  ·rename_i st q T' t' x r' hm hr
   split at h
   ·rename_i y hb hc
    cases h
    simp only [Bool.and_eq_true] at hb
    obtain rfl := Nat.eq_of_beq_eq_true hb.1
    obtain rfl := Nat.eq_of_beq_eq_true hb.2
    obtain ⟨rfl, rfl⟩ := castT_some hc
    obtain ⟨g, cs, h1, h2, h3⟩ := hs.mem _ _ _ (findK_mem hm)
    have := ha (by simp)
    have h1 : (e 0).oa = _ := h1
    rw [this] at h1; cases h1
    exact ⟨⟨cs, hX (by simp) _ _ h2, (rep _).keep hk h3⟩, finO_ok hs hk (fun _ => hX (by simp)) (fun _ => this) hr⟩
   ·cases h
  ·cases h
theorem finR_ok {te : List (TE P)} (hs : Sim e ps F lab w) (hk : Keeps lab w lab' w) (hO : ∀ q, 3 ≤ q → q ≠ kf → ∀ b, b < w.heap.size → lab b = q → lab' b = 0) (hF : 3 ≤ kf → ∀ b, b < w.heap.size → lab b = kf → lab' b = k) {os : List RK} (hX : os ≠ [] → ∀ T cs, Box lab w 2 gp T cs → Box lab' w kp gp T cs) (ha : os ≠ [] → (e 0).oa = some ⟨gp, 0, none⟩) :
  ∀ {rs : List RK} {qs : List ResultVar} {r : hlR (rs ++ os)}, finR te ps kf rs qs os = some r → ∃ us, Rvs P F w qs us ∧ ResOK k kp gp lab' w (rs ++ os) r us
 | [], [], r, h => ⟨[], trivial, finO_ok hs hk hX ha h⟩
 | [], _ :: _, _, h => by cases h
 | .d _ :: _, [], _, h => by cases h
 | .o _ _ :: _, [], _, h => by cases h
 | .p _ _ :: _, [], _, h => by cases h
 | .x _ _ :: _, [], _, h => by cases h
 | .x _ _ :: _, .tmp _ :: _, _, h => by cases h
 | .x _ _ :: _, .cell _ _ :: _, _, h => by cases h
 | .o _ _ :: _, .cell _ _ :: _, _, h => by cases h
 | .p _ _ :: _, .cell _ _ :: _, _, h => by cases h
 | .h _ _ _ _ :: _, [], _, h => by cases h
 | .h t off E u :: rs, q :: qs, r, h => by
  unfold finR at h
  split at h
  ·rename_i q' E' t' x off' u' xs r' hx hr
   split at h
   ·rename_i y ys hb hc1 hc2
    cases h
    simp only [Bool.and_eq_true] at hb
    obtain ⟨⟨⟨⟨b1, b2⟩, b3⟩, b4⟩, b5⟩ := hb
    have hq := Nat.eq_of_beq_eq_true b1
    obtain rfl := Nat.eq_of_beq_eq_true b3
    obtain rfl := Nat.eq_of_beq_eq_true b4
    obtain ⟨rfl, rfl⟩ := castT_some hc1
    obtain ⟨he, hx2⟩ := castT_some hc2
    cases he
    cases hx2
    obtain ⟨cs, oa, c, h1, h2, h3, css, h6, h7⟩ := aghS_ok (te := te) hs hx b5
    obtain ⟨us, h4, h5⟩ := finR_ok hs hk hO hF hX ha hr
    refine ⟨_ :: us, ⟨h1, h4⟩, ⟨cs, oa, c, rfl, (rep _).keep hk h2, h3, css, h6.keep hk, ?_⟩, h5⟩
    rcases h7 with h7 | ⟨g, cur, b1, b2', b3, b4, b5, b6, b7⟩
    ·exact .inl h7
    ·exact .inr ⟨g, cur, b1, b2', b3, b4, b5, b6, hF (hq ▸ Nat.le_of_ble_eq_true b2) g (Array.getElem?_eq_some_iff.1 b2').1 (b7.trans hq)⟩
   ·cases h
  ·cases h
 | .d t :: rs, q :: qs, r, h => by
  unfold finR at h
  split at h
  ·rename_i x r' hx hr
   cases h
   obtain ⟨v, h1, h2⟩ := finD_ok hs hk hO hx
   obtain ⟨us, h3, h4⟩ := finR_ok hs hk hO hF hX ha hr
   exact ⟨v :: us, ⟨h1, h3⟩, h2, h4⟩
  ·cases h
 | .o E t :: rs, .tmp s :: qs, r, h => by
  unfold finR at h
  split at h
  ·rename_i q E' t' xs r' hx hr
   split at h
   ·rename_i y hb hc
    cases h
    simp only [Bool.and_eq_true] at hb
    have hq := Nat.eq_of_beq_eq_true hb.1.1
    obtain rfl := Nat.eq_of_beq_eq_true hb.2
    obtain ⟨he, hx2⟩ := castT_some hc
    cases he
    cases hx2
    obtain ⟨oa, c, h1, css, h2, h3⟩ := rowS_ok hs hx
    obtain ⟨us, h4, h5⟩ := finR_ok hs hk hO hF hX ha hr
    refine ⟨_ :: us, ⟨h1, h4⟩, ⟨oa, c, rfl, css, h2.keep hk, ?_⟩, h5⟩
    rcases h3 with h3 | ⟨g, cur, b1, b2, b3, b4, b5, b6, b7⟩
    ·exact .inl h3
    ·exact .inr ⟨g, cur, b1, b2, b3, b4, b5, b6, hF (hq ▸ Nat.le_of_ble_eq_true hb.1.2) g (Array.getElem?_eq_some_iff.1 b2).1 (b7.trans hq)⟩
   ·cases h
  ·cases h
 | .p T t :: rs, .tmp s :: qs, r, h => by
  unfold finR at h
  split at h
  ·rename_i q T' t' x r' hx hr
   split at h
   ·rename_i y hb hc
    cases h
    simp only [Bool.and_eq_true] at hb
    have hq := Nat.eq_of_beq_eq_true hb.1.1
    obtain rfl := Nat.eq_of_beq_eq_true hb.2
    obtain ⟨rfl, rfl⟩ := castT_some hc
    obtain ⟨g, cs, h1, h2, h3⟩ := boxS_ok hs hx
    obtain ⟨us, h4, h5⟩ := finR_ok hs hk hO hF hX ha hr
    exact ⟨_ :: us, ⟨h1, h4⟩, ⟨g, cs, rfl, ⟨h2.1, hF (hq ▸ Nat.le_of_ble_eq_true hb.1.2) g h2.lt (h2.2.trans hq)⟩, (rep _).keep hk h3⟩, h5⟩
   ·cases h
  ·cases h
theorem finR_fin {te : List (TE P)} : ∀ {rs : List RK} {qs : List ResultVar} {os : List RK} {r : hlR (rs ++ os)}, finR te ps kf rs qs os = some r → ∃ r', finO ps os = some r'
 | [], [], _, r, h => ⟨r, h⟩
 | [], _ :: _, _, _, h => by cases h
 | .d _ :: _, [], _, _, h => by cases h
 | .o _ _ :: _, [], _, _, h => by cases h
 | .p _ _ :: _, [], _, _, h => by cases h
 | .x _ _ :: _, [], _, _, h => by cases h
 | .x _ _ :: _, .tmp _ :: _, _, _, h => by cases h
 | .x _ _ :: _, .cell _ _ :: _, _, _, h => by cases h
 | .o _ _ :: _, .cell _ _ :: _, _, _, h => by cases h
 | .p _ _ :: _, .cell _ _ :: _, _, _, h => by cases h
 | .h _ _ _ _ :: _, [], _, _, h => by cases h
 | .h t off E u :: rs, q :: qs, os, r, h => by
  unfold finR at h
  split at h
  ·rename_i hr; exact finR_fin hr
  ·cases h
 | .d t :: rs, q :: qs, os, r, h => by
  unfold finR at h
  split at h
  ·rename_i hr; exact finR_fin hr
  ·cases h
 | .o E t :: rs, .tmp s :: qs, os, r, h => by
  unfold finR at h
  split at h
  ·rename_i hr; exact finR_fin hr
  ·cases h
 | .p E t :: rs, .tmp s :: qs, os, r, h => by
  unfold finR at h
  split at h
  ·rename_i hr; exact finR_fin hr
  ·cases h
theorem finO_box (hs : Sim e ps F lab w) {os : List RK} {r : hlR os} (hn : os ≠ []) (ha : (e 0).oa = some ⟨gp, 0, none⟩) (h : finO ps os = some r) : lab gp = 2 := by
 cases os with
 | nil => exact absurd rfl hn
 | cons o os =>
  cases o with
  | x T t =>
   unfold finO at h
   split at h
   ·rename_i st q T' t' x r' hm hr
    split at h
    ·rename_i y hb hc
     simp only [Bool.and_eq_true] at hb
     obtain rfl := Nat.eq_of_beq_eq_true hb.1
     obtain ⟨g, cs, h1, h2, h3⟩ := hs.mem _ _ _ (findK_mem hm)
     have h1 : (e 0).oa = _ := h1
     rw [ha] at h1; cases h1
     exact h2.2
    ·cases h
   ·cases h
  | _ => cases h
theorem ret_all {N : Nat} {fn : Func} {R : Ending → World → Prop} {qs : List ResultVar} {us : List Value} (hr : fn.results = qs.toArray) (hv : Rvs P F w qs us) (h : R (.returned (retv us)) w) : EW N .ret F w (bodyPost P fn R) := by
 match us, qs, hv, h with
 | [], qs, hv, h => exact EW.rets hr hv rfl h
 | [v], [q], hv, h => exact EW.retc hr hv.1 h
 | [v], [], hv, h => exact hv.elim
 | [v], _ :: _ :: _, hv, h => exact hv.2.elim
 | v :: v2 :: us, qs, hv, h => exact EW.rets hr hv rfl h
end
def labR (pr : List Nat) (lab0 : Lab) (w0 w : World) (lab : Lab) (kf k : Nat) : Lab := fun b => if b < w0.heap.size ∧ b ∉ pr then lab0 b else if lab b = 0 then 0 else if lab b = kf then k else 0
section
variable {lab0 lab : Lab} {w0 w : World} {kf k kp gp : Nat} {pts pr : List Nat}
theorem labR_stp {ks : List Nat} (cx : Cx pts w0 lab0 w lab) (hp : ∀ g ∈ pts, ks.contains (lab0 g) = true ∧ lab0 g ≠ 0) (hpr : ∀ g ∈ pr, g ∈ pts) : Stp ks lab0 w0 (labR pr lab0 w0 w lab kf k) w := by
 have no : ∀ b, (lab0 b = 0 ∨ ks.contains (lab0 b) = false) → b ∉ pts := fun b hl hm => by
  obtain ⟨h1, h2⟩ := hp b hm
  rcases hl with hl | hl
  ·exact h2 hl
  ·rw [h1] at hl; cases hl
 refine ⟨cx.os, cx.tape, cx.output, cx.size, fun b hb hl => cx.block b hb (no b hl), fun b hb hl => by unfold labR; rw [if_pos ⟨hb, fun hm => no b hl (hpr b hm)⟩], fun b hb => ?_⟩
 have := cx.size
 unfold labR
 rw [if_neg (by omega), if_pos (cx.top b hb)]
theorem labR_low (cx : Cx pts w0 lab0 w lab) {b : Nat} (hb : b < w0.heap.size) (hp : b ∉ pts) : lab b ≤ 1 ∧ (lab b = 0 → lab0 b = 0) := by
 have := cx.low b hb hp
 rw [this]
 refine ⟨lin_le _ _, fun h => ?_⟩
 unfold lin at h
 split at h
 ·assumption
 ·cases h
theorem labR_keeps (cx : Cx pts w0 lab0 w lab) (hp : ∀ g ∈ pts, lab g ≠ 0 ∨ g ∈ pr) : Keeps lab w (labR pr lab0 w0 w lab kf k) w := by
 refine ⟨Nat.le_refl _, fun b _ h0 => ⟨?_, rfl⟩⟩
 unfold labR
 split
 ·rename_i hb
  refine (labR_low cx hb.1 fun hm => ?_).2 h0
  rcases hp b hm with h | h
  ·exact h h0
  ·exact hb.2 h
 ·rfl
theorem labR_own (cx : Cx pts w0 lab0 w lab) (hp : ∀ g ∈ pts, lab g = 2 ∨ g ∈ pr) : ∀ q, 3 ≤ q → q ≠ kf → ∀ b, b < w.heap.size → lab b = q → labR pr lab0 w0 w lab kf k b = 0 := fun q hq hne b _ hb => by
 unfold labR
 split
 ·rename_i hlt
  by_cases hm : b ∈ pts
  ·rcases hp b hm with h | h
   ·omega
   ·exact absurd h hlt.2
  ·have := (labR_low cx hlt.1 hm).1; omega
 ·rw [if_neg (by omega), if_neg (by omega)]
theorem labR_fr (cx : Cx pts w0 lab0 w lab) (hp : ∀ g ∈ pts, lab g = 2 ∨ g ∈ pr) (h3 : 3 ≤ kf) : ∀ b, b < w.heap.size → lab b = kf → labR pr lab0 w0 w lab kf k b = k := fun b _ hb => by
 unfold labR
 split
 ·rename_i hlt
  by_cases hm : b ∈ pts
  ·rcases hp b hm with h | h
   ·omega
   ·exact absurd h hlt.2
  ·have := (labR_low cx hlt.1 hm).1; omega
 ·rw [if_neg (show ¬ lab b = 0 by omega)]; try exact if_pos hb
theorem args_len {w : World} {lab : Lab} : ∀ {ps : List PK} {a : hl ps} {vs : List Value}, ArgsOK kp gp lab w ps a vs → vs.length = ps.length
 | [], _, [], _ => rfl
 | [], _, _ :: _, h => h.elim
 | .d _ :: _, _, [], h => h.elim
 | .p _ _ :: _, _, [], h => h.elim
 | .r _ _ :: _, _, [], h => h.elim
 | .d _ :: ps, a, _ :: vs, h => by simp [args_len h.2]
 | .r _ _ :: ps, a, _ :: vs, h => by simp [args_len h.2]
 | .p _ _ :: ps, a, _ :: vs, h => by simp [args_len h.2.2]
theorem outs_ne : ∀ {ps : List PK}, hasP ps = true ↔ outs ps ≠ []
 | [] => by simp [hasP, outs]
 | .d _ :: ps => by show hasP ps = true ↔ outs ps ≠ []; exact outs_ne
 | .r _ _ :: ps => by show hasP ps = true ↔ outs ps ≠ []; exact outs_ne
 | .p _ _ :: ps => by simp [hasP, outs]
end
section
variable {P : Program}
noncomputable def mkM (T : Tab P) (N : Nat) (own rng : List Nat) (c : Code) (h : Hint) (qs : List ResultVar) (ps : List PK) (rs : List RK) (a : hl ps) : Option (tupR (rs ++ outs ps)) :=
 run T N own rng c h (tupR (rs ++ outs ps)) (ini ps a) ⟨fin T.te rs qs (outs ps), fin T.te rs qs (outs ps), fun _ _ => none⟩
theorem and_true' {a b : Bool} (h : (a && b) = true) : a = true ∧ b = true := by cases a <;> cases b <;> first | exact ⟨rfl, rfl⟩ | cases h
theorem mkM_ok {T : Tab P} {N : Nat} {own rng : List Nat} {c : Code} {h : Hint} {qs : List ResultVar} {ps : List PK} {rs : List RK} {fid : FuncId} {fn : Func} (hmix : P.follows .mixedOrders = true) (hf : P.funcs[fid]? = some fn) (hb : fn.body = some c) (hN : Nat.beq fn.ntmps N = true) (hq : fn.results = qs.toArray) (hle : (Nat.ble ps.length N && oneQ ps) = true)
  (a : hl ps) (r : tupR (rs ++ outs ps)) (hm : mkM T N own rng c h qs ps rs a = some r) : OKc P fid ps rs a (toHL _ r) := by
 intro k kp gp lab w vs t hgl hkp hk0 hargs
 obtain ⟨hle, hone⟩ := and_true' hle
 obtain ⟨pts, pr, lab1, ei, hkeep, cx, hei, hpt, hlb, hbx, hP1, hP2⟩ : ∃ pts pr lab1 ei, Keeps lab w lab1 w ∧ Cx pts w lab w lab1 ∧ EIOK ei gp lab1 w ps a vs ∧ (∀ g ∈ pts, ei.oa = some ⟨g, 0, none⟩) ∧ (∀ g ∈ pts, lab g = kp ∧ hasQ ps = true) ∧
   (hasP ps = true → ∀ T cs, Box lab w kp gp T cs → Box lab1 w 2 gp T cs) ∧ (hasP ps = true → pr = [] ∧ pts = [gp]) ∧ (hasP ps = false → pr = pts) := by
  cases hP : hasP ps with
  | true =>
   obtain ⟨T0, cs, hbox⟩ := args_box hargs hP
   have hk2 : Nat.beq kp 0 = false := beq_false (hkp (hasQ_P hP))
   exact ⟨[gp], [], linp lab gp, ⟨some ⟨gp, 0, none⟩, 0, 0, 0, 0, .un, []⟩, Keeps.linp hbox hk2, Cx.startP t hbox, args_eiok_p hP hone rfl, fun g hg => by rw [List.mem_singleton.1 hg], fun g hg => by rw [List.mem_singleton.1 hg]; exact ⟨hbox.2, hasQ_P hP⟩, fun _ T cs b => b.inP, fun _ => ⟨rfl, rfl⟩, fun h => by cases h⟩
  | false =>
   cases hQ : hasQ ps with
   | false => exact ⟨[], [], lin lab, ⟨none, 0, 0, 0, 0, .un, []⟩, Keeps.lin, Cx.start t, eiok_no hQ, fun g hg => by simp at hg, fun g hg => by simp at hg, fun h => (by cases h), fun h => (by cases h), fun _ => rfl⟩
   | true =>
    obtain ⟨pts, lab1, ei, h1, h2, h3, h4⟩ := args_row (hkp hQ) t hargs hQ hP
    exact ⟨pts, pts, lab1, ei, h1, h2, h3, fun g hg => (h4 g hg).1, fun g hg => ⟨(h4 g hg).2, rfl⟩, fun h => (by cases h), fun h => (by cases h), fun _ => rfl⟩
 have hi := ini_ok hkeep hbx hargs hone hei cx (hgl.keep hkeep) hpt
 have hend : ∀ ps' e' F' lab' w', Inv pts w lab e' ps' F' lab' w' → fin T.te rs qs (outs ps) ps' = some r → EW N .ret F' w' (bodyPost P fn fun e w' => ∃ lab' us, e = .returned (retv us) ∧ Stp (ksP ps kp) lab w lab' w' ∧ ResOK k kp gp lab' w' (rs ++ outs ps) (toHL _ r) us) := by
  intro ps' e' F' lab' w' hi' hfin
  unfold fin at hfin
  split at hfin
  ·rename_i r' hr
   cases hfin
   rw [toHL_ofHL]
   generalize freshK ps' rs qs = kf at hr
   obtain ⟨ro, hro⟩ := finR_fin hr
   have hgp : ∀ g ∈ pts, lab' g = 2 ∨ g ∈ pr := fun g hg => by
    cases hP : hasP ps with
    | true =>
     obtain ⟨_, rfl⟩ := hP1 hP
     obtain rfl := List.mem_singleton.1 hg
     exact .inl (finO_box hi'.sim (outs_ne.1 hP) (hi'.a0 _ hg) hro)
    | false => rw [hP2 hP]; exact .inr hg
   have hg0 : ∀ g ∈ pts, lab' g ≠ 0 ∨ g ∈ pr := fun g hg => by
    rcases hgp g hg with h | h
    ·exact .inl (by omega)
    ·exact .inr h
   obtain ⟨us, h1, h2⟩ := finR_ok (lab' := labR pr lab w w' lab' kf k) (k := k) (kp := kp) (gp := gp) hi'.sim (labR_keeps hi'.cx hg0) (labR_own hi'.cx hgp) (labR_fr hi'.cx hgp)
    (fun hne T0 cs b => by
     obtain ⟨T1, cs1, hbox⟩ := args_box hargs (outs_ne.2 hne)
     refine ⟨b.1, ?_⟩
     unfold labR
     rw [if_pos ⟨hbox.lt, by rw [(hP1 (outs_ne.2 hne)).1]; simp⟩]; exact hbox.2)
    (fun hne => hi'.a0 _ (by rw [(hP1 (outs_ne.2 hne)).2]; simp)) hr
   refine ret_all hq h1 ⟨_, us, rfl, labR_stp hi'.cx (fun g hg => ?_) (fun g hg => ?_), h2⟩
   ·obtain ⟨h3, h4⟩ := hlb g hg
    rw [h3]
    exact ⟨by unfold ksP; rw [h4]; simp, hkp h4⟩
   ·cases hP : hasP ps with
    | true => rw [(hP1 hP).1] at hg; simp at hg
    | false => rw [hP2 hP] at hg; exact hg
  ·cases hfin
 refine enter hf hb N hN (by rw [args_len hargs]; exact hle) (run_ok hmix _ _ _ _ _ _ _ _ _ _ _ hm hi ⟨fun ps' e' F' lab' w' _ h1 h2 => hend ps' e' F' lab' w' h1 h2, fun ps' e' F' lab' w' _ h1 h2 => hend ps' e' F' lab' w' h1 h2, fun i ps' e' F' lab' w' _ _ h => by cases h⟩)
end
end Go.Gk
