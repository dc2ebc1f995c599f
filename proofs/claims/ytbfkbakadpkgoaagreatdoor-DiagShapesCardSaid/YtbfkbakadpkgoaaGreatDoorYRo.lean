/-
  The evaluator's operations on a row whose last element is a row of the call's own. Over whatever program; no condition.
-/
import Derived.Test.YtbfkbakadpkgoaaGreatDoorYMap
import Derived.Test.YtbfkbakadpkgoaaGreatDoorYRq
namespace Go.Gk
open Go.RowKit
section
variable {P : Program} {N : Nat} {ops : Array Oper} {F : List (Nat × Value)} {w w' : World} {e : Env} {lab lab' : Lab} {nid : Nat} {d : Nat} {v u : Value}
variable {ty : TypeId} {pos : String} {af : Array Edge} {g : Option (Nat × Bool)} {x y z : Operand} {T : TypeId} {a b : RA}
theorem fin_q {t : PT} {ks : List Nat} {k E E2 c : Nat} {oa : Option Addr} {zs : List (List (den t))} {lab2 : Lab} {w2 : World} (hs : Stp ks lab w lab2 w2) (ho : OwnQ t lab2 w2 k E E2 oa c zs) :
  LW P N ops [] ((d, .slice oa zs.length c) :: F) w2 (Fin N F e nid lab w (some d) ⟨.own nid, ks, [(nid, .rq k E E2 t zs)], []⟩) := LW.nil fun q hq => by
 refine ⟨rfl, upE e nid ⟨oa, zs.length, c, 1, 0, .un, []⟩, lab2, _, hq, fun _ hi => upE_out hi, hs, ?_, fun p hp => ?_, fun p hp => by simp at hp⟩
 ·show _ = Value.slice _ _ _
  rw [upE_eq]
 ·simp at hp; subst hp
  show MemOK _ _ _ _ (.rq _ _ _ _ _)
  simp only [MemOK, upE_eq]
  exact ⟨trivial, trivial, ho⟩
def qOne (n : Nat) (as : List (Nat × RA)) : Option (Nat × Nat × ((t : PT) × List (den t))) :=
 match n, as with
 | 1, [(0, (.own _, some (.row q E2 t z)))] => some (q, E2, ⟨t, z⟩)
 | _, _ => none
def opBuildQ {P : Program} (se : SE P) (nid k0 q E2 : Nat) (t : PT) (z : List (den t)) : OpRes :=
 match Nat.beq k0 0 || Nat.beq q 0 || Nat.beq k0 q, PT.eqb se.pt (.sl t) with
 | false, true => .ret ⟨.own nid, [k0, q], [(nid, .rq k0 se.el E2 t [z])], []⟩
 | _, _ => .stuck
theorem loc_buildQ {se : SE P} {out : Out} {k0 n q E2 : Nat} {t : PT} {zs : List (den t)} {parts : List (Nat × Operand)} {as : List (Nat × RA)} {vs : List (Nat × Value)} (hT : se.id = T) (hp : PartsOK F e lab w parts as vs) (hq : qOne n as = some (q, E2, ⟨t, zs⟩)) (hr : Res (opBuildQ se nid k0 q E2 t zs) out) (tp : Top lab w) (hw : Wn ops F g) (hd : Nat.blt d N = true) :
  LW P N ops [⟨some d, .buildSlice T n parts.toArray, ty, pos, af, g⟩] F w (Fin N F e nid lab w (some d) out) := by
 subst hT
 unfold opBuildQ at hr
 split at hr
 ·rename_i hc hpt
  obtain rfl := hr.ret_eq
  simp only [Bool.or_eq_false_iff] at hc
  obtain ⟨⟨h0, h1⟩, h2⟩ := hc
  have hpt := PT.eqb_eq hpt
  unfold qOne at hq
  split at hq
  ·rename_i rid q' E2' t' z'
   cases hq
   cases hp with
   | cons hx ha hrest =>
    cases hrest
    rename_i x0 v0
    have hv : v0 = .slice (e rid).oa (e rid).n (e rid).c := ha.1
    obtain ⟨b1, b2, b3⟩ := ha.2 _ rfl
    have b1 : (e rid).n = zs.length := b1
    rw [b1] at hv
    subst hv
    have hpos : 0 < csz se.pt := se.ok.pos
    have hsl : TySl P se.id se.el Rep.raw.sz se.nb (zv se.pt) := by
     have := se.ok.rep
     have e1 : (rep se.pt).sz = 1 := by rw [hpt]; rfl
     rw [e1] at this; exact this
    have hfill : Instr.fill (fun i => some (i * Rep.raw.sz, Rep.raw.sz)) (zcells (zv se.pt) (1 * Rep.raw.sz)) [(0, .slice (e rid).oa zs.length (e rid).c)] = some ([[Value.slice (e rid).oa zs.length (e rid).c]] : List (List Value)).flatten.toArray := by
     have e1 := zcells_eq (t := se.pt) 1 hpos
     have e2 : (rep se.pt).sz = 1 := by rw [hpt]; rfl
     rw [e2] at e1
     show Instr.fill (fun i => some (i * 1, 1)) (zcells (zv se.pt) (1 * 1)) _ = _
     rw [e1]
     have e3 : (List.replicate 1 (zc se.pt)).flatten = [.slice none 0 0] := by rw [hpt]; rfl
     rw [e3, fill_cons (vs := [.slice (e rid).oa zs.length (e rid).c]) (off := 0) rfl rfl (by simp)]
     rfl
    refine LW.buildOwn (ρ := Rep.raw) (xs := [Value.slice (e rid).oa zs.length (e rid).c]) k0 (.cons hx ha .nil : PartsOK F e lab w _ _ _).map hsl se.zok hfill (by decide) rfl ⟨⟨rfl, rfl⟩, trivial⟩ tp hw hd ?_
    intro oa c lab' w' hs ho
    have hs' : Ste lab k0 w lab' w' := ⟨hs.os, hs.tape, hs.output, hs.size, fun b hb _ => hs.block b hb (.inl rfl), hs.same, hs.top⟩
    have hne : k0 ≠ q := fun e => by subst e; simp at h2
    have g3 := b3.step hs' (ne_beq fun e => hne e.symm)
    have s3 := g3.stpR (ks := [k0, q]) hs.top k0 (by simp) (ne0 h1)
    have hap : Apart oa (e rid).oa := Apart.of ho g3 hne
    exact fin_q (zs := [zs]) ((hs'.stp (.inl (by simp))).trans s3) (.inr ⟨[], zs, [], _, _, rfl, ho.off g3 hs.top k0 (ne0 h1) hap, .nil, g3.relab hs.top k0 (ne0 h1), hap⟩)
  ·cases hq
 ·cases hr
def isQ (b : RA) : Bool :=
 match b with
 | (.own _, some (.rq _ _ _ _ _)) => true
 | _ => false
def opAppendQ {P : Program} (se : SE P) (nid k0 : Nat) (a b : RA) : OpRes :=
 match b with
 | (.own _, some (.rq k2 E' E2 t [z])) => match a with
  | (.nil, _) => match Nat.beq k0 0 || Nat.beq k2 0 || Nat.beq k0 k2, Nat.beq E' se.el && PT.eqb se.pt (.sl t) with
   | false, true => .bnd (List (List (den t))) (app [] [z]) fun zs => .ret ⟨.own nid, [k0, k2], [(nid, .rq k0 E' E2 t zs)], []⟩
   | _, _ => .stuck
  | (.own _, some (.rq k E'' E2' t' xs)) => match Nat.beq k 0 || Nat.beq k2 0 || Nat.beq k k2, Nat.beq E' se.el && Nat.beq E'' se.el && Nat.beq E2' E2 && PT.eqb se.pt (.sl t), castT (.sl (.sl t')) (.sl (.sl t)) xs with
   | false, true, some xs => .bnd (List (List (den t))) (app xs [z]) fun zs => .ret ⟨.own nid, [k, k2], [(nid, .rq k E' E2 t zs)], []⟩
   | _, _, _ => .stuck
  | _ => .stuck
 | _ => .stuck
theorem loc_appendQ {se : SE P} {out : Out} {k0 : Nat} (hT : se.id = T) (hx : ev F x = some v) (hy : ev F y = some u) (hv : AOK e lab w a v) (hu : AOK e lab w b u) (hr : Res (opAppendQ se nid k0 a b) out) (tp : Top lab w) (hw : Wn ops F g) (hd : Nat.blt d N = true) :
  LW P N ops [⟨some d, .call { callee := .builtin .append, args := #[x, y], argTypes := #[T, T] }, ty, pos, af, g⟩] F w (Fin N F e nid lab w (some d) out) := by
 subst hT
 have key : ∀ {k k2 E E2 c : Nat} {oa : Option Addr} {t : PT} {xs : List (List (den t))} {zl : List (den t)} {zs : List (List (den t))} {id : Nat}, v = .slice oa xs.length c → OwnQ t lab w k E E2 oa c xs → MemOK e lab w id (.rq k2 E E2 t [zl]) → u = .slice (e id).oa (e id).n (e id).c → Nat.beq k 0 = false → Nat.beq k2 0 = false → Nat.beq k k2 = false → se.el = E → se.pt = .sl t → app xs [zl] = some zs →
   LW P N ops [⟨some d, .call { callee := .builtin .append, args := #[x, y], argTypes := #[se.id, se.id] }, ty, pos, af, g⟩] F w (Fin N F e nid lab w (some d) ⟨.own nid, [k, k2], [(nid, .rq k E E2 t zs)], []⟩) := by
  intro k k2 E E2 c oa t xs zl zs id hv' ho hm hu' hk hk2 hne hE hpt hz
  obtain ⟨hl, rfl⟩ := app_some hz
  obtain ⟨b1, b2, b3⟩ := hm
  have b1 : (e id).n = 1 := b1
  rw [b1] at hu'
  subst hv' hu' hE
  have hsl : TySl P se.id se.el 1 se.nb (zv se.pt) := by
   have := se.ok.rep
   have e1 : (rep se.pt).sz = 1 := by rw [hpt]; rfl
   rw [e1] at this; exact this
  obtain ⟨oa3, c3, lab3, w3, hrun, hst, hq⟩ := ho.app (P := P) b3 tp hk hk2 hne hsl se.hb hl ty
  exact LW.val rfl hw rfl hd (fun a ha => by simp [execOp, resolve, invoke, builtin, ha.eval hx, ha.eval hy, hrun]) (fin_q hst hq)
 unfold opAppendQ at hr
 split at hr
 ·rename_i id2 k2 E' E2 t zl
  split at hr
  ·split at hr
   ·rename_i hc hb
    simp only [Bool.or_eq_false_iff] at hc
    simp only [Bool.and_eq_true] at hb
    cases hr with
    | bnd hz hr =>
     obtain rfl := hr.ret_eq
     have hv1 : v = .slice none 0 0 := hv.1
     exact key (xs := []) hv1 OwnQ.nil (hu.2 _ rfl) hu.1 hc.1.1 hc.1.2 hc.2 (Nat.eq_of_beq_eq_true hb.1).symm (PT.eqb_eq hb.2) hz
   ·cases hr
  ·rename_i id k E'' E2' t' xs
   split at hr
   ·rename_i _ _ _ xs' hc hb hcast
    simp only [Bool.or_eq_false_iff] at hc
    simp only [Bool.and_eq_true] at hb
    obtain ⟨⟨⟨b1, b2⟩, b3⟩, b4⟩ := hb
    have b1 := Nat.eq_of_beq_eq_true b1
    have b2 := Nat.eq_of_beq_eq_true b2
    have b3 := Nat.eq_of_beq_eq_true b3
    obtain ⟨h0, h1⟩ := castT_some hcast
    injection h0 with h0
    injection h0 with h0
    subst h0
    have h1 : xs = xs' := h1
    subst h1
    subst b1 b3
    subst b2
    cases hr with
    | bnd hz hr =>
     obtain rfl := hr.ret_eq
     obtain ⟨m1, m2, m3⟩ := hv.2 _ rfl
     have m1 : (e id).n = xs.length := m1
     have hv1 : v = .slice (e id).oa (e id).n (e id).c := hv.1
     rw [m1] at hv1
     exact key hv1 m3 (hu.2 _ rfl) hu.1 hc.1.1 hc.1.2 hc.2 rfl (PT.eqb_eq b4) hz
   ·cases hr
  ·cases hr
 ·cases hr
def qLen (a : RA) : Option (Nat × Nat) :=
 match a with
 | (.own _, some (.rq _ E _ t xs)) => some (List.length (α := List (den t)) xs, E)
 | (.own _, some (.rp _ E _ t xs)) => some (List.length (α := List (den t)) xs, E)
 | _ => none
theorem qLen_ok {n E : Nat} (h : AOK e lab w a v) (hq : qLen a = some (n, E)) : ∃ id oa c, a.1 = .own id ∧ v = .slice oa n c ∧ (e id).oa = oa ∧ (e id).n = n ∧ (e id).sz = 1 := by
 unfold qLen at hq
 split at hq
 ·rename_i id k E E2 t xs
  cases hq
  obtain ⟨b1, b2, _⟩ := h.2 _ rfl
  have b1 : (e id).n = xs.length := b1
  have h1 : v = .slice (e id).oa (e id).n (e id).c := h.1
  exact ⟨id, (e id).oa, (e id).c, rfl, by rw [h1, b1], rfl, b1, b2⟩
 ·rename_i id k E E2 t xs
  cases hq
  obtain ⟨b1, b2, _⟩ := h.2 _ rfl
  have b1 : (e id).n = xs.length := b1
  have h1 : v = .slice (e id).oa (e id).n (e id).c := h.1
  exact ⟨id, (e id).oa, (e id).c, rfl, by rw [h1, b1], rfl, b1, b2⟩
 ·cases hq
theorem loc_lenQ {se : SE P} {out : Out} {n E : Nat} (hT : se.id = T) (hx : ev F x = some v) (hv : AOK e lab w a v) (hq : qLen a = some (n, E)) (hr : Res (.ret (o1 (.dat (.int .i64) (n : Int)))) out) (tp : Top lab w) (hw : Wn ops F g) (hd : Nat.blt d N = true) :
  LW P N ops [⟨some d, .call { callee := .builtin .len, args := #[x], argTypes := #[T] }, ty, pos, af, g⟩] F w (Fin N F e nid lab w (some d) out) := by
 subst hT
 obtain rfl := hr.ret_eq
 obtain ⟨id, oa, c, _, rfl, _⟩ := qLen_ok hv hq
 exact LW.len se.ok.und hw hd hx (fin_val tp (Dat.ofInt (k := .i64) _))
def inAt (n : Nat) (i : Int) : Option Nat := if 0 ≤ i ∧ i < (n : Int) then some i.toNat else none
def opIndexQ (id n : Nat) (b : RA) : OpRes :=
 match asI b with
 | some ⟨k, i⟩ => .bnd Nat (inAt n (toI k i)) fun _ => .ret (o1 (.eptr id (toI k i).toNat 0))
 | none => .stuck
def ownId (a : RA) : Nat := match a.1 with | .own id => id | _ => 0
theorem qLen_raw {n E : Nat} (h : AOK e lab w a v) (hq : qLen a = some (n, E)) (hn : 0 < n) : ∃ id k vs, a.1 = .own id ∧ (e id).n = List.length (α := Value) vs ∧ Own Rep.raw lab w k E (e id).oa (e id).c vs := by
 unfold qLen at hq
 split at hq
 ·rename_i id k E E2 t xs
  cases hq
  obtain ⟨b1, b2, b3⟩ := h.2 _ rfl
  have b1 : (e id).n = xs.length := b1
  rcases b3 with ⟨rfl, _, _⟩ | ⟨ys, z, vs, a', c', rfl, h1, h2, _, _⟩
  ·simp at hn
  ·have hl : List.length (α := List (den t)) ys = vs.length := h2.len
   exact ⟨id, k, _, rfl, by rw [b1]; simp; exact hl, h1⟩
 ·rename_i id k E E2 t xs
  cases hq
  obtain ⟨b1, b2, b3⟩ := h.2 _ rfl
  have b1 : (e id).n = xs.length := b1
  obtain ⟨ys, z, vs, u, rfl, h1, h2⟩ := b3
  have hl : List.length (α := List (den t)) ys = vs.length := h2.len
  exact ⟨id, k, _, rfl, by rw [b1]; simp; exact hl, h1⟩
 ·cases hq
theorem loc_indexQ {se : SE P} {out : Out} {n E : Nat} (hT : se.id = T) (hE : E = se.el) (hx : ev F x = some v) (hy : ev F y = some u) (hv : AOK e lab w a v) (hu : AOK e lab w b u) (hq : qLen a = some (n, E)) (hr : Res (opIndexQ (ownId a) n b) out) (tp : Top lab w) (hw : Wn ops F g) (hd : Nat.blt d N = true) (hc1 : csz se.pt = 1) :
  LW P N ops [⟨some d, .indexAddr T x y, ty, pos, af, g⟩] F w (Fin N F e nid lab w (some d) out) := by
 subst hT hE
 unfold opIndexQ at hr
 split at hr
 ·rename_i k i hi
  obtain rfl := asI_ok hu hi
  cases hr with
  | bnd hX hr =>
   obtain rfl := hr.ret_eq
   unfold inAt at hX
   split at hX
   ·rename_i hin
    obtain ⟨id, k', vs, hid, hn, ho⟩ := qLen_raw hv hq (by omega)
    obtain ⟨id2, oa, c, hid2, hv2, _, hn2, hsz⟩ := qLen_ok hv hq
    have hii : id2 = id := by rw [hid] at hid2; cases hid2; rfl
    subst hii
    have h1 : v = .slice (e id2).oa (e id2).n (e id2).c := by have := hv.1; rw [hid] at this; exact this
    rw [hn] at h1
    subst h1
    have hown : ownId a = id2 := by unfold ownId; rw [hid]
    have hsl : TySl P se.id se.el Rep.raw.sz se.nb (zv se.pt) := by
     have := se.ok.rep
     rw [rep_sz, hc1] at this; exact this
    have hlt : (toI k i).toNat < vs.length := by rw [← hn, hn2]; omega
    have hix : idx vs (toI k i) = some vs[(toI k i).toNat] := by
     unfold idx
     rw [if_pos (by omega), List.getElem?_eq_getElem hlt]
    refine LW.indexO (k := some) (r := vs[(toI k i).toNat]) (by rw [hix]; rfl) ho hsl hw hd hx hy fun q p cs hq hrd hat hxs hp => fin_val tp ?_
    refine ⟨p, ?_, by rw [add_zero']⟩
    rw [hown, hsz]; exact hp
   ·cases hX
 ·cases hr
def qTake (a : RA) : Option (Nat × Nat × Nat × Nat × Nat × ((t : PT) × List (List (den t)))) :=
 match a with
 | (.eptr id i 0, some (.rq k E E2 t xs)) => some (id, i, k, E, E2, ⟨t, xs⟩)
 | _ => none
def opLoadQ {P : Program} (te : TE P) (nid k' : Nat) (id i k E E2 : Nat) (t : PT) (xs : List (List (den t))) : OpRes :=
 match Nat.beq k 0 || Nat.beq k' 0 || Nat.beq k k', PT.eqb te.pt (.sl t) with
 | false, true => .bnd (List (den t)) (lastAt xs i) fun z => .ret ⟨.own nid, [k, k'], [(nid, .row k' E2 t z), (id, .rp k E E2 t xs)], []⟩
 | _, _ => .stuck
theorem qTake_eq {id i k E E2 : Nat} {t : PT} {xs : List (List (den t))} (h : qTake a = some (id, i, k, E, E2, ⟨t, xs⟩)) : a = (.eptr id i 0, some (.rq k E E2 t xs)) := by
 unfold qTake at h
 split at h
 ·cases h; rfl
 ·cases h
theorem loc_loadQ {te : TE P} {out : Out} {k' id i k E E2 : Nat} {t : PT} {xs : List (List (den t))} (hT : te.id = T) (hx : ev F x = some v) (hv : AOK e lab w a v) (hq : qTake a = some (id, i, k, E, E2, ⟨t, xs⟩)) (hr : Res (opLoadQ te nid k' id i k E E2 t xs) out) (hlt : ∀ i ∈ refs a.1, i < nid) (tp : Top lab w) (hw : Wn ops F g) (hd : Nat.blt d N = true) :
  LW P N ops [⟨some d, .load T x, ty, pos, af, g⟩] F w (Fin N F e nid lab w (some d) out) := by
 subst hT
 obtain rfl := qTake_eq hq
 unfold opLoadQ at hr
 split at hr
 ·rename_i hc hpt
  simp only [Bool.or_eq_false_iff] at hc
  obtain ⟨⟨h0, h1⟩, h2⟩ := hc
  have hpt := PT.eqb_eq hpt
  cases hr with
  | bnd hz hr =>
   rename_i z
   obtain rfl := hr.ret_eq
   obtain ⟨b1, b2, b3⟩ := hv.2 _ rfl
   have b1 : (e id).n = xs.length := b1
   have b2 : (e id).sz = 1 := b2
   obtain ⟨p, hp, rfl⟩ := hv.1
   rw [b2] at hp
   rw [add_zero'] at hx
   obtain ⟨a', c', lab2, hcell, hst, ho, hop⟩ := b3.take tp h0 k' hz hp
   have hone : TyOne P te.id := te.ok.one (by rw [hpt]; rfl)
   have hid : id < nid := hlt id (List.mem_singleton.2 rfl)
   refine LW.val (v := .slice a' z.length c') (w' := w) rfl hw rfl hd (fun q hq => by simp [execOp, hq.eval hx, run_load1 (P := P) hone hcell]) (LW.nil fun q hq => ?_)
   refine ⟨rfl, upE e nid ⟨a', z.length, c', csz t, 0, .un, []⟩, lab2, _, hq, fun _ hi => upE_out hi, hst.mono (fun q hq => by simp at hq; simp [hq]), ?_, fun p hp => ?_, fun p hp => by simp at hp⟩
   ·show _ = Value.slice _ _ _
    rw [upE_eq]
   ·simp at hp
    rcases hp with rfl | rfl
    ·show MemOK _ _ _ _ (.row _ _ _ _)
     simp only [MemOK, upE_eq]
     exact ⟨trivial, trivial, ho⟩
    ·show MemOK _ _ _ _ (.rp _ _ _ _ _)
     unfold MemOK
     dsimp only
     rw [upE_ne (by omega)]
     exact ⟨b1, b2, hop⟩
 ·cases hr
def qPut (a b : RA) : Option (Nat × Nat × Nat × Nat × Nat × ((t : PT) × List (List (den t))) × Nat × Nat × ((t : PT) × List (den t))) :=
 match a, b with
 | (.eptr id i 0, some (.rp k E E2 t xs)), (.own _, some (.row q E2' u z)) => some (id, i, k, E, E2, ⟨t, xs⟩, q, E2', ⟨u, z⟩)
 | _, _ => none
def opStoreQ {P : Program} (te : TE P) (id i k E E2 : Nat) (t : PT) (xs : List (List (den t))) (q E2' : Nat) (u : PT) (z : List (den u)) : OpRes :=
 match Nat.beq k 0 || Nat.beq q 0 || Nat.beq k q, PT.eqb te.pt (.sl t) && Nat.beq E2' E2, castT (.sl u) (.sl t) z with
 | false, true, some z => .bnd (List (den t)) (lastAt xs i) fun _ => .letm (List (List (den t))) (xs.dropLast ++ ([z] : List (List (den t)))) fun zs => .ret ⟨.und, [k, q], [(id, .rq k E E2 t zs)], []⟩
 | _, _, _ => .stuck
theorem qPut_eq {id i k E E2 q E2' : Nat} {t u : PT} {xs : List (List (den t))} {z : List (den u)} (h : qPut a b = some (id, i, k, E, E2, ⟨t, xs⟩, q, E2', ⟨u, z⟩)) : a = (.eptr id i 0, some (.rp k E E2 t xs)) ∧ ∃ rid, b = (.own rid, some (.row q E2' u z)) := by
 unfold qPut at h
 split at h
 ·cases h; exact ⟨rfl, _, rfl⟩
 ·cases h
theorem loc_storeQ {te : TE P} {out : Out} {id i k E E2 q E2' : Nat} {t u2 : PT} {xs : List (List (den t))} {zl : List (den u2)} {u : Value} (hT : te.id = T) (hx : ev F x = some v) (hy : ev F y = some u) (hv : AOK e lab w a v) (hu : AOK e lab w b u) (hq : qPut a b = some (id, i, k, E, E2, ⟨t, xs⟩, q, E2', ⟨u2, zl⟩)) (hr : Res (opStoreQ te id i k E E2 t xs q E2' u2 zl) out) (tp : Top lab w) (hw : Wn ops F g) :
  LW P N ops [⟨none, .store T x y, ty, pos, af, g⟩] F w (Fin N F e nid lab w none out) := by
 subst hT
 obtain ⟨rfl, rid, rfl⟩ := qPut_eq hq
 unfold opStoreQ at hr
 split at hr
 ·rename_i _ _ _ z' hc hb hcast
  simp only [Bool.or_eq_false_iff] at hc
  simp only [Bool.and_eq_true] at hb
  obtain ⟨⟨h0, h1⟩, h2⟩ := hc
  obtain ⟨hpt, hE⟩ := hb
  have hpt := PT.eqb_eq hpt
  obtain rfl := Nat.eq_of_beq_eq_true hE
  obtain ⟨e0, e1⟩ := castT_some hcast
  injection e0 with e0
  subst e0
  have e1 : zl = z' := e1
  subst e1
  cases hr with
  | bnd hz hr =>
   cases hr with
   | letm hr =>
    obtain rfl := hr.ret_eq
    obtain ⟨b1, b2, b3⟩ := hv.2 _ rfl
    have b1 : (e id).n = xs.length := b1
    have b2 : (e id).sz = 1 := b2
    obtain ⟨p, hp, rfl⟩ := hv.1
    rw [b2] at hp
    rw [add_zero'] at hx
    obtain ⟨r1, r2, r3⟩ := hu.2 _ rfl
    have r1 : (e rid).n = zl.length := r1
    have r3 : Own (rep u2) lab w q E2' (e rid).oa (e rid).c zl := r3
    have b3 : OwnP u2 lab w k E (e id).oa (e id).c xs := b3
    have hu1 : u = .slice (e rid).oa (e rid).n (e rid).c := hu.1
    rw [r1] at hu1
    subst hu1
    have hone : TyOne P te.id := te.ok.one (by rw [hpt]; rfl)
    obtain ⟨lab2, w2, hrun, hst, ho⟩ := b3.put (P := P) r3 tp h0 h1 h2 hz hp hone
    refine LW.gen rfl hw fun q hq => ?_
    unfold Oper.wp
    simp only [execOp, hq.eval hx, hq.eval hy, Sem.run_bind, hrun, Result.andThen_ok, Sem.run_pure, Oper.upon_skip]
    refine wpList_nil ⟨rfl, e, lab2, undef, hq.none_ undef, fun _ _ => rfl, hst, rfl, fun p hp => ?_, fun p hp => by simp at hp⟩
    simp at hp; subst hp
    obtain ⟨c1, c2⟩ := lastAt_eq hz
    have hlen : (e id).n = List.length (α := List (den u2)) (xs.dropLast ++ [zl]) := by
     rw [b1]
     have := congrArg List.length c1
     rw [List.length_append, List.length_singleton] at this
     rw [List.length_append, List.length_singleton]; exact this
    show (e id).n = _ ∧ (e id).sz = 1 ∧ OwnQ u2 lab2 w2 k E E2' (e id).oa (e id).c (xs.dropLast ++ [zl])
    exact ⟨hlen, b2, ho⟩
 ·cases hr
end
end Go.Gk
