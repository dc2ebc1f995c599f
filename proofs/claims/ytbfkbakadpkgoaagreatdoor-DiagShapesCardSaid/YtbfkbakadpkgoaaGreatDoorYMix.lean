/-
  The evaluator's other operations: composite values, conversions, comparisons. Over whatever program; no condition.
-/
import Derived.Test.YtbfkbakadpkgoaaGreatDoorYAps
namespace Go.Gk
open Go.RowKit
theorem fold_put : ∀ (vs : List Value) (j off : Nat) (cs : List Value), off + j + vs.length ≤ cs.length → (vs.zipIdx j).foldl (fun (a : Array Value) (p : Value × Nat) => a.setIfInBounds (off + p.2) p.1) cs.toArray = (cs.take (off + j) ++ vs ++ cs.drop (off + j + vs.length)).toArray
 | [], j, off, cs, h => by simp
 | v :: vs, j, off, cs, h => by
  simp only [List.length_cons] at h
  have hlt : off + j < cs.length := by omega
  rw [List.zipIdx_cons, List.foldl_cons]
  have e1 : cs.toArray.setIfInBounds (off + j) v = (cs.set (off + j) v).toArray := by simp
  rw [e1, fold_put vs (j + 1) off (cs.set (off + j) v) (by simp; omega)]
  congr 1
  rw [List.take_set, List.drop_set_of_lt (by omega), show off + (j + 1) = off + j + 1 by omega, List.take_succ_eq_append_getElem hlt, List.set_append_right _ _ (by simp; omega)]
  simp [Nat.min_eq_left (Nat.le_of_lt hlt), Nat.add_assoc, Nat.add_comm 1]
theorem fill_cons {place : Nat → Option (Nat × Nat)} {cs vs : List Value} {i off : Nat} {v : Value} {rest : List (Nat × Value)} (hv : v.cells = vs.toArray) (hp : place i = some (off, vs.length)) (hl : off + vs.length ≤ cs.length) :
  Instr.fill place cs.toArray ((i, v) :: rest) = Instr.fill place (cs.take off ++ vs ++ cs.drop (off + vs.length)).toArray rest := by
 have h2 : ∀ (q : Array Value), q = cs.toArray → Instr.fill place q ((i, v) :: rest) = Instr.fill place (v.cells.zipIdx.foldl (fun cs (c, j) => cs.setIfInBounds (off + j) c) q) rest := by
  intro q hq
  rw [Instr.fill]
  rw [hp]
  simp only [hv, List.size_toArray, hq]
  rw [if_neg (by simp; omega)]
 rw [h2 _ rfl]
 congr 1
 have := fold_put vs 0 off cs (by omega)
 simp only [Nat.add_zero] at this
 rw [← this, hv]
 simp
inductive PartsOK (F : List (Nat × Value)) (e : Env) (lab : Lab) (w : World) : List (Nat × Operand) → List (Nat × RA) → List (Nat × Value) → Prop where
 | nil : PartsOK F e lab w [] [] []
 | cons {i x a v ps as vs} : ev F x = some v → AOK e lab w a v → PartsOK F e lab w ps as vs → PartsOK F e lab w ((i, x) :: ps) ((i, a) :: as) ((i, v) :: vs)
theorem PartsOK.map {F : List (Nat × Value)} {e : Env} {lab : Lab} {w : World} {ps : List (Nat × Operand)} {as : List (Nat × RA)} {vs : List (Nat × Value)} (h : PartsOK F e lab w ps as vs) : ps.map (fun p => (p.1, ev F p.2)) = vs.map (fun p => (p.1, some p.2)) := by
 induction h with
 | nil => rfl
 | cons h1 _ _ ih => simp [h1, ih]
def nth {α : Type} : List α → Nat → Option α
 | [], _ => none
 | x :: _, 0 => some x
 | _ :: r, n + 1 => nth r n
theorem nth_eq {α : Type} : ∀ (l : List α) (n : Nat), nth l n = l[n]?
 | [], _ => by simp [nth]
 | x :: _, 0 => by simp [nth]
 | _ :: r, n + 1 => by simp [nth, nth_eq r n]
def bld (fs : List (Nat × PT)) (pt : PT) : List (Nat × RA) → den pt → Option (den pt)
 | [], x => some x
 | (i, a) :: r, x => match nth fs i with
  | none => none
  | some (off, u) => match asT u a with
   | none => none
   | some y => match setAt pt off u x y with
    | none => none
    | some x' => bld fs pt r x'
def bldS (t : PT) (n : Nat) : List (Nat × RA) → List (den t) → Option (List (den t))
 | [], xs => some xs
 | (i, a) :: r, xs => match Nat.blt i n with
  | false => none
  | true => match asT t a with
   | none => none
   | some y => bldS t n r (xs.set i y)
section
variable {P : Program} {N : Nat} {ops : Array Oper} {F : List (Nat × Value)} {w w' : World} {e : Env} {lab lab' : Lab} {nid : Nat} {d : Nat} {v u : Value}
variable {ty : TypeId} {pos : String} {af : Array Edge} {g : Option (Nat × Bool)} {x y z : Operand} {T S : TypeId} {a b : RA}
theorem bld_ok {fs : List (Nat × PT)} {pt : PT} {ps : List (Nat × Operand)} {as : List (Nat × RA)} {vs : List (Nat × Value)} (h : PartsOK F e lab w ps as vs) : ∀ {X X' : den pt} {cs : List Value}, bld fs pt as X = some X' → (rep pt).rd lab w cs X →
  ∃ cs', Instr.fill (fun i => (fs.map fun p => (p.1, csz p.2)).toArray[i]?) cs.toArray vs = some cs'.toArray ∧ (rep pt).rd lab w cs' X' := by
 induction h with
 | nil => intro X X' cs hb hrd; cases hb; exact ⟨cs, rfl, hrd⟩
 | cons hx ha hrest ih =>
  intro X X' cs hb hrd
  rename_i i x a v ps as vs
  unfold bld at hb
  split at hb
  ·cases hb
  ·rename_i off u hf
   split at hb
   ·cases hb
   ·rename_i Y hY
    split at hb
    ·cases hb
    ·rename_i Z hZ
     obtain ⟨cv, h1, h2⟩ := asT_ok ha hY
     have hl : cv.length = csz u := by rw [(rep u).len h1, rep_sz]
     obtain ⟨hle, hrd'⟩ := setAt_rd hrd h1 hZ
     rw [nth_eq] at hf
     rw [fill_cons (off := off) (h2.cells ((rep u).one h1)) (by simp [hf, hl]) (by omega), hl]
     exact ih hb hrd'
def opBuild {P : Program} (be : BE P) (as : List (Nat × RA)) : OpRes :=
 match aggT be.pt, bld be.fs be.pt as (zt be.pt) with
 | true, some X => .ret (o1 (.dat be.pt X))
 | _, _ => .stuck
theorem loc_build {be : BE P} {out : Out} {parts : List (Nat × Operand)} {as : List (Nat × RA)} {vs : List (Nat × Value)} (hT : be.id = T) (hp : PartsOK F e lab w parts as vs) (hr : Res (opBuild be as) out) (tp : Top lab w) (hw : Wn ops F g) (hd : Nat.blt d N = true) :
  LW P N ops [⟨some d, .build T parts.toArray, ty, pos, af, g⟩] F w (Fin N F e nid lab w (some d) out) := by
 subst hT
 unfold opBuild at hr
 split at hr
 ·rename_i X ha hX
  obtain rfl := hr.ret_eq
  obtain ⟨cs, h1, h2⟩ := bld_ok hp hX (rd_zero lab w be.pt)
  refine LW.build hp.map (by rw [be.ok]; exact h1) hw hd (fin_val tp ⟨cs, h2, ?_⟩)
  unfold IsV; rw [ha]
 ·cases hr
def farB (fs : List (Nat × PT)) (off : Nat) : List (Nat × RA) → Bool
 | [] => true
 | (i, _) :: r => (match nth fs i with | some (o, u) => Nat.blt off o || Nat.ble (o + csz u) off | none => false) && farB fs off r
theorem bldN_ok {fs : List (Nat × PT)} {pt : PT} {ps : List (Nat × Operand)} {as : List (Nat × RA)} {vs : List (Nat × Value)} {off : Nat} {c : Value} (h : PartsOK F e lab w ps as vs) : ∀ {X X' : den pt} {cs : List Value}, bld fs pt as X = some X' → (rep pt).rd lab w cs X → farB fs off as = true → cs[off]? = some c →
  ∃ cs', Instr.fill (fun i => (fs.map fun p => (p.1, csz p.2)).toArray[i]?) cs.toArray vs = some cs'.toArray ∧ (rep pt).rd lab w cs' X' ∧ cs'[off]? = some c := by
 induction h with
 | nil => intro X X' cs hb hrd _ hc; cases hb; exact ⟨cs, rfl, hrd, hc⟩
 | cons hx ha hrest ih =>
  intro X X' cs hb hrd hfar hc
  rename_i i x a v ps as vs
  unfold bld at hb
  unfold farB at hfar
  rw [Bool.and_eq_true] at hfar
  split at hb
  ·cases hb
  ·rename_i o u hf
   rw [hf] at hfar
   split at hb
   ·cases hb
   ·rename_i Y hY
    split at hb
    ·cases hb
    ·rename_i Z hZ
     obtain ⟨cv, h1, h2⟩ := asT_ok ha hY
     have hl : cv.length = csz u := by rw [(rep u).len h1, rep_sz]
     obtain ⟨hle, hrd'⟩ := setAt_rd hrd h1 hZ
     rw [nth_eq] at hf
     rw [fill_cons (off := o) (h2.cells ((rep u).one h1)) (by simp [hf, hl]) (by omega), hl]
     refine ih hb hrd' hfar.2 ?_
     have hoff : off < cs.length := (List.getElem?_eq_some_iff.1 hc).1
     simp only [Bool.or_eq_true] at hfar
     rcases hfar.1 with hq | hq
     ·have hq := blt_lt hq
      rw [List.append_assoc, List.getElem?_append_left (by simp; omega), List.getElem?_take_of_lt hq]; exact hc
     ·have hq : o + csz u ≤ off := Nat.le_of_ble_eq_true hq
      rw [List.getElem?_append_right (by simp; omega), List.getElem?_drop]
      rw [show o + csz u + (off - (List.take o cs ++ cv).length) = off by simp; omega]; exact hc
def nilAt (t : PT) (off : Nat) : Bool := match nth (zc t) off with | some (.slice none 0 0) => true | _ => false
def opBuildN {P : Program} (be : BE P) (as : List (Nat × RA)) (l : List (Nat × TypeId × PT)) : OpRes :=
 match aggT be.pt, l.all (fun x => nilAt be.pt x.1 && farB be.fs x.1 as), bld be.fs be.pt as (zt be.pt) with
 | true, true, some X => .ret (o1 (.agn be.pt X l))
 | _, _, _ => .stuck
theorem loc_buildN {be : BE P} {out : Out} {parts : List (Nat × Operand)} {as : List (Nat × RA)} {vs : List (Nat × Value)} {l : List (Nat × TypeId × PT)} (hT : be.id = T) (hp : PartsOK F e lab w parts as vs) (hr : Res (opBuildN be as l) out) (tp : Top lab w) (hw : Wn ops F g) (hd : Nat.blt d N = true) :
  LW P N ops [⟨some d, .build T parts.toArray, ty, pos, af, g⟩] F w (Fin N F e nid lab w (some d) out) := by
 subst hT
 unfold opBuildN at hr
 split at hr
 ·rename_i X ha hn hX
  obtain rfl := hr.ret_eq
  obtain ⟨cs, h1, h2⟩ := bld_ok hp hX (rd_zero lab w be.pt)
  have h3 : ∀ h ∈ l, cs[h.1]? = some (.slice none 0 0) := fun h hm => by
   have hq := List.all_eq_true.1 hn h hm
   rw [Bool.and_eq_true] at hq
   have hz : (zc be.pt)[h.1]? = some (.slice none 0 0) := by
    have hn := hq.1
    unfold nilAt at hn
    rw [nth_eq] at hn
    split at hn
    ·rename_i h; exact h
    ·cases hn
   obtain ⟨cs', g1, _, g3⟩ := bldN_ok hp hX (rd_zero lab w be.pt) hq.2 hz
   rw [h1] at g1
   have : cs = cs' := by have := congrArg Array.toList (Option.some.inj g1); simpa using this
   rw [this]; exact g3
  refine LW.build hp.map (by rw [be.ok]; exact h1) hw hd (fin_val tp ⟨⟨cs, h2, ?_⟩, _, rfl, fun h hm => by simpa using h3 h hm⟩)
  unfold IsV; rw [ha]
 ·cases hr
def isOwn (rid : Nat) (a : RA) : Bool := match a.1 with
 | .own r => Nat.beq r rid
 | _ => false
def bldG (fs : List (Nat × PT)) {pt : PT} (off rid : Nat) : List (Nat × RA) → den pt → Bool → Option (den pt × Bool)
 | [], X, b => some (X, b)
 | (i, a) :: r, X, b => match nth fs i with
  | none => none
  | some (o, u) => match isOwn rid a && (Nat.beq o off && Nat.beq (csz u) 1) with
   | true => bldG fs off rid r X true
   | false => match Nat.blt off o || Nat.ble (o + csz u) off, asT u a with
    | true, some Y => match setAt pt o u X Y with
     | some Z => bldG fs off rid r Z b
     | none => none
    | _, _ => none
theorem bldG_ok {fs : List (Nat × PT)} {pt : PT} {ps : List (Nat × Operand)} {as : List (Nat × RA)} {vs : List (Nat × Value)} {off rid : Nat} (h : PartsOK F e lab w ps as vs) : ∀ {X X' : den pt} {cs : List Value} {b : Bool}, bldG fs off rid as X b = some (X', true) → off < cs.length → (rep pt).rd lab w (cs.set off (.slice none 0 0)) X → (b = true → cs[off]? = some (.slice (e rid).oa (e rid).n (e rid).c)) →
  ∃ cs' : List Value, Instr.fill (fun i => (fs.map fun p => (p.1, csz p.2)).toArray[i]?) cs.toArray vs = some cs'.toArray ∧ (rep pt).rd lab w (cs'.set off (.slice none 0 0)) X' ∧ cs'[off]? = some (.slice (e rid).oa (e rid).n (e rid).c) := by
 induction h with
 | nil =>
  intro X X' cs b hb hlo hrd hc
  cases hb
  exact ⟨cs, rfl, hrd, hc rfl⟩
 | cons hx ha hrest ih =>
  intro X X' cs b hb hlo hrd hc
  rename_i i x a v ps as vs
  unfold bldG at hb
  split at hb
  ·cases hb
  ·rename_i o u hf
   split at hb
   ·rename_i hown
    simp only [Bool.and_eq_true] at hown
    obtain rfl := Nat.eq_of_beq_eq_true hown.2.1
    have hcu := Nat.eq_of_beq_eq_true hown.2.2
    have hv : v = .slice (e rid).oa (e rid).n (e rid).c := by
     have h0 := hown.1
     unfold isOwn at h0
     split at h0
     ·rename_i r hr
      obtain rfl := Nat.eq_of_beq_eq_true h0
      have h1 := ha.1
      rw [hr] at h1
      exact h1
     ·cases h0
    subst hv
    rw [nth_eq] at hf
    rw [fill_cons (off := o) (vs := [.slice (e rid).oa (e rid).n (e rid).c]) rfl (by simp [hf, hcu]) (by simp; omega)]
    have hset : cs.take o ++ [.slice (e rid).oa (e rid).n (e rid).c] ++ cs.drop (o + [Value.slice (e rid).oa (e rid).n (e rid).c].length) = cs.set o (.slice (e rid).oa (e rid).n (e rid).c) := by
     rw [List.set_eq_take_append_cons_drop, if_pos hlo]; simp
    rw [hset]
    exact ih hb (by rw [List.length_set]; exact hlo) (by rw [List.set_set]; exact hrd) (fun _ => List.getElem?_set_self hlo)
   ·split at hb
    ·rename_i Y hfar hY
     split at hb
     ·rename_i Z hZ
      obtain ⟨cv, h1, h2⟩ := asT_ok ha hY
      have hl : cv.length = csz u := by rw [(rep u).len h1, rep_sz]
      obtain ⟨hle, hrd'⟩ := setAt_rd hrd h1 hZ
      rw [List.length_set] at hle
      rw [nth_eq] at hf
      rw [fill_cons (off := o) (h2.cells ((rep u).one h1)) (by simp [hf, hl]) (by omega), hl]
      have hoff : ∀ c, cs[off]? = some c → (cs.take o ++ cv ++ cs.drop (o + csz u))[off]? = some c := fun c hc => by
       simp only [Bool.or_eq_true] at hfar
       rcases hfar with hq | hq
       ·have hq := blt_lt hq
        rw [List.append_assoc, List.getElem?_append_left (by simp; omega), List.getElem?_take_of_lt hq]; exact hc
       ·have hq : o + csz u ≤ off := Nat.le_of_ble_eq_true hq
        rw [List.getElem?_append_right (by simp; omega), List.getElem?_drop]
        rw [show o + csz u + (off - (List.take o cs ++ cv).length) = off by simp; omega]; exact hc
      have hset : (cs.take o ++ cv ++ cs.drop (o + csz u)).set off (.slice none 0 0) = (cs.set off (.slice none 0 0)).take o ++ cv ++ (cs.set off (.slice none 0 0)).drop (o + csz u) := by
       simp only [Bool.or_eq_true] at hfar
       rcases hfar with hq | hq
       ·have hq := blt_lt hq
        rw [List.append_assoc, List.append_assoc, List.set_append_left _ _ (by simp; omega), List.take_set, List.drop_set_of_lt (by omega)]
       ·have hq : o + csz u ≤ off := Nat.le_of_ble_eq_true hq
        rw [List.set_append_right _ _ (by simp; omega), List.take_set_of_le (by omega), List.drop_set, if_neg (by omega)]
        congr 2
        simp; omega
      refine ih hb ?_ (by rw [hset]; exact hrd') fun hb => hoff _ (hc hb)
      simp; omega
     ·cases hb
    ·cases hb
def opBuildG {P : Program} (be : BE P) (as : List (Nat × RA)) (off rid : Nat) : OpRes :=
 match aggT be.pt, nilAt be.pt off, bldG be.fs off rid as (zt be.pt) false with
 | true, true, some (X, true) => .ret (o1 (.agh be.pt X off rid))
 | _, _, _ => .stuck
theorem loc_buildG {be : BE P} {out : Out} {parts : List (Nat × Operand)} {as : List (Nat × RA)} {vs : List (Nat × Value)} {off rid : Nat} (hT : be.id = T) (hp : PartsOK F e lab w parts as vs) (hr : Res (opBuildG be as off rid) out) (tp : Top lab w) (hw : Wn ops F g) (hd : Nat.blt d N = true) :
  LW P N ops [⟨some d, .build T parts.toArray, ty, pos, af, g⟩] F w (Fin N F e nid lab w (some d) out) := by
 subst hT
 unfold opBuildG at hr
 split at hr
 ·rename_i X ha hn hX
  obtain rfl := hr.ret_eq
  have hz : (zc be.pt)[off]? = some (.slice none 0 0) := by
   unfold nilAt at hn
   rw [nth_eq] at hn
   split at hn
   ·rename_i h; exact h
   ·cases hn
  obtain ⟨hlt, hz2⟩ := List.getElem?_eq_some_iff.1 hz
  have hset : (zc be.pt).set off (.slice none 0 0) = zc be.pt := by rw [← hz2, List.set_getElem_self]
  obtain ⟨cs, h1, h2, h3⟩ := bldG_ok hp hX hlt (by rw [hset]; exact rd_zero lab w be.pt) (fun h => by cases h)
  exact LW.build hp.map (by rw [be.ok]; exact h1) hw hd (fin_val tp ⟨cs, rfl, h2, h3⟩)
 ·cases hr
def ownIn : List (Nat × RA) → List (Nat × PT) → Nat → Option Nat
 | [], _, _ => none
 | (i, a) :: r, fs, off => match nth fs i, a.1 with
  | some (o, _), .own rid => match Nat.beq o off with
   | true => some rid
   | false => ownIn r fs off
  | _, _ => ownIn r fs off
structure FD (P : Program) where
 id : TypeId
 f : Nat
 ft : TypeId
 off : Nat
 ok : ∀ w cs, (Instr.field id (.agg cs) f).run P w = (part ft cs off).run P w
def findFD {P : Program} : List (FD P) → TypeId → Nat → Option (FD P)
 | [], _, _ => none
 | e :: r, T, f => match Nat.beq e.id T && Nat.beq e.f f with
  | true => some e
  | false => findFD r T f
theorem findFD_id {P : Program} : ∀ {l : List (FD P)} {T : TypeId} {f : Nat} {e : FD P}, findFD l T f = some e → e.id = T ∧ e.f = f
 | [], _, _, _, h => by cases h
 | q :: r, T, f, e, h => by
  unfold findFD at h
  split at h
  ·rename_i hb
   rw [Bool.and_eq_true] at hb
   cases h
   exact ⟨Nat.eq_of_beq_eq_true hb.1, Nat.eq_of_beq_eq_true hb.2⟩
  ·exact findFD_id h
def opField {P : Program} (fd : FD P) (te : TE P) (a : RA) : OpRes :=
 match asDat a with
 | some ⟨.st t, X⟩ => match getAt (.st t) fd.off te.pt X with
  | some Y => .ret (o1 (.dat te.pt Y))
  | none => .stuck
 | some ⟨.tree, X⟩ => match getAt .tree fd.off te.pt X with
  | some Y => .ret (o1 (.dat te.pt Y))
  | none => .stuck
 | _ => .stuck
theorem loc_field {fd : FD P} {te : TE P} {f : Nat} {out : Out} (hT : fd.id = T) (hf : fd.f = f) (hte : te.id = fd.ft) (hx : ev F x = some v) (hv : AOK e lab w a v) (hr : Res (opField fd te a) out) (tp : Top lab w) (hw : Wn ops F g) (hd : Nat.blt d N = true) :
  LW P N ops [⟨some d, .field T x f, ty, pos, af, g⟩] F w (Fin N F e nid lab w (some d) out) := by
 subst hT hf
 have key : ∀ {t : PT} {X : den t} {Y : den te.pt} {cs : List Value}, v = .agg cs.toArray → (rep t).rd lab w cs X → getAt t fd.off te.pt X = some Y → Res (.ret (o1 (.dat te.pt Y))) out →
   LW P N ops [⟨some d, .field fd.id x fd.f, ty, pos, af, g⟩] F w (Fin N F e nid lab w (some d) out) := by
  intro t X Y cs hcs h1 hg hr
  subst hcs
  obtain rfl := hr.ret_eq
  have h2 := getAt_rd (t := t) h1 hg
  have hl : ((cs.drop fd.off).take (csz te.pt)).length = csz te.pt := by rw [(rep te.pt).len h2, rep_sz]
  cases ha : aggT te.pt with
  | true =>
   have hA2 := te.ok.agg ha
   rw [hte] at hA2
   have hrun : (Instr.field fd.id (.agg cs.toArray) fd.f).run P w = .ok (.agg ((cs.drop fd.off).take (csz te.pt)).toArray) w := by
    rw [fd.ok]
    simp only [part, Sem.run_bind, hA2.agg w, Result.andThen_ok, if_true, hA2.size w, Sem.run_pure]
    congr 2
    apply Array.ext'
    simp [List.extract_eq_take_drop]
   refine LW.val (v := .agg ((cs.drop fd.off).take (csz te.pt)).toArray) rfl hw rfl hd (fun q hq => by simp [execOp, hq.eval hx, hrun]) (fin_val tp ⟨_, h2, ?_⟩)
   unfold IsV; rw [ha]
  | false =>
   have hA2 := te.ok.one ha
   rw [hte] at hA2
   have h1c : csz te.pt = 1 := by
    cases hpt : te.pt <;> rw [hpt] at ha <;> first | rfl | cases ha
   obtain ⟨u, hu⟩ : ∃ u, (cs.drop fd.off).take (csz te.pt) = [u] := List.length_eq_one_iff.1 (by rw [hl, h1c])
   have hcell : cs.toArray[fd.off]? = some u := by
    have := congrArg (fun l => l[0]?) hu
    rw [h1c] at this
    simpa using this
   have hrun : (Instr.field fd.id (.agg cs.toArray) fd.f).run P w = .ok u w := by
    rw [fd.ok]
    simp only [part, Sem.run_bind, hA2.agg w, Result.andThen_ok, Bool.false_eq_true, if_false, hcell, Sem.run_pure]
   refine LW.val (v := u) rfl hw rfl hd (fun q hq => by simp [execOp, hq.eval hx, hrun]) (fin_val tp ⟨_, h2, ?_⟩)
   unfold IsV; rw [ha, hu]
 unfold opField at hr
 split at hr
 ·rename_i t X hA
  split at hr
  ·rename_i Y hg
   obtain ⟨cs, h0, h1⟩ := Dat.st (asDat_ok hv hA)
   exact key (t := .st t) h0 h1 hg hr
  ·cases hr
 ·rename_i X hA
  split at hr
  ·rename_i Y hg
   obtain ⟨cs, h1, h0⟩ := asDat_ok hv hA
   exact key (t := .tree) h0 h1 hg hr
  ·cases hr
 ·cases hr
theorem bldS_ok {t : PT} {n : Nat} {ps : List (Nat × Operand)} {as : List (Nat × RA)} {vs : List (Nat × Value)} (h : PartsOK F e lab w ps as vs) : ∀ {xs xs' : List (den t)} {css : List (List Value)}, bldS t n as xs = some xs' → Alls (rep t) lab w css xs → css.length = n →
  ∃ css', Instr.fill (fun i => some (i * (rep t).sz, (rep t).sz)) css.flatten.toArray vs = some css'.flatten.toArray ∧ Alls (rep t) lab w css' xs' ∧ css'.length = n := by
 induction h with
 | nil => intro xs xs' css hb hrd hn; cases hb; exact ⟨css, rfl, hrd, hn⟩
 | cons hx ha hrest ih =>
  intro xs xs' css hb hrd hn
  rename_i i x a v ps as vs
  unfold bldS at hb
  split at hb
  ·cases hb
  ·rename_i hlt
   have hlt := blt_lt hlt
   split at hb
   ·cases hb
   ·rename_i Y hY
    obtain ⟨cv, h1, h2⟩ := asT_ok ha hY
    have hl : cv.length = (rep t).sz := (rep t).len h1
    have hfl := flatten_len css (fun cs h => (hrd.each cs h).1)
    have hb1 : (i + 1) * (rep t).sz ≤ css.length * (rep t).sz := Nat.mul_le_mul_right _ (by omega)
    rw [Nat.add_mul] at hb1
    rw [fill_cons (off := i * (rep t).sz) (h2.cells ((rep t).one h1)) (by rw [hl]) (by omega), hl]
    have := flatten_setAll i css cv (fun cs h => (hrd.each cs h).1) (by omega)
    rw [← this]
    exact ih hb (hrd.set i h1) (by simpa using hn)
theorem zcells_eq {t : PT} (n : Nat) (hp : 0 < csz t) : zcells (zv t) (n * (rep t).sz) = (List.replicate n (zc t)).flatten.toArray := by
 have hz : (zc t).length = csz t := by rw [← rep_sz]; exact (rep t).len (rd_zero (fun _ => 0) default t)
 unfold zcells
 apply Array.ext_getElem?
 intro j
 rw [zv_cells, rep_sz]
 by_cases hj : j < n * csz t
 ·have := flatten_replicate_get (l := zc t) n j (by rw [hz]; exact hj)
  have hjm : j % (zc t).length < (zc t).length := Nat.mod_lt _ (by omega)
  simp [hj, this, List.getElem?_eq_getElem hjm]
 ·have hl : ((List.replicate n (zc t)).flatten).length = n * csz t := by simp [hz]
  rw [Array.getElem?_eq_none (by simp; omega), Array.getElem?_eq_none (by simp [hz]; omega)]
theorem Alls.rep0 {t : PT} : ∀ n, Alls (rep t) lab w (List.replicate n (zc t)) (List.replicate n (zt t)) := fun n => Alls.replicate (rd_zero lab w t) n
def opBuildS {P : Program} (se : SE P) (nid k0 : Nat) (owned : Bool) (n : Nat) (as : List (Nat × RA)) : OpRes :=
 match Nat.beq k0 0, Nat.ble (n * csz se.pt) 16777216, bldS se.pt n as (List.replicate n (zt se.pt)) with
 | false, true, some xs => .ret (appOut nid k0 se.el se.pt owned [k0] xs)
 | _, _, _ => .stuck
theorem loc_buildS {se : SE P} {out : Out} {k0 n : Nat} {owned : Bool} {parts : List (Nat × Operand)} {as : List (Nat × RA)} {vs : List (Nat × Value)} (hT : se.id = T) (hp : PartsOK F e lab w parts as vs) (hr : Res (opBuildS se nid k0 owned n as) out) (tp : Top lab w) (hw : Wn ops F g) (hd : Nat.blt d N = true) :
  LW P N ops [⟨some d, .buildSlice T n parts.toArray, ty, pos, af, g⟩] F w (Fin N F e nid lab w (some d) out) := by
 subst hT
 unfold opBuildS at hr
 split at hr
 ·rename_i xs hk hb hX
  obtain rfl := hr.ret_eq
  obtain ⟨css, h1, h2, h3⟩ := bldS_ok hp hX (Alls.rep0 n) (by simp)
  have hpos : 0 < csz se.pt := se.ok.pos
  refine LW.buildOwn k0 hp.map se.ok.rep se.zok (by rw [zcells_eq n hpos]; exact h1) (by rw [rep_sz]; exact hb) (by rw [← h2.len, h3]; simp) h2 tp hw hd ?_
  intro oa c lab' w' hs ho
  -- the new row's label is written by nobody before
  have hs' : Ste lab k0 w lab' w' := ⟨hs.os, hs.tape, hs.output, hs.size, fun b hb _ => hs.block b hb (.inl rfl), hs.same, hs.top⟩
  exact fin_app hs' ho
 ·cases hr
def opMake {P : Program} (se : SE P) (nid k0 : Nat) (owned : Bool) (a : RA) : OpRes :=
 match Nat.beq k0 0, asI a with
 | false, some ⟨k, i⟩ => .bnd (List (den se.pt)) (mkl (toI k i) (zt se.pt)) fun zs => .ret (appOut nid k0 se.el se.pt owned [k0] zs)
 | _, _ => .stuck
theorem loc_make {se : SE P} {out : Out} {k0 : Nat} {owned : Bool} (hT : se.id = T) (hx : ev F x = some v) (hv : AOK e lab w a v) (hr : Res (opMake se nid k0 owned a) out) (tp : Top lab w) (hw : Wn ops F g) (hd : Nat.blt d N = true) :
  LW P N ops [⟨some d, .makeSlice T x x, ty, pos, af, g⟩] F w (Fin N F e nid lab w (some d) out) := by
 subst hT
 unfold opMake at hr
 split at hr
 ·rename_i k i hk hi
  obtain rfl := asI_ok hv hi
  cases hr with
  | bnd hz hr =>
   obtain rfl := hr.ret_eq
   refine LW.make k0 (kk := some) (by rw [hz]; rfl) se.ok.rep se.zok (zv_cells se.pt) (fun lab w => rd_zero lab w se.pt) (by rw [rep_sz, ← rep_sz]; have := (rep se.pt).len (rd_zero lab w se.pt); rw [this]; exact Nat.beq_refl _) se.hb tp hw hd hx hx ?_
   intro zs oa c lab' w' hzs hs ho
   obtain rfl := Option.some.inj hzs
   have hs' : Ste lab k0 w lab' w' := ⟨hs.os, hs.tape, hs.output, hs.size, fun b hb _ => hs.block b hb (.inl rfl), hs.same, hs.top⟩
   exact fin_app hs' ho
 ·cases hr
theorem loc_move (hx : ev F x = some v) (hv : RV e a.1 lab w v) (tp : Top lab w) (hw : Wn ops F g) (hd : Nat.blt d N = true) :
  LW P N ops [⟨some d, .move x, ty, pos, af, g⟩] F w (Fin N F e nid lab w (some d) (o1 a.1)) := LW.move hw hd hx (fin_val tp hv)
theorem loc_assign (hx : ev F x = some v) (hv : RV e a.1 lab w v) (tp : Top lab w) (hw : Wn ops F g) (hd : Nat.blt d N = true) :
  LW P N ops [⟨some d, .assign x, ty, pos, af, g⟩] F w (Fin N F e nid lab w (some d) (o1 a.1)) := LW.assign hw hd hx (fin_val tp hv)
def asB (a : RA) : Option Bool :=
 match asDat a with
 | some ⟨.bool, b⟩ => some b
 | _ => none
theorem asB_ok {c : Bool} (h : AOK e lab w a v) (ha : asB a = some c) : v = .bool c := by
 unfold asB at ha
 split at ha
 ·rename_i heq; cases ha; exact Dat.bool (asDat_ok h heq)
 ·cases ha
def opPick (c a b : RA) : OpRes :=
 match asB c with
 | some q => .cnd q (.ret (o1 a.1)) (.ret (o1 b.1))
 | none => .stuck
theorem loc_pick {c : RA} {q u2 : Value} {out : Out} (hz : ev F z = some q) (hx : ev F x = some v) (hy : ev F y = some u2) (hc : AOK e lab w c q) (hv : RV e a.1 lab w v) (hu : RV e b.1 lab w u2) (hr : Res (opPick c a b) out) (tp : Top lab w) (hw : Wn ops F g) (hd : Nat.blt d N = true) :
  LW P N ops [⟨some d, .pick z x y, ty, pos, af, g⟩] F w (Fin N F e nid lab w (some d) out) := by
 unfold opPick at hr
 split at hr
 ·rename_i cb hcb
  obtain rfl := asB_ok hc hcb
  cases hr with
  | t hr => obtain rfl := hr.ret_eq; exact LW.pick_t hw hd hz hx (fin_val tp hv)
  | f hr => obtain rfl := hr.ret_eq; exact LW.pick_f hw hd hz hy (fin_val tp hu)
 ·cases hr
def opNot (a : RA) : OpRes :=
 match asB a with
 | some q => .letm _ (!q) retB
 | none => .stuck
theorem loc_not {out : Out} (hx : ev F x = some v) (hv : AOK e lab w a v) (hr : Res (opNot a) out) (tp : Top lab w) (hw : Wn ops F g) (hd : Nat.blt d N = true) :
  LW P N ops [⟨some d, .unOp .not T x, ty, pos, af, g⟩] F w (Fin N F e nid lab w (some d) out) := by
 unfold opNot at hr
 split at hr
 ·rename_i cb hcb
  obtain rfl := asB_ok hv hcb
  cases hr with
  | letm hr =>
   obtain rfl := hr.ret_eq
   refine LW.not (k := some) rfl hw hd hx fun c hc => fin_val tp ?_
   cases hc; exact Dat.ofBool _
 ·cases hr
def opExtract (a : RA) (i : Nat) : OpRes :=
 match a.1 with
 | .tup l => match nth l i with
  | some sv => .ret (o1 sv)
  | none => .stuck
 | _ => .stuck
theorem loc_extract {i : Nat} {out : Out} (hx : ev F x = some v) (hv : RV e a.1 lab w v) (hr : Res (opExtract a i) out) (tp : Top lab w) (hw : Wn ops F g) (hd : Nat.blt d N = true) :
  LW P N ops [⟨some d, .extract x i, ty, pos, af, g⟩] F w (Fin N F e nid lab w (some d) out) := by
 unfold opExtract at hr
 split at hr
 ·rename_i l heq
  split at hr
  ·rename_i sv hsv
   obtain rfl := hr.ret_eq
   rw [heq] at hv
   obtain ⟨vs, rfl, h2⟩ := hv
   rw [nth_eq] at hsv
   obtain ⟨q, hq, hR⟩ := h2.get hsv
   exact LW.extract hw hd hx hq (fin_val tp (RV.of0 hR))
  ·cases hr
 ·cases hr
def isBoolT {P : Program} (tes : List (TE P)) (T : TypeId) : Bool :=
 match findTE tes T with
 | some ⟨_, .bool, _⟩ => true
 | _ => false
theorem isBoolT_ok {tes : List (TE P)} (h : isBoolT tes T = true) : P.underlying T = some .bool := by
 unfold isBoolT at h
 split at h
 ·rename_i i ok heq
  rw [← findTE_id heq]; exact ok.und
 ·cases h
theorem eqGuard_int {o : BinOp} {k k' : IntKind} {m n : Int} : eqGuard o T x y (.int k m) (.int k' n) = pure () := by cases o <;> rfl
def isOne : Int → Bool
 | .ofNat n => Nat.beq n 1
 | .negSucc _ => false
theorem isOne_eq {z : Int} (h : isOne z = true) : z = 1 := by
 cases z with
 | ofNat n => have := Nat.eq_of_beq_eq_true h; subst this; rfl
 | negSucc _ => cases h
def feq (x y : UInt64) : Bool := FloatKind.f64.format.order x.toNat y.toNat == some .eq
theorem Dat.fl {x : UInt64} {v : Value} (h : Dat .fl x lab w v) : v = .float .f64 x.toNat := by
 obtain ⟨cs, h1, h2⟩ := h
 have h1 : cs = [.float .f64 x.toNat] := h1
 have h2 : cs = [v] := h2
 rw [h1] at h2; cases h2; rfl
theorem run_neqF (p q : UInt64) : (binOp .neq T (.float .f64 p.toNat) (.float .f64 q.toNat)).run P w = .ok (.bool (!(feq p q))) w := by
 show Result.ok (Value.bool (FloatKind.f64.format.order p.toNat q.toNat != some .eq)) w = _
 rfl
def isErrT {P : Program} (tes : List (TE P)) (T : TypeId) : Bool :=
 match findTE tes T with
 | some ⟨_, .err, _⟩ => true
 | _ => false
theorem isErrT_ok {tes : List (TE P)} (h : isErrT tes T = true) : ∃ ms, P.underlying T = some (.interface ms) := by
 unfold isErrT at h
 split at h
 ·rename_i i ok heq
  rw [← findTE_id heq]; exact ok.und
 ·cases h
def isNilC : Operand → Bool
 | .const .nilIface => true
 | _ => false
theorem isNilC_eq {y : Operand} (h : isNilC y = true) : y = .const .nilIface := by
 unfold isNilC at h
 split at h
 ·rfl
 ·cases h
def opNil {P : Program} (tes : List (TE P)) (o : BinOp) (T : TypeId) (a : RA) : OpRes :=
 match asDat a with
 | some ⟨.err, p⟩ => match o, isErrT tes T with
  | .neq, true => .letm Bool p retB
  | .eql, true => .letm Bool (!p) retB
  | _, _ => .stuck
 | _ => .stuck
theorem run_binN (op : BinOp) (xt yt : TypeId) {a : Act} {u v q : Value} (hu : a.eval x = u) (hv : a.eval y = v) (hg : (eqGuard op xt x y u v).run P w = .ok () w) (hb : (binOp op xt u v).run P w = .ok q w) :
  (execOp a.eval ⟨some d, .binOp op xt x y yt, ty, pos, af, g⟩).run P w = .ok (.value q) w := by
 simp [execOp, hu, hv, hg, hb]
theorem run_eqNil {p : Bool} {v : Value} {x : Operand} {ms : _} (h : Dat .err p lab w v) (hT : P.underlying T = some (.interface ms)) :
  (eqGuard .eql T x (.const .nilIface) v .nilIface).run P w = .ok () w ∧ (eqGuard .neq T x (.const .nilIface) v .nilIface).run P w = .ok () w ∧ (binOp .eql T v .nilIface).run P w = .ok (.bool (!p)) w ∧ (binOp .neq T v .nilIface).run P w = .ok (.bool p) w := by
 obtain ⟨cs, h1, h2⟩ := h
 have h2 : cs = [v] := h2
 subst h2
 cases p with
 | false =>
  have h1 : [v] = [Value.nilIface] := h1
  cases h1
  have hd : ∀ d : Nat, (Op.equalIn (d + 1) T .nilIface .nilIface).run P w = .ok true w := fun d => by simp [Op.equalIn, run_underlying hT]
  have h10 := hd 9999
  exact ⟨by simp [eqGuard], by simp [eqGuard], by simp [binOp, Op.equal, Op.maxDepth, h10], by simp [binOp, Op.equal, Op.maxDepth, h10]⟩
 | true =>
  obtain ⟨te, u, h1⟩ := h1
  cases h1
  have hd : ∀ d : Nat, (Op.equalIn (d + 1) T (.iface te u) .nilIface).run P w = .ok false w := fun d => by simp [Op.equalIn, run_underlying hT]
  have h10 := hd 9999
  exact ⟨by simp [eqGuard], by simp [eqGuard], by simp [binOp, Op.equal, Op.maxDepth, h10], by simp [binOp, Op.equal, Op.maxDepth, h10]⟩
theorem loc_nil {tes : List (TE P)} {o : BinOp} {t' : TypeId} {out : Out} (hx : ev F x = some v) (hv : AOK e lab w a v) (hr : Res (opNil tes o T a) out) (tp : Top lab w) (hw : Wn ops F g) (hd : Nat.blt d N = true) :
  LW P N ops [⟨some d, .binOp o T x (.const .nilIface) t', ty, pos, af, g⟩] F w (Fin N F e nid lab w (some d) out) := by
 unfold opNil at hr
 split at hr
 ·rename_i p hi
  have hp := asDat_ok hv hi
  split at hr
  ·rename_i ht
   obtain ⟨ms, hT⟩ := isErrT_ok (tes := tes) ht
   obtain ⟨_, k2, _, k4⟩ := run_eqNil (x := x) hp hT
   cases hr with
   | letm hr =>
    obtain rfl := hr.ret_eq
    exact LW.val rfl hw rfl hd (fun _ ha => run_binN _ _ _ (ha.eval hx) rfl k2 k4) (fin_val tp (Dat.ofBool _))
  ·rename_i ht
   obtain ⟨ms, hT⟩ := isErrT_ok (tes := tes) ht
   obtain ⟨k1, _, k3, _⟩ := run_eqNil (x := x) hp hT
   cases hr with
   | letm hr =>
    obtain rfl := hr.ret_eq
    exact LW.val rfl hw rfl hd (fun _ ha => run_binN _ _ _ (ha.eval hx) rfl k1 k3) (fin_val tp (Dat.ofBool _))
  ·cases hr
 ·cases hr
def opBin {P : Program} (tes : List (TE P)) (o : BinOp) (T : TypeId) (a b : RA) : OpRes :=
 match o, a, b with
 | .lss, (.rix _, some (.rgi h _ _ _ ox)), (.rlen h', _) => match Nat.beq h h' with
  | true => .ret (o1 (.dat .bool ox.isSome))
  | false => .stuck
 | .lss, (.rix _, some (.rgj h _ _ more)), (.rcn h', _) => match Nat.beq h h' with
  | true => .ret (o1 (.dat .bool more))
  | false => .stuck
 | .add, (.rix id, some (.rgi _ _ _ _ (some _))), (.dat (.int .i64) z, none) => if isOne z then .ret (o1 (.rnx id)) else .stuck
 | .add, (.rix id, some (.rgj _ _ _ true)), (.dat (.int .i64) z, none) => if isOne z then .ret (o1 (.rnx id)) else .stuck
 | o, a, b => match asDat a, asDat b with
  | some ⟨.int k, i⟩, some ⟨.int k', j⟩ => binI o k i k' j
  | some ⟨.bool, p⟩, some ⟨.bool, q⟩ => match o, isBoolT tes T with
   | .eql, true => .letm Bool (BEq.beq (α := Bool) p q) retB
   | .neq, true => .letm Bool (bne (α := Bool) p q) retB
   | _, _ => .stuck
  | some ⟨.str, p⟩, some ⟨.str, q⟩ => binS o p q
  | some ⟨.fl, p⟩, some ⟨.fl, q⟩ => match o with
   | .eql => .letm Bool (feq p q) retB
   | .neq => .letm Bool (!(feq p q)) retB
   | _ => .stuck
  | _, _ => .stuck
theorem loc_bin {tes : List (TE P)} {o : BinOp} {t' : TypeId} {out : Out} (hx : ev F x = some v) (hy : ev F y = some u) (hv : AOK e lab w a v) (hu : AOK e lab w b u) (hr : Res (opBin tes o T a b) out) (tp : Top lab w) (hw : Wn ops F g) (hd : Nat.blt d N = true) :
  LW P N ops [⟨some d, .binOp o T x y t', ty, pos, af, g⟩] F w (Fin N F e nid lab w (some d) out) := by
 unfold opBin at hr
 split at hr
 ·rename_i id h t xs k ox h' m
  split at hr
  ·rename_i hb
   obtain rfl := Nat.eq_of_beq_eq_true hb
   obtain rfl := hr.ret_eq
   obtain ⟨q1, q2, q3, q4, q5⟩ := hv.2 _ rfl
   have q1 : (e id).n = k := q1
   have h1 : v = .int .i64 ((e id).n : Int) := hv.1
   have h2 : u = .int .i64 ((e h).ls.length : Int) := hu.1
   have hl := sig_len q2
   rw [q1] at h1
   rw [hl] at h2
   subst h1 h2
   refine LW.lss_lit (tv := ox.isSome) ?_ hw hd hx hy (fin_val tp (Dat.ofBool _))
   rw [← q3]
   by_cases hlt : k < xs.length
   ·rw [decide_eq_true (by omega), List.getElem?_eq_getElem hlt]; rfl
   ·rw [decide_eq_false (by omega), List.getElem?_eq_none (by omega)]; rfl
  ·cases hr
 ·rename_i id h n k more h' m
  split at hr
  ·rename_i hb
   obtain rfl := Nat.eq_of_beq_eq_true hb
   obtain rfl := hr.ret_eq
   obtain ⟨q1, q2, q3, q4, q5⟩ := hv.2 _ rfl
   have q1 : (e id).n = k := q1
   have h1 : v = .int .i64 ((e id).n : Int) := hv.1
   have h2 : u = .int .i64 (e h).z := hu.1
   rw [q1] at h1
   rw [q2] at h2
   subst h1 h2
   refine LW.lss_lit (tv := more) ?_ hw hd hx hy (fin_val tp (Dat.ofBool _))
   cases more with
   | true => exact decide_eq_true (q3 rfl)
   | false => exact decide_eq_false (by have := q4 rfl; omega)
  ·cases hr
 ·rename_i id h t xs k X z
  split at hr
  ·rename_i hz
   obtain rfl := isOne_eq hz
   obtain rfl := hr.ret_eq
   obtain ⟨q1, q2, q3, q4, q5⟩ := hv.2 _ rfl
   have q1 : (e id).n = k := q1
   have h1 : v = .int .i64 ((e id).n : Int) := hv.1
   have h2 : u = .int .i64 1 := Dat.int (k := .i64) hu.1
   subst h2
   rw [q1] at h1
   subst h1
   have hlt : k < xs.length := (List.getElem?_eq_some_iff.1 q3).1
   refine LW.add_lit (c := ((k + 1 : Nat) : Int)) (w64_succ hlt q5) hw hd hx hy (fin_val tp ?_)
   show _ = Value.int _ _
   rw [q1]
  ·cases hr
 ·rename_i id h n k z
  split at hr
  ·rename_i hz
   obtain rfl := isOne_eq hz
   obtain rfl := hr.ret_eq
   obtain ⟨q1, q2, q3, q4, q5⟩ := hv.2 _ rfl
   have q1 : (e id).n = k := q1
   have h1 : v = .int .i64 ((e id).n : Int) := hv.1
   have h2 : u = .int .i64 1 := Dat.int (k := .i64) hu.1
   subst h2
   rw [q1] at h1
   subst h1
   refine LW.add_lit (c := ((k + 1 : Nat) : Int)) (w64_succ' (q3 rfl) q5) hw hd hx hy (fin_val tp ?_)
   show _ = Value.int _ _
   rw [q1]
  ·cases hr
 ·split at hr
  ·rename_i k i k' j hi hj
   obtain rfl := Dat.int (asDat_ok hv hi)
   obtain rfl := Dat.int (asDat_ok hu hj)
   obtain ⟨q, sv, rfl, h1, h2⟩ := binI_ok (P := P) (e := e) (lab := lab) (w := w) (t := T) hr
   exact LW.val rfl hw rfl hd (fun _ ha => run_bin _ _ _ (ha.eval hx) (ha.eval hy) eqGuard_int h2) (fin_val tp h1)
  ·rename_i p q hi hj
   obtain rfl := Dat.bool (asDat_ok hv hi)
   obtain rfl := Dat.bool (asDat_ok hu hj)
   split at hr
   ·cases hr with
    | letm hr =>
     obtain rfl := hr.ret_eq
     refine LW.eqb (k := some) rfl (isBoolT_ok (tes := tes) (by assumption)) hw hd hx hy fun c hc => fin_val tp ?_
     cases hc; exact Dat.ofBool _
   ·cases hr with
    | letm hr =>
     obtain rfl := hr.ret_eq
     refine LW.neb (k := some) rfl (isBoolT_ok (tes := tes) (by assumption)) hw hd hx hy fun c hc => fin_val tp ?_
     cases hc; exact Dat.ofBool _
   ·cases hr
  ·rename_i p q hi hj
   obtain rfl := Dat.str (asDat_ok hv hi)
   obtain rfl := Dat.str (asDat_ok hu hj)
   exact loc_binS hx hy hr tp hw hd
  ·rename_i p q hi hj
   obtain rfl := Dat.fl (asDat_ok hv hi)
   obtain rfl := Dat.fl (asDat_ok hu hj)
   split at hr
   ·cases hr with
    | letm hr =>
     obtain rfl := hr.ret_eq
     exact LW.val rfl hw rfl hd (fun _ ha => run_bin _ _ _ (ha.eval hx) (ha.eval hy) rfl rfl) (fin_val tp (Dat.ofBool _))
   ·cases hr with
    | letm hr =>
     obtain rfl := hr.ret_eq
     exact LW.val rfl hw rfl hd (fun _ ha => run_bin _ _ _ (ha.eval hx) (ha.eval hy) rfl (run_neqF _ _)) (fin_val tp (Dat.ofBool _))
   ·cases hr
  ·cases hr
def opConv0 {P : Program} (tes : List (TE P)) (ses : List (SE P)) (S T : TypeId) (a : RA) : OpRes :=
 match asDat a, findTE tes S, findTE tes T with
 | some ⟨.int k, i⟩, some ⟨_, .int _, _⟩, some ⟨_, .int k', _⟩ => .letm (kden k') (fromI k' (toI k i)) (retI k')
 | some ⟨.sl (.int .u8), xs⟩, _, some ⟨_, .str, _⟩ => match findSE ses S with
  | some ⟨_, el, .int .u8, _, _, _, _⟩ => match findTE tes el with
   | some ⟨_, .int .u8, _⟩ => .ret (o1 (.dat .str xs))
   | _ => .stuck
  | _ => .stuck
 | some ⟨.str, l⟩, some ⟨_, .str, _⟩, _ => match findSE ses T with
  | some se => opS2b tes se l
  | none => .stuck
 | _, _, _ => .stuck
theorem SL.u8 {oa : Option Addr} {c : Nat} {xs : List UInt8} (s : SL (rep (.int .u8)) lab w oa c xs) : SL Rep.u8 lab w oa c xs := s
theorem loc_conv0 {tes : List (TE P)} {ses : List (SE P)} {out : Out} (hx : ev F x = some v) (hv : AOK e lab w a v) (hr : Res (opConv0 tes ses S T a) out) (tp : Top lab w) (hw : Wn ops F g) (hd : Nat.blt d N = true) :
  LW P N ops [⟨some d, .convert S T x, ty, pos, af, g⟩] F w (Fin N F e nid lab w (some d) out) := by
 unfold opConv0 at hr
 split at hr
 ·rename_i k i i1 k1 ok1 i2 k' ok2 ha hS hT
  obtain rfl := Dat.int (asDat_ok hv ha)
  have e1 : i1 = S := findTE_id hS
  have e2 : i2 = T := findTE_id hT
  subst e1 e2
  have u1 : P.underlying i1 = some (.int k1) := ok1.und
  have u2 : P.underlying i2 = some (.int k') := ok2.und
  cases hr with
  | letm hr =>
   obtain rfl := hr.ret_eq
   refine LW.val rfl hw rfl hd (fun q hq => ?_) (fin_val tp (Dat.ofInt (k := k') _))
   have := run_cvt (P := P) (w := w) (S := i1) (T := i2) (sk := k) (n := toI k i) (by rw [u1]; rfl) u2
   rw [toI_fromI]
   simp [execOp, hq.eval hx, this]
 ·rename_i xs i2 ok2 ha hT
  have e2 : i2 = T := findTE_id hT
  subst e2
  obtain ⟨oa, c, rfl, s⟩ := Dat.sl (asDat_ok hv ha)
  split at hr
  ·rename_i i1 el nb ok1 zok hb hS
   have e1 : i1 = S := findSE_id hS
   subst e1
   split at hr
   ·rename_i i3 ok3 hel
    have e3 : i3 = el := findTE_id hel
    subst e3
    obtain rfl := hr.ret_eq
    have u3 : P.underlying i3 = some (.int .u8) := ok3.und
    have u2 : P.underlying i2 = some .string := ok2.und
    exact LW.b2s (SL.u8 s) ok1.und u3 u2 hw hd hx (fin_val tp (Dat.ofStr _))
   ·cases hr
  ·cases hr
 ·rename_i l i1 ok1 hl hS
  have e1 : i1 = S := findTE_id hS
  subst e1
  obtain rfl := Dat.str (asDat_ok hv hl)
  split at hr
  ·rename_i se hse
   exact loc_s2b ok1.und (findSE_id hse) hx hr tp hw hd
  ·cases hr
 ·cases hr
def opB2b {P : Program} (tes : List (TE P)) (se : SE P) (a : RA) : OpRes :=
 match a with
 | (.own _, some (.row k E t (x :: r))) => match PT.eqb t (.int .u8) && !Nat.beq k 0 && Nat.beq E se.el, findTE tes se.el with
  | true, some ⟨_, .int .u8, _⟩ => .ret ⟨.dat (.sl t) (x :: r), [k], [], []⟩
  | _, _ => .stuck
 | _ => .stuck
theorem freeze_cell {w : World} {p : Addr} {n : Nat} {q : Addr} : (w.freeze p n).cell? q = w.cell? q := by
 unfold World.freeze
 split
 ·rfl
 ·unfold World.cell?
  dsimp only
  rw [Array.getElem?_modify]
  by_cases h : p.block = q.block
  ·rw [if_pos h]
   cases w.heap[q.block]? with
   | none => rfl
   | some o => cases o <;> rfl
  ·rw [if_neg h]
theorem loc_b2b {tes : List (TE P)} {se : SE P} {out : Out} (hT : se.id = T) (hx : ev F x = some v) (hv : AOK e lab w a v) (hr : Res (opB2b tes se a) out) (tp : Top lab w) (hw : Wn ops F g) (hd : Nat.blt d N = true) :
  LW P N ops [⟨some d, .convert T T x, ty, pos, af, g⟩] F w (Fin N F e nid lab w (some d) out) := by
 subst hT
 unfold opB2b at hr
 split at hr
 ·rename_i id k E t X r
  split at hr
  ·rename_i i ok hb hel
   obtain rfl := hr.ret_eq
   simp only [Bool.and_eq_true, Bool.not_eq_true'] at hb
   obtain ⟨⟨hb1, hk⟩, hb2⟩ := hb
   obtain rfl := PT.eqb_eq hb1
   obtain rfl := Nat.eq_of_beq_eq_true hb2
   have e3 : i = se.el := findTE_id hel
   subst e3
   have u3 : P.underlying se.el = some (.int .u8) := ok.und
   obtain ⟨b1, b2, b3⟩ := hv.2 _ rfl
   have b1 : (e id).n = (X :: r).length := b1
   have b3 : Own (rep (.int .u8)) lab w k se.el (e id).oa (e id).c (X :: r) := b3
   have h1 : v = .slice (e id).oa (e id).n (e id).c := hv.1
   have hsl := b3.view
   obtain ⟨css, c1, c2⟩ := b3
   rcases c2 with ⟨_, _, h⟩ | ⟨g', cur, ha, hg, h3, h4, h5, h6, h7⟩
   ·cases h
   ·have hsh : w.shape? g' = some (se.el, cur.size) := by unfold World.shape?; rw [hg]
    have hrun : (convert se.id se.id (.slice (some ⟨g', 0, none⟩) (e id).n (e id).c)).run P w = .ok (.slice (some ⟨g', 0, none⟩) (e id).n (e id).c) (w.freeze ⟨g', cur.size, none⟩ 1) := by
     simp [convert, run_underlying se.ok.und, run_underlying u3, markStringish, hsh]
    rw [h1, ha] at hx
    have hm : Stp [k] lab w (Gk.mask lab k) (w.freeze ⟨g', cur.size, none⟩ 1) := by
     have hk1 : ([k] : List Nat).contains k = true := by simp
     have hs := Stp.mask (lab := lab) (w := w) tp hk1
     have hsz : (w.freeze ⟨g', cur.size, none⟩ 1).heap.size = w.heap.size := by unfold World.freeze; rw [if_neg (by decide)]; simp
     refine ⟨by unfold World.freeze; rw [if_neg (by decide)], by unfold World.freeze; rw [if_neg (by decide)], by unfold World.freeze; rw [if_neg (by decide)], by rw [hsz]; exact Nat.le_refl _, fun b hb hl => ?_, hs.same, fun b hb => hs.top b (by rw [hsz] at hb; exact hb)⟩
     have hne : g' ≠ b := fun e => by
      subst e
      rw [h7] at hl
      rcases hl with hl | hl
      ·rw [hl] at hk; cases hk
      ·rw [hk1] at hl; cases hl
     unfold World.freeze
     rw [if_neg (by decide)]
     show (w.heap.modify g' _)[b]? = _
     rw [Array.getElem?_modify, if_neg hne]
    refine LW.val rfl hw rfl hd (fun q hq => by simp only [execOp, hq.eval hx, Sem.run_bind, hrun, Result.andThen_ok, Sem.run_pure]; rfl) (LW.nil fun a' ha' => ⟨rfl, e, Gk.mask lab k, _, ha', fun _ _ => rfl, hm, RV.of0 ?_, fun p hp => absurd hp List.not_mem_nil, fun p hp => absurd hp List.not_mem_nil⟩)
    rw [b1, ← ha]
    refine Dat.ofSl (t := .int .u8) ⟨hsl.1, hsl.2.1, fun i c hc => ?_⟩
    obtain ⟨ad, cs, q1, q2, q3⟩ := hsl.2.2 i c hc
    exact ⟨ad, cs, q1, q2, fun j u hu => ⟨(q3 j u hu).1, by rw [freeze_cell]; exact (q3 j u hu).2⟩⟩
  ·cases hr
 ·cases hr
def rowX : RA → Option ((t : PT) × List (den t))
 | (.own _, some (.row _ _ t xs)) => some ⟨t, xs⟩
 | _ => none
theorem rowX_ok {t : PT} {l : List (den t)} (h : AOK e lab w a v) (hl : rowX a = some ⟨t, l⟩) : ∃ oa c lab2, v = .slice oa l.length c ∧ SL (rep t) lab2 w oa c l := by
 unfold rowX at hl
 split at hl
 ·rename_i id k E _ _
  cases hl
  obtain ⟨b1, b2, b3⟩ := h.2 _ rfl
  have b1 : (e id).n = l.length := b1
  have h1 : v = .slice (e id).oa (e id).n (e id).c := h.1
  have hs : SL (rep t) (mask lab k) w (e id).oa (e id).c l := Own.view b3
  exact ⟨_, _, _, by rw [h1, b1], hs⟩
 ·cases hl
def rowU8 (a : RA) : Option (List UInt8) :=
 match rowX a with
 | some ⟨.int .u8, xs⟩ => some xs
 | _ => none
theorem rowU8_ok {l : List UInt8} (h : AOK e lab w a v) (hl : rowU8 a = some l) : ∃ oa c lab2, v = .slice oa l.length c ∧ SL Rep.u8 lab2 w oa c l := by
 unfold rowU8 at hl
 split at hl
 ·rename_i xs hx
  cases hl
  exact rowX_ok h hx
 ·cases hl
def opO2s {P : Program} (tes : List (TE P)) (ses : List (SE P)) (S T : TypeId) (l : List UInt8) : OpRes :=
 match findTE tes T, findSE ses S with
 | some ⟨_, .str, _⟩, some ⟨_, el, .int .u8, _, _, _, _⟩ => match findTE tes el with
  | some ⟨_, .int .u8, _⟩ => .ret (o1 (.dat .str l))
  | _ => .stuck
 | _, _ => .stuck
theorem loc_o2s {tes : List (TE P)} {ses : List (SE P)} {l : List UInt8} {out : Out} (hx : ev F x = some v) (hv : AOK e lab w a v) (hl : rowU8 a = some l) (hr : Res (opO2s tes ses S T l) out) (tp : Top lab w) (hw : Wn ops F g) (hd : Nat.blt d N = true) :
  LW P N ops [⟨some d, .convert S T x, ty, pos, af, g⟩] F w (Fin N F e nid lab w (some d) out) := by
 unfold opO2s at hr
 split at hr
 ·rename_i i2 ok2 i1 el nb ok1 zok hb hT hS
  have e2 : i2 = T := findTE_id hT
  subst e2
  have e1 : i1 = S := findSE_id hS
  subst e1
  obtain ⟨oa, c, lab2, rfl, s⟩ := rowU8_ok hv hl
  split at hr
  ·rename_i i3 ok3 hel
   have e3 : i3 = el := findTE_id hel
   subst e3
   obtain rfl := hr.ret_eq
   have u3 : P.underlying i3 = some (.int .u8) := ok3.und
   have u2 : P.underlying i2 = some .string := ok2.und
   exact LW.b2s s ok1.und u3 u2 hw hd hx (fin_val tp (Dat.ofStr _))
  ·cases hr
 ·cases hr
def opConv {P : Program} (tes : List (TE P)) (ses : List (SE P)) (S T : TypeId) (a : RA) : OpRes :=
 match Nat.beq S T, findSE ses T with
 | true, some se => opB2b tes se a
 | _, _ => match rowU8 a with
  | some l => opO2s tes ses S T l
  | none => opConv0 tes ses S T a
theorem loc_conv {tes : List (TE P)} {ses : List (SE P)} {out : Out} (hx : ev F x = some v) (hv : AOK e lab w a v) (hr : Res (opConv tes ses S T a) out) (tp : Top lab w) (hw : Wn ops F g) (hd : Nat.blt d N = true) :
  LW P N ops [⟨some d, .convert S T x, ty, pos, af, g⟩] F w (Fin N F e nid lab w (some d) out) := by
 unfold opConv at hr
 split at hr
 ·rename_i se hb hse
  obtain rfl := Nat.eq_of_beq_eq_true hb
  exact loc_b2b (findSE_id hse) hx hv hr tp hw hd
 ·split at hr
  ·rename_i l hl
   exact loc_o2s hx hv hl hr tp hw hd
  ·exact loc_conv0 hx hv hr tp hw hd
def opMM (mx : Bool) (a b : RA) : OpRes :=
 match asDat a, asDat b with
 | some ⟨.int .i64, i⟩, some ⟨.int .i64, j⟩ => match mx with
  | true => .letm Int (max (α := Int) i j) (retI .i64)
  | false => .letm Int (min (α := Int) i j) (retI .i64)
 | _, _ => .stuck
theorem loc_mm {mx : Bool} {ts : Array TypeId} {out : Out} (hx : ev F x = some v) (hy : ev F y = some u) (hv : AOK e lab w a v) (hu : AOK e lab w b u) (hr : Res (opMM mx a b) out) (tp : Top lab w) (hw : Wn ops F g) (hd : Nat.blt d N = true) :
  LW P N ops [⟨some d, .call { callee := .builtin (if mx then .max else .min), args := #[x, y], argTypes := ts }, ty, pos, af, g⟩] F w (Fin N F e nid lab w (some d) out) := by
 unfold opMM at hr
 split at hr
 ·rename_i i j hi hj
  obtain rfl := Dat.int (asDat_ok hv hi)
  obtain rfl := Dat.int (asDat_ok hu hj)
  split at hr
  ·cases hr with
   | letm hr =>
    obtain rfl := hr.ret_eq
    refine LW.max2 (k := some) rfl hw hd hx hy fun c hc => fin_val tp ?_
    cases hc; exact Dat.ofInt (k := .i64) _
  ·cases hr with
   | letm hr =>
    obtain rfl := hr.ret_eq
    refine LW.min2 (k := some) rfl hw hd hx hy fun c hc => fin_val tp ?_
    cases hc; exact Dat.ofInt (k := .i64) _
 ·cases hr
end
end Go.Gk
