/-
  The evaluator's operations on boxes: made, read, written. Over whatever program; no condition.
-/
import Derived.Test.YtbfkbakadpkgoaaGreatDoorYOp
namespace Go.Gk
open Go.RowKit
def zv : PT → Value
 | .int k => .int k 0 | .bool => .bool false | .str => strV [] | .sl _ => .slice none 0 0 | .cp _ => .pointer none | .clo _ _ => .nilFunc | .err => .nilIface | .fl => .float .f64 0 | t => .agg (zc t).toArray
theorem zv_cells (t : PT) : (zv t).cells = (zc t).toArray := by cases t <;> rfl
theorem zv_isV (t : PT) : IsV t (zc t) (zv t) := by cases t <;> rfl
structure TyOK (P : Program) (T : TypeId) (t : PT) : Prop where
 one : aggT t = false → TyOne P T
 agg : aggT t = true → TyAgg P T (csz t)
 zero : TyZero P T (zv t)
 und : match t with | .int k => P.underlying T = some (.int k) | .bool => P.underlying T = some .bool | .str => P.underlying T = some .string | .err => ∃ ms, P.underlying T = some (.interface ms) | _ => True
structure TE (P : Program) where
 id : TypeId
 pt : PT
 ok : TyOK P id pt
structure SE (P : Program) where
 id : TypeId
 el : TypeId
 pt : PT
 nb : Nat
 ok : TySl P id el (csz pt) nb (zv pt)
 zok : TyZero P el (zv pt)
 hb : Nat.ble nb 32768 = true
structure FE (P : Program) where
 id : TypeId
 f : Nat
 off : Nat
 ok : TyFld P id f off
structure BE (P : Program) where
 id : TypeId
 pt : PT
 fs : List (Nat × PT)
 ok : ∀ parts, P.built id parts = Instr.fill (fun i => (fs.map fun p => (p.1, csz p.2)).toArray[i]?) (zc pt).toArray parts
def findTE {P : Program} : List (TE P) → TypeId → Option (TE P)
 | [], _ => none
 | e :: r, T => match Nat.beq e.id T with
  | true => some e
  | false => findTE r T
def findSE {P : Program} : List (SE P) → TypeId → Option (SE P)
 | [], _ => none
 | e :: r, T => match Nat.beq e.id T with
  | true => some e
  | false => findSE r T
def findFE {P : Program} : List (FE P) → TypeId → Nat → Option (FE P)
 | [], _, _ => none
 | e :: r, T, f => match Nat.beq e.id T && Nat.beq e.f f with
  | true => some e
  | false => findFE r T f
def findBE {P : Program} : List (BE P) → TypeId → Option (BE P)
 | [], _ => none
 | e :: r, T => match Nat.beq e.id T with
  | true => some e
  | false => findBE r T
theorem findTE_id {P : Program} : ∀ {l : List (TE P)} {T : TypeId} {e : TE P}, findTE l T = some e → e.id = T
 | [], _, _, h => by cases h
 | q :: r, T, e, h => by
  unfold findTE at h
  split at h
  ·rename_i hb; cases h; exact Nat.eq_of_beq_eq_true hb
  ·exact findTE_id h
theorem findSE_id {P : Program} : ∀ {l : List (SE P)} {T : TypeId} {e : SE P}, findSE l T = some e → e.id = T
 | [], _, _, h => by cases h
 | q :: r, T, e, h => by
  unfold findSE at h
  split at h
  ·rename_i hb; cases h; exact Nat.eq_of_beq_eq_true hb
  ·exact findSE_id h
theorem findBE_id {P : Program} : ∀ {l : List (BE P)} {T : TypeId} {e : BE P}, findBE l T = some e → e.id = T
 | [], _, _, h => by cases h
 | q :: r, T, e, h => by
  unfold findBE at h
  split at h
  ·rename_i hb; cases h; exact Nat.eq_of_beq_eq_true hb
  ·exact findBE_id h
theorem findFE_id {P : Program} : ∀ {l : List (FE P)} {T : TypeId} {f : Nat} {e : FE P}, findFE l T f = some e → e.id = T ∧ e.f = f
 | [], _, _, _, h => by cases h
 | q :: r, T, f, e, h => by
  unfold findFE at h
  split at h
  ·rename_i hb
   simp only [Bool.and_eq_true] at hb
   cases h; exact ⟨Nat.eq_of_beq_eq_true hb.1, Nat.eq_of_beq_eq_true hb.2⟩
  ·exact findFE_id h
def upE (e : Env) (i : Nat) (x : EI) : Env := fun j => match Nat.beq j i with | true => x | false => e j
theorem upE_eq {e : Env} {i : Nat} {x : EI} : upE e i x i = x := by simp [upE]
theorem upE_ne {e : Env} {i j : Nat} {x : EI} (h : j ≠ i) : upE e i x j = e j := by unfold upE; rw [beq_false h]
theorem upE_out {e : Env} {nid i : Nat} {x : EI} (h : i < nid ∨ nid + 4 ≤ i) : upE e nid x i = e i := upE_ne (by omega)
def newBox (k : Nat) (nid : Nat) (T : TypeId) (t : PT) (x : den t) : Out := ⟨.ptr nid 0, [k], [(nid, .box k T t x)], []⟩
section
variable {P : Program} {N : Nat} {ops : Array Oper} {F : List (Nat × Value)} {w w' : World} {e : Env} {lab lab' : Lab} {nid : Nat} {d : Nat} {v : Value}
variable {ty : TypeId} {pos : String} {af : Array Edge} {g : Option (Nat × Bool)} {x y z : Operand} {T : TypeId} {a b : RA}
theorem fin_box {k : Nat} {t : PT} {u : den t} {G : Nat} {cs : List Value} (s : Ste lab 0 w lab' w') (bx : Box lab' w' k G T cs) (h : (rep t).rd lab' w' cs u) :
  LW P N ops [] ((d, .pointer (some ⟨G, 0, none⟩)) :: F) w' (Fin N F e nid lab w (some d) (newBox k nid T t u)) :=
 LW.nil fun a ha => ⟨rfl, upE e nid ⟨some ⟨G, 0, none⟩, 0, 0, 0, 0, .un, []⟩, lab', _, ha, fun _ hi => upE_out hi, s.stp (.inr rfl), ⟨G, by rw [upE_eq], rfl⟩,
  fun p hp => by
   simp [newBox] at hp; subst hp
   exact ⟨G, cs, by rw [upE_eq], bx, h⟩,
  fun p hp => by simp [newBox] at hp⟩
theorem loc_alloc {t : PT} (hT : TyOK P T t) (k : Nat) (tp : Top lab w) (hw : Wn ops F g) (hd : Nat.blt d N = true) :
  LW P N ops [⟨some d, .alloc T, ty, pos, af, g⟩] F w (Fin N F e nid lab w (some d) (newBox k nid T t (zt t))) :=
 LW.alloc k (zc t) hT.zero (zv_cells t) tp hw hd fun _ _ _ s bx => fin_box s bx (rd_zero _ _ t)
theorem loc_box {t : PT} {u : den t} (hx : ev F x = some v) (hv : Dat t u lab w v) (k : Nat) (tp : Top lab w) (hw : Wn ops F g) (hd : Nat.blt d N = true) :
  LW P N ops [⟨some d, .box T x, ty, pos, af, g⟩] F w (Fin N F e nid lab w (some d) (newBox k nid T t u)) := by
 obtain ⟨cs, h1, h2⟩ := hv
 exact LW.box k cs hx (h2.cells ((rep t).one h1)) tp hw hd fun _ _ _ s bx => fin_box s bx ((rep t).keep s.keeps h1)
def fldS (off : Nat) : SV → Option SV
 | .ptr id o => some (.ptr id (o + off))
 | .eptr id i o => some (.eptr id i (o + off))
 | .dptr t x o => some (.dptr t x (o + off))
 | _ => none
theorem loc_fld {f off : Nat} {sv' : SV} (hf : TyFld P T f off) (hx : ev F x = some v) (hv : RV e a.1 lab w v) (hs : fldS off a.1 = some sv') (tp : Top lab w) (hw : Wn ops F g) (hd : Nat.blt d N = true) :
  LW P N ops [⟨some d, .fieldAddr T x f, ty, pos, af, g⟩] F w (Fin N F e nid lab w (some d) (o1 sv')) := by
 obtain ⟨sv, m⟩ := a
 cases sv <;> first | (cases hs; done) | skip
 ·cases hs
  obtain ⟨G, h1, rfl⟩ := hv
  refine LW.fldA hf hw hd hx (fin_val tp ?_)
  exact ⟨G, h1, by rw [add_lit0]⟩
 ·cases hs
  obtain ⟨p, h1, rfl⟩ := hv
  refine LW.fldA hf hw hd hx (fin_val tp ?_)
  exact ⟨p, h1, by rw [add_add']⟩
 ·cases hs
  obtain ⟨p, cs, rfl, h1, h2⟩ := hv
  refine LW.fldA hf hw hd hx (fin_val tp ?_)
  exact ⟨p, cs, by rw [add_add'], h1, h2⟩
theorem loc_nilCheck {sv' : SV} (hx : ev F x = some v) (hv : RV e a.1 lab w v) (hs : fldS 0 a.1 = some sv') (tp : Top lab w) (hw : Wn ops F g) (hd : Nat.blt d N = true) :
  LW P N ops [⟨some d, .nilCheck x, ty, pos, af, g⟩] F w (Fin N F e nid lab w (some d) (o1 a.1)) := by
 obtain ⟨sv, m⟩ := a
 cases sv <;> first | (cases hs; done) | skip
 ·have hv' := hv
  obtain ⟨G, h1, rfl⟩ := hv
  exact LW.nilCheck hw hd hx (fin_val tp hv')
 ·have hv' := hv
  obtain ⟨p, h1, rfl⟩ := hv
  exact LW.nilCheck hw hd hx (fin_val tp hv')
 ·have hv' := hv
  obtain ⟨p, cs, rfl, h1, h2⟩ := hv
  exact LW.nilCheck hw hd hx (fin_val tp hv')
theorem add_zero' (p : Addr) : p.add 0 = p := by simp [Addr.add]
theorem run_load {t : PT} {u : den t} {q : Addr} {cs : List Value} (hT : TyOK P T t) (h : (rep t).rd lab w cs u) (hc : ∀ j c, cs[j]? = some c → w.cell? (q.add j) = some c) : ∃ v, (Instr.loadAt T (.pointer (some q))).run P w = .ok v w ∧ Dat t u lab w v := by
 have hl : cs.length = csz t := by rw [(rep t).len h, rep_sz]
 cases ha : aggT t with
 | true => exact ⟨_, run_loadn (hT.agg ha) cs hl hc, cs, h, by unfold IsV; rw [ha]⟩
 | false =>
  have h1 : csz t = 1 := by cases t <;> first | rfl | cases ha
  obtain ⟨c, rfl⟩ := List.length_eq_one_iff.1 (hl.trans h1)
  have := hc 0 c rfl
  rw [add_zero'] at this
  exact ⟨c, run_load1 (hT.one ha) this, [c], h, by unfold IsV; rw [ha]⟩
theorem cut_cells {cs : List Value} {q : Addr} {o n : Nat} (hc : ∀ j c, cs[j]? = some c → w.cell? (q.add j) = some c) : ∀ j c, ((cs.drop o).take n)[j]? = some c → w.cell? ((q.add o).add j) = some c := by
 intro j c hj
 rw [add_add']
 have hlt : j < n := by
  rcases Nat.lt_or_ge j n with h | h
  ·exact h
  ·rw [List.getElem?_eq_none (by simp; omega)] at hj; cases hj
 rw [List.getElem?_take_of_lt hlt, List.getElem?_drop] at hj
 exact hc _ _ hj
theorem loc_loadAt {t u : PT} {q : Addr} {cs : List Value} {o : Nat} {X : den t} {Y : den u} (hT : TyOK P T u) (hx : ev F x = some (.pointer (some (q.add o)))) (h : (rep t).rd lab w cs X) (hc : ∀ j c, cs[j]? = some c → w.cell? (q.add j) = some c) (hg : getAt t o u X = some Y) (tp : Top lab w)
  (hw : Wn ops F g) (hd : Nat.blt d N = true) : LW P N ops [⟨some d, .load T x, ty, pos, af, g⟩] F w (Fin N F e nid lab w (some d) (o1 (.dat u Y))) := by
 obtain ⟨v, h1, h2⟩ := run_load (P := P) hT (getAt_rd h hg) (cut_cells hc)
 exact LW.val rfl hw rfl hd (fun a ha => by simp [execOp, ha.eval hx, h1]) (fin_val tp h2)
theorem Own.elem {t : PT} {k E : Nat} {oa : Option Addr} {c i : Nat} {xs : List (den t)} {X : den t} {p : Addr} (o : Own (rep t) lab w k E oa c xs) (hp : OAt oa (csz t) i p) (hX : xs[i]? = some X) : ∃ cs, (rep t).rd lab w cs X ∧ ∀ j c, cs[j]? = some c → w.cell? (p.add j) = some c := by
 obtain ⟨ad, h1, rfl⟩ := hp
 obtain ⟨_, ad', cs, h2, h3, h4⟩ : ∃ _ : True, ∃ ad' cs, oa = some ad' ∧ (rep t).rd (Gk.mask lab k) w cs X ∧ At (Gk.mask lab k) w (ad'.add (i * (rep t).sz)) cs := by
  obtain ⟨ad', cs, a1, a2, a3⟩ := o.view.at_ hX
  exact ⟨trivial, ad', cs, a1, a2, a3⟩
 rw [h1] at h2; cases h2
 obtain ⟨css, b1, b2⟩ := o
 obtain ⟨cs0, hc0, hrd0⟩ := b1.get hX
 have l0 := (rep t).len hrd0
 have l1 := (rep t).len h3
 refine ⟨cs0, hrd0, ?_⟩
 rcases b2 with ⟨hh, _⟩ | ⟨g', cur, ha, hg, c3, c4, c5, c6, c7⟩
 ·rw [h1] at hh; cases hh
 ·rw [h1] at ha; cases ha
  intro j c hj
  have hlt : i < xs.length := (List.getElem?_eq_some_iff.1 hX).1
  have hjs : j < (rep t).sz := by
   rw [← l0]; exact (List.getElem?_eq_some_iff.1 hj).1
  have e1 := flatten_get css (fun cs h => (b1.each cs h).1) i j cs0 hc0 hjs
  rw [← c6, List.getElem?_take_of_lt (by
   have : (i + 1) * (rep t).sz ≤ xs.length * (rep t).sz := Nat.mul_le_mul_right _ hlt
   rw [Nat.add_mul] at this; omega), hj] at e1
  rw [add_add', add_lit0, Nat.zero_add, cell_of_row w g' _ cur E (0, 0) hg, ← rep_sz]
  simpa using e1
def farH : List (Nat × Nat) → Nat → Nat → Bool
 | [], _, _ => true
 | (off, _) :: r, o, n => (Nat.blt off o || Nat.ble (o + n) off) && farH r o n
theorem farH_ne : ∀ {hs : List (Nat × Nat)} {o n : Nat}, farH hs o n = true → ∀ j, j < n → ∀ h ∈ hs, h.1 ≠ o + j
 | [], _, _, _, _, _, _, h => by cases h
 | (off, r) :: l, o, n, hf, j, hj, h, hm => by
  unfold farH at hf
  simp only [Bool.and_eq_true, Bool.or_eq_true] at hf
  rcases List.mem_cons.1 hm with rfl | hm
  ·show off ≠ o + j
   rcases hf.1 with h | h
   ·have := blt_lt h; omega
   ·have := Nat.le_of_ble_eq_true h; omega
  ·exact farH_ne hf.2 j hj h hm
def isOneH (hs : List (Nat × Nat)) (o : Nat) (t : PT) : Option (Nat × Nat) :=
 match hs with
 | [(off, rid)] => match Nat.beq o 0 && (aggT t && Nat.blt off (csz t)) with
  | true => some (off, rid)
  | false => none
 | _ => none
theorem isOneH_eq {hs : List (Nat × Nat)} {o off rid : Nat} {t : PT} (h : isOneH hs o t = some (off, rid)) : hs = [(off, rid)] ∧ o = 0 ∧ aggT t = true := by
 unfold isOneH at h
 split at h
 ·split at h
  ·rename_i hb
   cases h
   simp only [Bool.and_eq_true] at hb
   exact ⟨rfl, Nat.eq_of_beq_eq_true hb.1, hb.2.1⟩
  ·cases h
 ·cases h
def opLoad {P : Program} (e : TE P) (a : RA) : OpRes :=
 match a with
 | (.ptr _ o, some (.box _ _ t X)) => match getAt t o e.pt X with
  | some Y => .ret (o1 (.dat e.pt Y))
  | none => .stuck
 | (.ptr _ o, some (.boxh _ _ t X hs)) => match isOneH hs o e.pt, castT t e.pt X with
  | some (off, rid), some Y => .ret (o1 (.agh e.pt Y off rid))
  | _, _ => match holeAt hs o with
   | some rid => match aggT e.pt with
    | false => .ret (o1 (.own rid))
    | true => .stuck
   | none => match farH hs o (csz e.pt), getAt t o e.pt X with
    | true, some Y => .ret (o1 (.dat e.pt Y))
    | _, _ => .stuck
 | (.dptr t X o, _) => match getAt t o e.pt X with
  | some Y => .ret (o1 (.dat e.pt Y))
  | none => .stuck
 | (.dat (.cp t) y, _) => .bnd (den t) y fun X => match getAt t 0 e.pt X with
  | some Y => .ret (o1 (.dat e.pt Y))
  | none => .stuck
 | (.eptr _ i o, some (.row _ _ t xs)) => .bnd (den t) (idx xs (i : Int)) fun X => match getAt t o e.pt X with
  | some Y => .ret (o1 (.dat e.pt Y))
  | none => .stuck
 | _ => .stuck
theorem idx_get {α : Type} {xs : List α} {i : Nat} {X : α} (h : idx xs (i : Int) = some X) : xs[i]? = some X := by
 unfold idx at h
 rw [if_pos (by omega)] at h
 simpa using h
theorem loc_load {te : TE P} {out : Out} (hT : te.id = T) (hx : ev F x = some v) (hv : AOK e lab w a v) (hr : Res (opLoad te a) out) (tp : Top lab w) (hw : Wn ops F g) (hd : Nat.blt d N = true) :
  LW P N ops [⟨some d, .load T x, ty, pos, af, g⟩] F w (Fin N F e nid lab w (some d) out) := by
 subst hT
 obtain ⟨h1, h2⟩ := hv
 unfold opLoad at hr
 split at hr
 ·split at hr
  ·rename_i id o k T' t X _ Y hg
   obtain rfl := hr.ret_eq
   obtain ⟨G, cs, b1, b2, b3⟩ := h2 _ rfl
   obtain ⟨G', b4, rfl⟩ := h1
   have b1 : (e id).oa = some ⟨G, 0, none⟩ := b1
   rw [b1] at b4; cases b4
   refine loc_loadAt (q := ⟨G, 0, none⟩) te.ok (by rw [hx, add_lit0, Nat.zero_add]) b3 (fun j c hj => ?_) hg tp hw hd
   rw [add_lit0, Nat.zero_add, b2.cell]; exact hj
  ·cases hr
 ·rename_i id o k T' t X hs
  obtain ⟨G, cs, b1, b2, b3, b4, _⟩ := h2 _ rfl
  obtain ⟨G', b5, rfl⟩ := h1
  have b1 : (e id).oa = some ⟨G, 0, none⟩ := b1
  rw [b1] at b5; cases b5
  split at hr
  ·rename_i off rid Y hone hcast
   obtain rfl := hr.ret_eq
   obtain ⟨rfl, rfl, hag⟩ := isOneH_eq hone
   obtain ⟨rfl, rfl⟩ := castT_some hcast
   have hl : cs.length = csz te.pt := by
    have := (rep te.pt).len b3
    rw [emp_len] at this; rw [this, rep_sz]
   have hrun := run_loadn (P := P) (te.ok.agg hag) (p := (⟨G, 0, none⟩ : Addr)) cs hl fun j c hj => by
    rw [add_lit0, Nat.zero_add, b2.cell]; exact hj
   exact LW.val rfl hw rfl hd (fun a ha => by simp [execOp, ha.eval hx, hrun]) (fin_val tp ⟨cs, rfl, b3, b4 (off, rid) (by simp)⟩)
  split at hr
  ·rename_i rid hb
   have b4 := b4 _ (holeAt_mem hb)
   split at hr
   ·rename_i ha
    obtain rfl := hr.ret_eq
    refine LW.loadB1 b2 (te.ok.one ha) b4 hw hd hx (fin_val tp ?_)
    exact rfl
   ·cases hr
  ·split at hr
   ·rename_i Y hrange hg
    obtain rfl := hr.ret_eq
    have hne := farH_ne hrange
    obtain ⟨v, e1, e2⟩ := run_load (P := P) (w := w) (q := (⟨G, o, none⟩ : Addr)) te.ok (getAt_rd b3 hg) (fun j c hj => by
     have hlt : j < csz te.pt := by
      rcases Nat.lt_or_ge j (csz te.pt) with h | h
      ·exact h
      ·rw [List.getElem?_eq_none (by simp; omega)] at hj; cases hj
     rw [List.getElem?_take_of_lt hlt, List.getElem?_drop, emp_ne (hne j hlt)] at hj
     rw [add_lit0, b2.cell]; exact hj)
    exact LW.val rfl hw rfl hd (fun a ha => by simp [execOp, ha.eval hx, e1]) (fin_val tp e2)
   ·cases hr
 ·split at hr
  ·rename_i t X o _ Y hg
   obtain rfl := hr.ret_eq
   obtain ⟨p, cs, rfl, h3, h4⟩ := h1
   exact loc_loadAt te.ok hx h4 (fun j c hj => (h3 j c hj).2) hg tp hw hd
  ·cases hr
 ·rename_i t y _
  cases hr with
  | bnd hX hr =>
   dsimp only at hr
   split at hr
   ·rename_i X Y hg
    obtain rfl := hr.ret_eq
    obtain ⟨cs, c1, c2⟩ := h1
    have c2 : cs = [v] := c2
    subst hX
    obtain ⟨q, ds, c3, c4, c5⟩ := c1
    rw [c2] at c3
    have c3 : v = .pointer (some q) := by simpa using c3
    subst c3
    exact loc_loadAt (o := 0) te.ok (by rw [hx, add_zero']) c5 (fun j c hj => (c4 j c hj).2) hg tp hw hd
   ·cases hr
 ·rename_i id i o k E t xs
  cases hr with
  | bnd hX hr =>
   dsimp only at hr
   split at hr
   ·rename_i Y hg
    obtain rfl := hr.ret_eq
    obtain ⟨b1, b2, b3⟩ := h2 _ rfl
    obtain ⟨p, b4, rfl⟩ := h1
    have b2 : (e id).sz = csz t := b2
    rw [b2] at b4
    obtain ⟨cs, c1, c2⟩ := b3.elem b4 (idx_get hX)
    exact loc_loadAt te.ok hx c1 c2 hg tp hw hd
   ·cases hr
 ·cases hr
theorem store_box {t u : PT} {k G o : Nat} {T' : TypeId} {cs : List Value} {X X' : den t} {Y : den u} (hk : Nat.beq k 0 = false) (hT : TyOK P T u) (b : Box lab w k G T' cs) (h : (rep t).rd lab w cs X) (hv : Dat u Y lab w v) (hs : setAt t o u X Y = some X') (tp : Top lab w) :
  ∃ w' cs', (Instr.storeAt T (.pointer (some ⟨G, o, none⟩)) v).run P w = .ok () w' ∧ Ste lab k w lab w' ∧ Box lab w' k G T' cs' ∧ (rep t).rd lab w' cs' X' := by
 obtain ⟨vs, h1, h2⟩ := hv
 obtain ⟨hle, hrd⟩ := setAt_rd h h1 hs
 have hl : vs.length = csz u := by rw [(rep u).len h1, rep_sz]
 have hone := (rep u).one h1
 cases ha : aggT u with
 | true =>
  have hv : v = .agg vs.toArray := by unfold IsV at h2; rw [ha] at h2; exact h2
  subst hv
  obtain ⟨w', hr, b', hst⟩ := run_storeCells (P := P) vs o cs w b (by omega) hone 0 o rfl
  refine ⟨w', _, ?_, hst tp hk, b', ?_⟩
  ·simp only [Instr.storeAt, Instr.sureAddr, storeVar, Sem.run_bind, Sem.run_pure, Result.andThen_ok, (hT.agg ha).size w, Value.cells, List.size_toArray, hl, ne_eq, not_true_eq_false, if_false, hr]
  ·rw [hl]; exact (rep t).keep (hst tp hk).keeps hrd
 | false =>
  have hv : vs = [v] := by unfold IsV at h2; rw [ha] at h2; exact h2
  subst hv
  have hc1 : csz u = 1 := by rw [← hl]; rfl
  have hlt : o < cs.length := by omega
  have hcell : w.cell? ⟨G, o, none⟩ = some cs[o] := (b.cell o).trans (List.getElem?_eq_getElem hlt)
  have hr := run_store1 (P := P) (hT.one ha) (IsV.cells h2 hone) (hone v (by simp)) hcell (b.frozen o)
  refine ⟨_, _, hr, Ste.setCell tp hk b.2 v, b.set v, ?_⟩
  have e : cs.set o v = cs.take o ++ [v] ++ cs.drop (o + csz u) := by
   rw [hc1, List.set_eq_take_append_cons_drop, if_pos hlt]; simp
  rw [e]
  exact (rep t).keep (Ste.setCell tp hk b.2 v).keeps hrd
theorem store_row {t u : PT} {k E c o i : Nat} {oa : Option Addr} {xs : List (den t)} {X X' : den t} {Y : den u} {p : Addr} (hk : Nat.beq k 0 = false) (hT : TyOK P T u) (b : Own (rep t) lab w k E oa c xs) (hp : OAt oa (csz t) i p) (hX : xs[i]? = some X) (hv : Dat u Y lab w v) (hs : setAt t o u X Y = some X')
  (ho : (Nat.beq o 0 && Nat.beq (csz u) (csz t) || !aggT u) = true) (tp : Top lab w) :
  ∃ w', (Instr.storeAt T (.pointer (some (p.add o))) v).run P w = .ok () w' ∧ Ste lab k w lab w' ∧ Own (rep t) lab w' k E oa c (xs.set i X') := by
 obtain ⟨vs, h1, h2⟩ := hv
 obtain ⟨cs, hcs, hat⟩ := b.elem hp hX
 obtain ⟨hle, hrd⟩ := setAt_rd hcs h1 hs
 have hl : vs.length = csz u := by rw [(rep u).len h1, rep_sz]
 have hlc : cs.length = csz t := by rw [(rep t).len hcs, rep_sz]
 have hone := (rep u).one h1
 rw [← rep_sz] at hp
 cases ha : aggT u with
 | true =>
  have hv : v = .agg vs.toArray := by unfold IsV at h2; rw [ha] at h2; exact h2
  subst hv
  rw [ha] at ho
  simp only [Bool.not_true, Bool.or_false, Bool.and_eq_true] at ho
  have ho1 := Nat.eq_of_beq_eq_true ho.1
  have ho2 := Nat.eq_of_beq_eq_true ho.2
  subst ho1
  have hrd' : (rep t).rd lab w vs X' := by
   have : cs.take 0 ++ vs ++ cs.drop (0 + csz u) = vs := by
    rw [List.take_zero, List.nil_append, List.drop_of_length_le (by omega), List.append_nil]
   rw [this] at hrd; exact hrd
  obtain ⟨w', hr, hst, ho'⟩ := own_storen (P := P) tp hk b hp hX (by rw [hl, ho2, rep_sz]) hone hrd'
  refine ⟨w', ?_, hst, ho'⟩
  rw [add_zero']
  simp only [Instr.storeAt, Instr.sureAddr, storeVar, Sem.run_bind, Sem.run_pure, Result.andThen_ok, (hT.agg ha).size w, Value.cells, List.size_toArray, hl, ne_eq, not_true_eq_false, if_false, hr]
 | false =>
  have hv : vs = [v] := by unfold IsV at h2; rw [ha] at h2; exact h2
  subst hv
  have hc1 : csz u = 1 := by rw [← hl]; rfl
  have hlt : o < cs.length := by omega
  have e : cs.set o v = cs.take o ++ [v] ++ cs.drop (o + csz u) := by
   rw [hc1, List.set_eq_take_append_cons_drop, if_pos hlt]; simp
  -- where it lies counts as data under the mask
  have hatm : At (Gk.mask lab k) w p cs := by
   obtain ⟨ad, q1, q2⟩ := hp
   obtain ⟨css, b1, b2⟩ := b
   rcases b2 with ⟨hh, _⟩ | ⟨g', cur, hq, hg, c3, c4, c5, c6, c7⟩
   ·rw [q1] at hh; cases hh
   ·rw [q1] at hq; cases hq
    subst q2
    intro j c hj
    refine ⟨by rw [block_add]; show Gk.mask lab k g' = 0; unfold Gk.mask; rw [if_pos c7], hat j c hj⟩
  obtain ⟨⟨cu, hcu⟩, hf, hst, ho'⟩ := own_store (off := o) (v := v) tp hk b hp hatm hX (by rw [hlc, rep_sz]) (by rw [rep_sz]; omega) (by rw [e]; exact hrd)
  exact ⟨_, run_store1 (P := P) (hT.one ha) (IsV.cells h2 hone) (hone v (by simp)) hcu hf, hst, ho'⟩
def opStore {P : Program} (e : TE P) (a b : RA) : OpRes :=
 match asT e.pt b with
 | none => .stuck
 | some Y => match a with
  | (.ptr id o, some (.box k T t X)) => match Nat.beq k 0, setAt t o e.pt X Y with
   | false, some X' => .ret ⟨.und, [k], [(id, .box k T t X')], []⟩
   | _, _ => .stuck
  | (.eptr id i o, some (.row k E t xs)) => match Nat.beq k 0, Nat.beq o 0 && Nat.beq (csz e.pt) (csz t) || !aggT e.pt with
   | false, true => .bnd (den t) (idx xs (i : Int)) fun X => match setAt t o e.pt X Y with
    | some X' => .letm (List (den t)) (xs.set i X') fun zs => .ret ⟨.und, [k], [(id, .row k E t zs)], []⟩
    | none => .stuck
   | _, _ => .stuck
  | _ => .stuck
theorem loc_store {te : TE P} {out : Out} {u : Value} (hT : te.id = T) (hx : ev F x = some v) (hy : ev F y = some u) (hv : AOK e lab w a v) (hu : AOK e lab w b u) (hr : Res (opStore te a b) out) (tp : Top lab w) (hw : Wn ops F g) :
  LW P N ops [⟨none, .store T x y, ty, pos, af, g⟩] F w (Fin N F e nid lab w none out) := by
 subst hT
 unfold opStore at hr
 split at hr
 ·cases hr
 rename_i Y hY
 have hd := asT_ok hu hY
 obtain ⟨h1, h2⟩ := hv
 split at hr
 ·split at hr
  ·rename_i id o k T' t X _ _ X' hk hs
   obtain rfl := hr.ret_eq
   obtain ⟨G, cs, b1, b2, b3⟩ := h2 _ rfl
   obtain ⟨G', b4, rfl⟩ := h1
   have b1 : (e id).oa = some ⟨G, 0, none⟩ := b1
   rw [b1] at b4; cases b4
   obtain ⟨w', cs', r1, r2, r3, r4⟩ := store_box (P := P) hk te.ok b2 b3 hd hs tp
   refine LW.gen rfl hw fun q hq => ?_
   unfold Oper.wp
   simp only [execOp, hq.eval hx, hq.eval hy, Sem.run_bind, r1, Result.andThen_ok, Sem.run_pure, Oper.upon_skip]
   refine wpList_nil ⟨rfl, e, lab, undef, hq.none_ undef, fun _ _ => rfl, r2.stp (.inl (by simp)), rfl, fun p hp => ?_, fun p hp => by simp at hp⟩
   simp at hp; subst hp
   exact ⟨G, cs', b1, r3, r4⟩
  ·cases hr
 ·split at hr
  ·rename_i id i o k E t xs _ _ hk ho
   cases hr with
   | bnd hX hr =>
    dsimp only at hr
    split at hr
    ·rename_i X _ X' hs
     cases hr with
     | letm hr =>
      obtain rfl := hr.ret_eq
      obtain ⟨b1, b2, b3⟩ := h2 _ rfl
      obtain ⟨p, b4, rfl⟩ := h1
      have b2 : (e id).sz = csz t := b2
      have b1 : (e id).n = xs.length := b1
      rw [b2] at b4
      obtain ⟨w', r1, r2, r3⟩ := store_row (P := P) hk te.ok b3 b4 (idx_get hX) hd hs ho tp
      refine LW.gen rfl hw fun q hq => ?_
      unfold Oper.wp
      simp only [execOp, hq.eval hx, hq.eval hy, Sem.run_bind, r1, Result.andThen_ok, Sem.run_pure, Oper.upon_skip]
      refine wpList_nil ⟨rfl, e, lab, undef, hq.none_ undef, fun _ _ => rfl, r2.stp (.inl (by simp)), rfl, fun p hp => ?_, fun p hp => by simp at hp⟩
      simp at hp; subst hp
      exact ⟨by rw [b1]; simp, b2, r3⟩
    ·cases hr
  ·cases hr
 ·cases hr
def nilHs (nid : Nat) : List (Nat × TypeId × PT) → List (Nat × Nat)
 | [] => []
 | (off, _) :: r => (off, nid) :: nilHs (nid + 1) r
def nilRows (nid kh : Nat) : List (Nat × TypeId × PT) → List (Nat × MEnt)
 | [] => []
 | (off, el, u) :: r => (nid, .row (128 * kh + off) el u []) :: nilRows (nid + 1) kh r
def nilE (e : Env) (nid : Nat) : List (Nat × TypeId × PT) → Env
 | [] => e
 | (_, _, u) :: r => upE (nilE e (nid + 1) r) nid ⟨none, 0, 0, csz u, 0, .un, []⟩
def nodupN : List (Nat × TypeId × PT) → Bool
 | [] => true
 | (off, _) :: r => r.all (fun x => !Nat.beq x.1 off) && nodupN r
theorem nilE_out : ∀ {e : Env} {l : List (Nat × TypeId × PT)} {nid i : Nat}, i < nid ∨ nid + l.length ≤ i → nilE e nid l i = e i
 | _, [], _, _, _ => rfl
 | e, (_, _, u) :: r, nid, i, h => by
  show upE _ nid _ i = _
  rw [List.length_cons] at h
  rw [upE_ne (by omega), nilE_out (by omega)]
theorem nilHs_map : ∀ {l : List (Nat × TypeId × PT)} {nid : Nat}, (nilHs nid l).map (·.1) = l.map (·.1)
 | [], _ => rfl
 | (_, _) :: r, nid => by
  show _ :: (nilHs (nid + 1) r).map _ = _
  rw [nilHs_map]; rfl
theorem nodupN_ok : ∀ {l : List (Nat × TypeId × PT)}, nodupN l = true → (l.map (·.1)).Nodup
 | [], _ => List.nodup_nil
 | (off, q) :: r, h => by
  unfold nodupN at h
  rw [Bool.and_eq_true, List.all_eq_true] at h
  refine List.nodup_cons.2 ⟨fun hm => ?_, nodupN_ok h.2⟩
  obtain ⟨x, hx, he⟩ := List.mem_map.1 hm
  have := h.1 x hx
  have he : x.1 = off := he
  rw [he] at this; simp at this
theorem nilHs_ok : ∀ {e : Env} {l : List (Nat × TypeId × PT)} {nid : Nat}, ∀ h ∈ nilHs nid l, (∃ x ∈ l, x.1 = h.1) ∧ nid ≤ h.2 ∧ (nilE e nid l h.2).oa = none ∧ (nilE e nid l h.2).n = 0 ∧ (nilE e nid l h.2).c = 0
 | _, [], _, _, h => by cases h
 | e, (off, el, u) :: r, nid, h, hm => by
  rcases List.mem_cons.1 hm with rfl | hm
  ·refine ⟨⟨_, List.mem_cons_self, rfl⟩, Nat.le_refl _, ?_⟩
   show (upE _ nid _ nid).oa = _ ∧ (upE _ nid _ nid).n = _ ∧ (upE _ nid _ nid).c = _
   rw [upE_eq]; exact ⟨rfl, rfl, rfl⟩
  ·obtain ⟨⟨x, h1, h1'⟩, h2, h3⟩ := nilHs_ok (e := e) h hm
   refine ⟨⟨x, List.mem_cons_of_mem _ h1, h1'⟩, by omega, ?_⟩
   show (upE _ nid _ h.2).oa = _ ∧ (upE _ nid _ h.2).n = _ ∧ (upE _ nid _ h.2).c = _
   rw [upE_ne (by omega)]; exact h3
theorem nilRows_ok {lab : Lab} {w : World} : ∀ {e : Env} {l : List (Nat × TypeId × PT)} {nid kh : Nat}, ∀ p ∈ nilRows nid kh l, nid ≤ p.1 ∧ MemOK (nilE e nid l) lab w p.1 p.2
 | _, [], _, _, _, h => by cases h
 | e, (off, el, u) :: r, nid, kh, p, hp => by
  rcases List.mem_cons.1 hp with rfl | hp
  ·refine ⟨Nat.le_refl _, ?_⟩
   show MemOK _ _ _ nid (.row _ _ _ _)
   simp only [MemOK, nilE, upE_eq]
   exact ⟨rfl, trivial, Own.nil⟩
  ·obtain ⟨h1, h2⟩ := nilRows_ok (e := e) p hp
   refine ⟨by omega, h2.env ?_ ?_⟩
   ·show upE _ nid _ p.1 = _
    rw [upE_ne (by omega)]
   ·intro i hi
    have : mrefs p.2 = [] := by
     clear h2 hi h1
     have key : ∀ {l : List (Nat × TypeId × PT)} {nid : Nat}, p ∈ nilRows nid kh l → mrefs p.2 = [] := by
      intro l
      induction l with
      | nil => intro nid h; cases h
      | cons x r ih =>
       intro nid h
       rcases List.mem_cons.1 h with rfl | h
       ·rfl
       ·exact ih h
     exact key hp
    rw [this] at hi; cases hi
def opStoreA (nid kh : Nat) (a : RA) (t2 : PT) (X2 : den t2) (l : List (Nat × TypeId × PT)) : OpRes :=
 match a with
 | (.ptr id 0, some (.box k T t _)) => match Nat.beq k 0, Nat.beq kh 0 || !(nodupN l && Nat.ble l.length 4), aggT t, castT t2 t X2 with
  | false, false, true, some X' => .ret ⟨.und, [k, kh], (id, .boxh k T t X' (nilHs nid l)) :: nilRows nid kh l, []⟩
  | _, _, _, _ => .stuck
 | _ => .stuck
theorem loc_storeA {te : TE P} {t2 : PT} {X2 : den t2} {l : List (Nat × TypeId × PT)} {kh : Nat} {out : Out} {u : Value} (hT : te.id = T) (hpt : PT.eqb te.pt t2 = true) (hx : ev F x = some v) (hy : ev F y = some u) (hv : AOK e lab w a v) (hu : Dat t2 X2 lab w u ∧ ∃ cs, u = .agg cs ∧ ∀ h ∈ l, cs[h.1]? = some (.slice none 0 0)) (hr : Res (opStoreA nid kh a t2 X2 l) out) (hlt : ∀ i ∈ refs a.1, i < nid) (tp : Top lab w) (hw : Wn ops F g) :
  LW P N ops [⟨none, .store T x y, ty, pos, af, g⟩] F w (Fin N F e nid lab w none out) := by
 subst hT
 obtain ⟨h1, h2⟩ := hv
 unfold opStoreA at hr
 split at hr
 ·rename_i id k T' t X
  split at hr
  ·rename_i X' hk hkh hag hs
   obtain rfl := hr.ret_eq
   obtain ⟨G, cs, b1, b2, b3⟩ := h2 _ rfl
   obtain ⟨G', b4, rfl⟩ := h1
   have b1 : (e id).oa = some ⟨G, 0, none⟩ := b1
   rw [b1] at b4; cases b4
   obtain ⟨rfl, rfl⟩ := castT_some hs
   have hte : te.pt = t2 := PT.eqb_eq hpt
   obtain ⟨hd, cs2, hu2, hoff⟩ := hu
   obtain ⟨vs, c1, c2⟩ := hd
   have hv2 : u = .agg vs.toArray := by unfold IsV at c2; rw [hag] at c2; exact c2
   have e1 : cs2 = vs.toArray := by rw [hu2] at hv2; injection hv2
   have hoff : ∀ h ∈ l, vs[h.1]? = some (.slice none 0 0) := fun h hm => by have := hoff h hm; rw [e1] at this; simpa using this
   subst hv2
   have hl : vs.length = csz t2 := by rw [(rep t2).len c1, rep_sz]
   have hl2 : cs.length = csz t2 := by rw [(rep t2).len b3, rep_sz]
   obtain ⟨w', hr, b', hst⟩ := run_storeCells (P := P) vs 0 cs w b2 (by omega) ((rep t2).one c1) 0 0 rfl
   rw [List.take_zero, List.nil_append, List.drop_of_length_le (by omega), List.append_nil] at b'
   have hid : id < nid := hlt id (List.mem_singleton.2 rfl)
   have hrun : (Instr.storeAt te.id (.pointer (some ⟨G, 0, none⟩)) (.agg vs.toArray)).run P w = .ok () w' := by
    have hA := te.ok.agg (by rw [hte]; exact hag)
    have : csz te.pt = vs.length := by rw [hte, hl]
    simp only [Instr.storeAt, Instr.sureAddr, storeVar, Sem.run_bind, Sem.run_pure, Result.andThen_ok, hA.size w, Value.cells, List.size_toArray, this, ne_eq, not_true_eq_false, if_false, hr]
   refine LW.gen rfl hw fun q hq => ?_
   unfold Oper.wp
   simp only [execOp, hq.eval hx, hq.eval hy, Sem.run_bind, hrun, Result.andThen_ok, Sem.run_pure, Oper.upon_skip]
   rw [Bool.or_eq_false_iff] at hkh
   have hnd := hkh.2
   rw [Bool.not_eq_false', Bool.and_eq_true] at hnd
   have hlen : l.length ≤ 4 := Nat.le_of_ble_eq_true hnd.2
   refine wpList_nil ⟨rfl, nilE e nid l, lab, undef, hq.none_ undef, fun _ hi => nilE_out (by omega), (hst tp hk).stp (.inl (by simp)), rfl, fun p hp => ?_, fun p hp => by simp at hp⟩
   have hnil : ∀ h ∈ nilHs nid l, vs[h.1]? = some (.slice none 0 0) := fun h hm => by
    obtain ⟨⟨x, hx, he⟩, _⟩ := nilHs_ok (e := e) h hm
    rw [← he]; exact hoff x hx
   rcases List.mem_cons.1 hp with rfl | hp
   ·refine ⟨G, vs, by rw [nilE_out (.inl hid)]; exact b1, b', ?_, fun h hm => ?_, by rw [nilHs_map]; exact nodupN_ok hnd.1⟩
    ·rw [emp_nil hnil]; exact (rep _).keep (hst tp hk).keeps c1
    ·obtain ⟨_, _, q1, q2, q3⟩ := nilHs_ok (e := e) h hm
     rw [q1, q2, q3]; exact hnil h hm
   ·exact (nilRows_ok p hp).2
  ·cases hr
 ·cases hr
def opStoreG (a : RA) (t2 : PT) (X2 : den t2) (off rid : Nat) : OpRes :=
 match a with
 | (.ptr id 0, some (.box k T t _)) => match Nat.beq k 0, aggT t, castT t2 t X2 with
  | false, true, some X' => .ret ⟨.und, [k], [(id, .boxh k T t X' [(off, rid)])], []⟩
  | _, _, _ => .stuck
 | _ => .stuck
theorem loc_storeG {te : TE P} {t2 : PT} {X2 : den t2} {off rid : Nat} {out : Out} {u : Value} (hT : te.id = T) (hpt : PT.eqb te.pt t2 = true) (hx : ev F x = some v) (hy : ev F y = some u) (hv : AOK e lab w a v) (hu : ∃ cs : List Value, u = .agg cs.toArray ∧ (rep t2).rd lab w (cs.set off (.slice none 0 0)) X2 ∧ cs[off]? = some (.slice (e rid).oa (e rid).n (e rid).c)) (hr : Res (opStoreG a t2 X2 off rid) out) (tp : Top lab w) (hw : Wn ops F g) :
  LW P N ops [⟨none, .store T x y, ty, pos, af, g⟩] F w (Fin N F e nid lab w none out) := by
 subst hT
 obtain ⟨h1, h2⟩ := hv
 unfold opStoreG at hr
 split at hr
 ·rename_i id k T' t X
  split at hr
  ·rename_i X' hk hag hs
   obtain rfl := hr.ret_eq
   obtain ⟨G, cs, b1, b2, b3⟩ := h2 _ rfl
   obtain ⟨G', b4, rfl⟩ := h1
   have b1 : (e id).oa = some ⟨G, 0, none⟩ := b1
   rw [b1] at b4; cases b4
   obtain ⟨rfl, rfl⟩ := castT_some hs
   have hte : te.pt = t2 := PT.eqb_eq hpt
   obtain ⟨vs, rfl, c1, hoff⟩ := hu
   have hl : vs.length = csz t2 := by
    have := (rep t2).len c1
    rw [List.length_set] at this; rw [this, rep_sz]
   have hl2 : cs.length = csz t2 := by rw [(rep t2).len b3, rep_sz]
   have hone : ∀ u ∈ vs, u.oneCell' = true := fun u hm => by
    obtain ⟨i, hi⟩ := List.getElem?_of_mem hm
    by_cases hio : i = off
    ·subst hio
     rw [hoff] at hi; cases hi; rfl
    ·exact (rep t2).one c1 u (List.mem_of_getElem? (i := i) (by rw [List.getElem?_set_ne (Ne.symm hio)]; exact hi))
   obtain ⟨w', hr, b', hst⟩ := run_storeCells (P := P) vs 0 cs w b2 (by omega) hone 0 0 rfl
   rw [List.take_zero, List.nil_append, List.drop_of_length_le (by omega), List.append_nil] at b'
   have hrun : (Instr.storeAt te.id (.pointer (some ⟨G, 0, none⟩)) (.agg vs.toArray)).run P w = .ok () w' := by
    have hA := te.ok.agg (by rw [hte]; exact hag)
    have : csz te.pt = vs.length := by rw [hte, hl]
    simp only [Instr.storeAt, Instr.sureAddr, storeVar, Sem.run_bind, Sem.run_pure, Result.andThen_ok, hA.size w, Value.cells, List.size_toArray, this, ne_eq, not_true_eq_false, if_false, hr]
   refine LW.gen rfl hw fun q hq => ?_
   unfold Oper.wp
   simp only [execOp, hq.eval hx, hq.eval hy, Sem.run_bind, hrun, Result.andThen_ok, Sem.run_pure, Oper.upon_skip]
   refine wpList_nil ⟨rfl, e, lab, undef, hq.none_ undef, fun _ _ => rfl, (hst tp hk).stp (.inl (by simp)), rfl, fun p hp => ?_, fun p hp => by simp at hp⟩
   simp at hp; subst hp
   refine ⟨G, vs, b1, b', (rep _).keep (hst tp hk).keeps c1, fun h hm => ?_, by simp⟩
   simp at hm; subst hm
   exact hoff
  ·cases hr
 ·cases hr
def isRow : Option MEnt → Bool
 | some (.row _ _ _ _) => true
 | _ => false
def opStoreH {P : Program} (e : TE P) (el : TypeId) (nid kh : Nat) (a b : RA) : OpRes :=
 match e.pt, a, b with
 | .sl pt, (.ptr id o, some (.box k T t X)), (.nil, _) => match Nat.beq k 0, Nat.beq kh 0, setAt t o (.sl pt) X [] with
  | false, false, some X' => .ret ⟨.und, [k, kh], [(id, .boxh k T t X' [(o, nid)]), (nid, .row kh el pt [])], []⟩
  | _, _, _ => .stuck
 | .sl pt, (.ptr id o, some (.box k T t X)), (.own rid, m) => match Nat.beq k 0, isRow m, setAt t o (.sl pt) X [] with
  | false, true, some X' => .ret ⟨.und, [k], [(id, .boxh k T t X' [(o, rid)])], []⟩
  | _, _, _ => .stuck
 | .sl pt, (.ptr id o, some (.boxh k T t X hs)), (.own rid, m) => match Nat.beq k 0, isRow m, holeAt hs o with
  | false, true, some _ => .ret ⟨.und, [k], [(id, .boxh k T t X (repH hs o rid))], []⟩
  | false, true, none => match setAt t o (.sl pt) X [] with
   | some X' => .ret ⟨.und, [k], [(id, .boxh k T t X' ((o, rid) :: hs))], []⟩
   | none => .stuck
  | _, _, _ => .stuck
 | _, _, _ => .stuck
theorem store_cell {k G o : Nat} {T' : TypeId} {cs : List Value} {u c : Value} (hk : Nat.beq k 0 = false) (hT : TyOne P T) (b : Box lab w k G T' cs) (hv : u.oneCell' = true) (hcs : u.cells = #[u]) (hc : cs[o]? = some c) (tp : Top lab w) :
  ∃ w', (Instr.storeAt T (.pointer (some ⟨G, o, none⟩)) u).run P w = .ok () w' ∧ Ste lab k w lab w' ∧ Box lab w' k G T' (cs.set o u) :=
 ⟨_, run_store1 (P := P) hT hcs hv ((b.cell o).trans hc) (b.frozen o), Ste.setCell tp hk b.2 u, b.set u⟩
theorem rd_hole {t pt : PT} {o : Nat} {cs : List Value} {X X' : den t} (h : (rep t).rd lab w cs X) (hs : setAt t o (.sl pt) X ([] : List (den pt)) = some X') : o < cs.length ∧ (rep t).rd lab w (cs.set o (.slice none 0 0)) X' := by
 obtain ⟨hle, hrd⟩ := setAt_rd (u := .sl pt) (y := ([] : List (den pt))) (vs := [.slice none 0 0]) h ⟨none, 0, rfl, SL.nil⟩ hs
 have hle : o + 1 ≤ cs.length := hle
 refine ⟨by omega, ?_⟩
 have e : cs.set o (.slice none 0 0) = cs.take o ++ [.slice none 0 0] ++ cs.drop (o + csz (.sl pt)) := by
  rw [List.set_eq_take_append_cons_drop, if_pos (by omega)]; simp [csz]
 rw [e]; exact hrd
theorem hole_in {e e' : Env} {lab : Lab} {w' : World} {id k T G o rid r0 : Nat} {t : PT} {X : den t} {hs : List (Nat × Nat)} {cs : List Value} {u : Value} (he : ∀ h ∈ hs, e' h.2 = e h.2) (b1 : (e' id).oa = some ⟨G, 0, none⟩) (r3 : Box lab w' k G T (cs.set o u)) (hu : u = .slice (e' rid).oa (e' rid).n (e' rid).c) (b3 : (rep t).rd lab w' (emp cs hs) X) (b4 : ∀ h ∈ hs, cs[h.1]? = some (.slice (e h.2).oa (e h.2).n (e h.2).c)) (b5 : (hs.map (·.1)).Nodup) (ho : holeAt hs o = some r0) : MemOK e' lab w' id (.boxh k T t X (repH hs o rid)) := by
 have hm0 := holeAt_mem ho
 have hlo : o < cs.length := (List.getElem?_eq_some_iff.1 (b4 _ hm0)).1
 refine ⟨G, cs.set o u, b1, r3, ?_, fun h hm => ?_, by rw [repH_map]; exact b5⟩
 ·rw [emp_map repH_map, emp_set ⟨_, hm0, rfl⟩]; exact b3
 ·rcases repH_mem hm with rfl | ⟨h1, h2⟩
  ·show (cs.set o u)[o]? = _
   rw [List.getElem?_set_self hlo, hu]
  ·rw [List.getElem?_set_ne h2.symm, b4 h h1, he h h1]
theorem hole_out {e e' : Env} {lab : Lab} {w' : World} {id k T G o rid : Nat} {t : PT} {X : den t} {hs : List (Nat × Nat)} {cs : List Value} {u : Value} (he : ∀ h ∈ hs, e' h.2 = e h.2) (b1 : (e' id).oa = some ⟨G, 0, none⟩) (r3 : Box lab w' k G T (cs.set o u)) (hu : u = .slice (e' rid).oa (e' rid).n (e' rid).c) (hlo : o < cs.length) (b3 : (rep t).rd lab w' ((emp cs hs).set o (.slice none 0 0)) X) (b4 : ∀ h ∈ hs, cs[h.1]? = some (.slice (e h.2).oa (e h.2).n (e h.2).c)) (b5 : (hs.map (·.1)).Nodup) (ho : ∀ h ∈ hs, h.1 ≠ o) : MemOK e' lab w' id (.boxh k T t X ((o, rid) :: hs)) := by
 refine ⟨G, cs.set o u, b1, r3, ?_, fun h hm => ?_, ?_⟩
 ·show (rep t).rd lab w' ((emp (cs.set o u) hs).set o _) X
  rw [emp_set_ne ho, List.set_set]; exact b3
 ·rcases List.mem_cons.1 hm with rfl | hm
  ·show (cs.set o u)[o]? = _
   rw [List.getElem?_set_self hlo, hu]
  ·rw [List.getElem?_set_ne (ho h hm).symm, b4 h hm, he h hm]
 ·rw [List.map_cons]
  refine List.nodup_cons.2 ⟨fun hm => ?_, b5⟩
  obtain ⟨x, hx, hxe⟩ := List.mem_map.1 hm
  exact ho x hx hxe
theorem loc_storeH {te : TE P} {el : TypeId} {kh : Nat} {out : Out} {u : Value} (hT : te.id = T) (hx : ev F x = some v) (hy : ev F y = some u) (hv : AOK e lab w a v) (hu : AOK e lab w b u) (hr : Res (opStoreH te el nid kh a b) out) (hlt : ∀ i ∈ refs a.1 ++ refs b.1, i < nid) (tp : Top lab w) (hw : Wn ops F g) :
  LW P N ops [⟨none, .store T x y, ty, pos, af, g⟩] F w (Fin N F e nid lab w none out) := by
 subst hT
 obtain ⟨h1, h2⟩ := hv
 obtain ⟨h3, _⟩ := hu
 have one : ∀ pt, te.pt = .sl pt → TyOne P te.id := fun pt h => te.ok.one (by rw [h]; rfl)
 unfold opStoreH at hr
 split at hr
 ·rename_i pt id o k T' t X _ hpt _
  split at hr
  ·rename_i X' hk hkh hs
   obtain rfl := hr.ret_eq
   obtain ⟨G, cs, b1, b2, b3⟩ := h2 _ rfl
   obtain ⟨G', b4, rfl⟩ := h1
   have b1 : (e id).oa = some ⟨G, 0, none⟩ := b1
   rw [b1] at b4; cases b4
   have h3 : u = .slice none 0 0 := h3
   subst h3
   obtain ⟨hlo, hrd⟩ := rd_hole b3 hs
   obtain ⟨w', r1, r2, r3⟩ := store_cell (P := P) (u := .slice none 0 0) hk (one _ hpt) b2 rfl rfl (List.getElem?_eq_getElem hlo) tp
   have hid : id < nid := hlt id (List.mem_append_left _ (List.mem_singleton.2 rfl))
   refine LW.gen rfl hw fun q hq => ?_
   unfold Oper.wp
   simp only [execOp, hq.eval hx, hq.eval hy, Sem.run_bind, r1, Result.andThen_ok, Sem.run_pure, Oper.upon_skip]
   refine wpList_nil ⟨rfl, upE e nid ⟨none, 0, 0, csz pt, 0, .un, []⟩, lab, undef, hq.none_ undef, fun _ hi => upE_out hi, r2.stp (.inl (by simp)), rfl, fun p hp => ?_, fun p hp => by simp at hp⟩
   simp at hp
   rcases hp with rfl | rfl
   ·exact hole_out (e := e) (hs := []) (fun _ h => by cases h) (by rw [upE_ne (by omega)]; exact b1) r3 (by rw [upE_eq]) hlo ((rep t).keep r2.keeps hrd) (fun _ h => by cases h) List.nodup_nil (fun _ h => by cases h)
   ·show MemOK _ _ _ _ (.row _ _ _ _)
    simp only [MemOK, upE_eq]
    exact ⟨rfl, trivial, Own.nil⟩
  ·cases hr
 ·rename_i pt id o k T' t X rid m hpt _
  split at hr
  ·rename_i X' hk _ hs
   obtain rfl := hr.ret_eq
   obtain ⟨G, cs, b1, b2, b3⟩ := h2 _ rfl
   obtain ⟨G', b4, rfl⟩ := h1
   have b1 : (e id).oa = some ⟨G, 0, none⟩ := b1
   rw [b1] at b4; cases b4
   have h3 : u = .slice (e rid).oa (e rid).n (e rid).c := h3
   subst h3
   obtain ⟨hlo, hrd⟩ := rd_hole b3 hs
   obtain ⟨w', r1, r2, r3⟩ := store_cell (P := P) (u := .slice (e rid).oa (e rid).n (e rid).c) hk (one _ hpt) b2 rfl rfl (List.getElem?_eq_getElem hlo) tp
   refine LW.gen rfl hw fun q hq => ?_
   unfold Oper.wp
   simp only [execOp, hq.eval hx, hq.eval hy, Sem.run_bind, r1, Result.andThen_ok, Sem.run_pure, Oper.upon_skip]
   refine wpList_nil ⟨rfl, e, lab, undef, hq.none_ undef, fun _ _ => rfl, r2.stp (.inl (by simp)), rfl, fun p hp => ?_, fun p hp => by simp at hp⟩
   simp at hp; subst hp
   exact hole_out (e := e) (hs := []) (fun _ h => by cases h) b1 r3 rfl hlo ((rep t).keep r2.keeps hrd) (fun _ h => by cases h) List.nodup_nil (fun _ h => by cases h)
  ·cases hr
 ·rename_i pt id o k T' t X hs rid m hpt _
  split at hr
  ·rename_i r0 hk _ ho
   obtain rfl := hr.ret_eq
   obtain ⟨G, cs, b1, b2, b3, b5, b6⟩ := h2 _ rfl
   obtain ⟨G', b4, rfl⟩ := h1
   have b1 : (e id).oa = some ⟨G, 0, none⟩ := b1
   rw [b1] at b4; cases b4
   have h3 : u = .slice (e rid).oa (e rid).n (e rid).c := h3
   subst h3
   obtain ⟨w', r1, r2, r3⟩ := store_cell (P := P) (u := .slice (e rid).oa (e rid).n (e rid).c) hk (one _ hpt) b2 rfl rfl (b5 _ (holeAt_mem ho)) tp
   refine LW.gen rfl hw fun q hq => ?_
   unfold Oper.wp
   simp only [execOp, hq.eval hx, hq.eval hy, Sem.run_bind, r1, Result.andThen_ok, Sem.run_pure, Oper.upon_skip]
   refine wpList_nil ⟨rfl, e, lab, undef, hq.none_ undef, fun _ _ => rfl, r2.stp (.inl (by simp)), rfl, fun p hp => ?_, fun p hp => by simp at hp⟩
   simp at hp; subst hp
   exact hole_in (e := e) (fun _ _ => rfl) b1 r3 rfl ((rep t).keep r2.keeps b3) b5 b6 ho
  ·rename_i hk _ ho
   split at hr
   ·rename_i X' hs'
    obtain rfl := hr.ret_eq
    obtain ⟨G, cs, b1, b2, b3, b5, b6⟩ := h2 _ rfl
    obtain ⟨G', b4, rfl⟩ := h1
    have b1 : (e id).oa = some ⟨G, 0, none⟩ := b1
    rw [b1] at b4; cases b4
    have h3 : u = .slice (e rid).oa (e rid).n (e rid).c := h3
    subst h3
    obtain ⟨hlo, hrd⟩ := rd_hole b3 hs'
    rw [emp_len] at hlo
    obtain ⟨w', r1, r2, r3⟩ := store_cell (P := P) (u := .slice (e rid).oa (e rid).n (e rid).c) hk (one _ hpt) b2 rfl rfl (List.getElem?_eq_getElem hlo) tp
    refine LW.gen rfl hw fun q hq => ?_
    unfold Oper.wp
    simp only [execOp, hq.eval hx, hq.eval hy, Sem.run_bind, r1, Result.andThen_ok, Sem.run_pure, Oper.upon_skip]
    refine wpList_nil ⟨rfl, e, lab, undef, hq.none_ undef, fun _ _ => rfl, r2.stp (.inl (by simp)), rfl, fun p hp => ?_, fun p hp => by simp at hp⟩
    simp at hp; subst hp
    exact hole_out (e := e) (fun _ _ => rfl) b1 r3 rfl hlo ((rep t).keep r2.keeps hrd) b5 b6 (holeAt_none ho)
   ·cases hr
  ·cases hr
 ·cases hr
def opStoreHD {P : Program} (e : TE P) (a b : RA) : OpRes :=
 match asT e.pt b with
 | none => .stuck
 | some Y => match a with
  | (.ptr id o, some (.boxh k T t X hs)) => match Nat.beq k 0 || aggT e.pt, farH hs o (csz e.pt), setAt t o e.pt X Y with
   | false, true, some X' => .ret ⟨.und, [k], [(id, .boxh k T t X' hs)], []⟩
   | _, _, _ => .stuck
  | _ => .stuck
theorem loc_storeHD {te : TE P} {out : Out} {u : Value} (hT : te.id = T) (hx : ev F x = some v) (hy : ev F y = some u) (hv : AOK e lab w a v) (hu : AOK e lab w b u) (hr : Res (opStoreHD te a b) out) (tp : Top lab w) (hw : Wn ops F g) :
  LW P N ops [⟨none, .store T x y, ty, pos, af, g⟩] F w (Fin N F e nid lab w none out) := by
 subst hT
 unfold opStoreHD at hr
 split at hr
 ·cases hr
 rename_i Y hY
 obtain ⟨vs, c1, c2⟩ := asT_ok hu hY
 obtain ⟨h1, h2⟩ := hv
 split at hr
 ·split at hr
  ·rename_i id o k T' t X hs _ _ _ X' hk hfar hset
   obtain rfl := hr.ret_eq
   rw [Bool.or_eq_false_iff] at hk
   obtain ⟨G, cs, b1, b2, b3, b5, b6⟩ := h2 _ rfl
   obtain ⟨G', b4, rfl⟩ := h1
   have b1 : (e id).oa = some ⟨G, 0, none⟩ := b1
   rw [b1] at b4; cases b4
   have hcells := c2.cells ((rep te.pt).one c1)
   have hvs : vs = [u] := by unfold IsV at c2; rw [hk.2] at c2; exact c2
   subst hvs
   have hsz : csz te.pt = 1 := by rw [← rep_sz, ← (rep te.pt).len c1]; rfl
   obtain ⟨hle, hrd⟩ := setAt_rd b3 c1 hset
   rw [hsz] at hle hrd
   rw [emp_len] at hle
   have hlo : o < cs.length := by omega
   have hne : ∀ h ∈ hs, h.1 ≠ o := fun h hm => by have := farH_ne hfar 0 (by omega) h hm; simpa using this
   obtain ⟨w', r1, r2, r3⟩ := store_cell (P := P) (u := u) hk.1 (te.ok.one hk.2) b2 ((rep te.pt).one c1 u (by simp)) hcells (List.getElem?_eq_getElem hlo) tp
   refine LW.gen rfl hw fun q hq => ?_
   unfold Oper.wp
   simp only [execOp, hq.eval hx, hq.eval hy, Sem.run_bind, r1, Result.andThen_ok, Sem.run_pure, Oper.upon_skip]
   refine wpList_nil ⟨rfl, e, lab, undef, hq.none_ undef, fun _ _ => rfl, r2.stp (.inl (by simp)), rfl, fun p hp => ?_, fun p hp => by simp at hp⟩
   simp at hp; subst hp
   refine ⟨G, _, b1, r3, ?_, fun h hm => ?_, b6⟩
   ·rw [emp_set_ne hne]
    have e1 : (emp cs hs).set o u = (emp cs hs).take o ++ [u] ++ (emp cs hs).drop (o + 1) := by
     rw [List.set_eq_take_append_cons_drop, if_pos (by rw [emp_len]; exact hlo)]; simp
    rw [e1]
    exact (rep t).keep r2.keeps hrd
   ·rw [List.getElem?_set_ne (hne h hm).symm]; exact b5 h hm
  ·cases hr
 ·cases hr
def isBoxh : Option MEnt → Bool
 | some (.boxh _ _ _ _ _) => true
 | _ => false
end
end Go.Gk
