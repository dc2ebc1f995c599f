/-
  The evaluator's operations on maps that are keyed by bytes. Over whatever program; no condition.
-/
import Derived.Test.YtbfkbakadpkgoaaGreatDoorYMix
namespace Go.Gk
open Go.RowKit
def mfind {α : Type} : List (UInt8 × α) → UInt8 → Option α
 | [], _ => none
 | x :: r, k => bif x.1 == k then some x.2 else mfind r k
def mset {α : Type} : List (UInt8 × α) → UInt8 → α → List (UInt8 × α)
 | [], k, v => [(k, v)]
 | x :: r, k, v => bif x.1 == k then (k, v) :: r else x :: mset r k v
def mgetD {α : Type} (z : α) (f : List (UInt8 × α)) (k : UInt8) : α := match mfind f k with | some v => v | none => z
def mhas {α : Type} (f : List (UInt8 × α)) (k : UInt8) : Bool := match mfind f k with | some _ => true | none => false
structure ME (P : Program) where
 id : TypeId
 kt : TypeId
 el : TypeId
 pt : PT
 und : P.underlying id = some (.map kt el)
 ku : P.underlying kt = some (.int .u8)
 zok : TyZero P el (zv pt)
def findME {P : Program} : List (ME P) → TypeId → Option (ME P)
 | [], _ => none
 | e :: r, T => match Nat.beq e.id T with
  | true => some e
  | false => findME r T
theorem findME_id {P : Program} : ∀ {l : List (ME P)} {T : TypeId} {e : ME P}, findME l T = some e → e.id = T
 | [], _, _, h => by cases h
 | q :: r, T, e, h => by
  unfold findME at h
  split at h
  ·rename_i hb; cases h; exact Nat.eq_of_beq_eq_true hb
  ·exact findME_id h
theorem u8_beq (a b : UInt8) : ((a.toNat : Int) == (b.toNat : Int)) = (b == a) := by
 rw [Bool.eq_iff_iff]
 simp only [beq_iff_eq]
 constructor
 ·intro h; exact (UInt8.toNat_inj.1 (by omega)).symm
 ·intro h; rw [h]
section
variable {lab lab' : Lab} {w w' : World} {t : PT}
theorem find_map {es : List MapEntry} {f : List (UInt8 × den t)} (k : UInt8) (h : MapR t lab w es f) : ∀ i, (mfind f k = none ∧ Instr.findNow (.int .u8) (.int .u8 (k.toNat : Int)) es i = some none ∧ ∀ x v b, Dat t x lab w v → MapR t lab w (es ++ [{ key := .int .u8 (k.toNat : Int), val := v, born := b }]) (mset f k x)) ∨
  ∃ j e x, mfind f k = some x ∧ Instr.findNow (.int .u8) (.int .u8 (k.toNat : Int)) es i = some (some (i + j, e.val)) ∧ es[j]? = some e ∧ e.key = .int .u8 (k.toNat : Int) ∧ Dat t x lab w e.val ∧ ∀ y v, Dat t y lab w v → MapR t lab w (es.set j { e with key := .int .u8 (k.toNat : Int), val := v }) (mset f k y) := by
 induction es generalizing f with
 | nil =>
  intro i
  cases f with
  | nil => exact .inl ⟨rfl, rfl, fun x v b hd => ⟨rfl, hd, trivial⟩⟩
  | cons _ _ => exact h.elim
 | cons e es ih =>
  intro i
  cases f with
  | nil => exact h.elim
  | cons x f =>
   obtain ⟨h1, h2, h3⟩ := h
   have hs : Instr.sameNow (.int .u8) (.int .u8 (k.toNat : Int)) e.key = some (x.1 == k) := by
    rw [h1]
    show (if IntKind.u8 = IntKind.u8 then some ((k.toNat : Int) == (x.1.toNat : Int)) else none) = _
    rw [if_pos rfl, u8_beq]
   have e1 : Instr.findNow (.int .u8) (.int .u8 (k.toNat : Int)) (e :: es) i = match Instr.sameNow (.int .u8) (.int .u8 (k.toNat : Int)) e.key with | some true => some (some (i, e.val)) | some false => Instr.findNow (.int .u8) (.int .u8 (k.toNat : Int)) es (i + 1) | none => none := rfl
   have e2 : mfind (x :: f) k = bif x.1 == k then some x.2 else mfind f k := rfl
   have e3 : ∀ y, mset (x :: f) k y = bif x.1 == k then (k, y) :: f else x :: mset f k y := fun _ => rfl
   rw [e1, e2, hs]
   cases hk : x.1 == k with
   | true =>
    have hk' := beq_iff_eq.1 hk
    refine .inr ⟨0, e, x.2, rfl, rfl, rfl, by rw [h1, hk'], h2, fun y v hd => ?_⟩
    rw [e3, hk]
    exact ⟨rfl, hd, h3⟩
   | false =>
    rcases ih h3 (i + 1) with ⟨a, b, c⟩ | ⟨j, e', y, a, b, c, d, g, hh⟩
    ·refine .inl ⟨a, b, fun z v bb hd => ?_⟩
     rw [e3, hk]
     exact ⟨h1, h2, c z v bb hd⟩
    ·refine .inr ⟨j + 1, e', y, a, by show Instr.findNow _ _ es (i + 1) = _; rw [b, show i + 1 + j = i + (j + 1) by omega], c, d, g, fun z v hd => ?_⟩
     rw [e3, hk]
     exact ⟨h1, h2, hh z v hd⟩
end
section
variable {P : Program} {N : Nat} {ops : Array Oper} {F : List (Nat × Value)} {w w' : World} {e : Env} {lab lab' : Lab} {nid : Nat} {d : Nat} {v u : Value}
variable {ty : TypeId} {pos : String} {af : Array Edge} {g : Option (Nat × Bool)} {x y z : Operand} {T : TypeId} {a b : RA}
def asU8 (b : RA) : Option UInt8 :=
 match asI b with
 | some ⟨.u8, i⟩ => some i
 | _ => none
theorem asU8_ok {k : UInt8} (h : AOK e lab w b u) (hi : asU8 b = some k) : u = .int .u8 (k.toNat : Int) := by
 unfold asU8 at hi
 split at hi
 ·rename_i i heq
  cases hi
  exact asI_ok h heq
 ·cases hi
def opMakeMap {P : Program} (me : ME P) (nid k : Nat) : OpRes := .ret ⟨.mp nid, [k], [(nid, .mp k me.id me.pt [])], []⟩
theorem map_alloc {w : World} {es : Array MapEntry} {c : Nat} : (w.alloc (.map es c)).heap[w.heap.size]? = some (.map es c) := by
 show (w.heap.push _)[w.heap.size]? = _
 simp
theorem loc_makeMap {me : ME P} {out : Out} {k : Nat} (hr : Res (opMakeMap me nid k) out) (tp : Top lab w) (hw : Wn ops F g) (hd : Nat.blt d N = true) :
  LW P N ops [⟨some d, .makeMap T none, ty, pos, af, g⟩] F w (Fin N F e nid lab w (some d) out) := by
 obtain rfl := hr.ret_eq
 refine LW.val (v := .map (some w.heap.size)) (w' := w.alloc (.map #[] 0)) rfl hw rfl hd (fun a ha => by simp [execOp, Instr.makeMap, World.alloc_eq']) (LW.nil fun q hq => ?_)
 refine ⟨rfl, upE e nid ⟨some ⟨w.heap.size, 0, none⟩, 0, 0, 0, 0, .un, []⟩, relab lab w.heap.size k, _, hq, fun _ hi => upE_out hi, (Ste.alloc tp k _).stp (.inr rfl), ?_, fun p hp => ?_, fun p hp => by simp at hp⟩
 ·exact ⟨w.heap.size, by rw [upE_eq], rfl⟩
 ·simp at hp; subst hp
  refine ⟨w.heap.size, #[], 0, by rw [upE_eq], map_alloc, ?_, trivial⟩
  unfold relab; rw [if_pos rfl]
def opLookup {P : Program} (me : ME P) (a b : RA) (ok : Bool) : OpRes :=
 match a, asU8 b with
 | (.mp _, some (.mp _ T t f)), some k => match Nat.beq T me.id && PT.eqb t me.pt with
  | true => match ok with
   | true => .letm (den t) (mgetD (zt t) f k) fun x => .letm Bool (mhas f k) fun c => .ret (o1 (.tup [.dat t x, .dat .bool c]))
   | false => .letm (den t) (mgetD (zt t) f k) fun x => .ret (o1 (.dat t x))
  | false => .stuck
 | _, _ => .stuck
theorem Dat.zero (t : PT) (lab : Lab) (w : World) : Dat t (zt t) lab w (zv t) := ⟨zc t, rd_zero lab w t, zv_isV t⟩
theorem run_checkKey {kt : TypeId} (ku : P.underlying kt = some (.int .u8)) (b : Bool) (n : Nat) (k : UInt8) : (Instr.checkKey b (n + 1) kt (.int .u8 (k.toNat : Int))).run P w = .ok () w := by
 unfold Instr.checkKey
 simp [run_underlying ku]
theorem run_lookup {me : ME P} {G : Nat} {es : Array MapEntry} {c : Nat} {f : List (UInt8 × den me.pt)} (k : UInt8) (hh : w.heap[G]? = some (.map es c)) (hm : MapR me.pt lab w es.toList f) : ∃ v, Dat me.pt (mgetD (zt me.pt) f k) lab w v ∧ ∀ ok, (Instr.lookup me.id (.map (some G)) (.int .u8 (k.toNat : Int)) ok).run P w = .ok (if ok then .tuple #[v, .bool (mhas f k)] else v) w := by
 have hck : ∀ b, (Instr.checkKey b 10000 me.kt (.int .u8 (k.toNat : Int))).run P w = .ok () w := fun b => run_checkKey me.ku b 9999 k
 rcases find_map k hm 0 with ⟨h1, h2, _⟩ | ⟨j, e, x, h1, h2, h3, h4, h5, _⟩
 ·refine ⟨zv me.pt, ?_, fun ok => ?_⟩
  ·unfold mgetD; rw [h1]; exact Dat.zero _ _ _
  ·unfold mhas
   rw [h1]
   simp [Instr.lookup, run_underlying me.und, getObj, Sem.run, hh, hck, Instr.findKey, run_underlying me.ku, h2, me.zok w, Result.andThen]
 ·refine ⟨e.val, ?_, fun ok => ?_⟩
  ·unfold mgetD; rw [h1]; exact h5
  ·unfold mhas
   rw [h1]
   simp [Instr.lookup, run_underlying me.und, getObj, Sem.run, hh, hck, Instr.findKey, run_underlying me.ku, h2, Result.andThen]
theorem loc_lookup {me : ME P} {out : Out} {ok : Bool} (hT : me.id = T) (hx : ev F x = some v) (hy : ev F y = some u) (hv : AOK e lab w a v) (hu : AOK e lab w b u) (hr : Res (opLookup me a b ok) out) (tp : Top lab w) (hw : Wn ops F g) (hd : Nat.blt d N = true) :
  LW P N ops [⟨some d, .lookup T x y ok, ty, pos, af, g⟩] F w (Fin N F e nid lab w (some d) out) := by
 subst hT
 unfold opLookup at hr
 split at hr
 ·rename_i id q T t f k hk
  split at hr
  ·rename_i hb
   simp only [Bool.and_eq_true] at hb
   obtain rfl := Nat.eq_of_beq_eq_true hb.1
   obtain rfl := PT.eqb_eq hb.2
   obtain rfl := asU8_ok hu hk
   obtain ⟨G, h1, rfl⟩ := hv.1
   obtain ⟨G2, es, c, g1, g2, g3, g4⟩ := hv.2 _ rfl
   have g1 : (e id).oa = some ⟨G2, 0, none⟩ := g1
   rw [h1] at g1
   have hG : G = G2 := by injection g1 with g1; injection g1
   subst hG
   obtain ⟨r, hd1, hrun⟩ := run_lookup (P := P) k g2 g4
   cases ok with
   | true =>
    cases hr with
    | letm hr =>
     cases hr with
     | letm hr =>
      obtain rfl := hr.ret_eq
      refine LW.val (v := .tuple #[r, .bool (mhas f k)]) rfl hw rfl hd (fun q hq => by simp [execOp, hq.eval hx, hq.eval hy, hrun]) (fin_val tp ?_)
      exact ⟨[r, .bool (mhas f k)], rfl, .cons hd1 (.cons (Dat.ofBool _) .nil)⟩
   | false =>
    cases hr with
    | letm hr =>
     obtain rfl := hr.ret_eq
     exact LW.val (v := r) rfl hw rfl hd (fun q hq => by simp [execOp, hq.eval hx, hq.eval hy, hrun]) (fin_val tp hd1)
  ·cases hr
 ·cases hr
def opMapUpd {P : Program} (me : ME P) (a b c : RA) : OpRes :=
 match a, asU8 b, asT me.pt c with
 | (.mp id, some (.mp q T t f)), some k, some x => match Nat.beq T me.id && !Nat.beq q 0, castT me.pt t x with
  | true, some y => .letm (List (UInt8 × den t)) (mset f k y) fun f' => .ret ⟨.und, [q], [(id, .mp q T t f')], []⟩
  | _, _ => .stuck
 | _, _, _ => .stuck
theorem setObj_stp {G k : Nat} {o : Obj} (tp : Top lab w) (hk : k ≠ 0) (hl : lab G = k) : Stp [k] lab w lab { w with heap := w.heap.setIfInBounds G o } := by
 refine ⟨rfl, rfl, rfl, by simp, fun b hb hh => ?_, fun _ _ _ => rfl, fun b hb => tp b (by simpa using hb)⟩
 have hne : G ≠ b := fun e => by
  subst e
  rcases hh with hh | hh
  ·omega
  ·rw [hl] at hh; simp at hh
 show (w.heap.setIfInBounds G o)[b]? = _
 rw [Array.getElem?_setIfInBounds_ne hne]
theorem run_mapUpd {me : ME P} {G : Nat} {es : Array MapEntry} {c : Nat} {f : List (UInt8 × den me.pt)} {x : den me.pt} (k : UInt8) (hh : w.heap[G]? = some (.map es c)) (hm : MapR me.pt lab w es.toList f) (hx : Dat me.pt x lab w u) :
  ∃ es' c', (Instr.mapUpdate me.id (.map (some G)) (.int .u8 (k.toNat : Int)) u).run P w = .ok () { w with heap := w.heap.setIfInBounds G (.map es' c') } ∧ MapR me.pt lab w es'.toList (mset f k x) := by
 have hck : ∀ b, (Instr.checkKey b 10000 me.kt (.int .u8 (k.toNat : Int))).run P w = .ok () w := fun b => run_checkKey me.ku b 9999 k
 rcases find_map k hm 0 with ⟨h1, h2, h3⟩ | ⟨j, e, y, h1, h2, h4, h5, h6, h7⟩
 ·refine ⟨es.push { key := .int .u8 (k.toNat : Int), val := u, born := c }, c + 1, ?_, by rw [Array.toList_push]; exact h3 x u c hx⟩
  simp [Instr.mapUpdate, run_underlying me.und, getObj, setObj, Sem.run, hh, hck, Instr.findKey, run_underlying me.ku, h2, Result.andThen]
 ·have hjl : j < es.toList.length := (List.getElem?_eq_some_iff.1 h4).1
  refine ⟨es.modify j fun e => { e with key := .int .u8 (k.toNat : Int), val := u }, c, ?_, ?_⟩
  ·have hk0 : es[j]? = some e := by rw [← Array.getElem?_toList]; exact h4
   have hst : (Instr.keyThatStays (.int .u8 (k.toNat : Int)) (.int .u8 (k.toNat : Int))).run P w = .ok (.int .u8 (k.toNat : Int)) w := by
    simp [Instr.keyThatStays, Instr.sameBits]
   simp [Instr.mapUpdate, run_underlying me.und, getObj, setObj, Sem.run, hh, hck, Instr.findKey, run_underlying me.ku, h2, Result.andThen, hk0, h5, hst]
  ·have := h7 x u hx
   have e1 : (es.modify j fun e => { e with key := .int .u8 (k.toNat : Int), val := u }).toList = es.toList.set j { e with key := .int .u8 (k.toNat : Int), val := u } := by
    apply List.ext_getElem?
    intro i
    rw [List.getElem?_set]
    rw [Array.getElem?_toList, Array.getElem?_modify]
    by_cases hij : j = i
    ·subst hij
     have hk0 : es[j]? = some e := by rw [← Array.getElem?_toList]; exact h4
     rw [if_pos rfl, if_pos rfl, if_pos hjl, hk0]; rfl
    ·rw [if_neg hij, if_neg hij, Array.getElem?_toList]
   rw [e1]; exact this
theorem loc_mapUpd {me : ME P} {out : Out} {c : RA} {u2 : Value} (hT : me.id = T) (hx : ev F x = some v) (hy : ev F y = some u) (hz : ev F z = some u2) (hv : AOK e lab w a v) (hu : AOK e lab w b u) (hu2 : AOK e lab w c u2) (hr : Res (opMapUpd me a b c) out) (tp : Top lab w) (hw : Wn ops F g) :
  LW P N ops [⟨none, .mapUpdate T x y z, ty, pos, af, g⟩] F w (Fin N F e nid lab w none out) := by
 subst hT
 unfold opMapUpd at hr
 split at hr
 ·rename_i id q T t f k X hk hX
  split at hr
  ·rename_i X' hb hc
   simp only [Bool.and_eq_true] at hb
   obtain rfl := Nat.eq_of_beq_eq_true hb.1
   obtain ⟨rfl, rfl⟩ := castT_some hc
   have hq : q ≠ 0 := fun h0 => by subst h0; simp at hb
   cases hr with
   | letm hr =>
    obtain rfl := hr.ret_eq
    obtain rfl := asU8_ok hu hk
    obtain ⟨G, h1, rfl⟩ := hv.1
    obtain ⟨G2, es, cl, g1, g2, g3, g4⟩ := hv.2 _ rfl
    have g1 : (e id).oa = some ⟨G2, 0, none⟩ := g1
    have h1 : (e id).oa = some ⟨G, 0, none⟩ := h1
    have hG : G = G2 := by rw [h1] at g1; injection g1 with g1; injection g1
    subst hG
    obtain ⟨es', c', hrun, hm'⟩ := run_mapUpd (P := P) k g2 g4 (asT_ok hu2 hX)
    have hst := setObj_stp (o := .map es' c') tp hq g3
    have hlt : G < w.heap.size := (Array.getElem?_eq_some_iff.1 g2).1
    refine LW.gen rfl hw fun a ha => ?_
    unfold Oper.wp
    simp only [execOp, ha.eval hx, ha.eval hy, ha.eval hz, Sem.run_bind, hrun, Result.andThen_ok, Sem.run_pure, Oper.upon_skip]
    refine LW.nil (F := F) (fun q hq => ?_) _ (ha.none_ undef)
    refine ⟨rfl, e, lab, _, hq, fun _ _ => rfl, hst, rfl, fun p hp => ?_, fun p hp => by simp at hp⟩
    simp at hp; subst hp
    exact ⟨G, es', c', h1, by show (w.heap.setIfInBounds G _)[G]? = _; rw [Array.getElem?_setIfInBounds_self_of_lt hlt], g3, hm'.keep hst.keeps⟩
  ·cases hr
 ·cases hr
end
end Go.Gk
