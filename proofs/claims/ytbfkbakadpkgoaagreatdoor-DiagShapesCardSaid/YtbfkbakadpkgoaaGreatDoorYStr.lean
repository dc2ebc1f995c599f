/-
  The evaluator's operations on strings, and '==' of structs. Over whatever program; no condition.
-/
import Derived.Test.YtbfkbakadpkgoaaGreatDoorYSlc
import Derived.Laws.Concat
import Derived.Laws.Strings3
import Derived.Laws.DeepStrings4
import Derived.Laws.IdiomStrings
import Derived.Laws.Cover1
namespace Go.Gk
open Go.RowKit
theorem strV_size (l : List UInt8) : (⟨l.toArray⟩ : ByteArray).size = l.length := by simp [ByteArray.size]
theorem strV_get (l : List UInt8) (i : Nat) (h : i < (⟨l.toArray⟩ : ByteArray).size) : (⟨l.toArray⟩ : ByteArray)[i]'h = l[i]'(by rw [strV_size] at h; exact h) := by
 simp [ByteArray.getElem_eq_getElem_data]
theorem strV_extract (l : List UInt8) (i j : Nat) : (⟨l.toArray⟩ : ByteArray).extract i j = ⟨((l.take j).drop i).toArray⟩ := by
 apply ByteArray.ext
 simp [ByteArray.data_extract, List.extract_eq_take_drop, List.take_drop]
 by_cases h : i ≤ j
 ·rw [show i + (j - i) = j by omega]
 ·rw [List.drop_of_length_le (by simp; omega), List.drop_of_length_le (by simp; omega)]
theorem strV_append (a b : List UInt8) : (⟨a.toArray⟩ : ByteArray) ++ ⟨b.toArray⟩ = ⟨(a ++ b).toArray⟩ := by
 apply ByteArray.ext
 simp [ByteArray.data_append]
theorem run_indexS {P : Program} {w : World} {T : TypeId} (hT : P.underlying T = some .string) (l : List UInt8) {k : IntKind} {i : Int} {c : UInt8} (h0 : 0 ≤ i) (hc : l[i.toNat]? = some c) :
  (Instr.index T (strV l) (.int k i)).run P w = .ok (.int .u8 (c.toNat : Int)) w := by
 obtain ⟨hlt, hc⟩ := List.getElem?_eq_some_iff.1 hc
 have hrun := run_index_string (P := P) w T ⟨l.toArray⟩ k i hT
 have hsz : 0 ≤ i ∧ i < ((⟨l.toArray⟩ : ByteArray).size : Nat) := ⟨h0, by rw [strV_size]; omega⟩
 rw [dif_pos hsz, strV_get, hc] at hrun
 exact hrun
theorem run_sliceS_lh {P : Program} {w : World} {T : TypeId} (hT : P.underlying T = some .string) (l : List UInt8) {k k' : IntKind} {i j : Int} (h1 : 0 ≤ i) (h2 : i ≤ j) (h3 : j ≤ (l.length : Int)) :
  (Instr.sliceAt T (strV l) (some (.int k i)) (some (.int k' j)) none).run P w = .ok (strV ((l.take j.toNat).drop i.toNat)) w := by
 have hrun := run_slice_string_if (P := P) w T ⟨l.toArray⟩ k k' i j hT
 rw [if_pos ⟨by omega, by rw [strV_size]; exact h3⟩, if_pos ⟨h1, h2⟩, strV_extract] at hrun
 rw [run_sliceAt_string w T _ _ _ _ hT]; exact hrun
theorem run_sliceS_l {P : Program} {w : World} {T : TypeId} (hT : P.underlying T = some .string) (l : List UInt8) {k : IntKind} {i : Int} (h1 : 0 ≤ i) (h2 : i ≤ (l.length : Int)) :
  (Instr.sliceAt T (strV l) (some (.int k i)) none none).run P w = .ok (strV ((l.take (l.length : Int).toNat).drop i.toNat)) w := by
 have hrun := run_slice_string_from_if (P := P) w T ⟨l.toArray⟩ k i hT
 rw [if_pos ⟨h1, by rw [strV_size]; exact h2⟩, strV_extract, strV_size] at hrun
 rw [run_sliceAt_string w T _ _ _ _ hT]; exact hrun
theorem run_sliceS_h {P : Program} {w : World} {T : TypeId} (hT : P.underlying T = some .string) (l : List UInt8) {k : IntKind} {j : Int} (h2 : 0 ≤ j) (h3 : j ≤ (l.length : Int)) :
  (Instr.sliceAt T (strV l) none (some (.int k j)) none).run P w = .ok (strV ((l.take j.toNat).drop (0 : Int).toNat)) w := by
 have hrun := run_slice_string_to_if (P := P) w T ⟨l.toArray⟩ k j hT
 rw [if_pos ⟨h2, by rw [strV_size]; exact h3⟩, strV_extract] at hrun
 rw [run_sliceAt_string w T _ _ _ _ hT]; exact hrun
theorem run_addS {P : Program} {w : World} {T : TypeId} {p q z : List UInt8} (h : app p q = some z) : (binOp .add T (strV p) (strV q)).run P w = .ok (strV z) w := by
 obtain ⟨hl, rfl⟩ := app_some h
 have := run_string_add_sum (P := P) w ⟨p.toArray⟩ ⟨q.toArray⟩ (by rw [strV_size, strV_size]; unfold LIM at hl; omega)
 rw [strV_append] at this
 simp only [strV, binOp_string_add, this]
theorem idx_some {α : Type} {xs : List α} {i : Int} {X : α} (h : idx xs i = some X) : 0 ≤ i ∧ xs[i.toNat]? = some X := by
 unfold idx at h
 split at h
 ·exact ⟨by assumption, h⟩
 ·cases h
def strLt (a b : List UInt8) : Bool := Op.bytesLess a b
section
variable {P : Program} {N : Nat} {ops : Array Oper} {F : List (Nat × Value)} {w w' : World} {e : Env} {lab lab' : Lab} {nid : Nat} {d : Nat} {v u : Value}
variable {ty : TypeId} {pos : String} {af : Array Edge} {g : Option (Nat × Bool)} {x y z : Operand} {T : TypeId} {a b : RA}
def opIndexS (a b : RA) : OpRes :=
 match asDat a, asI b with
 | some ⟨.str, l⟩, some ⟨k, i⟩ => .bnd UInt8 (idx (α := UInt8) l (toI k i)) fun c => .ret (o1 (.dat (.int .u8) c))
 | _, _ => .stuck
theorem loc_indexS {out : Out} (hT : P.underlying T = some .string) (hx : ev F x = some v) (hy : ev F y = some u) (hv : AOK e lab w a v) (hu : AOK e lab w b u) (hr : Res (opIndexS a b) out) (tp : Top lab w) (hw : Wn ops F g) (hd : Nat.blt d N = true) :
  LW P N ops [⟨some d, .index T x y, ty, pos, af, g⟩] F w (Fin N F e nid lab w (some d) out) := by
 unfold opIndexS at hr
 split at hr
 ·rename_i l k i hl hi
  obtain rfl := Dat.str (asDat_ok hv hl)
  obtain rfl := asI_ok hu hi
  cases hr with
  | bnd hX hr =>
   rename_i c
   obtain rfl := hr.ret_eq
   obtain ⟨h0, hX⟩ := idx_some hX
   exact LW.val (v := .int .u8 (c.toNat : Int)) rfl hw rfl hd (fun q hq => by simp only [execOp, hq.eval hx, hq.eval hy, Sem.run_bind, run_indexS hT l h0 hX, Result.andThen_ok, Sem.run_pure]) (fin_val tp (Dat.ofInt (k := .u8) c))
 ·cases hr
def opSliceS (a : RA) (lo hi : Option ((k : IntKind) × kden k)) : OpRes :=
 match asDat a with
 | some ⟨.str, l⟩ => match lo, hi with
  | some ⟨k, i⟩, some ⟨k', j⟩ => .bnd (List UInt8) (cut (β := UInt8) l (toI k i) (toI k' j)) fun z => .ret (o1 (.dat .str z))
  | some ⟨k, i⟩, none => .bnd (List UInt8) (cut (β := UInt8) l (toI k i) (List.length (α := UInt8) l : Int)) fun z => .ret (o1 (.dat .str z))
  | none, some ⟨k', j⟩ => .bnd (List UInt8) (cut (β := UInt8) l 0 (toI k' j)) fun z => .ret (o1 (.dat .str z))
  | none, none => .stuck
 | _ => .stuck
theorem loc_sliceS {out : Out} {lo hi : Option Operand} {i j : Option ((k : IntKind) × kden k)} (hT : P.underlying T = some .string) (hx : ev F x = some v) (hlo : OpI F lo i) (hhi : OpI F hi j) (hv : AOK e lab w a v) (hr : Res (opSliceS a i j) out) (tp : Top lab w) (hw : Wn ops F g) (hd : Nat.blt d N = true) :
  LW P N ops [⟨some d, .slice T x lo hi none, ty, pos, af, g⟩] F w (Fin N F e nid lab w (some d) out) := by
 unfold opSliceS at hr
 split at hr
 ·rename_i l hl
  obtain rfl := Dat.str (asDat_ok hv hl)
  split at hr
  ·rename_i k i k' j
   cases hr with
   | bnd hX hr =>
    rename_i z
    obtain rfl := hr.ret_eq
    obtain ⟨⟨h1, h2, h3⟩, rfl⟩ := cut_some hX
    have h3 : toI k' j ≤ (List.length (α := UInt8) l : Int) := h3
    cases lo with
    | none => cases hlo
    | some lo => cases hi with
     | none => cases hhi
     | some hi =>
      have hlo : ev F lo = some (.int k (toI k i)) := hlo
      have hhi : ev F hi = some (.int k' (toI k' j)) := hhi
      exact LW.val rfl hw rfl hd (fun q hq => by simp only [execOp, hq.eval hx, Option.map_some, Option.map_none, hq.eval hlo, hq.eval hhi, Sem.run_bind, run_sliceS_lh hT l h1 h2 h3, Result.andThen_ok, Sem.run_pure]) (fin_val tp (Dat.ofStr _))
  ·rename_i k i
   cases hr with
   | bnd hX hr =>
    rename_i z
    obtain rfl := hr.ret_eq
    obtain ⟨⟨h1, h2, h3⟩, rfl⟩ := cut_some hX
    cases lo with
    | none => cases hlo
    | some lo => cases hi with
     | some hi => cases hhi
     | none =>
      have hlo : ev F lo = some (.int k (toI k i)) := hlo
      exact LW.val rfl hw rfl hd (fun q hq => by simp only [execOp, hq.eval hx, Option.map_some, Option.map_none, hq.eval hlo, Sem.run_bind, run_sliceS_l hT l h1 h2, Result.andThen_ok, Sem.run_pure]) (fin_val tp (Dat.ofStr _))
  ·rename_i k' j
   cases hr with
   | bnd hX hr =>
    rename_i z
    obtain rfl := hr.ret_eq
    obtain ⟨⟨h1, h2, h3⟩, rfl⟩ := cut_some hX
    have h3 : toI k' j ≤ (List.length (α := UInt8) l : Int) := h3
    cases hi with
    | none => cases hhi
    | some hi => cases lo with
     | some lo => cases hlo
     | none =>
      have hhi : ev F hi = some (.int k' (toI k' j)) := hhi
      exact LW.val rfl hw rfl hd (fun q hq => by simp only [execOp, hq.eval hx, Option.map_some, Option.map_none, hq.eval hhi, Sem.run_bind, run_sliceS_h hT l h2 h3, Result.andThen_ok, Sem.run_pure]) (fin_val tp (Dat.ofStr _))
  ·cases hr
 ·cases hr
def binS (o : BinOp) (p q : List UInt8) : OpRes :=
 match o with
 | .add => .bnd (List UInt8) (app p q) fun z => .ret (o1 (.dat .str z))
 | .eql => .letm Bool (List.beq (α := UInt8) p q) fun b => .ret (o1 (.dat .bool b))
 | .neq => .letm Bool (bne (α := List UInt8) p q) fun b => .ret (o1 (.dat .bool b))
 | .lss => .letm Bool (strLt p q) fun b => .ret (o1 (.dat .bool b))
 | .gtr => .letm Bool (!(strLt p q || List.beq (α := UInt8) p q)) fun b => .ret (o1 (.dat .bool b))
 | .leq => .letm Bool (strLt p q || List.beq (α := UInt8) p q) fun b => .ret (o1 (.dat .bool b))
 | .geq => .letm Bool (!strLt p q) fun b => .ret (o1 (.dat .bool b))
 | _ => .stuck
theorem listBeq (p q : List UInt8) : List.beq p q = (p == q) := rfl
theorem binS_ok {o : BinOp} {p q : List UInt8} {out : Out} (hr : Res (binS o p q) out) : ∃ sv v, out = o1 sv ∧ RV e sv lab w v ∧ (binOp o T (strV p) (strV q)).run P w = .ok v w := by
 unfold binS at hr
 split at hr
 ·cases hr with
  | bnd hX hr =>
   rename_i z
   obtain rfl := hr.ret_eq
   exact ⟨_, strV z, rfl, Dat.ofStr _, run_addS hX⟩
 all_goals first
  | (cases hr with
   | letm hr =>
    obtain rfl := hr.ret_eq
    exact ⟨_, .bool _, rfl, Dat.ofBool _, by simp [strV, binOp, Op.stringOp, bytes_toList, strLt, listBeq, bne]⟩)
  | cases hr
theorem loc_binS {o : BinOp} {p q : List UInt8} {t' : TypeId} {out : Out} (hx : ev F x = some (strV p)) (hy : ev F y = some (strV q)) (hr : Res (binS o p q) out) (tp : Top lab w) (hw : Wn ops F g) (hd : Nat.blt d N = true) :
  LW P N ops [⟨some d, .binOp o T x y t', ty, pos, af, g⟩] F w (Fin N F e nid lab w (some d) out) := by
 obtain ⟨sv, v, rfl, h1, h2⟩ := binS_ok (P := P) (e := e) (lab := lab) (w := w) (T := T) hr
 exact LW.val rfl hw rfl hd (fun _ ha => run_bin _ _ _ (ha.eval hx) (ha.eval hy) (by cases o <;> rfl) h2) (fin_val tp h1)
def eqK (k : IntKind) (a b : kden k) : Bool := toI k a == toI k b
def eqL : (t : PT) → den t → den t → Bool
 | .int k, a, b => eqK k a b
 | .bool, a, b => BEq.beq (α := Bool) a b
 | .str, a, b => BEq.beq (α := List UInt8) a b
 | _, _, _ => false
def leafT : PT → Bool
 | .int _ => true | .bool => true | .str => true | _ => false
def leafU : PT → Option TypeDesc → Bool
 | .int k, some (.int k') => IntKind.eqb k k' | .bool, some .bool => true | .str, some .string => true | _, _ => false
theorem strEq (a b : List UInt8) : ((⟨a.toArray⟩ : ByteArray).toList == (⟨b.toArray⟩ : ByteArray).toList) = (a == b) := by rw [bytes_toList, bytes_toList]
def eqS : (t : PT) → den t → den t → Bool
 | .st t, a, b => eqS t a b
 | .pr t u, a, b => eqL t a.1 b.1 && eqS u a.2 b.2
 | t, a, b => eqL t a b
def eqF (P : Program) : (t : PT) → Nat → List Field → Bool
 | .pr t u, o, f :: fs => leafT t && Nat.beq f.offset o && !(f.name == "_") && leafU t (P.underlying f.type) && eqF P u (o + 1) fs
 | t, o, [f] => leafT t && Nat.beq f.offset o && !(f.name == "_") && leafU t (P.underlying f.type)
 | _, _, _ => false
theorem eq1_leaf {t : PT} {ft : TypeId} {a b : den t} {cs ds : List Value} (hl : leafT t = true) (hu : leafU t (P.underlying ft) = true)
  (h1 : (rep t).rd lab w cs a) (h2 : (rep t).rd lab w ds b) : ∃ u v, cs = [u] ∧ ds = [v] ∧ eq1 P ft u v = some (eqL t a b) := by
 cases t with
 | int k =>
  have h1 : cs = [.int k (toI k a)] := h1
  have h2 : ds = [.int k (toI k b)] := h2
  refine ⟨_, _, h1, h2, ?_⟩
  cases hf : P.underlying ft with
  | none => rw [hf] at hu; cases hu
  | some dd =>
   rw [hf] at hu
   cases dd <;> first | (cases hu; done) | skip
   simp only [eq1, hf, if_true, eqL, eqK]
 | bool =>
  have h1 : cs = [.bool a] := h1
  have h2 : ds = [.bool b] := h2
  refine ⟨_, _, h1, h2, ?_⟩
  cases hf : P.underlying ft with
  | none => rw [hf] at hu; cases hu
  | some dd =>
   rw [hf] at hu
   cases dd <;> first | (cases hu; done) | skip
   simp only [eq1, hf, eqL]
 | str =>
  have h1 : cs = [strV a] := h1
  have h2 : ds = [strV b] := h2
  refine ⟨_, _, h1, h2, ?_⟩
  cases hf : P.underlying ft with
  | none => rw [hf] at hu; cases hu
  | some dd =>
   rw [hf] at hu
   cases dd <;> first | (cases hu; done) | skip
   simp only [eq1, hf, strV]
   exact congrArg some (strEq a b)
 | _ => cases hl
theorem eqB_struct : ∀ {t : PT} {o : Nat} {fs : List Field} {pre pre' cs ds : List Value} {a b : den t}, eqF P t o fs = true → pre.length = o → pre'.length = o → (rep t).rd lab w cs a → (rep t).rd lab w ds b → eqB P (pre ++ cs) (pre' ++ ds) fs = some (eqS t a b) := by
 have leaf : ∀ {t : PT} {o : Nat} {f : Field} {pre pre' cs ds : List Value} {a b : den t}, (leafT t && Nat.beq f.offset o && !(f.name == "_") && leafU t (P.underlying f.type)) = true →
   pre.length = o → pre'.length = o → (rep t).rd lab w cs a → (rep t).rd lab w ds b → eqB P (pre ++ cs) (pre' ++ ds) [f] = some (eqL t a b) := by
  intro t o f pre pre' cs ds a b h hp hp' h1 h2
  simp only [Bool.and_eq_true, Bool.not_eq_true'] at h
  obtain ⟨⟨⟨hl, ho⟩, hn⟩, hu⟩ := h
  have ho := Nat.eq_of_beq_eq_true ho
  obtain ⟨u, v, rfl, rfl, he⟩ := eq1_leaf hl hu h1 h2
  simp only [eqB, hn, cond_false]
  rw [ho, ← hp, List.getElem?_append_right (Nat.le_refl _), Nat.sub_self, hp, ← hp', List.getElem?_append_right (Nat.le_refl _), Nat.sub_self]
  simp [he]
 intro t
 induction t with
 | pr t u _ ihu =>
  intro o fs pre pre' cs ds a b h hp hp' h1 h2
  cases fs with
  | nil => cases h
  | cons f fs =>
   simp only [eqF, Bool.and_eq_true, Bool.not_eq_true'] at h
   obtain ⟨⟨⟨⟨hl, ho⟩, hn⟩, hu⟩, hr⟩ := h
   have ho := Nat.eq_of_beq_eq_true ho
   obtain ⟨c1, c2, rfl, h3, h4⟩ := h1
   obtain ⟨d1, d2, rfl, h5, h6⟩ := h2
   obtain ⟨q, r, rfl, rfl, he⟩ := eq1_leaf hl hu h3 h5
   have := ihu (pre := pre ++ [q]) (pre' := pre' ++ [r]) (fs := fs) hr (by simp [hp]) (by simp [hp']) h4 h6
   rw [List.append_assoc, List.append_assoc] at this
   simp only [eqB, hn, cond_false, this]
   have g1 : (pre ++ ([q] ++ c2))[f.offset]? = some q := by rw [ho, ← hp, List.getElem?_append_right (Nat.le_refl _), Nat.sub_self]; rfl
   have g2 : (pre' ++ ([r] ++ d2))[f.offset]? = some r := by rw [ho, ← hp', List.getElem?_append_right (Nat.le_refl _), Nat.sub_self]; rfl
   simp only [g1, g2, he]
   rfl
 | int k => intro o fs pre pre' cs ds a b h hp hp' h1 h2; match fs, h with | [f], h => exact leaf (t := .int k) h hp hp' h1 h2
 | bool => intro o fs pre pre' cs ds a b h hp hp' h1 h2; match fs, h with | [f], h => exact leaf (t := .bool) h hp hp' h1 h2
 | str => intro o fs pre pre' cs ds a b h hp hp' h1 h2; match fs, h with | [f], h => exact leaf (t := .str) h hp hp' h1 h2
 | sl t _ => intro o fs pre pre' cs ds a b h; match fs, h with | [f], h => simp [eqF, leafT] at h
 | st t _ => intro o fs pre pre' cs ds a b h; match fs, h with | [f], h => simp [eqF, leafT] at h
 | un => intro o fs pre pre' cs ds a b h; match fs, h with | [f], h => simp [eqF, leafT] at h
 | cp t _ => intro o fs pre pre' cs ds a b h; match fs, h with | [f], h => simp [eqF, leafT] at h
 | clo f t _ => intro o fs pre pre' cs ds a b h; match fs, h with | [f], h => simp [eqF, leafT] at h
 | tree => intro o fs pre pre' cs ds a b h; match fs, h with | [f], h => simp [eqF, leafT] at h
 | err => intro o fs pre pre' cs ds a b h; match fs, h with | [f], h => simp [eqF, leafT] at h
 | fl => intro o fs pre pre' cs ds a b h; match fs, h with | [f], h => simp [eqF, leafT] at h
structure QE (P : Program) where
 id : TypeId
 pt : PT
 gd : P.eqGuardType P.depth id = false
 und : P.underlying id = some (.struct (P.fieldsOf id))
 nst : P.stoodInHeld id = false
 fl : eqF P pt 0 (P.fieldsOf id).toList = true
def findQE {P : Program} : List (QE P) → TypeId → Option (QE P)
 | [], _ => none
 | e :: r, T => match Nat.beq e.id T with
  | true => some e
  | false => findQE r T
theorem findQE_id {P : Program} : ∀ {l : List (QE P)} {T : TypeId} {e : QE P}, findQE l T = some e → e.id = T
 | [], _, _, h => by cases h
 | q :: r, T, e, h => by
  unfold findQE at h
  split at h
  ·rename_i hb; cases h; exact Nat.eq_of_beq_eq_true hb
  ·exact findQE_id h
def opEqS {P : Program} (qe : QE P) (o : BinOp) (a b : RA) : OpRes :=
 match asT (.st qe.pt) a, asT (.st qe.pt) b, o with
 | some X, some Y, .eql => .letm Bool (eqS qe.pt X Y) fun c => .ret (o1 (.dat .bool c))
 | some X, some Y, .neq => .letm Bool (!eqS qe.pt X Y) fun c => .ret (o1 (.dat .bool c))
 | _, _, _ => .stuck
theorem loc_eqS {qe : QE P} {o : BinOp} {t' : TypeId} {out : Out} (hT : qe.id = T) (hx : ev F x = some v) (hy : ev F y = some u) (hv : AOK e lab w a v) (hu : AOK e lab w b u) (hr : Res (opEqS qe o a b) out) (tp : Top lab w) (hw : Wn ops F g) (hd : Nat.blt d N = true) :
  LW P N ops [⟨some d, .binOp o T x y t', ty, pos, af, g⟩] F w (Fin N F e nid lab w (some d) out) := by
 subst hT
 unfold opEqS at hr
 split at hr
 ·rename_i X Y hX hY
  obtain ⟨cs, rfl, h1⟩ := Dat.st (asT_ok hv hX)
  obtain ⟨ds, rfl, h2⟩ := Dat.st (asT_ok hu hY)
  have he : EqT P qe.id cs ds (eqS qe.pt X Y) := ⟨qe.gd, qe.und, qe.nst, by simpa using eqB_struct (pre := []) (pre' := []) qe.fl rfl rfl h1 h2⟩
  cases hr with
  | letm hr =>
   obtain rfl := hr.ret_eq
   refine LW.eqA (k := some) rfl he hw hd hx hy fun c hc => fin_val tp ?_
   cases hc; exact Dat.ofBool _
 ·rename_i X Y hX hY
  obtain ⟨cs, rfl, h1⟩ := Dat.st (asT_ok hv hX)
  obtain ⟨ds, rfl, h2⟩ := Dat.st (asT_ok hu hY)
  have he : EqT P qe.id cs ds (eqS qe.pt X Y) := ⟨qe.gd, qe.und, qe.nst, by simpa using eqB_struct (pre := []) (pre' := []) qe.fl rfl rfl h1 h2⟩
  cases hr with
  | letm hr =>
   obtain rfl := hr.ret_eq
   refine LW.neA (k := some) rfl he hw hd hx hy fun c hc => fin_val tp ?_
   cases hc; exact Dat.ofBool _
 ·cases hr
def opS2b {P : Program} (tes : List (TE P)) (se : SE P) (l : List UInt8) : OpRes :=
 match findTE tes se.el, se.pt with
 | some ⟨_, .int .u8, _⟩, .int .u8 => .bnd (List UInt8) (app ([] : List UInt8) l) fun z => .ret (o1 (.dat (.sl (.int .u8)) z))
 | _, _ => .stuck
theorem bytesRow_cell (w : World) (cap : Nat) (el : TypeId) (fr : Nat × Nat) {z : List UInt8} {i : Nat} {hlt : i < z.length} {c : UInt8} (hc : z[i] = c) :
  (w.alloc (.cells (bytesRow ⟨z.toArray⟩ cap) el fr)).cell? ⟨w.heap.size, i, none⟩ = some (.int .u8 (c.toNat : Int)) := by
 have h4 := bytesRow_at ⟨z.toArray⟩ cap i (by simpa using hlt)
 rw [World.cell?_alloc_mark, h4]
 simp [hc]
theorem s2b_fin {el S T : TypeId} {z : List UInt8} (hl : ([] : List UInt8).length + z.length ≤ LIM) (hS : P.underlying S = some .string) (hT : P.underlying T = some (.slice el)) (hE : P.underlying el = some (.int .u8)) (hx : ev F x = some (strV z)) (tp : Top lab w) (hw : Wn ops F g) (hd : Nat.blt d N = true) :
  LW P N ops [⟨some d, .convert S T x, ty, pos, af, g⟩] F w (Fin N F e nid lab w (some d) (o1 (.dat (.sl (.int .u8)) z))) := by
 have hrun := run_bytes_of_string (P := P) w S T el ⟨z.toArray⟩ hS hT hE
 have hz : z.length ≤ maxLen := by unfold maxLen; simp [LIM] at hl; omega
 have h1 := grownCap_ge w z.length 0 el
 have h2 := grownCap_le_maxLen w z.length 0 el hz
 rw [strV_size] at hrun
 have hs := Ste.alloc (lab := lab) (w := w.drew) tp 0 (.cells (bytesRow ⟨z.toArray⟩ (grownCap w z.length 0 el)) el ((bytesRow ⟨z.toArray⟩ (grownCap w z.length 0 el)).size, (bytesRow ⟨z.toArray⟩ (grownCap w z.length 0 el)).size + 1))
 refine LW.val rfl hw rfl hd (fun q hq => by simp only [execOp, hq.eval hx, strV, Sem.run_bind, hrun, Result.andThen_ok, Sem.run_pure]; rfl) (fin_ste ⟨hs.os, hs.tape, hs.output, hs.size, hs.block, hs.same, hs.top⟩ (Dat.ofSl (t := .int .u8) ⟨h1, h2, fun i c hc => ?_⟩))
 obtain ⟨hlt, hc⟩ := List.getElem?_eq_some_iff.1 hc
 refine ⟨_, [.int .u8 (c.toNat : Int)], rfl, rfl, fun j u hu => ⟨?_, ?_⟩⟩
 ·rw [block_add]
  show relab lab w.drew.heap.size 0 w.heap.size = 0
  exact if_pos rfl
 ·match j, hu with
  | 0, hu =>
   cases hu
   rw [add_zero', add_lit0, Nat.zero_add]
   rw [show i * (rep (.int .u8)).sz = i from Nat.mul_one i]
   exact bytesRow_cell w.drew (grownCap w z.length 0 el) el _ hc
theorem loc_s2b {tes : List (TE P)} {se : SE P} {S : TypeId} {l : List UInt8} {out : Out} (hS : P.underlying S = some .string) (hT : se.id = T) (hx : ev F x = some (strV l)) (hr : Res (opS2b tes se l) out) (tp : Top lab w) (hw : Wn ops F g) (hd : Nat.blt d N = true) :
  LW P N ops [⟨some d, .convert S T x, ty, pos, af, g⟩] F w (Fin N F e nid lab w (some d) out) := by
 subst hT
 unfold opS2b at hr
 split at hr
 ·rename_i i ok hel hpt
  have e3 : i = se.el := findTE_id hel
  subst e3
  have u3 : P.underlying se.el = some (.int .u8) := ok.und
  cases hr with
  | bnd hX hr =>
   rename_i z
   obtain rfl := hr.ret_eq
   obtain ⟨hl, rfl⟩ := app_some hX
   exact s2b_fin hl hS se.ok.und u3 hx tp hw hd
 ·cases hr
end
end Go.Gk
