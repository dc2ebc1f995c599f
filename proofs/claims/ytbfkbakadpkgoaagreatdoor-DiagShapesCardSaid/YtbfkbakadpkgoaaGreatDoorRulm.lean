/-
  Rules for operations that read or make memory, over whatever program. No condition.
-/
import Derived.Test.YtbfkbakadpkgoaaGreatDoorRule
namespace Go.Gk
open Go.RowKit
structure TyOne (P : Program) (T : TypeId) : Prop where
 agg : ∀ w, (isAgg T).run P w = .ok false w
 size : ∀ w, (sizeOf T).run P w = .ok 1 w
structure TyAgg (P : Program) (T : TypeId) (n : Nat) : Prop where
 agg : ∀ w, (isAgg T).run P w = .ok true w
 size : ∀ w, (sizeOf T).run P w = .ok n w
def TyZero (P : Program) (T : TypeId) (z : Value) : Prop := ∀ w, (zeroValue T).run P w = .ok z w
def TyFld (P : Program) (T f off : Nat) : Prop := ∀ w a, (Instr.fieldAt T (.pointer (some a)) f).run P w = .ok (.pointer (some (a.add off))) w
structure TySl (P : Program) (T E : TypeId) (n bytes : Nat) (z : Value) : Prop where
 und : P.underlying T = some (.slice E)
 info : ∃ i, P.info? E = some i ∧ i.zero = some z ∧ i.size = n ∧ i.bytes = bytes
 zn : z.cells.size = n
 pos : 0 < n
section
variable {P : Program} {N : Nat} {ops : Array Oper} {rest : List Oper} {F : List (Nat × Value)} {w : World} {K : Kont} {lab : Lab}
variable {ty : TypeId} {pos : String} {af : Array Edge} {g : Option (Nat × Bool)} {d : Nat} {x y z : Operand} {v u : Value} {α : Type} {r : α} {T : TypeId}
theorem World.alloc_eq' (w : World) (o : Obj) : ({ w with heap := w.heap.push o } : World) = w.alloc o := rfl
theorem LW.alloc (k : Nat) (cs : List Value) (hz : TyZero P T v) (hcs : v.cells = cs.toArray) (t : Top lab w) (hw : Wn ops F g) (hdN : Nat.blt d N = true)
  (h : ∀ G lab' w', Ste lab 0 w lab' w' → Box lab' w' k G T cs → LW P N ops rest ((d, .pointer (some ⟨G, 0, none⟩)) :: F) w' K) : LW P N ops (⟨some d, .alloc T, ty, pos, af, g⟩ :: rest) F w K :=
 LW.val rfl hw rfl hdN (w' := w.alloc (.cells cs.toArray T)) (fun a ha => by simp [execOp, Instr.alloc, hz w, newVar, newRow, hcs, World.alloc_eq']) (h _ _ _ (Ste.alloc t k _) (Box.alloc k T cs))
theorem LW.box (k : Nat) (cs : List Value) (hx : ev F x = some v) (hcs : v.cells = cs.toArray) (t : Top lab w) (hw : Wn ops F g) (hdN : Nat.blt d N = true)
  (h : ∀ G lab' w', Ste lab 0 w lab' w' → Box lab' w' k G T cs → LW P N ops rest ((d, .pointer (some ⟨G, 0, none⟩)) :: F) w' K) : LW P N ops (⟨some d, .box T x, ty, pos, af, g⟩ :: rest) F w K :=
 LW.val rfl hw rfl hdN (w' := w.alloc (.cells cs.toArray T)) (fun a ha => by simp [execOp, ha.eval hx, Instr.box, newVar, newRow, hcs, World.alloc_eq']) (h _ _ _ (Ste.alloc t k _) (Box.alloc k T cs))
theorem add_lit0 (G o n : Nat) : Addr.add ⟨G, o, none⟩ n = ⟨G, o + n, none⟩ := by unfold Addr.add; split <;> simp_all
theorem LW.fldA {f off : Nat} {p : Addr} (hf : TyFld P T f off) (hw : Wn ops F g) (hdN : Nat.blt d N = true) (hx : ev F x = some (.pointer (some p)))
  (h : LW P N ops rest ((d, .pointer (some (p.add off))) :: F) w K) : LW P N ops (⟨some d, .fieldAddr T x f, ty, pos, af, g⟩ :: rest) F w K :=
 LW.val rfl hw rfl hdN (fun a ha => by simp [execOp, ha.eval hx, hf w]) h
theorem run_load1 (hT : TyOne P T) {p : Addr} (hc : w.cell? p = some v) : (Instr.loadAt T (.pointer (some p))).run P w = .ok v w := by
 simp [Instr.loadAt, Instr.sureAddr, loadVar, hT.agg w, hc]
theorem run_loadn {n : Nat} (hT : TyAgg P T n) {p : Addr} (cs : List Value) (hn : cs.length = n) (hc : ∀ j u, cs[j]? = some u → w.cell? (p.add j) = some u) : (Instr.loadAt T (.pointer (some p))).run P w = .ok (.agg cs.toArray) w := by
 subst hn
 simp [Instr.loadAt, Instr.sureAddr, loadVar, hT.agg w, hT.size w, run_loadCells_list w p cs hc]
theorem LW.loadB1 {k G o : Nat} {T' : TypeId} {cs : List Value} (b : Box lab w k G T' cs) (hT : TyOne P T) (hc : cs[o]? = some v) (hw : Wn ops F g) (hdN : Nat.blt d N = true) (hx : ev F x = some (.pointer (some ⟨G, o, none⟩)))
  (h : LW P N ops rest ((d, v) :: F) w K) : LW P N ops (⟨some d, .load T x, ty, pos, af, g⟩ :: rest) F w K :=
 LW.val rfl hw rfl hdN (fun a ha => by simp [execOp, ha.eval hx, run_load1 hT ((b.cell o).trans hc)]) h
theorem At.cell {p : Addr} {cs : List Value} (h : At lab w p cs) (o : Nat) (hc : cs[o]? = some v) : w.cell? (p.add o) = some v := (h o v hc).2
theorem LW.loadAn {n : Nat} {p : Addr} {cs : List Value} (b : At lab w p cs) (hT : TyAgg P T n) (hn : Nat.beq cs.length n = true) (hw : Wn ops F g) (hdN : Nat.blt d N = true)
  (hx : ev F x = some (.pointer (some p))) (h : LW P N ops rest ((d, .agg cs.toArray) :: F) w K) : LW P N ops (⟨some d, .load T x, ty, pos, af, g⟩ :: rest) F w K :=
 LW.val rfl hw rfl hdN (fun a ha => by simp [execOp, ha.eval hx, run_loadn (w := w) hT cs (Nat.eq_of_beq_eq_true hn) (fun j u hj => (b j u hj).2)]) h
theorem run_store1 (hT : TyOne P T) {p : Addr} (h1 : v.cells = #[v]) (ho : v.oneCell' = true) (hc : w.cell? p = some u) (hf : w.frozen? p = false) : (Instr.storeAt T (.pointer (some p)) v).run P w = .ok () (w.setCell p v) := by
 simp [Instr.storeAt, Instr.sureAddr, storeVar, h1, hT.size w, storeCells, run_store _ _ _ _ _ ho, hc, hf, Addr.add]
theorem Box.set {k G o : Nat} {T' : TypeId} {cs : List Value} (b : Box lab w k G T' cs) (v : Value) : Box lab (w.setCell ⟨G, o, none⟩ v) k G T' (cs.set o v) := by
 refine ⟨?_, b.2⟩
 rw [heap_setCell_same w G o _ _ v b.1]
 simp
theorem run_storeCells {k G : Nat} {T' : TypeId} : ∀ (vs : List Value) (o : Nat) (cs : List Value) (w : World), Box lab w k G T' cs → o + vs.length ≤ cs.length → (∀ u ∈ vs, u.oneCell' = true) → ∀ (i o0 : Nat), o = o0 + i →
  ∃ w', (storeCells ⟨G, o0, none⟩ vs i).run P w = .ok () w' ∧ Box lab w' k G T' (cs.take o ++ vs ++ cs.drop (o + vs.length)) ∧ (Top lab w → Nat.beq k 0 = false → Ste lab k w lab w')
 | [], o, cs, w, b, _, _, i, o0, _ => ⟨w, by simp [storeCells], by simpa using b, fun t _ => ⟨rfl, rfl, rfl, Nat.le_refl _, fun _ _ _ => rfl, fun _ _ => rfl, t⟩⟩
 | v :: vs, o, cs, w, b, hl, h1, i, o0, ho => by
  simp only [List.length_cons] at hl
  have hlt : o < cs.length := by omega
  have hc : w.cell? ⟨G, o, none⟩ = some cs[o] := (b.cell o).trans (List.getElem?_eq_getElem hlt)
  obtain ⟨w', hr, b', hs⟩ := run_storeCells vs (o + 1) (cs.set o v) (w.setCell ⟨G, o, none⟩ v) (b.set v) (by simp; omega) (fun u hu => h1 u (by simp [hu])) (i + 1) o0 (by omega)
  refine ⟨w', ?_, ?_, fun t hk => ?_⟩
  ·simp only [storeCells, Sem.run_bind, add_lit0, ← ho, run_store _ _ _ _ _ (h1 v (by simp)), hc, b.frozen o, Bool.false_eq_true, if_false, Result.andThen_ok]
   exact hr
  ·have e : cs.take o ++ v :: vs ++ cs.drop (o + (v :: vs).length) = (cs.set o v).take (o + 1) ++ vs ++ (cs.set o v).drop (o + 1 + vs.length) := by
    rw [List.take_set, List.drop_set_of_lt (by omega), List.take_succ_eq_append_getElem hlt, List.set_append_right _ _ (by simp; omega)]
    simp [Nat.min_eq_left (Nat.le_of_lt hlt), Nat.add_assoc, Nat.add_comm 1]
   rw [e]; exact b'
  ·have s1 := Ste.setCell (w := w) (i := o) t hk b.2 v
   have s2 := hs (fun b hb => t b (by simpa [World.setCell] using hb)) hk
   exact ⟨s2.os.trans s1.os, s2.tape.trans s1.tape, s2.output.trans s1.output, Nat.le_trans s1.size s2.size, fun b hb hh => (s2.block b (Nat.lt_of_lt_of_le hb s1.size) hh).trans (s1.block b hb hh), fun _ _ => rfl, s2.top⟩
theorem LW.len {oa : Option Addr} {n c : Nat} {E : TypeId} (hT : P.underlying T = some (.slice E)) (hw : Wn ops F g) (hdN : Nat.blt d N = true) (hx : ev F x = some (.slice oa n c))
  (h : LW P N ops rest ((d, .int .i64 (n : Int)) :: F) w K) : LW P N ops (⟨some d, .call { callee := .builtin .len, args := #[x], argTypes := #[T] }, ty, pos, af, g⟩ :: rest) F w K :=
 LW.val rfl hw rfl hdN (fun a ha => by simp [execOp, resolve, invoke, builtin, ha.eval hx, Builtin.len_, goInt, run_underlying hT]) h
theorem LW.lenS {l : List UInt8} (hT : P.underlying T = some .string) (hw : Wn ops F g) (hdN : Nat.blt d N = true) (hx : ev F x = some (strV l))
  (h : LW P N ops rest ((d, .int .i64 (l.length : Int)) :: F) w K) : LW P N ops (⟨some d, .call { callee := .builtin .len, args := #[x], argTypes := #[T] }, ty, pos, af, g⟩ :: rest) F w K :=
 LW.val rfl hw rfl hdN (fun a ha => by simp [execOp, resolve, invoke, builtin, ha.eval hx, strV, Builtin.len_, goInt, run_underlying hT, -ByteArray.size_data]; rfl) h
theorem LW.index {E : TypeId} {β : Type} {ρ : Rep β} {oa : Option Addr} {c : Nat} {xs : List β} {i : Int} {k : β → Option α} {nb : Nat} {zv : Value} {yk : IntKind} (hm : bnd (idx xs i) k = some r) (s : SL ρ lab w oa c xs) (hT : TySl P T E ρ.sz nb zv)
  (hw : Wn ops F g) (hdN : Nat.blt d N = true) (hx : ev F x = some (.slice oa xs.length c)) (hy : ev F y = some (.int yk i))
  (h : ∀ e p cs, k e = some r → ρ.rd lab w cs e → At lab w p cs → LW P N ops rest ((d, .pointer (some p)) :: F) w K) : LW P N ops (⟨some d, .indexAddr T x y, ty, pos, af, g⟩ :: rest) F w K := by
 obtain ⟨e, he, hk⟩ := bnd_some hm
 unfold idx at he
 split at he
 ·rename_i h0
  obtain ⟨ad, cs, rfl, hrd, hat⟩ := s.at_ he
  have hlt : i.toNat < xs.length := (List.getElem?_eq_some_iff.1 he).1
  obtain ⟨inf, hi, _, hsz, _⟩ := hT.info
  refine LW.val rfl hw rfl hdN (fun a ha => ?_) (h e _ cs hk hrd hat)
  have hlt' : i < (xs.length : Int) := by omega
  simp [execOp, ha.eval hx, ha.eval hy, Instr.indexAt, asIntOf, run_underlying hT.und, h0, hlt', sizeOf, typeInfo, hi, hsz]
 ·cases he
structure Fn? (P : Program) (f : FuncId) : Prop where
 fn : ∃ fn, P.funcs[f]? = some fn ∧ (fn.name == "runtime.NumGoroutine") = false ∧ fn.body.isNone = false
def evs (F : List (Nat × Value)) : List Operand → Option (List Value)
 | [] => some []
 | x :: r => match ev F x with
  | some v => match evs F r with
   | some l => some (v :: l)
   | none => none
  | none => none
theorem Sat.evals {a : Act} (ha : Sat F N a) : ∀ {xs : List Operand} {vs : List Value}, evs F xs = some vs → xs.map a.eval = vs
 | [], vs, h => by simp [evs] at h; simp [h]
 | x :: r, vs, h => by
  unfold evs at h
  split at h
  ·rename_i v hv
   split at h
   ·rename_i l hl
    simp at h
    subst h
    simp [ha.eval hv, Sat.evals ha hl]
   ·cases h
  ·cases h
theorem LW.call {f : FuncId} {xs : List Operand} {vs : List Value} {ts : Array TypeId} {R : Ending → World → Prop} (hf : Fn? P f) (hc : Calls P f vs.toArray w R) (hw : Wn ops F g) (hdN : Nat.blt d N = true) (hx : evs F xs = some vs)
  (h : ∀ e w', R e w' → ∃ v, e = .returned v ∧ LW P N ops rest ((d, v) :: F) w' K) : LW P N ops (⟨some d, .call { callee := .value (.func f), args := xs.toArray, argTypes := ts }, ty, pos, af, g⟩ :: rest) F w K :=
 LW.gen rfl hw fun a ha => by
  obtain ⟨fn, h1, h2, h3⟩ := hf.fn
  unfold Oper.wp
  have hr : (execOp a.eval ⟨some d, .call { callee := .value (.func f), args := xs.toArray, argTypes := ts }, ty, pos, af, g⟩).run P w = .ok (.enter f vs.toArray) w := by
   have e : (xs.toArray.map a.eval) = vs.toArray := by rw [List.map_toArray, ha.evals hx]
   simp only [execOp, resolve, e, Act.eval, Deferred.ofValue, invoke, callFunc, Sem.run_bind, Sem.run_pure, Result.andThen_ok, run_program, h1, h2, h3, Bool.false_eq_true, if_false]; simp
  rw [hr, Oper.upon_enter]
  refine hc.mono fun e w' hR => ?_
  obtain ⟨v, rfl, hl⟩ := h e w' hR
  exact hl _ (ha.put hdN v)
theorem LW.extract {i : Nat} {vs : List Value} (hw : Wn ops F g) (hdN : Nat.blt d N = true) (hx : ev F x = some (.tuple vs.toArray)) (hi : vs[i]? = some v)
  (h : LW P N ops rest ((d, v) :: F) w K) : LW P N ops (⟨some d, .extract x i, ty, pos, af, g⟩ :: rest) F w K :=
 LW.val rfl hw rfl hdN (fun a ha => by simp [execOp, ha.eval hx, Instr.extract, hi]) h
theorem enter {f : FuncId} {fn : Func} {c : Code} {args : List Value} {R : Ending → World → Prop} (hf : P.funcs[f]? = some fn) (hb : fn.body = some c) (N : Nat) (hN : Nat.beq fn.ntmps N = true) (hle : Nat.ble args.length N = true)
  (h : CW P N c (args.zipIdx.map fun p => (p.2, p.1)) w (bodyPost P fn R)) : Calls P f args.toArray w R := by
 have hN' := Nat.eq_of_beq_eq_true hN
 subst hN'
 refine calls_of_wp hf hb (h _ ⟨?_, rfl, ?_⟩)
 ·have : args.length ≤ fn.ntmps := by simpa using hle
  simp; omega
 ·have key : ∀ (l : List Value) (n t : Nat) (v : Value), look ((l.zipIdx n).map fun p => (p.2, p.1)) t = some v → n ≤ t ∧ l[t - n]? = some v := by
   intro l
   induction l with
   | nil => intro n t v h; simp [look] at h
   | cons u l ih =>
    intro n t v h
    simp only [List.zipIdx_cons, List.map_cons] at h
    unfold look at h
    split at h
    ·rename_i hb
     have e : n = t := Nat.eq_of_beq_eq_true hb
     subst e
     simp at h
     exact ⟨Nat.le_refl _, by simp [h]⟩
    ·obtain ⟨h1, h2⟩ := ih (n + 1) t v h
     refine ⟨by omega, ?_⟩
     rw [show t - n = (t - (n + 1)) + 1 by omega, List.getElem?_cons_succ]
     exact h2
  intro t v hv
  obtain ⟨_, h2⟩ := key args 0 t v hv
  simp only [Nat.sub_zero] at h2
  have hlt : t < args.length := (List.getElem?_eq_some_iff.1 h2).1
  rw [Array.getElem?_append_left (by simpa using hlt)]
  simpa using h2
theorem EW.ret1 {fn : Func} {R : Ending → World → Prop} {t : Nat} (hr : fn.results = #[.tmp t]) (hv : look F t = some v) (h : R (.returned v) w) : EW N .ret F w (bodyPost P fn R) := fun a ha =>
 bodyPost_ret (v := v) (by rw [results_tmp hr]; simp [Array.getD_eq_getD_getElem?, ha.get _ _ hv]) ha.defers h
def looks (F : List (Nat × Value)) : List Nat → Option (List Value)
 | [] => some []
 | t :: r => match look F t with
  | some v => match looks F r with
   | some l => some (v :: l)
   | none => none
  | none => none
end
end Go.Gk
