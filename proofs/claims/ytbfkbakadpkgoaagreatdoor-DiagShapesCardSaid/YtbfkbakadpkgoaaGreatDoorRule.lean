/-
  Rules for single operations, over whatever program: each takes the model's equation along. No condition.
-/
import Derived.Test.YtbfkbakadpkgoaaGreatDoorMem
import Derived.WalkLawsBesides
import Derived.IntWalk
import Derived.Laws.Unary
namespace Go.Gk
open Go.RowKit
section
variable {P : Program} {N : Nat} {ops : Array Oper} {rest : List Oper} {F : List (Nat × Value)} {w : World} {K : Kont}
def Wn (ops : Array Oper) (F : List (Nat × Value)) (g : Option (Nat × Bool)) : Prop :=
 match g with
 | none => True
 | some (j, b) => ∃ dj, (ops[j]?).bind (·.dst) = some dj ∧ look F dj = some (.bool b)
theorem wn : Wn ops F none := trivial
theorem Wn.wanted {g : Option (Nat × Bool)} {o : Oper} (hg : o.guard = g) (h : Wn ops F g) {a : Act} (ha : Sat F N a) : Region.wanted o (yielded ops a.tmps) = true := by
 unfold Region.wanted
 rw [hg]
 cases g with
 | none => rfl
 | some p =>
  obtain ⟨j, b⟩ := p
  obtain ⟨dj, h1, h2⟩ := h
  have h3 := ha.get dj _ h2
  simp [yielded, h1, h3]
theorem LW.gen {o : Oper} {g : Option (Nat × Bool)} (hg : o.guard = g) (hw : Wn ops F g) (h : ∀ a, Sat F N a → o.wp P a w (wpList P ops K rest) K) : LW P N ops (o :: rest) F w K := fun a ha => by
 unfold wpList
 rw [if_pos (hw.wanted hg ha)]
 exact .inl (h a ha)
theorem LW.val {o : Oper} {d : Nat} {v : Value} {w' : World} {g : Option (Nat × Bool)} (hg : o.guard = g) (hw : Wn ops F g) (hd : o.dst = some d) (hdN : Nat.blt d N = true)
  (hrun : ∀ a, Sat F N a → (execOp a.eval o).run P w = .ok (.value v) w') (h : LW P N ops rest ((d, v) :: F) w' K) : LW P N ops (o :: rest) F w K :=
 LW.gen hg hw fun a ha => by
  unfold Oper.wp
  rw [hrun a ha, Oper.upon_value, hd]
  exact h _ (ha.put hdN v)
theorem LW.skip {op : Op} {ty : TypeId} {pos : String} {af : Array Edge} {j : Nat} {b b' : Bool} {d : Nat} (dj : Nat) (hj : (ops[j]?).bind (·.dst) = some dj) (hb : look F dj = some (.bool b')) (hne : (b == b') = false) (hdN : Nat.blt d N = true)
  (h : LW P N ops rest ((d, undef) :: F) w K) : LW P N ops (⟨some d, op, ty, pos, af, some (j, b)⟩ :: rest) F w K := fun a ha => by
 unfold wpList
 have h3 := ha.get dj _ hb
 have hn : b' ≠ b := fun e => by subst e; simp at hne
 rw [if_neg (by simp [Region.wanted, yielded, hj, h3, hn])]
 exact h _ (ha.put hdN undef)
theorem LW.skipU {op : Op} {ty : TypeId} {pos : String} {af : Array Edge} {j : Nat} {b : Bool} {d : Nat} (dj : Nat) (hj : (ops[j]?).bind (·.dst) = some dj) (hb : look F dj = some undef) (hdN : Nat.blt d N = true)
  (h : LW P N ops rest ((d, undef) :: F) w K) : LW P N ops (⟨some d, op, ty, pos, af, some (j, b)⟩ :: rest) F w K := fun a ha => by
 unfold wpList
 have h3 := ha.get dj _ hb
 rw [if_neg (by simp [Region.wanted, yielded, hj, h3, undef])]
 exact h _ (ha.put hdN undef)
theorem LW.skip0 {op : Op} {ty : TypeId} {pos : String} {af : Array Edge} {j : Nat} {b b' : Bool} (dj : Nat) (hj : (ops[j]?).bind (·.dst) = some dj) (hb : look F dj = some (.bool b')) (hne : (b == b') = false)
  (h : LW P N ops rest F w K) : LW P N ops (⟨none, op, ty, pos, af, some (j, b)⟩ :: rest) F w K := fun a ha => by
 unfold wpList
 have h3 := ha.get dj _ hb
 have hn : b' ≠ b := fun e => by subst e; simp at hne
 rw [if_neg (by simp [Region.wanted, yielded, hj, h3, hn])]
 exact h _ (ha.none_ undef)
section
variable {ty : TypeId} {pos : String} {af : Array Edge} {g : Option (Nat × Bool)} {d : Nat} {x y z : Operand} {v u : Value} {α : Type} {r : α} {t t' : TypeId}
theorem LW.move (hw : Wn ops F g) (hdN : Nat.blt d N = true) (hx : ev F x = some v) (h : LW P N ops rest ((d, v) :: F) w K) : LW P N ops (⟨some d, .move x, ty, pos, af, g⟩ :: rest) F w K :=
 LW.val rfl hw rfl hdN (fun a ha => by simp [execOp, ha.eval hx]) h
theorem LW.assign (hw : Wn ops F g) (hdN : Nat.blt d N = true) (hx : ev F x = some v) (h : LW P N ops rest ((d, v) :: F) w K) : LW P N ops (⟨some d, .assign x, ty, pos, af, g⟩ :: rest) F w K :=
 LW.val rfl hw rfl hdN (fun a ha => by simp [execOp, ha.eval hx]) h
theorem LW.pick_t (hw : Wn ops F g) (hdN : Nat.blt d N = true) (hx : ev F x = some (.bool true)) (hy : ev F y = some v) (h : LW P N ops rest ((d, v) :: F) w K) : LW P N ops (⟨some d, .pick x y z, ty, pos, af, g⟩ :: rest) F w K :=
 LW.val rfl hw rfl hdN (fun a ha => by simp [execOp, ha.eval hx, ha.eval hy, asBool]) h
theorem LW.pick_f (hw : Wn ops F g) (hdN : Nat.blt d N = true) (hx : ev F x = some (.bool false)) (hz : ev F z = some v) (h : LW P N ops rest ((d, v) :: F) w K) : LW P N ops (⟨some d, .pick x y z, ty, pos, af, g⟩ :: rest) F w K :=
 LW.val rfl hw rfl hdN (fun a ha => by simp [execOp, ha.eval hx, ha.eval hz, asBool]) h
theorem LW.not {b : Bool} {k : Bool → Option α} (hm : letm (!b) k = some r) (hw : Wn ops F g) (hdN : Nat.blt d N = true) (hx : ev F x = some (.bool b))
  (h : ∀ c, k c = some r → LW P N ops rest ((d, .bool c) :: F) w K) : LW P N ops (⟨some d, .unOp .not t x, ty, pos, af, g⟩ :: rest) F w K :=
 LW.val rfl hw rfl hdN (fun a ha => by simp only [execOp, ha.eval hx]; simp [unary_not]) (h _ hm)
theorem run_bin (op : BinOp) (xt yt : TypeId) {a : Act} {u v q : Value} (hu : a.eval x = u) (hv : a.eval y = v) (hg : eqGuard op xt x y u v = pure ()) (hb : (binOp op xt u v).run P w = .ok q w) :
  (execOp a.eval ⟨some d, .binOp op xt x y yt, ty, pos, af, g⟩).run P w = .ok (.value q) w := by
 simp [execOp, hu, hv, hg, hb]
section
variable {a b : Int} {k : Int → Option α} {kb : Bool → Option α}
theorem LW.add (hm : letm (w64 (a + b)) k = some r) (hw : Wn ops F g) (hdN : Nat.blt d N = true) (hx : ev F x = some (.int .i64 a)) (hy : ev F y = some (.int .i64 b))
  (h : ∀ c, k c = some r → LW P N ops rest ((d, .int .i64 c) :: F) w K) : LW P N ops (⟨some d, .binOp .add t x y t', ty, pos, af, g⟩ :: rest) F w K :=
 LW.val rfl hw rfl hdN (fun a ha => run_bin _ _ _ (ha.eval hx) (ha.eval hy) rfl (by simp [binOp, Op.intArith, w64])) (h _ hm)
theorem LW.mul (hm : letm (w64 (a * b)) k = some r) (hw : Wn ops F g) (hdN : Nat.blt d N = true) (hx : ev F x = some (.int .i64 a)) (hy : ev F y = some (.int .i64 b))
  (h : ∀ c, k c = some r → LW P N ops rest ((d, .int .i64 c) :: F) w K) : LW P N ops (⟨some d, .binOp .mul t x y t', ty, pos, af, g⟩ :: rest) F w K :=
 LW.val rfl hw rfl hdN (fun a ha => run_bin _ _ _ (ha.eval hx) (ha.eval hy) rfl (by simp [binOp, Op.intArith, w64])) (h _ hm)
def quo (a b : Int) : Option Int := if b = 0 then none else some (w64 (a.tdiv b))
def rem (a b : Int) : Option Int := if b = 0 then none else some (a.tmod b)
theorem LW.quo (hm : bnd (quo a b) k = some r) (hw : Wn ops F g) (hdN : Nat.blt d N = true) (hx : ev F x = some (.int .i64 a)) (hy : ev F y = some (.int .i64 b))
  (h : ∀ c, k c = some r → LW P N ops rest ((d, .int .i64 c) :: F) w K) : LW P N ops (⟨some d, .binOp .quo t x y t', ty, pos, af, g⟩ :: rest) F w K := by
 obtain ⟨q, hq, hk⟩ := bnd_some hm
 unfold Gk.quo at hq
 split at hq
 ·cases hq
 ·rename_i hb
  simp at hq
  subst hq
  exact LW.val rfl hw rfl hdN (fun a ha => run_bin _ _ _ (ha.eval hx) (ha.eval hy) rfl (by simp [binOp, Op.intDiv, w64, hb])) (h _ hk)
theorem LW.rem (hm : bnd (rem a b) k = some r) (hw : Wn ops F g) (hdN : Nat.blt d N = true) (hx : ev F x = some (.int .i64 a)) (hy : ev F y = some (.int .i64 b))
  (h : ∀ c, k c = some r → LW P N ops rest ((d, .int .i64 c) :: F) w K) : LW P N ops (⟨some d, .binOp .rem t x y t', ty, pos, af, g⟩ :: rest) F w K := by
 obtain ⟨q, hq, hk⟩ := bnd_some hm
 unfold Gk.rem at hq
 split at hq
 ·cases hq
 ·rename_i hb
  simp at hq
  subst hq
  exact LW.val rfl hw rfl hdN (fun a ha => run_bin _ _ _ (ha.eval hx) (ha.eval hy) rfl (by simp [binOp, Op.intDiv, hb])) (h _ hk)
def shl (a b : Int) : Option Int := if b < 0 then none else some (w64 (a * 2 ^ min b.toNat 64))
def shr (a b : Int) : Option Int := if b < 0 then none else some (a / 2 ^ min b.toNat 64)
theorem LW.shl {yk : IntKind} (hm : bnd (shl a b) k = some r) (hw : Wn ops F g) (hdN : Nat.blt d N = true) (hx : ev F x = some (.int .i64 a)) (hy : ev F y = some (.int yk b))
  (h : ∀ c, k c = some r → LW P N ops rest ((d, .int .i64 c) :: F) w K) : LW P N ops (⟨some d, .binOp .shl t x y t', ty, pos, af, g⟩ :: rest) F w K := by
 obtain ⟨q, hq, hk⟩ := bnd_some hm
 unfold Gk.shl at hq
 split at hq
 ·cases hq
 ·rename_i hb
  simp at hq
  subst hq
  exact LW.val rfl hw rfl hdN (fun a ha => run_bin _ _ _ (ha.eval hx) (ha.eval hy) rfl (by rw [binOp_shl, shift_shl_any _ _ _ _ (by omega)]; simp [w64, IntKind.bits])) (h _ hk)
theorem LW.shr {yk : IntKind} (hm : bnd (shr a b) k = some r) (hw : Wn ops F g) (hdN : Nat.blt d N = true) (hx : ev F x = some (.int .i64 a)) (hy : ev F y = some (.int yk b))
  (h : ∀ c, k c = some r → LW P N ops rest ((d, .int .i64 c) :: F) w K) : LW P N ops (⟨some d, .binOp .shr t x y t', ty, pos, af, g⟩ :: rest) F w K := by
 obtain ⟨q, hq, hk⟩ := bnd_some hm
 unfold Gk.shr at hq
 split at hq
 ·cases hq
 ·rename_i hb
  simp at hq
  subst hq
  exact LW.val rfl hw rfl hdN (fun a ha => run_bin _ _ _ (ha.eval hx) (ha.eval hy) rfl (by rw [binOp_shr, shift_shr_any _ _ _ _ (by omega)]; simp [IntKind.bits])) (h _ hk)
def ibit (o : BinOp) (a b : Int) : Int := bits o .i64 a b
variable {ik : IntKind}
theorem LW.eql (hm : letm (a == b) kb = some r) (hw : Wn ops F g) (hdN : Nat.blt d N = true) (hx : ev F x = some (.int ik a)) (hy : ev F y = some (.int ik b))
  (h : ∀ c, kb c = some r → LW P N ops rest ((d, .bool c) :: F) w K) : LW P N ops (⟨some d, .binOp .eql t x y t', ty, pos, af, g⟩ :: rest) F w K :=
 LW.val rfl hw rfl hdN (fun a ha => run_bin _ _ _ (ha.eval hx) (ha.eval hy) rfl (by simp [binOp_eql])) (h _ hm)
theorem LW.neq (hm : letm (a != b) kb = some r) (hw : Wn ops F g) (hdN : Nat.blt d N = true) (hx : ev F x = some (.int ik a)) (hy : ev F y = some (.int ik b))
  (h : ∀ c, kb c = some r → LW P N ops rest ((d, .bool c) :: F) w K) : LW P N ops (⟨some d, .binOp .neq t x y t', ty, pos, af, g⟩ :: rest) F w K :=
 LW.val rfl hw rfl hdN (fun a ha => run_bin _ _ _ (ha.eval hx) (ha.eval hy) rfl (by simp [binOp_neq])) (h _ hm)
theorem LW.lss (hm : letm (decide (a < b)) kb = some r) (hw : Wn ops F g) (hdN : Nat.blt d N = true) (hx : ev F x = some (.int ik a)) (hy : ev F y = some (.int ik b))
  (h : ∀ c, kb c = some r → LW P N ops rest ((d, .bool c) :: F) w K) : LW P N ops (⟨some d, .binOp .lss t x y t', ty, pos, af, g⟩ :: rest) F w K :=
 LW.val rfl hw rfl hdN (fun a ha => run_bin _ _ _ (ha.eval hx) (ha.eval hy) rfl (by simp [binOp_lss])) (h _ hm)
theorem LW.leq (hm : letm (decide (a ≤ b)) kb = some r) (hw : Wn ops F g) (hdN : Nat.blt d N = true) (hx : ev F x = some (.int ik a)) (hy : ev F y = some (.int ik b))
  (h : ∀ c, kb c = some r → LW P N ops rest ((d, .bool c) :: F) w K) : LW P N ops (⟨some d, .binOp .leq t x y t', ty, pos, af, g⟩ :: rest) F w K :=
 LW.val rfl hw rfl hdN (fun a ha => run_bin _ _ _ (ha.eval hx) (ha.eval hy) rfl (by simp [binOp_leq])) (h _ hm)
theorem LW.gtr (hm : letm (decide (b < a)) kb = some r) (hw : Wn ops F g) (hdN : Nat.blt d N = true) (hx : ev F x = some (.int ik a)) (hy : ev F y = some (.int ik b))
  (h : ∀ c, kb c = some r → LW P N ops rest ((d, .bool c) :: F) w K) : LW P N ops (⟨some d, .binOp .gtr t x y t', ty, pos, af, g⟩ :: rest) F w K :=
 LW.val rfl hw rfl hdN (fun a ha => run_bin _ _ _ (ha.eval hx) (ha.eval hy) rfl (by simp [binOp_gtr])) (h _ hm)
theorem LW.geq (hm : letm (decide (b ≤ a)) kb = some r) (hw : Wn ops F g) (hdN : Nat.blt d N = true) (hx : ev F x = some (.int ik a)) (hy : ev F y = some (.int ik b))
  (h : ∀ c, kb c = some r → LW P N ops rest ((d, .bool c) :: F) w K) : LW P N ops (⟨some d, .binOp .geq t x y t', ty, pos, af, g⟩ :: rest) F w K :=
 LW.val rfl hw rfl hdN (fun a ha => run_bin _ _ _ (ha.eval hx) (ha.eval hy) rfl (by simp [binOp_geq])) (h _ hm)
end
end
end
end Go.Gk
