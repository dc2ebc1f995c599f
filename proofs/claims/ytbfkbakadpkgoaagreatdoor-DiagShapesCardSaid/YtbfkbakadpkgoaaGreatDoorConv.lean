/-
  Conversions, strings, cuts of slices, results of a call; rules over whatever program. No condition.
-/
import Derived.Test.YtbfkbakadpkgoaaGreatDoorOwn
namespace Go.Gk
open Go.RowKit
def toU8 (n : Int) : UInt8 := UInt8.ofNat (n % 256).toNat
def toU64 (n : Int) : UInt64 := UInt64.ofNat (n % 18446744073709551616).toNat
def toU32 (n : Int) : UInt32 := UInt32.ofNat (n % 4294967296).toNat
theorem wrap_u8 (n : Int) : IntKind.u8.wrap n = ((toU8 n).toNat : Int) := by
 rw [IntKind.wrap_u8]; unfold toU8; simp; omega
theorem wrap_u32 (n : Int) : IntKind.u32.wrap n = ((toU32 n).toNat : Int) := by
 rw [IntKind.wrap_u32]; unfold toU32; simp; omega
theorem wrap_u64 (n : Int) : IntKind.u64.wrap n = ((toU64 n).toNat : Int) := by
 simp [IntKind.wrap, IntKind.bits, IntKind.signed, toU64]; omega
theorem toU32_nat (x : Nat) : toU32 (x : Int) = UInt32.ofNat x := by
 unfold toU32; apply UInt32.toNat_inj.1; simp; omega
section
variable {P : Program} {N : Nat} {ops : Array Oper} {rest : List Oper} {F : List (Nat × Value)} {w : World} {K : Kont} {lab : Lab}
variable {ty : TypeId} {pos : String} {af : Array Edge} {g : Option (Nat × Bool)} {d : Nat} {x y z : Operand} {v u : Value} {α β : Type} {r : α} {T E S t t' : TypeId}
def TyInt (P : Program) (T : TypeId) (k : IntKind) : Prop := P.underlying T = some (.int k)
theorem run_cvt {sk k : IntKind} {n : Int} (hs : (P.underlying S).isSome = true) (hT : TyInt P T k) : (convert S T (.int sk n)).run P w = .ok (.int k (k.wrap n)) w := by
 obtain ⟨q, hq⟩ := Option.isSome_iff_exists.1 hs
 unfold TyInt at hT
 simp [convert, run_underlying hq, run_underlying hT, Conv.intToInt]
theorem LW.cvt_u8 {sk : IntKind} {n : Int} {k : UInt8 → Option α} (hm : letm (toU8 n) k = some r) (hs : (P.underlying S).isSome = true) (hT : TyInt P T .u8) (hw : Wn ops F g) (hdN : Nat.blt d N = true) (hx : ev F x = some (.int sk n))
  (h : ∀ c, k c = some r → LW P N ops rest ((d, .int .u8 (c.toNat : Int)) :: F) w K) : LW P N ops (⟨some d, .convert S T x, ty, pos, af, g⟩ :: rest) F w K :=
 LW.val rfl hw rfl hdN (fun a ha => by simp [execOp, ha.eval hx, run_cvt hs hT, wrap_u8]) (h _ hm)
theorem LW.cvt_i64 {sk : IntKind} {n : Int} {k : Int → Option α} (hm : letm (w64 n) k = some r) (hs : (P.underlying S).isSome = true) (hT : TyInt P T .i64) (hw : Wn ops F g) (hdN : Nat.blt d N = true) (hx : ev F x = some (.int sk n))
  (h : ∀ c, k c = some r → LW P N ops rest ((d, .int .i64 c) :: F) w K) : LW P N ops (⟨some d, .convert S T x, ty, pos, af, g⟩ :: rest) F w K :=
 LW.val rfl hw rfl hdN (fun a ha => by simp [execOp, ha.eval hx, run_cvt hs hT, w64]) (h _ hm)
theorem w64_in {n : Int} (h : -9223372036854775808 ≤ n ∧ n ≤ 9223372036854775807) : w64 n = n := IntWalk.i64_in n h
section
variable {a b : UInt8} {k : UInt8 → Option α}
end
section
variable {a b : UInt64} {k : UInt64 → Option α}
def shr64 (a : UInt64) (n : Int) : Option UInt64 := if n < 0 then none else some (UInt64.ofNat (a.toNat / 2 ^ min n.toNat 64))
theorem LW.shr64 {yk : IntKind} {n : Int} (hm : bnd (shr64 a n) k = some r) (hw : Wn ops F g) (hdN : Nat.blt d N = true) (hx : ev F x = some (.int .u64 (a.toNat : Int))) (hy : ev F y = some (.int yk n))
  (h : ∀ c, k c = some r → LW P N ops rest ((d, .int .u64 (c.toNat : Int)) :: F) w K) : LW P N ops (⟨some d, .binOp .shr t x y t', ty, pos, af, g⟩ :: rest) F w K := by
 obtain ⟨q, hq, hk⟩ := bnd_some hm
 unfold Gk.shr64 at hq
 split at hq
 ·cases hq
 ·rename_i hb
  simp at hq
  subst hq
  have e : ((a.toNat : Int) / 2 ^ min n.toNat 64) = ((UInt64.ofNat (a.toNat / 2 ^ min n.toNat 64)).toNat : Int) := by
   have h1 := a.toNat_lt
   have h2 : a.toNat / 2 ^ min n.toNat 64 ≤ a.toNat := Nat.div_le_self _ _
   simp only [UInt64.toNat_ofNat']
   rw [Nat.mod_eq_of_lt (by omega)]
   simp
  exact LW.val rfl hw rfl hdN (fun _ ha => run_bin _ _ _ (ha.eval hx) (ha.eval hy) rfl (by rw [binOp_shr, shift_shr_any _ _ _ _ (by omega)]; simp only [IntKind.bits, e]; simp)) (h _ hk)
end
theorem LW.eqb {a b : Bool} {k : Bool → Option α} (hm : letm (a == b) k = some r) (hT : P.underlying t = some .bool) (hw : Wn ops F g) (hdN : Nat.blt d N = true) (hx : ev F x = some (.bool a)) (hy : ev F y = some (.bool b))
  (h : ∀ c, k c = some r → LW P N ops rest ((d, .bool c) :: F) w K) : LW P N ops (⟨some d, .binOp .eql t x y t', ty, pos, af, g⟩ :: rest) F w K :=
 LW.val rfl hw rfl hdN (fun _ ha => run_bin _ _ _ (ha.eval hx) (ha.eval hy) (by simp [eqGuard_at_bool]) (run_eql_bool w t a b hT)) (h _ hm)
theorem LW.neb {a b : Bool} {k : Bool → Option α} (hm : letm (a != b) k = some r) (hT : P.underlying t = some .bool) (hw : Wn ops F g) (hdN : Nat.blt d N = true) (hx : ev F x = some (.bool a)) (hy : ev F y = some (.bool b))
  (h : ∀ c, k c = some r → LW P N ops rest ((d, .bool c) :: F) w K) : LW P N ops (⟨some d, .binOp .neq t x y t', ty, pos, af, g⟩ :: rest) F w K :=
 LW.val rfl hw rfl hdN (fun _ ha => run_bin _ _ _ (ha.eval hx) (ha.eval hy) (by simp [eqGuard_at_bool]) (run_neq_bool w t a b hT)) (h _ hm)
theorem bytes_toList (l : List UInt8) : (ByteArray.mk l.toArray).toList = l := by
 simp
theorem LW.b2s {oa : Option Addr} {c : Nat} {xs : List UInt8} (s : SL Rep.u8 lab w oa c xs) (hS : P.underlying S = some (.slice E)) (hE : P.underlying E = some (.int .u8)) (hT : P.underlying T = some .string) (hw : Wn ops F g) (hdN : Nat.blt d N = true)
  (hx : ev F x = some (.slice oa xs.length c)) (h : LW P N ops rest ((d, strV xs) :: F) w K) : LW P N ops (⟨some d, .convert S T x, ty, pos, af, g⟩ :: rest) F w K :=
 LW.val rfl hw rfl hdN (fun _ ha => by simp [execOp, ha.eval hx, run_convert_bytes_string w S T E oa _ _ hS hE hT, s.bytes]) h
def cut {β : Type} (xs : List β) (lo hi : Int) : Option (List β) := if 0 ≤ lo ∧ lo ≤ hi ∧ hi ≤ xs.length then some ((xs.take hi.toNat).drop lo.toNat) else none
theorem SL.cut {ρ : Rep β} {oa : Option Addr} {c l h : Nat} {xs : List β} (s : SL ρ lab w oa c xs) (hl : l ≤ h) (hh : h ≤ xs.length) :
  ∃ oa' c', sliced oa l h c ρ.sz = .slice oa' ((xs.take h).drop l).length c' ∧ SL ρ lab w oa' c' ((xs.take h).drop l) := by
 have hc := s.1
 refine ⟨_, _, by unfold sliced; rw [List.length_drop, List.length_take, Nat.min_eq_left hh], ?_⟩
 refine ⟨by simp; omega, by have := s.2.1; omega, fun i e he => ?_⟩
 rw [List.getElem?_drop] at he
 have hlt : l + i < h := by
  rcases Nat.lt_or_ge (l + i) h with hh' | hh'
  ·exact hh'
  ·rw [List.getElem?_eq_none (by simp; omega)] at he; cases he
 rw [List.getElem?_take_of_lt hlt] at he
 obtain ⟨ad, cs, rfl, hr, hat⟩ := s.at_ he
 refine ⟨ad.add (l * ρ.sz), cs, ?_, hr, ?_⟩
 ·rw [if_neg (by omega)]; rfl
 ·rw [add_add', ← Nat.add_mul]; exact hat
theorem cut_some {xs zs : List β} {lo hi : Int} (h : Gk.cut xs lo hi = some zs) : (0 ≤ lo ∧ lo ≤ hi ∧ hi ≤ xs.length) ∧ zs = (xs.take hi.toNat).drop lo.toNat := by
 unfold Gk.cut at h
 split at h
 ·exact ⟨by assumption, by simpa using h.symm⟩
 ·cases h
section
variable {ρ : Rep β} {oa : Option Addr} {c nb : Nat} {xs : List β} {k : List β → Option α} {zv : Value} {lo hi : Int} {kl kh : IntKind}
theorem TySl.elem {n : Nat} (hT : TySl P T E n nb zv) : P.underlying T = some (.slice (P.elem T)) ∧ P.elem T = E := by
 have h := hT.und
 have : P.elem T = E := by unfold Program.elem; rw [h]
 rw [this]; exact ⟨h, rfl⟩
theorem TySl.sizeOf {n : Nat} (hT : TySl P T E n nb zv) (w : World) : (Go.sizeOf E).run P w = .ok n w := by
 obtain ⟨i, hi, _, hs, _⟩ := hT.info
 simp [Go.sizeOf, typeInfo, hi, hs]
theorem LW.slice_lh (hm : bnd (cut xs lo hi) k = some r) (s : SL ρ lab w oa c xs) (hT : TySl P T E ρ.sz nb zv) (hw : Wn ops F g) (hdN : Nat.blt d N = true) (hx : ev F x = some (.slice oa xs.length c)) (hy : ev F y = some (.int kl lo)) (hz : ev F z = some (.int kh hi))
  (h : ∀ zs oa' c', k zs = some r → SL ρ lab w oa' c' zs → LW P N ops rest ((d, .slice oa' zs.length c') :: F) w K) : LW P N ops (⟨some d, .slice T x (some y) (some z) none, ty, pos, af, g⟩ :: rest) F w K := by
 obtain ⟨zs, hz', hk⟩ := bnd_some hm
 obtain ⟨⟨h1, h2, h3⟩, rfl⟩ := cut_some hz'
 have hc := s.1
 obtain ⟨oa', c', he, hs⟩ := s.cut (l := lo.toNat) (h := hi.toNat) (by omega) (by omega)
 have hE := hT.elem
 refine LW.val rfl hw rfl hdN (fun a ha => ?_) (h _ _ _ hk hs)
 have := run_slice_lh (P := P) w T oa xs.length c hE.1 kl kh lo hi h1 h2 (by omega)
 simp only [execOp, ha.eval hx, Option.map_some, Option.map_none, ha.eval hy, ha.eval hz, run_sliceAt_slice w T _ _ _ _ hE.1, this, hE.2, hT.sizeOf, Sem.run_bind, Result.andThen_ok, he, Sem.run_pure]
theorem LW.slice_h (hm : bnd (cut xs 0 hi) k = some r) (s : SL ρ lab w oa c xs) (hT : TySl P T E ρ.sz nb zv) (hw : Wn ops F g) (hdN : Nat.blt d N = true) (hx : ev F x = some (.slice oa xs.length c)) (hz : ev F z = some (.int kh hi))
  (h : ∀ zs oa' c', k zs = some r → SL ρ lab w oa' c' zs → LW P N ops rest ((d, .slice oa' zs.length c') :: F) w K) : LW P N ops (⟨some d, .slice T x none (some z) none, ty, pos, af, g⟩ :: rest) F w K := by
 obtain ⟨zs, hz', hk⟩ := bnd_some hm
 obtain ⟨⟨h1, h2, h3⟩, rfl⟩ := cut_some hz'
 have hc := s.1
 obtain ⟨oa', c', he, hs⟩ := s.cut (l := 0) (h := hi.toNat) (by omega) (by omega)
 have hE := hT.elem
 refine LW.val rfl hw rfl hdN (fun a ha => ?_) (h _ _ _ hk hs)
 have := run_slice_h (P := P) w T oa xs.length c hE.1 kh hi h2 (by omega)
 simp only [execOp, ha.eval hx, Option.map_some, Option.map_none, ha.eval hz, run_sliceAt_slice w T _ _ _ _ hE.1, this, hE.2, hT.sizeOf, Sem.run_bind, Result.andThen_ok, he, Sem.run_pure, Int.toNat_zero]
theorem LW.slice_l (hm : bnd (cut xs lo xs.length) k = some r) (s : SL ρ lab w oa c xs) (hT : TySl P T E ρ.sz nb zv) (hw : Wn ops F g) (hdN : Nat.blt d N = true) (hx : ev F x = some (.slice oa xs.length c)) (hy : ev F y = some (.int kl lo))
  (h : ∀ zs oa' c', k zs = some r → SL ρ lab w oa' c' zs → LW P N ops rest ((d, .slice oa' zs.length c') :: F) w K) : LW P N ops (⟨some d, .slice T x (some y) none none, ty, pos, af, g⟩ :: rest) F w K := by
 obtain ⟨zs, hz', hk⟩ := bnd_some hm
 obtain ⟨⟨h1, h2, h3⟩, rfl⟩ := cut_some hz'
 obtain ⟨oa', c', he, hs⟩ := s.cut (l := lo.toNat) (h := xs.length) (by omega) (by omega)
 have hE := hT.elem
 refine LW.val rfl hw rfl hdN (fun a ha => ?_) (h _ _ _ hk hs)
 have := run_slice_l (P := P) w T oa xs.length c hE.1 kl lo h1 (by omega)
 simp only [execOp, ha.eval hx, Option.map_some, Option.map_none, ha.eval hy, run_sliceAt_slice w T _ _ _ _ hE.1, this, hE.2, hT.sizeOf, Sem.run_bind, Result.andThen_ok, Sem.run_pure]
 simp only [Int.toNat_natCast] at he ⊢
 rw [he]
end
def Rv (P : Program) (F : List (Nat × Value)) (w : World) : ResultVar → Value → Prop
 | .tmp t, v => look F t = some v
 | .cell t T, v => ∃ p, look F t = some (.pointer (some p)) ∧ (loadVar T p).run P w = .ok v w
def Rvs (P : Program) (F : List (Nat × Value)) (w : World) : List ResultVar → List Value → Prop
 | [], [] => True
 | q :: qs, v :: vs => Rv P F w q v ∧ Rvs P F w qs vs
 | _, _ => False
def rvS (tmps : Array Value) (q : ResultVar) : Sem Value :=
 match q with
 | .tmp t => pure (tmps.getD t undef)
 | .cell p T => do loadVar T (← asAddr (tmps.getD p undef))
theorem results_eq (fn : Func) (tmps : Array Value) : results fn tmps = (do let vs ← fn.results.mapM (rvS tmps); pure (if h : vs.size = 1 then vs[0] else .tuple vs)) := by
 unfold results
 congr 1
theorem Rvs.run {a : Act} (ha : Sat F N a) : ∀ {qs : List ResultVar} {vs : List Value}, Rvs P F w qs vs → (qs.mapM (rvS a.tmps)).run P w = .ok vs w
 | [], [], _ => by simp
 | q :: qs, v :: vs, ⟨h1, h2⟩ => by
  have ih := Rvs.run ha h2
  have h0 : (rvS a.tmps q).run P w = .ok v w := by
   cases q with
   | tmp t =>
    have := ha.get _ _ h1
    simp [rvS, Array.getD_eq_getD_getElem?, this]
   | cell t T =>
    obtain ⟨p, h3, h4⟩ := h1
    have := ha.get _ _ h3
    have e : a.tmps.getD t undef = .pointer (some p) := by simp [Array.getD_eq_getD_getElem?, this]
    simp [rvS, e, asAddr, h4]
  rw [List.mapM_cons]
  simp only [Sem.run_bind, h0, Result.andThen_ok, ih, Sem.run_pure]
theorem EW.rets {fn : Func} {R : Ending → World → Prop} {qs : List ResultVar} {vs : List Value} (hr : fn.results = qs.toArray) (hv : Rvs P F w qs vs) (hn : (vs.length == 1) = false) (h : R (.returned (.tuple vs.toArray)) w) : EW N .ret F w (bodyPost P fn R) := fun a ha => by
 refine bodyPost_ret (v := .tuple vs.toArray) ?_ ha.defers h
 have := hv.run ha
 have hne : ¬ vs.length = 1 := by simpa using hn
 rw [results_eq, hr, Array.mapM_eq_mapM_toList]
 simp only [Sem.run_bind, Sem.run_map, this, Result.andThen_ok]
 simp [hne]
theorem EW.retc {fn : Func} {R : Ending → World → Prop} {q : ResultVar} (hr : fn.results = #[q]) (hv : Rv P F w q v) (h : R (.returned v) w) : EW N .ret F w (bodyPost P fn R) := fun a ha => by
 refine bodyPost_ret (v := v) ?_ ha.defers h
 have := Rvs.run (P := P) (w := w) (qs := [q]) (vs := [v]) ha ⟨hv, trivial⟩
 rw [results_eq, hr, Array.mapM_eq_mapM_toList]
 simp only [Sem.run_bind, Sem.run_map, this, Result.andThen_ok]
 simp
theorem Box.rv {k G n : Nat} {T T' : TypeId} {cs : List Value} {s : Nat} (b : Box lab w k G T' cs) (hT : TyAgg P T n) (hn : Nat.beq cs.length n = true) (hs : look F s = some (.pointer (some ⟨G, 0, none⟩))) : Rv P F w (.cell s T) (.agg cs.toArray) := by
 refine ⟨_, hs, ?_⟩
 have := run_loadn (w := w) hT (p := ⟨G, 0, none⟩) cs (Nat.eq_of_beq_eq_true hn) (fun j u hj => by rw [add_lit0, Nat.zero_add, b.cell]; exact hj)
 simpa [Instr.loadAt, Instr.sureAddr] using this
end
end Go.Gk
