/-
  The evaluator's operations on values, and that they are the model's. Over whatever program; no condition.
-/
import Derived.Test.YtbfkbakadpkgoaaGreatDoorYInt
namespace Go.Gk
open Go.RowKit
inductive OpRes : Type 1 where
 | ret (o : Out)
 | letm (τ : Type) (e : τ) (k : τ → OpRes)
 | bnd (τ : Type) (m : Option τ) (k : τ → OpRes)
 | cnd (b : Bool) (x y : OpRes)
 | stuck
def hi : Nat := let _f := @setAt; 0
noncomputable def OpRes.go {R : Type} (r : OpRes) : (Out → Option R) → Option R :=
 (fun _ => OpRes.rec (motive := fun _ => (Out → Option R) → Option R) (fun o K => K o) (fun _ e _ ih K => Gk.letm e fun x => ih x K) (fun _ m _ ih K => Gk.bnd m fun x => ih x K) (fun b _ _ ih1 ih2 K => cond b (ih1 K) (ih2 K)) (fun _ => none) r) hi
inductive Res : OpRes → Out → Prop where
 | ret {o} : Res (.ret o) o
 | letm {τ e k o} : Res (k e) o → Res (.letm τ e k) o
 | bnd {τ m k o x} : m = some x → Res (k x) o → Res (.bnd τ m k) o
 | t {x y o} : Res x o → Res (.cnd true x y) o
 | f {x y o} : Res y o → Res (.cnd false x y) o
theorem go_some {R : Type} {q : R} : ∀ {r : OpRes} {K : Out → Option R}, r.go K = some q → ∃ o, Res r o ∧ K o = some q := by
 intro r
 induction r with
 | ret o => exact fun h => ⟨o, .ret, h⟩
 | letm τ e k ih => intro K h; obtain ⟨o, h1, h2⟩ := ih e h; exact ⟨o, .letm h1, h2⟩
 | bnd τ m k ih => intro K h; obtain ⟨x, hx, h⟩ := bnd_some h; obtain ⟨o, h1, h2⟩ := ih x h; exact ⟨o, .bnd hx h1, h2⟩
 | cnd b x y ihx ihy =>
  intro K h
  cases b with
  | true => obtain ⟨o, h1, h2⟩ := ihx h; exact ⟨o, .t h1, h2⟩
  | false => obtain ⟨o, h1, h2⟩ := ihy h; exact ⟨o, .f h1, h2⟩
 | stuck => intro K h; cases h
theorem Res.ret_eq {o o' : Out} (h : Res (.ret o) o') : o' = o := by cases h; rfl
abbrev RA := SV × Option MEnt
def idOf : SV → Nat
 | .agh _ _ _ id => id | .clb _ id => id | .mp id => id | .ptr id _ => id | .own id => id | .eptr id _ _ => id | .rix id => id | .rlen id => id | .rsl id => id | .rnx id => id | .rcn id => id | _ => 0
def AOK (e : Env) (lab : Lab) (w : World) (a : RA) (v : Value) : Prop := RV e a.1 lab w v ∧ ∀ m, a.2 = some m → MemOK e lab w (idOf a.1) m
def asDat : RA → Option ((t : PT) × den t)
 | (.dat t x, _) => some ⟨t, x⟩
 | (.agn t x _, _) => some ⟨t, x⟩
 | (.rix _, some (.rgi _ _ _ k _)) => some ⟨.int .i64, (k : Int)⟩
 | (.rlen _, some (.rgh _ xs)) => some ⟨.int .i64, (xs.length : Int)⟩
 | (.rsl _, some (.rgh t xs)) => some ⟨.sl t, xs⟩
 | (.rnx _, some (.rgi _ _ _ k _)) => some ⟨.int .i64, ((k + 1 : Nat) : Int)⟩
 | (.rix _, some (.rgj _ _ k _)) => some ⟨.int .i64, (k : Int)⟩
 | (.rnx _, some (.rgj _ _ k _)) => some ⟨.int .i64, ((k + 1 : Nat) : Int)⟩
 | (.rcn _, some (.rgc n)) => some ⟨.int .i64, n⟩
 | _ => none
def nilT : (t : PT) → Option (den t)
 | .sl _ => some []
 | _ => none
def asT (t : PT) (a : RA) : Option (den t) :=
 match a.1 with
 | .nil => nilT t
 | _ => match asDat a with
  | some ⟨u, x⟩ => castT u t x
  | none => none
def o1 (sv : SV) : Out := ⟨sv, [], [], []⟩
section
variable {e : Env} {lab : Lab} {w : World} {v : Value}
theorem sig_len {a t : PT} {l : List (den a)} {xs : List (den t)} (h : (⟨a, l⟩ : (t : PT) × List (den t)) = ⟨t, xs⟩) : l.length = xs.length := by cases h; rfl
theorem sig_sl {a t : PT} {l : List (den a)} {xs : List (den t)} {oa : Option Addr} {c : Nat} (h : (⟨a, l⟩ : (t : PT) × List (den t)) = ⟨t, xs⟩) (s : SL (rep a) lab w oa c l) : SL (rep t) lab w oa c xs := by cases h; exact s
theorem asDat_ok {a : RA} {t : PT} {x : den t} (h : AOK e lab w a v) (ha : asDat a = some ⟨t, x⟩) : Dat t x lab w v := by
 obtain ⟨sv, m⟩ := a
 obtain ⟨h1, h2⟩ := h
 unfold asDat at ha
 split at ha
 ·rename_i heq
  injection heq with e1 e2; subst e1
  cases ha; exact h1
 ·rename_i heq
  injection heq with e1 e2; subst e1
  cases ha; exact h1.1
 ·rename_i id q t' xs k ox heq
  injection heq with e1 e2; subst e1 e2
  cases ha
  obtain ⟨h3, _⟩ := h2 _ rfl
  have h1 : v = .int .i64 ((e id).n : Int) := h1
  have h3 : (e id).n = k := h3
  subst h3 h1
  exact Dat.ofInt (k := .i64) _
 ·rename_i id t' xs heq
  injection heq with e1 e2; subst e1 e2
  cases ha
  obtain ⟨h3, _⟩ := h2 _ rfl
  have h1 : v = .int .i64 ((e id).ls.length : Int) := h1
  have h4 : (e id).ls.length = xs.length := sig_len h3
  rw [h4] at h1
  subst h1
  exact Dat.ofInt (k := .i64) _
 ·rename_i id t' xs heq
  injection heq with e1 e2; subst e1 e2
  cases ha
  obtain ⟨h3, _⟩ := h2 _ rfl
  obtain ⟨oa, c, h1, h4⟩ := h1
  have h5 : (e id).ls.length = xs.length := sig_len h3
  rw [h5] at h1
  subst h1
  exact Dat.ofSl (sig_sl h3 h4)
 ·rename_i id q t' xs k ox heq
  injection heq with e1 e2; subst e1 e2
  cases ha
  obtain ⟨h3, _⟩ := h2 _ rfl
  have h1 : v = .int .i64 (((e id).n + 1 : Nat) : Int) := h1
  have h3 : (e id).n = k := h3
  subst h3 h1
  exact Dat.ofInt (k := .i64) _
 ·rename_i id q n k more heq
  injection heq with e1 e2; subst e1 e2
  cases ha
  obtain ⟨h3, _⟩ := h2 _ rfl
  have h1 : v = .int .i64 ((e id).n : Int) := h1
  have h3 : (e id).n = k := h3
  subst h3 h1
  exact Dat.ofInt (k := .i64) _
 ·rename_i id q n k more heq
  injection heq with e1 e2; subst e1 e2
  cases ha
  obtain ⟨h3, _⟩ := h2 _ rfl
  have h1 : v = .int .i64 (((e id).n + 1 : Nat) : Int) := h1
  have h3 : (e id).n = k := h3
  subst h3 h1
  exact Dat.ofInt (k := .i64) _
 ·rename_i id n heq
  injection heq with e1 e2; subst e1 e2
  cases ha
  have h3 : (e id).z = _ := h2 _ rfl
  have h1 : v = .int .i64 (e id).z := h1
  rw [h3] at h1
  subst h1
  exact Dat.ofInt (k := .i64) _
 ·cases ha
theorem asT_ok {a : RA} {t : PT} {x : den t} (h : AOK e lab w a v) (ha : asT t a = some x) : Dat t x lab w v := by
 unfold asT at ha
 split at ha
 ·rename_i heq
  have h1 := h.1
  rw [heq] at h1
  have h1 : v = .slice none 0 0 := h1
  subst h1
  cases t <;> first | (simp [nilT] at ha; done) | skip
  cases ha
  exact Dat.ofSl SL.nil
 ·split at ha
  ·rename_i u y heq
   obtain ⟨rfl, rfl⟩ := castT_some ha
   exact asDat_ok h heq
  ·cases ha
end
def Fin (N : Nat) (F : List (Nat × Value)) (e : Env) (nid : Nat) (lab : Lab) (w : World) (d : Option Nat) (o : Out) : Kont :=
 fun ex a w' => ex = .normal ∧ ∃ e' lab' v, Sat (upF F d v) N a ∧ OpPost N F e nid lab w d o e' lab' w' v
section
variable {P : Program} {N : Nat} {ops : Array Oper} {F : List (Nat × Value)} {w w' : World} {e : Env} {lab lab' : Lab} {nid : Nat} {d : Nat} {v : Value}
theorem fin_val {sv : SV} (t : Top lab w) (h : RV e sv lab w v) : LW P N ops [] ((d, v) :: F) w (Fin N F e nid lab w (some d) (o1 sv)) :=
 LW.nil fun a ha => ⟨rfl, e, lab, v, ha, fun _ _ => rfl, Stp.refl t, h, fun p hp => by simp [o1] at hp, fun p hp => by simp [o1] at hp⟩
theorem fin_ste {sv : SV} (s : Ste lab 0 w lab' w') (h : RV e sv lab' w' v) : LW P N ops [] ((d, v) :: F) w' (Fin N F e nid lab w (some d) (o1 sv)) :=
 LW.nil fun a ha => ⟨rfl, e, lab', v, ha, fun _ _ => rfl, s.stp (.inr rfl), h, fun p hp => by simp [o1] at hp, fun p hp => by simp [o1] at hp⟩
end
def cmpI (o : BinOp) (a b : Int) : Option Bool :=
 match o with
 | .eql => some (a == b) | .neq => some (a != b) | .lss => some (decide (a < b)) | .leq => some (decide (a ≤ b)) | .gtr => some (decide (b < a)) | .geq => some (decide (b ≤ a)) | _ => none
def retI (k : IntKind) (x : kden k) : OpRes := .ret (o1 (.dat (.int k) x))
def retB (b : Bool) : OpRes := .ret (o1 (.dat .bool b))
def binI (o : BinOp) (k : IntKind) (a : kden k) (k' : IntKind) (b : kden k') : OpRes :=
 match o with
 | .shl => .bnd _ (shlK k a (toI k' b)) (retI k)
 | .shr => .bnd _ (shrK k a (toI k' b)) (retI k)
 | _ => if h : IntKind.eqb k' k = true then
   let b := IntKind.eqb_eq h ▸ b
   match o with
   | .add => .letm _ (addK k a b) (retI k)
   | .sub => .letm _ (subK k a b) (retI k)
   | .mul => .letm _ (mulK k a b) (retI k)
   | .quo => .bnd _ (quoK k a b) (retI k)
   | .rem => .bnd _ (remK k a b) (retI k)
   | .and => .letm _ (bitK .and k a b) (retI k)
   | .or => .letm _ (bitK .or k a b) (retI k)
   | .xor => .letm _ (bitK .xor k a b) (retI k)
   | .andNot => .letm _ (bitK .andNot k a b) (retI k)
   | o => match cmpI o (toI k a) (toI k b) with
    | some c => .letm _ c retB
    | none => .stuck
  else .stuck
theorem mod_u8 (a b : UInt8) (h : b.toNat ≠ 0) : (((a % b).toNat : Nat) : Int) = ((a.toNat : Int)).tmod (b.toNat : Int) := by
 rw [UInt8.toNat_mod, ← Int.ofNat_tmod]
theorem mod_u64 (a b : UInt64) (h : b.toNat ≠ 0) : (((a % b).toNat : Nat) : Int) = ((a.toNat : Int)).tmod (b.toNat : Int) := by
 rw [UInt64.toNat_mod, ← Int.ofNat_tmod]
theorem mod_u32 (a b : UInt32) (h : b.toNat ≠ 0) : (((a % b).toNat : Nat) : Int) = ((a.toNat : Int)).tmod (b.toNat : Int) := by
 rw [UInt32.toNat_mod, ← Int.ofNat_tmod]
theorem quo_wrap (k : IntKind) (a b : kden k) {q : kden k} (h : quoK k a b = some q) : toI k b ≠ 0 ∧ toI k q = k.wrap ((toI k a).tdiv (toI k b)) := by
 cases k with
 | i64 =>
  have h : quo a b = some q := h
  unfold quo at h
  split at h
  ·cases h
  ·rename_i hb; cases h; exact ⟨hb, rfl⟩
 | _ =>
  unfold quoK at h
  simp only at h
  split at h
  ·cases h
  ·rename_i hb; cases h; exact ⟨hb, toI_fromI _ _⟩
theorem rem_tmod (k : IntKind) (a b : kden k) {q : kden k} (h : remK k a b = some q) : toI k b ≠ 0 ∧ toI k q = (toI k a).tmod (toI k b) := by
 have key : ∀ {x y z : Int}, Gk.rem x y = some z → y ≠ 0 ∧ z = x.tmod y := fun h => by
  unfold Gk.rem at h
  split at h
  ·cases h
  ·rename_i hb; cases h; exact ⟨hb, rfl⟩
 cases k with
 | u8 =>
  unfold remK at h; simp only at h
  split at h
  ·cases h
  ·rename_i hb; cases h
   exact ⟨fun h => hb (by have h : ((UInt8.toNat b : Nat) : Int) = 0 := h; omega), mod_u8 a b hb⟩
 | u64 =>
  unfold remK at h; simp only at h
  split at h
  ·cases h
  ·rename_i hb; cases h
   exact ⟨fun h => hb (by have h : ((UInt64.toNat b : Nat) : Int) = 0 := h; omega), mod_u64 a b hb⟩
 | u32 =>
  unfold remK at h; simp only at h
  split at h
  ·cases h
  ·rename_i hb; cases h
   exact ⟨fun h => hb (by have h : ((UInt32.toNat b : Nat) : Int) = 0 := h; omega), mod_u32 a b hb⟩
 | _ => exact key h
theorem shl_wrap (k : IntKind) (a : kden k) {n : Int} {q : kden k} (h : shlK k a n = some q) : 0 ≤ n ∧ toI k q = k.wrap (toI k a * 2 ^ min n.toNat k.bits) := by
 cases k with
 | i64 =>
  have h : Gk.shl a n = some q := h
  unfold Gk.shl at h
  split at h
  ·cases h
  ·rename_i hb; cases h; exact ⟨by omega, rfl⟩
 | _ =>
  unfold shlK at h
  simp only at h
  split at h
  ·cases h
  ·rename_i hb; cases h; exact ⟨by omega, toI_fromI _ _⟩
theorem shr_pos {n m : Nat} {x : Int} (h0 : 0 ≤ x) (hx : x < m) : 0 ≤ x / 2 ^ n ∧ x / 2 ^ n < m := by
 have hp : (0 : Int) < 2 ^ n := Int.pow_pos (by decide)
 have h1 := Int.ediv_nonneg h0 (Int.le_of_lt hp)
 have h2 := Int.ediv_le_self (2 ^ n) h0
 omega
theorem shr_div (k : IntKind) (a : kden k) {n : Int} {q : kden k} (h : shrK k a n = some q) : 0 ≤ n ∧ toI k q = toI k a / 2 ^ min n.toNat k.bits := by
 cases k with
 | i64 =>
  have h : Gk.shr a n = some q := h
  unfold Gk.shr at h
  split at h
  ·cases h
  ·rename_i hb; cases h; exact ⟨by omega, rfl⟩
 | u64 =>
  have h : shr64 a n = some q := h
  unfold shr64 at h
  split at h
  ·cases h
  ·rename_i hb
   cases h
   refine ⟨by omega, ?_⟩
   show (((UInt64.ofNat (UInt64.toNat a / 2 ^ min n.toNat 64)).toNat : Nat) : Int) = ((UInt64.toNat a : Nat) : Int) / 2 ^ min n.toNat 64
   have hle := Nat.div_le_self (UInt64.toNat a) (2 ^ min n.toNat 64)
   have hlt := UInt64.toNat_lt a
   rw [UInt64.toNat_ofNat_of_lt' (by show _ < 2 ^ 64; omega)]
   simp
 | u8 =>
  unfold shrK at h; simp only at h
  split at h
  ·cases h
  ·rename_i hb; cases h
   refine ⟨by omega, ?_⟩
   show (((toU8 ((UInt8.toNat a : Int) / 2 ^ min n.toNat 8)).toNat : Nat) : Int) = _
   have hlt := UInt8.toNat_lt a
   obtain ⟨h1, h2⟩ := shr_pos (n := min n.toNat 8) (m := 256) (x := (UInt8.toNat a : Int)) (by omega) (by omega)
   rw [← wrap_u8, IntWalk.u8_in _ ⟨h1, by omega⟩]; rfl
 | u32 =>
  unfold shrK at h; simp only at h
  split at h
  ·cases h
  ·rename_i hb; cases h
   refine ⟨by omega, ?_⟩
   show (((toU32 ((UInt32.toNat a : Int) / 2 ^ min n.toNat 32)).toNat : Nat) : Int) = _
   have hlt := UInt32.toNat_lt a
   obtain ⟨h1, h2⟩ := shr_pos (n := min n.toNat 32) (m := 4294967296) (x := (UInt32.toNat a : Int)) (by omega) (by omega)
   rw [← wrap_u32, IntWalk.u32_in _ ⟨h1, by omega⟩]; rfl
 | _ =>
  unfold shrK at h; simp only at h
  split at h
  ·cases h
  ·rename_i hb; cases h; exact ⟨by omega, rfl⟩
theorem binI_ok {P : Program} {e : Env} {lab : Lab} {w : World} {o : BinOp} {t : TypeId} {k k' : IntKind} {a : kden k} {b : kden k'} {out : Out} (h : Res (binI o k a k' b) out) :
  ∃ v sv, out = o1 sv ∧ RV e sv lab w v ∧ (binOp o t (.int k (toI k a)) (.int k' (toI k' b))).run P w = .ok v w := by
 have rI : ∀ {x : kden k}, Res (retI k x) out → out = o1 (.dat (.int k) x) := fun h => Res.ret_eq h
 have rB : ∀ {x : Bool}, Res (retB x) out → out = o1 (.dat .bool x) := fun h => Res.ret_eq h
 by_cases hs : o = .shl
 ·subst hs
  cases h with
  | bnd hx h =>
   obtain ⟨h1, h2⟩ := shl_wrap k a hx
   exact ⟨_, _, rI h, Dat.ofInt _, by rw [binOp_shl, shift_shl_any _ _ _ _ h1, h2]; rfl⟩
 by_cases hr : o = .shr
 ·subst hr
  cases h with
  | bnd hx h =>
   obtain ⟨h1, h2⟩ := shr_div k a hx
   exact ⟨_, _, rI h, Dat.ofInt _, by rw [binOp_shr, shift_shr_any _ _ _ _ h1, h2]; rfl⟩
 have h' : ∃ hk : IntKind.eqb k' k = true, True := by
  unfold binI at h
  cases o <;> first | exact absurd rfl hs | exact absurd rfl hr | (simp only at h; split at h; (exact ⟨by assumption, trivial⟩); cases h)
 obtain ⟨hk, _⟩ := h'
 have := IntKind.eqb_eq hk
 subst this
 unfold binI at h
 simp only [hk, dite_true] at h
 cases o with
 | shl => exact absurd rfl hs
 | shr => exact absurd rfl hr
 | add => cases h with | letm h => exact ⟨_, _, rI h, Dat.ofInt _, by rw [toI_addK]; simp [binOp, Op.intArith]⟩
 | sub => cases h with | letm h => exact ⟨_, _, rI h, Dat.ofInt _, by rw [toI_subK]; simp [binOp, Op.intArith]⟩
 | mul => cases h with | letm h => exact ⟨_, _, rI h, Dat.ofInt _, by rw [toI_mulK]; simp [binOp, Op.intArith]⟩
 | quo => cases h with | bnd hx h => obtain ⟨h1, h2⟩ := quo_wrap _ _ _ hx; exact ⟨_, _, rI h, Dat.ofInt _, by rw [h2]; simp [binOp, Op.intDiv, h1]⟩
 | rem => cases h with | bnd hx h => obtain ⟨h1, h2⟩ := rem_tmod _ _ _ hx; exact ⟨_, _, rI h, Dat.ofInt _, by rw [h2]; simp [binOp, Op.intDiv, h1]⟩
 | and => cases h with | letm h => exact ⟨_, _, rI h, Dat.ofInt _, by rw [toI_bitK, binOp_and, intBits_and]; rfl⟩
 | or => cases h with | letm h => exact ⟨_, _, rI h, Dat.ofInt _, by rw [toI_bitK, binOp_or, intBits_or]; rfl⟩
 | xor => cases h with | letm h => exact ⟨_, _, rI h, Dat.ofInt _, by rw [toI_bitK, binOp_xor, intBits_xor]; rfl⟩
 | andNot => cases h with | letm h => exact ⟨_, _, rI h, Dat.ofInt _, by rw [toI_bitK, binOp_andNot, intBits_andNot]; rfl⟩
 | eql => cases h with | letm h => exact ⟨_, _, rB h, Dat.ofBool _, by rw [binOp_eql]; rfl⟩
 | neq => cases h with | letm h => exact ⟨_, _, rB h, Dat.ofBool _, by rw [binOp_neq]; rfl⟩
 | lss => cases h with | letm h => exact ⟨_, _, rB h, Dat.ofBool _, by rw [binOp_lss]; rfl⟩
 | leq => cases h with | letm h => exact ⟨_, _, rB h, Dat.ofBool _, by rw [binOp_leq]; rfl⟩
 | gtr => cases h with | letm h => exact ⟨_, _, rB h, Dat.ofBool _, by rw [binOp_gtr]; rfl⟩
 | geq => cases h with | letm h => exact ⟨_, _, rB h, Dat.ofBool _, by rw [binOp_geq]; rfl⟩
end Go.Gk
