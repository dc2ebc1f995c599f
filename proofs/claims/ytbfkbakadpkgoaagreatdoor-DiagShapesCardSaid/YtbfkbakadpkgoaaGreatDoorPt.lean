/-
  The types of the evaluator's values, and what stands for them in memory. Over whatever program; no condition.
-/
import Derived.Test.YtbfkbakadpkgoaaGreatDoorRow
namespace Go.Gk
open Go.RowKit
inductive PT where
 | int (k : IntKind) | bool | str | sl (t : PT) | pr (a b : PT) | st (t : PT) | un | cp (t : PT) | clo (f : Nat) (t : PT) | tree | err | fl
inductive Tr where
 | mk (k : Int) (n : UInt64) (b : List UInt8) (l : List Tr)
def Tr.k : Tr → Int
 | .mk k _ _ _ => k
def Tr.n : Tr → UInt64
 | .mk _ n _ _ => n
def Tr.b : Tr → List UInt8
 | .mk _ _ b _ => b
def Tr.l : Tr → List Tr
 | .mk _ _ _ l => l
def kden : IntKind → Type
 | .u8 => UInt8 | .u64 => UInt64 | .u32 => UInt32 | .i64 => Int | .i32 => Int | .i16 => Int | .i8 => Int | .u16 => Int
def den : PT → Type
 | .int k => kden k | .bool => Bool | .str => List UInt8 | .sl t => List (den t) | .pr a b => den a × den b | .st t => den t | .un => Unit | .cp t => Option (den t) | .clo _ t => Option (den t) | .tree => Tr | .err => Bool | .fl => UInt64
def toI : (k : IntKind) → kden k → Int
 | .u8, x => (UInt8.toNat x : Int) | .u64, x => (UInt64.toNat x : Int) | .u32, x => (UInt32.toNat x : Int) | .i64, x => x | .i32, x => x | .i16, x => x | .i8, x => x | .u16, x => x
def fromI : (k : IntKind) → Int → kden k
 | .u8, n => toU8 n | .u64, n => toU64 n | .u32, n => toU32 n | .i64, n => w64 n | .i32, n => IntKind.i32.wrap n | .i16, n => IntKind.i16.wrap n | .i8, n => IntKind.i8.wrap n | .u16, n => IntKind.u16.wrap n
theorem toI_fromI (k : IntKind) (n : Int) : toI k (fromI k n) = k.wrap n := by
 cases k <;> first | rfl | exact (wrap_u8 n).symm | exact (wrap_u32 n).symm | exact (wrap_u64 n).symm
def Rep.kd (k : IntKind) : Rep (kden k) where
 sz := 1
 rd := fun _ _ cs x => cs = [.int k (toI k x)]
 len := fun h => by rw [h]; rfl
 one := fun h u hu => by rw [h] at hu; simp at hu; rw [hu]; rfl
 keep := fun _ h => h
def Rep.pr {α β : Type} (ρ : Rep α) (σ : Rep β) : Rep (α × β) where
 sz := ρ.sz + σ.sz
 rd := fun lab w cs x => ∃ c1 c2, cs = c1 ++ c2 ∧ ρ.rd lab w c1 x.1 ∧ σ.rd lab w c2 x.2
 len := fun ⟨c1, c2, h, h1, h2⟩ => by rw [h, List.length_append, ρ.len h1, σ.len h2]
 one := fun ⟨c1, c2, h, h1, h2⟩ u hu => by
  rw [h] at hu
  rcases List.mem_append.1 hu with hu | hu
  ·exact ρ.one h1 u hu
  ·exact σ.one h2 u hu
 keep := fun hk ⟨c1, c2, h, h1, h2⟩ => ⟨c1, c2, h, ρ.keep hk h1, σ.keep hk h2⟩
def Rep.un : Rep Unit where
 sz := 0
 rd := fun _ _ cs _ => cs = []
 len := fun h => by rw [h]; rfl
 one := fun h u hu => by rw [h] at hu; simp at hu
 keep := fun _ h => h
def Rep.cp {α : Type} (ρ : Rep α) : Rep (Option α) where
 sz := 1
 rd := fun lab w cs x => match x with
  | none => cs = [.pointer none]
  | some y => ∃ q ds, cs = [.pointer (some q)] ∧ At lab w q ds ∧ ρ.rd lab w ds y
 len := fun {lab w cs x} h => by
  cases x with
  | none => rw [show cs = [.pointer none] from h]; rfl
  | some y => obtain ⟨q, ds, h, _⟩ := h; rw [h]; rfl
 one := fun {lab w cs x} h u hu => by
  cases x with
  | none => rw [show cs = [.pointer none] from h] at hu; simp at hu; rw [hu]; rfl
  | some y => obtain ⟨q, ds, h, _⟩ := h; rw [h] at hu; simp at hu; rw [hu]; rfl
 keep := fun {lab w lab' w' cs x} hk h => by
  cases x with
  | none => exact h
  | some y => obtain ⟨q, ds, h1, h2, h3⟩ := h; exact ⟨q, ds, h1, h2.keep hk, ρ.keep hk h3⟩
def Rep.clo {α : Type} (f : Nat) (ρ : Rep α) : Rep (Option α) where
 sz := 1
 rd := fun lab w cs x => match x with
  | none => cs = [.nilFunc]
  | some y => ∃ ps, cs = [.func (.func f) #[] ps.toArray] ∧ ρ.rd lab w ps y
 len := fun {lab w cs x} h => by
  cases x with
  | none => rw [show cs = [.nilFunc] from h]; rfl
  | some y => obtain ⟨ps, h, _⟩ := h; rw [h]; rfl
 one := fun {lab w cs x} h u hu => by
  cases x with
  | none => rw [show cs = [.nilFunc] from h] at hu; simp at hu; rw [hu]; rfl
  | some y => obtain ⟨ps, h, _⟩ := h; rw [h] at hu; simp at hu; rw [hu]; rfl
 keep := fun {lab w lab' w' cs x} hk h => by
  cases x with
  | none => exact h
  | some y => obtain ⟨ps, h1, h2⟩ := h; exact ⟨ps, h1, ρ.keep hk h2⟩
theorem SL.imp {α : Type} {ρ σ : Rep α} {lab : Lab} {w : World} {oa : Option Addr} {c : Nat} {xs : List α} (hz : ρ.sz = σ.sz) (h : ∀ (i : Nat) (x : α) (cs : List Value), xs[i]? = some x → ρ.rd lab w cs x → σ.rd lab w cs x) (s : SL ρ lab w oa c xs) : SL σ lab w oa c xs :=
 ⟨s.1, s.2.1, fun i x hx => by obtain ⟨ad, cs, h1, h2, h3⟩ := s.2.2 i x hx; exact ⟨ad, cs, h1, h i x cs hx h2, by rw [← hz]; exact h3⟩⟩
def Rep.trs (ρ : Rep Tr) : Rep Tr where
 sz := 4
 rd := fun lab w cs x => (Rep.pr (Rep.kd .i64) (Rep.pr (Rep.kd .u64) (Rep.pr (Rep.sl (Rep.kd .u8)) (Rep.sl ρ)))).rd lab w cs (x.k, x.n, x.b, x.l)
 len := fun h => (Rep.pr (Rep.kd .i64) (Rep.pr (Rep.kd .u64) (Rep.pr (Rep.sl (Rep.kd .u8)) (Rep.sl ρ)))).len h
 one := fun h => (Rep.pr (Rep.kd .i64) (Rep.pr (Rep.kd .u64) (Rep.pr (Rep.sl (Rep.kd .u8)) (Rep.sl ρ)))).one h
 keep := fun hk h => (Rep.pr (Rep.kd .i64) (Rep.pr (Rep.kd .u64) (Rep.pr (Rep.sl (Rep.kd .u8)) (Rep.sl ρ)))).keep hk h
def repT : Nat → Rep Tr
 | 0 => ⟨4, fun _ _ _ _ => False, fun h => h.elim, fun h => h.elim, fun _ h => h⟩
 | n + 1 => Rep.trs (repT n)
theorem repT_sz : ∀ n, (repT n).sz = 4
 | 0 => rfl
 | _ + 1 => rfl
theorem trs_imp {ρ σ : Rep Tr} {lab : Lab} {w : World} {cs : List Value} {x : Tr} (hz : ρ.sz = σ.sz) (h : ∀ y ds, y ∈ x.l → ρ.rd lab w ds y → σ.rd lab w ds y) (hx : (Rep.trs ρ).rd lab w cs x) : (Rep.trs σ).rd lab w cs x := by
 obtain ⟨c1, c2, e1, h1, c3, c4, e2, h2, c5, c6, e3, h3, oa, c, e4, h4⟩ := hx
 exact ⟨c1, c2, e1, h1, c3, c4, e2, h2, c5, c6, e3, h3, oa, c, e4, SL.imp hz (fun i y ds hi hy => h y ds (List.mem_of_getElem? hi) hy) h4⟩
theorem repT_up {lab : Lab} {w : World} : ∀ {n : Nat} {cs : List Value} {x : Tr}, (repT n).rd lab w cs x → ∀ {m : Nat}, n ≤ m → (repT m).rd lab w cs x
 | 0, _, _, h, _, _ => h.elim
 | n + 1, cs, x, h, 0, hm => by omega
 | n + 1, cs, x, h, m + 1, hm => trs_imp (ρ := repT n) (σ := repT m) (by rw [repT_sz, repT_sz]) (fun y ds _ hy => repT_up hy (by omega)) h
def Rep.tree : Rep Tr where
 sz := 4
 rd := fun lab w cs x => ∃ n, (repT n).rd lab w cs x
 len := fun ⟨n, h⟩ => by rw [(repT n).len h, repT_sz]
 one := fun ⟨n, h⟩ => (repT n).one h
 keep := fun hk ⟨n, h⟩ => ⟨n, (repT n).keep hk h⟩
theorem max_lev {α : Type} {P : Nat → α → Prop} (up : ∀ n m x, n ≤ m → P n x → P m x) : ∀ (l : List α), (∀ x ∈ l, ∃ n, P n x) → ∃ n, ∀ x ∈ l, P n x
 | [], _ => ⟨0, by simp⟩
 | x :: l, h => by
  obtain ⟨n, hn⟩ := h x (by simp)
  obtain ⟨m, hm⟩ := max_lev up l fun y hy => h y (by simp [hy])
  refine ⟨max n m, fun y hy => ?_⟩
  rcases List.mem_cons.1 hy with rfl | hy
  ·exact up _ _ _ (Nat.le_max_left _ _) hn
  ·exact up _ _ _ (Nat.le_max_right _ _) (hm y hy)
theorem tree_iff {lab : Lab} {w : World} {cs : List Value} {x : Tr} : Rep.tree.rd lab w cs x ↔ (Rep.trs Rep.tree).rd lab w cs x := by
 constructor
 ·rintro ⟨n, h⟩
  cases n with
  | zero => exact h.elim
  | succ n => exact trs_imp (ρ := repT n) (σ := Rep.tree) (repT_sz n) (fun y ds _ hy => ⟨n, hy⟩) h
 ·rintro ⟨c1, c2, e1, h1, c3, c4, e2, h2, c5, c6, e3, h3, oa, c, e4, h4⟩
  obtain ⟨n, hn⟩ := max_lev (P := fun n i => ∀ y, x.l[i]? = some y → ∃ ad ds, oa = some ad ∧ (repT n).rd lab w ds y ∧ At lab w (ad.add (i * 4)) ds) (fun n m i hm h y hy => by
   obtain ⟨ad, ds, a1, a2, a3⟩ := h y hy
   exact ⟨ad, ds, a1, repT_up a2 hm, a3⟩) (List.range x.l.length) fun i hi => by
    have hi := List.mem_range.1 hi
    obtain ⟨ad, ds, a1, ⟨n, a2⟩, a3⟩ := h4.2.2 i x.l[i] (List.getElem?_eq_getElem hi)
    refine ⟨n, fun y hy => ?_⟩
    rw [List.getElem?_eq_getElem hi] at hy
    cases hy
    exact ⟨ad, ds, a1, a2, a3⟩
  refine ⟨n + 1, c1, c2, e1, h1, c3, c4, e2, h2, c5, c6, e3, h3, oa, c, e4, h4.1, h4.2.1, fun i y hy => ?_⟩
  obtain ⟨ad, ds, a1, a2, a3⟩ := hn i (List.mem_range.2 (List.getElem?_eq_some_iff.1 hy).1) y hy
  exact ⟨ad, ds, a1, a2, by rw [repT_sz]; exact a3⟩
def Rep.err : Rep Bool where
 sz := 1
 rd := fun _ _ cs x => match x with
  | false => cs = [.nilIface]
  | true => ∃ te v, cs = [.iface te v]
 len := fun {lab w cs x} h => by
  cases x with
  | false => rw [show cs = [.nilIface] from h]; rfl
  | true => obtain ⟨te, v, h⟩ := h; rw [h]; rfl
 one := fun {lab w cs x} h u hu => by
  cases x with
  | false => rw [show cs = [.nilIface] from h] at hu; simp at hu; rw [hu]; rfl
  | true => obtain ⟨te, v, h⟩ := h; rw [h] at hu; simp at hu; rw [hu]; rfl
 keep := fun _ h => h
def Rep.fl : Rep UInt64 where
 sz := 1
 rd := fun _ _ cs x => cs = [.float .f64 x.toNat]
 len := fun h => by rw [h]; rfl
 one := fun h u hu => by rw [h] at hu; simp at hu; rw [hu]; rfl
 keep := fun _ h => h
def rep : (t : PT) → Rep (den t)
 | .int k => Rep.kd k | .bool => Rep.bool | .str => Rep.str | .sl t => Rep.sl (rep t) | .pr a b => Rep.pr (rep a) (rep b) | .st t => rep t | .un => Rep.un | .cp t => Rep.cp (rep t) | .clo f t => Rep.clo f (rep t) | .tree => Rep.tree | .err => Rep.err | .fl => Rep.fl
def csz : PT → Nat
 | .int _ => 1 | .bool => 1 | .str => 1 | .sl _ => 1 | .pr a b => csz a + csz b | .st t => csz t | .un => 0 | .cp _ => 1 | .clo _ _ => 1 | .tree => 4 | .err => 1 | .fl => 1
theorem rep_sz : ∀ t, (rep t).sz = csz t
 | .int _ => rfl | .bool => rfl | .str => rfl | .sl _ => rfl | .un => rfl | .cp _ => rfl | .clo _ _ => rfl | .tree => rfl | .err => rfl | .fl => rfl
 | .st t => rep_sz t
 | .pr a b => by show (rep a).sz + (rep b).sz = _; rw [rep_sz a, rep_sz b]; rfl
def IntKind.eqb : IntKind → IntKind → Bool
 | .i8, .i8 => true | .i16, .i16 => true | .i32, .i32 => true | .i64, .i64 => true | .u8, .u8 => true | .u16, .u16 => true | .u32, .u32 => true | .u64, .u64 => true | _, _ => false
theorem IntKind.eqb_eq {a b : IntKind} (h : IntKind.eqb a b = true) : a = b := by cases a <;> cases b <;> first | rfl | cases h
def PT.eqb : PT → PT → Bool
 | .int a, .int b => IntKind.eqb a b | .bool, .bool => true | .str, .str => true | .sl a, .sl b => PT.eqb a b | .pr a b, .pr c d => PT.eqb a c && PT.eqb b d | .st a, .st b => PT.eqb a b | .un, .un => true | .cp a, .cp b => PT.eqb a b | .clo f a, .clo g b => Nat.beq f g && PT.eqb a b | .tree, .tree => true | .err, .err => true | .fl, .fl => true | _, _ => false
theorem PT.eqb_eq : ∀ {a b : PT}, PT.eqb a b = true → a = b
 | .int a, b, h => by cases b <;> first | cases h; done | (simp only [PT.eqb] at h; rw [IntKind.eqb_eq h])
 | .bool, b, h => by cases b <;> first | rfl | cases h
 | .str, b, h => by cases b <;> first | rfl | cases h
 | .un, b, h => by cases b <;> first | rfl | cases h
 | .tree, b, h => by cases b <;> first | rfl | cases h
 | .err, b, h => by cases b <;> first | rfl | cases h
 | .fl, b, h => by cases b <;> first | rfl | cases h
 | .sl a, b, h => by cases b <;> first | cases h; done | (simp only [PT.eqb] at h; rw [PT.eqb_eq h])
 | .st a, b, h => by cases b <;> first | cases h; done | (simp only [PT.eqb] at h; rw [PT.eqb_eq h])
 | .cp a, b, h => by cases b <;> first | cases h; done | (simp only [PT.eqb] at h; rw [PT.eqb_eq h])
 | .clo f a, b, h => by cases b <;> first | cases h; done | (simp only [PT.eqb, Bool.and_eq_true] at h; rw [Nat.eq_of_beq_eq_true h.1, PT.eqb_eq h.2])
 | .pr a c, b, h => by
  cases b <;> first | cases h; done | (simp only [PT.eqb, Bool.and_eq_true] at h; rw [PT.eqb_eq h.1, PT.eqb_eq h.2])
def castT (t u : PT) (x : den t) : Option (den u) := if h : PT.eqb t u = true then some (PT.eqb_eq h ▸ x) else none
theorem castT_some {t u : PT} {x : den t} {y : den u} (h : castT t u x = some y) : ∃ e : t = u, e ▸ x = y := by
 unfold castT at h
 split at h
 ·rename_i he
  exact ⟨PT.eqb_eq he, by simpa using h⟩
 ·cases h
def aggT : PT → Bool
 | .st _ => true | .pr _ _ => true | .un => true | .tree => true | _ => false
def IsV (t : PT) (cs : List Value) (v : Value) : Prop :=
 match aggT t with
 | true => v = .agg cs.toArray
 | false => cs = [v]
def Dat (t : PT) (x : den t) (lab : Lab) (w : World) (v : Value) : Prop := ∃ cs, (rep t).rd lab w cs x ∧ IsV t cs v
theorem Dat.keep {t : PT} {x : den t} {lab lab' : Lab} {w w' : World} {v : Value} (hk : Keeps lab w lab' w') (h : Dat t x lab w v) : Dat t x lab' w' v := by
 obtain ⟨cs, h1, h2⟩ := h
 exact ⟨cs, (rep t).keep hk h1, h2⟩
theorem IsV.cells {t : PT} {cs : List Value} {v : Value} (h : IsV t cs v) (ho : ∀ u ∈ cs, u.oneCell' = true) : v.cells = cs.toArray := by
 unfold IsV at h
 split at h
 ·rw [h]; rfl
 ·subst h
  have := ho v (by simp)
  cases v <;> first | rfl | (simp [Value.oneCell'] at this)
section
variable {lab : Lab} {w : World} {v : Value}
theorem Dat.int {k : IntKind} {x : kden k} (h : Dat (.int k) x lab w v) : v = .int k (toI k x) := by
 obtain ⟨cs, h1, h2⟩ := h
 have h1 : cs = [.int k (toI k x)] := h1
 have h2 : cs = [v] := h2
 rw [h1] at h2; simp at h2; exact h2.symm
theorem Dat.ofInt {k : IntKind} (x : kden k) : Dat (.int k) x lab w (.int k (toI k x)) := ⟨[.int k (toI k x)], rfl, rfl⟩
theorem Dat.bool {x : Bool} (h : Dat .bool x lab w v) : v = .bool x := by
 obtain ⟨cs, h1, h2⟩ := h
 have h1 : cs = [.bool x] := h1
 have h2 : cs = [v] := h2
 rw [h1] at h2; simp at h2; exact h2.symm
theorem Dat.ofBool (x : Bool) : Dat .bool x lab w (.bool x) := ⟨[.bool x], rfl, rfl⟩
theorem Dat.str {x : List UInt8} (h : Dat .str x lab w v) : v = strV x := by
 obtain ⟨cs, h1, h2⟩ := h
 have h1 : cs = [strV x] := h1
 have h2 : cs = [v] := h2
 rw [h1] at h2; simp at h2; exact h2.symm
theorem Dat.ofStr (x : List UInt8) : Dat .str x lab w (strV x) := ⟨[strV x], rfl, rfl⟩
theorem Dat.sl {t : PT} {xs : List (den t)} (h : Dat (.sl t) xs lab w v) : ∃ oa c, v = .slice oa xs.length c ∧ SL (rep t) lab w oa c xs := by
 obtain ⟨cs, ⟨oa, c, h1, h3⟩, h2⟩ := h
 have h2 : cs = [v] := h2
 rw [h1] at h2; simp at h2; exact ⟨oa, c, h2.symm, h3⟩
theorem Dat.ofSl {t : PT} {xs : List (den t)} {oa : Option Addr} {c : Nat} (h : SL (rep t) lab w oa c xs) : Dat (.sl t) xs lab w (.slice oa xs.length c) := ⟨[.slice oa xs.length c], ⟨oa, c, rfl, h⟩, rfl⟩
theorem Dat.st {t : PT} {x : den t} (h : Dat (.st t) x lab w v) : ∃ cs, v = .agg cs.toArray ∧ (rep t).rd lab w cs x := by
 obtain ⟨cs, h1, h2⟩ := h
 exact ⟨cs, h2, h1⟩
end
def zt : (t : PT) → den t
 | .int k => fromI k 0 | .bool => false | .str => [] | .sl _ => [] | .pr a b => (zt a, zt b) | .st t => zt t | .un => () | .cp _ => none | .clo _ _ => none | .tree => .mk 0 0 [] [] | .err => false | .fl => (0 : UInt64)
def zc : PT → List Value
 | .int k => [.int k 0] | .bool => [.bool false] | .str => [strV []] | .sl _ => [.slice none 0 0] | .pr a b => zc a ++ zc b | .st t => zc t | .un => [] | .cp _ => [.pointer none] | .clo _ _ => [.nilFunc] | .tree => [.int .i64 0, .int .u64 0, .slice none 0 0, .slice none 0 0] | .err => [.nilIface] | .fl => [.float .f64 0]
theorem toI_zero (k : IntKind) : toI k (fromI k 0) = 0 := by cases k <;> rfl
theorem rd_zero (lab : Lab) (w : World) : ∀ t, (rep t).rd lab w (zc t) (zt t)
 | .int k => by show [Value.int k 0] = [.int k (toI k (fromI k 0))]; rw [toI_zero]
 | .bool => rfl
 | .str => rfl
 | .sl t => ⟨none, 0, rfl, SL.nil⟩
 | .pr a b => ⟨zc a, zc b, rfl, rd_zero lab w a, rd_zero lab w b⟩
 | .st t => rd_zero lab w t
 | .un => rfl
 | .cp _ => rfl
 | .clo _ _ => rfl
 | .err => rfl
 | .fl => rfl
 | .tree => tree_iff.2 ⟨[.int .i64 0], _, rfl, rfl, [.int .u64 0], _, rfl, rfl, [.slice none 0 0], [.slice none 0 0], rfl, ⟨none, 0, rfl, SL.nil⟩, ⟨none, 0, rfl, SL.nil⟩⟩
theorem blt_false {a b : Nat} (h : Nat.blt a b = false) : b ≤ a := Nat.le_of_not_lt fun h' => by rw [show Nat.blt a b = true from Nat.ble_eq_true_of_le h'] at h; cases h
def getAt : (t : PT) → Nat → (u : PT) → den t → Option (den u)
 | .pr a b, o, u, x => match Nat.blt o (csz a) with
  | true => getAt a o u x.1
  | false => getAt b (o - csz a) u x.2
 | .st t, o, u, x => match Nat.beq o 0 with
  | true => match castT (.st t) u x with
   | some y => some y
   | none => getAt t 0 u x
  | false => getAt t o u x
 | .tree, o, u, x => match o with
  | 0 => match castT .tree u x with
   | some y => some y
   | none => castT (.int .i64) u x.k
  | 1 => castT (.int .u64) u x.n
  | 2 => castT (.sl (.int .u8)) u x.b
  | 3 => castT (.sl .tree) u x.l
  | _ => none
 | t, o, u, x => match Nat.beq o 0 with
  | true => castT t u x
  | false => none
def setAt : (t : PT) → Nat → (u : PT) → den t → den u → Option (den t)
 | .pr a b, o, u, x, y => match Nat.blt o (csz a) with
  | true => match setAt a o u x.1 y with
   | some z => some (z, x.2)
   | none => none
  | false => match setAt b (o - csz a) u x.2 y with
   | some z => some (x.1, z)
   | none => none
 | .st t, o, u, x, y => match Nat.beq o 0 with
  | true => match castT u (.st t) y with
   | some z => some z
   | none => setAt t 0 u x y
  | false => setAt t o u x y
 | .tree, o, u, x, y => match o with
  | 0 => match castT u .tree y with
   | some z => some z
   | none => match castT u (.int .i64) y with
    | some k => some (.mk k x.n x.b x.l)
    | none => none
  | 1 => match castT u (.int .u64) y with
   | some n => some (.mk x.k n x.b x.l)
   | none => none
  | 2 => match castT u (.sl (.int .u8)) y with
   | some b => some (.mk x.k x.n b x.l)
   | none => none
  | 3 => match castT u (.sl .tree) y with
   | some l => some (.mk x.k x.n x.b l)
   | none => none
  | _ => none
 | t, o, u, x, y => match Nat.beq o 0 with
  | true => castT u t y
  | false => none
theorem rd_cast {lab : Lab} {w : World} {t u : PT} {cs : List Value} {x : den t} {y : den u} (h : (rep t).rd lab w cs x) (e : castT t u x = some y) : (rep u).rd lab w cs y := by
 obtain ⟨rfl, rfl⟩ := castT_some e
 exact h
theorem take_self {cs : List Value} {n : Nat} (h : cs.length = n) : (cs.drop 0).take n = cs := by subst h; simp
theorem getAt_rd {lab : Lab} {w : World} : ∀ {t : PT} {o : Nat} {u : PT} {x : den t} {y : den u} {cs : List Value}, (rep t).rd lab w cs x → getAt t o u x = some y → (rep u).rd lab w ((cs.drop o).take (csz u)) y := by
 have leaf : ∀ {t u : PT} {o : Nat} {x : den t} {y : den u} {cs : List Value}, (rep t).rd lab w cs x → (match Nat.beq o 0 with | true => castT t u x | false => none) = some y → (rep u).rd lab w ((cs.drop o).take (csz u)) y := by
  intro t u o x y cs h e
  split at e
  ·rename_i h0
   have := Nat.eq_of_beq_eq_true h0; subst this
   have h2 := rd_cast h e
   rw [take_self (by rw [(rep u).len h2, rep_sz])]
   exact h2
  ·cases e
 intro t
 induction t with
 | int k => intro o u x y cs h e; exact leaf h (by simpa only [getAt] using e)
 | bool => intro o u x y cs h e; exact leaf h (by simpa only [getAt] using e)
 | str => intro o u x y cs h e; exact leaf h (by simpa only [getAt] using e)
 | sl t _ => intro o u x y cs h e; exact leaf h (by simpa only [getAt] using e)
 | un => intro o u x y cs h e; exact leaf h (by simpa only [getAt] using e)
 | cp t _ => intro o u x y cs h e; exact leaf h (by simpa only [getAt] using e)
 | clo f t _ => intro o u x y cs h e; exact leaf h (by simpa only [getAt] using e)
 | err => intro o u x y cs h e; exact leaf h (by simpa only [getAt] using e)
 | fl => intro o u x y cs h e; exact leaf h (by simpa only [getAt] using e)
 | tree =>
  intro o u x y cs h e
  obtain ⟨c1, r1, rfl, h1, c2, r2, rfl, h2, c3, c4, rfl, h3, h4⟩ := tree_iff.1 h
  have l1 : c1.length = 1 := (rep (.int .i64)).len (x := x.k) h1
  have l2 : c2.length = 1 := (rep (.int .u64)).len (x := x.n) h2
  have l3 : c3.length = 1 := (rep (.sl (.int .u8))).len (x := x.b) h3
  have l4 : c4.length = 1 := (rep (.sl .tree)).len (x := x.l) h4
  obtain ⟨v1, rfl⟩ := List.length_eq_one_iff.1 l1
  obtain ⟨v2, rfl⟩ := List.length_eq_one_iff.1 l2
  obtain ⟨v3, rfl⟩ := List.length_eq_one_iff.1 l3
  obtain ⟨v4, rfl⟩ := List.length_eq_one_iff.1 l4
  have part : ∀ {t : PT} {z : den t} {v : Value} {rest : List Value}, (rep t).rd lab w [v] z → castT t u z = some y → (rep u).rd lab w ((v :: rest).take (csz u)) y := by
   intro t z v rest hz hc
   have h2 := rd_cast hz hc
   have : csz u = 1 := by rw [← rep_sz, ← (rep u).len h2]; rfl
   rw [this]; exact h2
  match o, e with
  | 0, e =>
   simp only [getAt] at e
   split at e
   ·rename_i y' hy
    cases e
    have h2 := rd_cast (t := .tree) h hy
    rw [take_self (by rw [(rep u).len h2, rep_sz])]
    exact h2
   ·exact part (t := .int .i64) h1 e
  | 1, e => exact part (t := .int .u64) h2 (by simpa only [getAt] using e)
  | 2, e => exact part (t := .sl (.int .u8)) h3 (by simpa only [getAt] using e)
  | 3, e => exact part (t := .sl .tree) h4 (by simpa only [getAt] using e)
  | o + 4, e => simp [getAt] at e
 | pr a b iha ihb =>
  intro o u x y cs h e
  obtain ⟨c1, c2, rfl, h1, h2⟩ := h
  have l1 : c1.length = csz a := by rw [(rep a).len h1, rep_sz]
  simp only [getAt] at e
  split at e
  ·rename_i hb
   have hlt : o < csz a := by simpa using hb
   have h3 := iha h1 e
   have h4 : ((c1.drop o).take (csz u)).length = csz u := by rw [(rep u).len h3, rep_sz]
   have h5 : csz u ≤ (c1.drop o).length := by simp at h4 ⊢; omega
   have : ((c1 ++ c2).drop o).take (csz u) = (c1.drop o).take (csz u) := by
    rw [List.drop_append_of_le_length (by omega), List.take_append_of_le_length h5]
   rw [this]; exact h3
  ·rename_i hb
   have hge : csz a ≤ o := blt_false hb
   have h3 := ihb h2 e
   have : (c1 ++ c2).drop o = c2.drop (o - csz a) := by
    rw [List.drop_append, List.drop_of_length_le (by omega), l1, List.nil_append]
   rw [this]; exact h3
 | st t ih =>
  intro o u x y cs h e
  simp only [getAt] at e
  split at e
  ·rename_i h0
   have := Nat.eq_of_beq_eq_true h0; subst this
   split at e
   ·rename_i y' hy
    cases e
    have h2 := rd_cast (t := .st t) h hy
    rw [take_self (by rw [(rep u).len h2, rep_sz])]
    exact h2
   ·exact ih h e
  ·exact ih h e
theorem setAt_rd {lab : Lab} {w : World} : ∀ {t : PT} {o : Nat} {u : PT} {x z : den t} {y : den u} {cs vs : List Value}, (rep t).rd lab w cs x → (rep u).rd lab w vs y → setAt t o u x y = some z → o + csz u ≤ cs.length ∧ (rep t).rd lab w (cs.take o ++ vs ++ cs.drop (o + csz u)) z := by
 have whole : ∀ {t u : PT} {x z : den t} {y : den u} {cs vs : List Value}, (rep t).rd lab w cs x → (rep u).rd lab w vs y → castT u t y = some z → 0 + csz u ≤ cs.length ∧ (rep t).rd lab w (cs.take 0 ++ vs ++ cs.drop (0 + csz u)) z := by
  intro t u x z y cs vs h hv e
  have h2 := rd_cast hv e
  obtain ⟨rfl, rfl⟩ := castT_some e
  have l1 : cs.length = csz u := by rw [(rep u).len h, rep_sz]
  refine ⟨by omega, ?_⟩
  rw [List.take_zero, List.nil_append, List.drop_of_length_le (by omega), List.append_nil]
  exact h2
 have leaf : ∀ {t u : PT} {o : Nat} {x z : den t} {y : den u} {cs vs : List Value}, (rep t).rd lab w cs x → (rep u).rd lab w vs y → (match Nat.beq o 0 with | true => castT u t y | false => none) = some z → o + csz u ≤ cs.length ∧ (rep t).rd lab w (cs.take o ++ vs ++ cs.drop (o + csz u)) z := by
  intro t u o x z y cs vs h hv e
  split at e
  ·rename_i h0
   have := Nat.eq_of_beq_eq_true h0; subst this
   exact whole h hv e
  ·cases e
 intro t
 induction t with
 | int k => intro o u x z y cs vs h hv e; exact leaf h hv (by simpa only [setAt] using e)
 | bool => intro o u x z y cs vs h hv e; exact leaf h hv (by simpa only [setAt] using e)
 | str => intro o u x z y cs vs h hv e; exact leaf h hv (by simpa only [setAt] using e)
 | sl t _ => intro o u x z y cs vs h hv e; exact leaf h hv (by simpa only [setAt] using e)
 | un => intro o u x z y cs vs h hv e; exact leaf h hv (by simpa only [setAt] using e)
 | cp t _ => intro o u x z y cs vs h hv e; exact leaf h hv (by simpa only [setAt] using e)
 | clo f t _ => intro o u x z y cs vs h hv e; exact leaf h hv (by simpa only [setAt] using e)
 | err => intro o u x z y cs vs h hv e; exact leaf h hv (by simpa only [setAt] using e)
 | fl => intro o u x z y cs vs h hv e; exact leaf h hv (by simpa only [setAt] using e)
 | tree =>
  intro o u x z y cs vs h hv e
  obtain ⟨c1, r1, rfl, h1, c2, r2, rfl, h2, c3, c4, rfl, h3, h4⟩ := tree_iff.1 h
  have l1 : c1.length = 1 := (rep (.int .i64)).len (x := x.k) h1
  have l2 : c2.length = 1 := (rep (.int .u64)).len (x := x.n) h2
  have l3 : c3.length = 1 := (rep (.sl (.int .u8))).len (x := x.b) h3
  have l4 : c4.length = 1 := (rep (.sl .tree)).len (x := x.l) h4
  obtain ⟨v1, rfl⟩ := List.length_eq_one_iff.1 l1
  obtain ⟨v2, rfl⟩ := List.length_eq_one_iff.1 l2
  obtain ⟨v3, rfl⟩ := List.length_eq_one_iff.1 l3
  obtain ⟨v4, rfl⟩ := List.length_eq_one_iff.1 l4
  have part : ∀ {t : PT} {s : den t}, csz t = 1 → castT u t y = some s → csz u = 1 ∧ (rep t).rd lab w vs s ∧ ∃ v, vs = [v] := by
   intro t s ht hc
   have h2 := rd_cast hv hc
   have hl : vs.length = 1 := by rw [(rep t).len h2, rep_sz, ht]
   have hu : csz u = 1 := by rw [← rep_sz, ← (rep u).len hv]; exact hl
   exact ⟨hu, h2, List.length_eq_one_iff.1 hl⟩
  match o, e with
  | 0, e =>
   simp only [setAt] at e
   split at e
   ·rename_i z' hz
    cases e
    exact whole (t := .tree) h hv hz
   ·split at e
    ·rename_i k hk
     cases e
     obtain ⟨hu, hk2, v, rfl⟩ := part (t := .int .i64) rfl hk
     rw [hu]
     exact ⟨by simp, tree_iff.2 ⟨[v], [v2, v3, v4], rfl, hk2, [v2], [v3, v4], rfl, h2, [v3], [v4], rfl, h3, h4⟩⟩
    ·cases e
  | 1, e =>
   simp only [setAt] at e
   split at e
   ·rename_i k hk
    cases e
    obtain ⟨hu, hk2, v, rfl⟩ := part (t := .int .u64) rfl hk
    rw [hu]
    exact ⟨by simp, tree_iff.2 ⟨[v1], [v, v3, v4], rfl, h1, [v], [v3, v4], rfl, hk2, [v3], [v4], rfl, h3, h4⟩⟩
   ·cases e
  | 2, e =>
   simp only [setAt] at e
   split at e
   ·rename_i k hk
    cases e
    obtain ⟨hu, hk2, v, rfl⟩ := part (t := .sl (.int .u8)) rfl hk
    rw [hu]
    exact ⟨by simp, tree_iff.2 ⟨[v1], [v2, v, v4], rfl, h1, [v2], [v, v4], rfl, h2, [v], [v4], rfl, hk2, h4⟩⟩
   ·cases e
  | 3, e =>
   simp only [setAt] at e
   split at e
   ·rename_i k hk
    cases e
    obtain ⟨hu, hk2, v, rfl⟩ := part (t := .sl .tree) rfl hk
    rw [hu]
    exact ⟨by simp, tree_iff.2 ⟨[v1], [v2, v3, v], rfl, h1, [v2], [v3, v], rfl, h2, [v3], [v], rfl, h3, hk2⟩⟩
   ·cases e
  | o + 4, e => simp [setAt] at e
 | pr a b iha ihb =>
  intro o u x z y cs vs h hv e
  obtain ⟨c1, c2, rfl, h1, h2⟩ := h
  have l1 : c1.length = csz a := by rw [(rep a).len h1, rep_sz]
  simp only [setAt] at e
  split at e
  ·rename_i hb
   have hlt : o < csz a := by simpa using hb
   split at e
   ·rename_i z' hz
    cases e
    obtain ⟨h3, h4⟩ := iha h1 hv hz
    refine ⟨by simp; omega, _, c2, ?_, h4, h2⟩
    rw [List.take_append_of_le_length (by omega), List.drop_append_of_le_length (by omega)]
    simp
   ·cases e
  ·rename_i hb
   have hge : csz a ≤ o := blt_false hb
   split at e
   ·rename_i z' hz
    cases e
    obtain ⟨h3, h4⟩ := ihb h2 hv hz
    refine ⟨by simp; omega, c1, _, ?_, h1, h4⟩
    rw [List.take_append, List.take_of_length_le (by omega), l1, List.drop_append, List.drop_of_length_le (by omega), l1]
    simp only [List.nil_append, List.append_assoc]
    rw [show o + csz u - csz a = o - csz a + csz u by omega]
   ·cases e
 | st t ih =>
  intro o u x z y cs vs h hv e
  simp only [setAt] at e
  split at e
  ·rename_i h0
   have := Nat.eq_of_beq_eq_true h0; subst this
   split at e
   ·rename_i z' hz
    cases e
    exact whole (t := .st t) h hv hz
   ·exact ih h hv e
  ·exact ih h hv e
end Go.Gk
