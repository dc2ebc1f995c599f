/-
  Plain facts of the models' loops, lists and bytes. No program; no condition but the ranges told.
-/
import Derived.Test.YtbfkbakadpkgoaaGreatDoorYEn
import Derived.Test.YtbfkbakadpkgoaaGreatDoorInt
namespace Go.Gk
open Go.RowKit
/-- Steps of models, told so that the kernel need not unfold (a lemma that is 'rfl' makes it compare whole bodies). -/
theorem bnd_s {α β : Type} {k : β → Option α} (y : β) : bnd (some y) k = k y := Eq.trans rfl rfl
theorem bnd_n {α β : Type} {k : β → Option α} : bnd none k = none := Eq.trans rfl rfl
theorem letm_e {α β : Type} (e : β) (k : β → Option α) : letm e k = k e := Eq.trans rfl rfl
theorem cd_t {α : Type} (x y : α) : cond true x y = x := Eq.trans rfl rfl
theorem cd_f {α : Type} (x y : α) : cond false x y = y := Eq.trans rfl rfl
theorem bndS_r {ρ ρ' Y : Type} {w : ρ → ρ'} {k : Y → Option ρ'} (y : Y) : bndS (some (.inr y)) w k = k y := Eq.trans rfl rfl
theorem bndS_l {ρ ρ' Y : Type} {w : ρ → ρ'} {k : Y → Option ρ'} (q : ρ) : bndS (some (.inl q)) w k = some (w q) := Eq.trans rfl rfl
theorem loopL_nil {R S α : Type} {bn : Nat → S → Option R} {bs : α → Nat → S → (S → Option R) → Option R} {k : Nat} {s : S} : loopL bn bs [] k s = bn k s := rfl
theorem loopL_cons {R S α : Type} {bn : Nat → S → Option R} {bs : α → Nat → S → (S → Option R) → Option R} {x : α} {r : List α} {k : Nat} {s : S} : loopL bn bs (x :: r) k s = bs x k s (loopL bn bs r (k + 1)) := rfl
theorem loopN_zero {R S : Type} {bn : Nat → S → Option R} {bs : Nat → S → (S → Option R) → Option R} {k : Nat} {s : S} : loopN bn bs 0 k s = bn k s := rfl
theorem loopN_succ {R S : Type} {bn : Nat → S → Option R} {bs : Nat → S → (S → Option R) → Option R} {r k : Nat} {s : S} : loopN bn bs (r + 1) k s = bs k s (loopN bn bs r (k + 1)) := rfl
theorem loopF_succ {R S : Type} {b : (S → Option R) → S → Option R} {n : Nat} {s : S} : loopF b (n + 1) s = b (loopF b n) s := rfl
theorem fuel_eq : FUEL = 1180591620717411303423 + 1 := rfl
/-- A loop that goes through the whole list. -/
theorem loopL_fold {R S α : Type} {bn : Nat → S → Option R} {bs : α → Nat → S → (S → Option R) → Option R} (f : S → α → S) (J : Nat → S → Prop) : ∀ (xs : List α) (k : Nat) (s : S),
    (∀ i x s self, xs[i]? = some x → J (k + i) s → bs x (k + i) s self = self (f s x) ∧ J (k + i + 1) (f s x)) → J k s → loopL bn bs xs k s = bn (k + xs.length) (xs.foldl f s) ∧ J (k + xs.length) (xs.foldl f s)
  | [], k, s, _, hJ => ⟨rfl, hJ⟩
  | x :: xs, k, s, h, hJ => by
    obtain ⟨h1, h2⟩ := h 0 x s (loopL bn bs xs (k + 1)) rfl hJ
    obtain ⟨h3, h4⟩ := loopL_fold f J xs (k + 1) (f s x) (fun i y t self hy ht => by
      have := h (i + 1) y t self hy (by rw [show k + (i + 1) = k + 1 + i by omega]; exact ht)
      rw [show k + (i + 1) = k + 1 + i by omega] at this; exact this) h2
    rw [loopL_cons]
    refine ⟨?_, by rw [List.length_cons, show k + (xs.length + 1) = k + 1 + xs.length by omega]; exact h4⟩
    rw [show bs x k s (loopL bn bs xs (k + 1)) = _ from h1, h3, List.length_cons, show k + (xs.length + 1) = k + 1 + xs.length by omega]; rfl
theorem foldl_snoc {α β : Type} (f : α → β) : ∀ (xs : List α) (s : List β), xs.foldl (fun s x => s ++ [f x]) s = s ++ xs.map f
  | [], s => by simp
  | x :: xs, s => by simp [foldl_snoc f xs]
/-- A loop that appends one thing a round. -/
theorem loopL_map {R α β : Type} {bn : Nat → List β → Option R} {bs : α → Nat → List β → (List β → Option R) → Option R} (f : α → β) (xs : List α) (k : Nat) (s : List β) (hl : s.length + xs.length ≤ 4294967296)
    (h : ∀ x, x ∈ xs → ∀ k s self, bs x k s self = bnd (app s [f x]) self) : loopL bn bs xs k s = bn (k + xs.length) (s ++ xs.map f) := by
  obtain ⟨h1, _⟩ := loopL_fold (bn := bn) (bs := bs) (fun s x => s ++ [f x]) (fun i t => t.length = s.length + (i - k) ∧ k ≤ i) xs k s (fun i x t self hx ht => by
    have hi : i < xs.length := (List.getElem?_eq_some_iff.1 hx).1
    refine ⟨?_, by simp; omega, by omega⟩
    rw [h x (List.mem_of_getElem? hx), app_some' (by simp; omega)]; rfl) ⟨by simp, Nat.le_refl _⟩
  rw [h1, foldl_snoc]
/-- A loop that appends what it takes. -/
theorem loopL_filterMap {R α β : Type} {bn : Nat → List β → Option R} {bs : α → Nat → List β → (List β → Option R) → Option R} (f : α → Option β) : ∀ (xs : List α) (k : Nat) (s : List β), s.length + xs.length ≤ 4294967296 →
    (∀ x, x ∈ xs → ∀ k s self, bs x k s self = match f x with | some y => bnd (app s [y]) self | none => self s) → loopL bn bs xs k s = bn (k + xs.length) (s ++ xs.filterMap f)
  | [], k, s, _, _ => by simp [loopL]
  | x :: xs, k, s, hl, h => by
    rw [loopL_cons, h x (by simp)]
    simp only [List.length_cons] at hl ⊢
    cases hf : f x with
    | none =>
      rw [List.filterMap_cons, hf]
      show loopL bn bs xs (k + 1) s = _
      rw [loopL_filterMap f xs (k + 1) s (by omega) fun y hy => h y (by simp [hy])]
      rw [show k + 1 + xs.length = k + (xs.length + 1) by omega]
    | some y =>
      rw [List.filterMap_cons, hf]
      show bnd (app s [y]) _ = _
      rw [app_some' (by simp; omega)]
      show loopL bn bs xs (k + 1) (s ++ [y]) = _
      rw [loopL_filterMap f xs (k + 1) _ (by simp; omega) fun y hy => h y (by simp [hy]), show k + 1 + xs.length = k + (xs.length + 1) by omega]
      simp
/-- A loop over what another list's map gives. -/
theorem loopL_congr {R S α : Type} {bn bn' : Nat → S → Option R} {bs bs' : α → Nat → S → (S → Option R) → Option R} : ∀ (xs : List α) (k : Nat) (s : S), (∀ k s, bn k s = bn' k s) → (∀ x, x ∈ xs → ∀ k s self, bs x k s self = bs' x k s self) → loopL bn bs xs k s = loopL bn' bs' xs k s
  | [], k, s, h, _ => h k s
  | x :: xs, k, s, h, h2 => by
    rw [loopL_cons, loopL_cons, h2 x (by simp)]
    congr 1
    funext t
    exact loopL_congr xs (k + 1) t h fun y hy => h2 y (by simp [hy])
/-- A search. -/
theorem loopL_search {R α : Type} {bn : Nat → Unit → Option R} {bs : α → Nat → Unit → (Unit → Option R) → Option R} (p : α → Bool) (v : α → Nat → Option R) : ∀ (xs : List α) (k : Nat), (∀ x, x ∈ xs → ∀ k self, bs x k () self = cond (p x) (v x k) (self ())) →
    loopL bn bs xs k () = match xs.findIdx? p with | some i => (match xs[i]? with | some x => v x (k + i) | none => none) | none => bn (k + xs.length) ()
  | [], k, _ => rfl
  | x :: xs, k, h => by
    rw [loopL_cons, h x (by simp), List.findIdx?_cons]
    cases hp : p x with
    | true => simp
    | false =>
      rw [cond_false, loopL_search p v xs (k + 1) fun y hy => h y (by simp [hy])]
      cases hq : xs.findIdx? p with
      | none => simp [show k + 1 + xs.length = k + (xs.length + 1) by omega]
      | some i => simp [show k + 1 + i = k + (i + 1) by omega]
theorem toU8_w64 (x : Int) : toU8 (w64 x) = toU8 x := by
  unfold toU8; rw [w64_eq]; congr 2; omega
theorem toU8_toNat (x : Int) : ((toU8 x).toNat : Int) = x % 256 := by
  unfold toU8
  rw [UInt8.toNat_ofNat']
  omega
theorem toU8_eq {x y : Int} (h : x % 256 = y % 256) : toU8 x = toU8 y := by unfold toU8; rw [h]
theorem or_u8 {a b : Nat} (ha : a < 256) (hb : b < 256) : bits .or .u8 (a : Int) (b : Int) = ((a ||| b : Nat) : Int) := by
  have hx : a ||| b < 2 ^ 8 := Nat.or_lt_two_pow (by omega) (by omega)
  have h1 : (BitVec.ofInt 8 (a : Int)).toNat = a := by
    rw [BitVec.ofInt_natCast, BitVec.toNat_ofNat]; exact Nat.mod_eq_of_lt (by omega)
  have h2 : (BitVec.ofInt 8 (b : Int)).toNat = b := by
    rw [BitVec.ofInt_natCast, BitVec.toNat_ofNat]; exact Nat.mod_eq_of_lt (by omega)
  show IntKind.u8.wrap (((BitVec.ofInt 8 (a : Int) ||| BitVec.ofInt 8 (b : Int)).toNat : Nat) : Int) = _
  rw [BitVec.toNat_or, h1, h2, wrap_u8, toU8_toNat]
  omega
theorem or_hi (a : Nat) {b : Nat} (hb : b < 16) : (16 * a) ||| b = 16 * a + b := by
  have := Nat.two_pow_add_eq_or_of_lt (i := 4) (b := b) (by omega) a
  rw [show (2 : Nat) ^ 4 = 16 from rfl] at this
  omega
/-- Two halves of a byte. -/
theorem nib (e : Int) (f : UInt8) (hf : f.toNat < 16) : ∃ y : UInt8, shlK .u8 (toU8 e) ((UInt64.toNat 4 : Nat) : Int) = some y ∧ toU8 (bits .or .u8 (UInt8.toNat y) (UInt8.toNat f)) = toU8 (w64 (w64 (16 * e) + (f.toNat : Int))) := by
  refine ⟨toU8 (((toU8 e).toNat : Int) * 16), rfl, ?_⟩
  rw [toU8_w64]
  have h1 : (toU8 (((toU8 e).toNat : Int) * 16)).toNat = 16 * ((e % 16).toNat) := by
    have h2 := toU8_toNat e
    have h3 := toU8_toNat (((toU8 e).toNat : Int) * 16)
    omega
  rw [or_u8 (UInt8.toNat_lt _) (UInt8.toNat_lt _), h1, or_hi _ hf]
  apply toU8_eq
  rw [w64_eq]
  omega
theorem shl4 (x : Int) : Gk.shl x ((UInt64.toNat 4 : Nat) : Int) = some (w64 (x * 16)) := Eq.trans rfl rfl
theorem shr8 (x : Int) : Gk.shr x ((UInt64.toNat 8 : Nat) : Int) = some (x / 256) := Eq.trans rfl rfl
theorem shr5 (x : Int) : Gk.shr x ((UInt64.toNat 5 : Nat) : Int) = some (x / 32) := Eq.trans rfl rfl
theorem cd_or (a b : Bool) : cond a (some true) (some b) = some (a || b) := by cases a <;> exact Eq.trans rfl rfl
theorem cd_and (a b : Bool) : cond a (some b) (some false) = some (a && b) := by cases a <;> exact Eq.trans rfl rfl
theorem cd_nand (a b : Bool) : cond a (some false) (some b) = some (!a && b) := by cases a <;> exact Eq.trans rfl rfl
theorem cd_ite (a b c : Bool) : cond a (some b) (some c) = some (cond a b c) := by cases a <;> exact Eq.trans rfl rfl
theorem cd_x (a b p : Bool) : cond a (some p) (some (b && p)) = some ((a || b) && p) := by cases a <;> exact Eq.trans rfl rfl
theorem cond_same {α : Type} (b : Bool) (x : α) : cond b x x = x := by cases b <;> rfl
end Go.Gk
