/-
  Plain facts of the models' loops, lists and bytes. No program; no condition but the ranges told.
-/
import Derived.Test.YtbfkbakadpkgoaaGreatDoorYEn
import Derived.Test.YtbfkbakadpkgoaaGreatDoorInt
namespace Go.Gk
open Go.RowKit
theorem bnd_s {α β : Type} {k : β → Option α} (y : β) : bnd (some y) k = k y := Eq.trans rfl rfl
theorem letm_e {α β : Type} (e : β) (k : β → Option α) : letm e k = k e := Eq.trans rfl rfl
theorem cd_t {α : Type} (x y : α) : cond true x y = x := Eq.trans rfl rfl
theorem cd_f {α : Type} (x y : α) : cond false x y = y := Eq.trans rfl rfl
theorem bndS_r {ρ ρ' Y : Type} {w : ρ → ρ'} {k : Y → Option ρ'} (y : Y) : bndS (some (.inr y)) w k = k y := Eq.trans rfl rfl
theorem bndS_l {ρ ρ' Y : Type} {w : ρ → ρ'} {k : Y → Option ρ'} (q : ρ) : bndS (some (.inl q)) w k = some (w q) := Eq.trans rfl rfl
theorem loopL_nil {R S α : Type} {bn : Nat → S → Option R} {bs : α → Nat → S → (S → Option R) → Option R} {k : Nat} {s : S} : loopL bn bs [] k s = bn k s := rfl
theorem loopL_cons {R S α : Type} {bn : Nat → S → Option R} {bs : α → Nat → S → (S → Option R) → Option R} {x : α} {r : List α} {k : Nat} {s : S} : loopL bn bs (x :: r) k s = bs x k s (loopL bn bs r (k + 1)) := rfl
theorem loopN_zero {R S : Type} {bn : Nat → S → Option R} {bs : Nat → S → (S → Option R) → Option R} {k : Nat} {s : S} : loopN bn bs 0 k s = bn k s := rfl
theorem loopN_succ {R S : Type} {bn : Nat → S → Option R} {bs : Nat → S → (S → Option R) → Option R} {r k : Nat} {s : S} : loopN bn bs (r + 1) k s = bs k s (loopN bn bs r (k + 1)) := rfl
theorem loopF_succ {R S : Type} {b : (S → Option R) → S → Option R} {n : Nat} {s : S} : loopF b (n + 1) s = b (loopF b n) s := rfl
theorem fuel_eq : FUEL = 1180591620717411303423 + 1 := rfl
theorem cd_or (a b : Bool) : cond a (some true) (some b) = some (a || b) := by cases a <;> exact Eq.trans rfl rfl
theorem cd_and (a b : Bool) : cond a (some b) (some false) = some (a && b) := by cases a <;> exact Eq.trans rfl rfl
end Go.Gk
