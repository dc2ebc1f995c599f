/-
  Cache keys, plain facts: validity by the reference. Of the models alone; no program; no condition but the sizes told.
-/
import Derived.Test.YtllomdfckciedaaDoorQ56
namespace Go.Proofs.YtllomdfckciedaaDoor
open Go.Gk Go.RowKit
theorem left_enc (j : Nat) : ∀ (k : Nat) (x : Tr) (c : Nat) (e : List UInt8), Enc k x c e → ∀ (n lev : Nat), c ≤ n → n ≤ 256 → lev + k ≤ 8 → n_coresecref01_left (j + k) x (n : Int) (lev : Int) = some ((n - c : Nat) : Int)
  | 0, _, _, _, h, _, _, _, _, _ => h.elim
  | k + 1, x, c, e, h, n, lev, hc, hn, hl => by
    show b_coresecref01_left (n_coresecref01_left (j + k)) x (n : Int) (lev : Int) = _
    have hp := h.pos
    have d1 : decide ((n : Int) < 1) = false := decide_eq_false (by omega)
    have w : w64 ((n : Int) - 1) = ((n - 1 : Nat) : Int) := by rw [w64_of (by omega) (by omega)]; omega
    have d3 : decide ((8 : Int) ≤ (lev : Int)) = false := decide_eq_false (by omega)
    have w2 : w64 ((lev : Int) + 1) = ((lev + 1 : Nat) : Int) := by rw [w64_of (by omega) (by omega)]; omega
    rcases h with ⟨v, hv, rfl, rfl, rfl⟩ | ⟨v, hv, rfl, rfl, rfl⟩ | ⟨l, d, f, rfl, hll, hE, rfl, rfl⟩
    · unfold b_coresecref01_left
      have d4 : decide (((n - 1 : Nat) : Int) < (([] : List Tr).length : Int)) = false := decide_eq_false (by simp)
      simp only [letm_e, d1, w, cd_f, Tr.k, Tr.n, Tr.b, Tr.l, d4]
      cases ((UInt64.toNat (UInt64.ofNat v) : Int) != (UInt64.toNat 0 : Int)) <;> (rw [fuel_eq]; rfl)
    · unfold b_coresecref01_left
      have d4 : decide (((n - 1 : Nat) : Int) < (([] : List Tr).length : Int)) = false := decide_eq_false (by simp)
      have d5 : decide ((4096 : Int) < ((Tr.mk 2 0 v []).b.length : Int)) = false := decide_eq_false (by show ¬ (4096 : Int) < (v.length : Int); omega)
      simp only [letm_e, d1, w, cd_f, Tr.k, Tr.n, Tr.l, d4]
      rw [d5]
      cases decide ((0 : Int) < ((Tr.mk 2 0 v []).b.length : Int)) <;> (rw [fuel_eq]; rfl)
    · unfold b_coresecref01_left
      have hd := hE.len
      have d4 : decide (((n - 1 : Nat) : Int) < ((Tr.mk 4 0 [] l).l.length : Int)) = false := decide_eq_false (by show ¬ ((n - 1 : Nat) : Int) < (l.length : Int); omega)
      simp only [letm_e, d1, w, cd_f, d4, d3, w2]
      have key : ∀ (l : List Tr) (d : Nat) (f : List UInt8), EncL (Enc k) l d f → ∀ (q n : Nat), d ≤ n → n ≤ 256 →
          loopL (R := (Int ⊕ Int)) (S := Int) (α := Tr) (fun _ s51 => some (.inr s51)) (fun x65 _ s67 self68 => bnd (n_coresecref01_left (j + k) x65 s67 ((lev + 1 : Nat) : Int)) fun x70 => cond (decide (x70 < 0)) (some (.inl (-1))) (self68 x70)) l q (n : Int) = some (.inr ((n - d : Nat) : Int)) := by
        intro l d f h
        induction h with
        | nil => intro q n _ _; rw [loopL_nil]; rfl
        | @cons x c e l d f hx _ ih =>
          intro q n h1 h2
          rw [loopL_cons, left_enc j k x c e hx n (lev + 1) (by omega) h2 (by omega), bnd_s, decide_eq_false (by omega), cd_f, ih (q + 1) (n - c) (by omega) (by omega)]
          congr 3; omega
      have fin := key l d f hE 0 (n - 1) (by omega) (by omega)
      cases decide ((0 : Int) < ((Tr.mk 4 0 [] l).l.length : Int)) <;>
      · refine (congrArg (fun z => bndS (ρ := Int) (ρ' := Int) (Y := Int) z (fun q => q) _) fin).trans ?_
        rw [bndS_r]
        have : n - 1 - d = n - (d + 1) := by omega
        rw [this]
end Go.Proofs.YtllomdfckciedaaDoor
