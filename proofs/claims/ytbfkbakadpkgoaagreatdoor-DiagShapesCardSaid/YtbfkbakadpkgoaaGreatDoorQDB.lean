/-
  Items: valid and encoded alike by both texts. Of the models alone; no program; no condition but the ranges told.
-/
import Derived.Test.YtbfkbakadpkgoaaGreatDoorQDA
namespace Go.Proofs.YtbfkbakadpkgoaaGreatDoor
open Go.Gk Go.RowKit
def hd (m : Nat) (n : UInt64) : List UInt8 :=
 if n.toNat < 24 then [UInt8.ofNat (32 * m + n.toNat)] else if n.toNat < 256 then [UInt8.ofNat (32 * m + 24), UInt8.ofNat n.toNat]
 else if n.toNat < 65536 then [UInt8.ofNat (32 * m + 25), UInt8.ofNat (n.toNat / 256), UInt8.ofNat n.toNat]
 else if n.toNat < 4294967296 then [UInt8.ofNat (32 * m + 26), UInt8.ofNat (n.toNat / 16777216), UInt8.ofNat (n.toNat / 65536), UInt8.ofNat (n.toNat / 256), UInt8.ofNat n.toNat]
 else UInt8.ofNat (32 * m + 27) :: be8 n
theorem hd_len (m : Nat) (n : UInt64) : 1 ≤ (hd m n).length ∧ (hd m n).length ≤ 9 := by
 unfold hd be8
 split
 ·simp
 ·split
  ·simp
  ·split
   ·simp
   ·split <;> simp
theorem head_small : ∀ (m : Fin 8) (n : Fin 24), m_cbor_head (UInt8.ofNat m.1) (UInt64.ofNat n.1) = some [UInt8.ofNat (32 * m.1 + n.1)] ∧ m_coresecref01_Head_o (m.1 : Int) (UInt64.ofNat n.1) = some [UInt8.ofNat (32 * m.1 + n.1)] := by decide +kernel
theorem lt_dec (a b : Nat) : decide ((a : Int) < (b : Int)) = decide (a < b) := by
 rw [Bool.eq_iff_iff, decide_eq_true_eq, decide_eq_true_eq]; omega
theorem shl5 : ∀ m : Fin 8, (Option.map (fun x : UInt8 => x.toNat) (shlK .u8 (UInt8.ofNat m.1) (UInt64.toNat 5 : Int)) : Option Nat) = some (32 * m.1) := by decide +kernel
theorem shl5' (m : Fin 8) : @Eq (Option UInt8) (shlK .u8 (UInt8.ofNat m.1) (UInt64.toNat 5 : Int)) (some (UInt8.ofNat (32 * m.1))) := by
 obtain ⟨x, h1, h2⟩ := Option.map_eq_some_iff.1 (shl5 m)
 have h1 : @Eq (Option UInt8) (shlK .u8 (UInt8.ofNat m.1) (UInt64.toNat 5 : Int)) (some x) := h1
 refine h1.trans (congrArg some ?_)
 apply UInt8.toNat_inj.1
 have := m.2
 rw [UInt8.toNat_ofNat']
 have h2 : x.toNat = 32 * m.1 := h2
 omega
theorem head_ors (m : Fin 8) : toU8 (bits .or .u8 (UInt8.toNat (UInt8.ofNat (32 * m.1))) (UInt8.toNat 24)) = UInt8.ofNat (32 * m.1 + 24) ∧ toU8 (bits .or .u8 (UInt8.toNat (UInt8.ofNat (32 * m.1))) (UInt8.toNat 25)) = UInt8.ofNat (32 * m.1 + 25) ∧
  toU8 (bits .or .u8 (UInt8.toNat (UInt8.ofNat (32 * m.1))) (UInt8.toNat 26)) = UInt8.ofNat (32 * m.1 + 26) ∧ toU8 (bits .or .u8 (UInt8.toNat (UInt8.ofNat (32 * m.1))) (UInt8.toNat 27)) = UInt8.ofNat (32 * m.1 + 27) := by
 revert m; decide +kernel
theorem head_wide (c : UInt8) (a1 : UInt64) : loopF (R := (List UInt8)) (S := ((List UInt8) × Int)) (fun self25 s24 =>
  letm (decide (0 ≤ s24.2)) fun x26 =>
  cond x26 (bnd ((shrK .u64 (a1 : UInt64) s24.2 : Option UInt64)) fun (x27 : UInt64) =>
  letm ((toU8 (UInt64.toNat x27 : Int))) fun x28 =>
  bnd (app s24.1 [x28]) fun x29 =>
  letm ((w64 (s24.2 - 8))) fun x30 =>
  self25 (x29, x30))
   (some s24.1)) FUEL ([c], 56) = some (c :: be8 a1) := by kernel_rfl
theorem head_eq (m : Fin 8) (n : UInt64) : m_cbor_head (UInt8.ofNat m.1) n = some (hd m.1 n) := by
 have hn := n.toNat_lt
 unfold hd
 by_cases h1 : n.toNat < 24
 ·rw [if_pos h1]
  have := (head_small m ⟨n.toNat, h1⟩).1
  simpa using this
 rw [if_neg h1]
 unfold m_cbor_head
 refine bnd_of (shl5' m) ?_
 rw [letm_e, show decide ((UInt64.toNat n : Int) < (UInt64.toNat 24 : Int)) = false from (lt_dec _ 24).trans (decide_eq_false h1), cd_f, letm_e]
 by_cases h2 : n.toNat < 256
 ·rw [if_pos h2, show decide ((UInt64.toNat n : Int) < (UInt64.toNat 256 : Int)) = true from (lt_dec _ 256).trans (decide_eq_true h2), cd_t, letm_e, letm_e, (head_ors m).1, u8nat]
 rw [if_neg h2, show decide ((UInt64.toNat n : Int) < (UInt64.toNat 256 : Int)) = false from (lt_dec _ 256).trans (decide_eq_false h2), cd_f, letm_e]
 by_cases h3 : n.toNat < 65536
 ·rw [if_pos h3, show decide ((UInt64.toNat n : Int) < (UInt64.toNat 65536 : Int)) = true from (lt_dec _ 65536).trans (decide_eq_true h3), cd_t, letm_e]
  refine bnd_of (sr64 n 8 (by omega)) ?_
  rw [letm_e, letm_e, (head_ors m).2.1, nat64 (by omega), u8nat, u8nat]
 rw [if_neg h3, show decide ((UInt64.toNat n : Int) < (UInt64.toNat 65536 : Int)) = false from (lt_dec _ 65536).trans (decide_eq_false h3), cd_f, letm_e]
 by_cases h4 : n.toNat < 4294967296
 ·rw [if_pos h4, show decide ((UInt64.toNat n : Int) < (UInt64.toNat 4294967296 : Int)) = true from (lt_dec _ 4294967296).trans (decide_eq_true h4), cd_t, letm_e]
  refine bnd_of (sr64 n 24 (by omega)) ?_
  rw [letm_e]
  refine bnd_of (sr64 n 16 (by omega)) ?_
  rw [letm_e]
  refine bnd_of (sr64 n 8 (by omega)) ?_
  rw [letm_e, letm_e, (head_ors m).2.2.1, nat64 (n := n.toNat / 2 ^ 24) (by omega), nat64 (n := n.toNat / 2 ^ 16) (by omega), nat64 (n := n.toNat / 2 ^ 8) (by omega), u8nat, u8nat, u8nat, u8nat]
 rw [if_neg h4, show decide ((UInt64.toNat n : Int) < (UInt64.toNat 4294967296 : Int)) = false from (lt_dec _ 4294967296).trans (decide_eq_false h4), cd_f, letm_e, (head_ors m).2.2.2]
 exact head_wide _ n
theorem ref_ws : ∀ m : Fin 8, toU8 (w64 (w64 (32 * (m.1 : Int)) + 24)) = UInt8.ofNat (32 * m.1 + 24) ∧ toU8 (w64 (w64 (32 * (m.1 : Int)) + 24)) + 1 = UInt8.ofNat (32 * m.1 + 25) ∧ toU8 (w64 (w64 (32 * (m.1 : Int)) + 24)) + 2 = UInt8.ofNat (32 * m.1 + 26) ∧ toU8 (w64 (w64 (32 * (m.1 : Int)) + 24)) + 3 = UInt8.ofNat (32 * m.1 + 27) := by decide +kernel
def refB (a1 : UInt64) : ((List UInt8 × Int) → Option (List UInt8)) → (List UInt8 × Int) → Option (List UInt8) := fun self34 s33 =>
 letm (decide (0 ≤ s33.2)) fun x35 =>
 cond x35 (letm ((toU64 s33.2)) fun x36 =>
 letm ((8 * x36)) fun x37 =>
 bnd ((shrK .u64 (a1 : UInt64) (UInt64.toNat x37 : Int) : Option UInt64)) fun (x38 : UInt64) =>
 letm ((toU8 (UInt64.toNat x38 : Int))) fun x39 =>
 bnd (app s33.1 [x39]) fun x40 =>
 letm ((w64 (s33.2 - 1))) fun x41 =>
 self34 (x40, x41))
  (some s33.1)
theorem refB0 (c : UInt8) (n : UInt64) : loopF (refB n) FUEL ([c], w64 (1 - 1)) = some [c, toU8 ((UInt64.ofNat (n.toNat / 2 ^ 0)).toNat : Int)] := by kernel_rfl
theorem refB1 (c : UInt8) (n : UInt64) : loopF (refB n) FUEL ([c], w64 (2 - 1)) = some [c, toU8 ((UInt64.ofNat (n.toNat / 2 ^ 8)).toNat : Int), toU8 ((UInt64.ofNat (n.toNat / 2 ^ 0)).toNat : Int)] := by kernel_rfl
theorem refB3 (c : UInt8) (n : UInt64) : loopF (refB n) FUEL ([c], w64 (4 - 1)) = some [c, toU8 ((UInt64.ofNat (n.toNat / 2 ^ 24)).toNat : Int), toU8 ((UInt64.ofNat (n.toNat / 2 ^ 16)).toNat : Int), toU8 ((UInt64.ofNat (n.toNat / 2 ^ 8)).toNat : Int), toU8 ((UInt64.ofNat (n.toNat / 2 ^ 0)).toNat : Int)] := by kernel_rfl
theorem refB7 (c : UInt8) (n : UInt64) : loopF (refB n) FUEL ([c], w64 (8 - 1)) = some (c :: be8 n) := by kernel_rfl
theorem head_ref (m : Fin 8) (n : UInt64) : m_coresecref01_Head_o (m.1 : Int) n = some (hd m.1 n) := by
 have hn := n.toNat_lt
 unfold hd
 by_cases h1 : n.toNat < 24
 ·rw [if_pos h1]
  have := (head_small m ⟨n.toNat, h1⟩).2
  simpa using this
 rw [if_neg h1]
 have i0 : ∀ x : UInt8, idx [x] (0 : Int) = some x := fun x => idx_some' (i := 0) rfl
 have i1 : ∀ x : UInt8, idx [x] (((0 : Int).toNat : Nat) : Int) = some x := fun x => idx_some' (i := 0) rfl
 unfold m_coresecref01_Head_o
 rw [letm_e, letm_e, letm_e, letm_e, show decide ((UInt64.toNat n : Int) < (UInt64.toNat 24 : Int)) = false from (lt_dec _ 24).trans (decide_eq_false h1), cd_f, letm_e]
 by_cases h2 : n.toNat < 256
 ·rw [if_pos h2, show decide ((UInt64.toNat n : Int) < (UInt64.toNat 256 : Int)) = true from (lt_dec _ 256).trans (decide_eq_true h2), cd_t, bndS_r, letm_e]
  refine (refB0 _ n).trans ?_
  rw [(ref_ws m).1, nat64 (by omega), u8nat, Nat.pow_zero, Nat.div_one]
 rw [if_neg h2, show decide ((UInt64.toNat n : Int) < (UInt64.toNat 256 : Int)) = false from (lt_dec _ 256).trans (decide_eq_false h2), cd_f, letm_e]
 by_cases h3 : n.toNat < 65536
 ·rw [if_pos h3, show decide ((UInt64.toNat n : Int) < (UInt64.toNat 65536 : Int)) = true from (lt_dec _ 65536).trans (decide_eq_true h3), cd_t, i0, bnd_s, i1, bnd_s, letm_e, bnd_s, bnd_s, letm_e, bndS_r, letm_e]
  refine (refB1 _ n).trans ?_
  rw [(ref_ws m).2.1, nat64 (n := n.toNat / 2 ^ 8) (by omega), nat64 (n := n.toNat / 2 ^ 0) (by omega), u8nat, u8nat, Nat.pow_zero, Nat.div_one]
 rw [if_neg h3, show decide ((UInt64.toNat n : Int) < (UInt64.toNat 65536 : Int)) = false from (lt_dec _ 65536).trans (decide_eq_false h3), cd_f, letm_e]
 by_cases h4 : n.toNat < 4294967296
 ·rw [if_pos h4, show decide ((UInt64.toNat n : Int) < (UInt64.toNat 4294967296 : Int)) = true from (lt_dec _ 4294967296).trans (decide_eq_true h4), cd_t, i0, bnd_s, i1, bnd_s, letm_e, bnd_s, bnd_s, letm_e, bndS_r, letm_e]
  refine (refB3 _ n).trans ?_
  rw [(ref_ws m).2.2.1, nat64 (n := n.toNat / 2 ^ 24) (by omega), nat64 (n := n.toNat / 2 ^ 16) (by omega), nat64 (n := n.toNat / 2 ^ 8) (by omega), nat64 (n := n.toNat / 2 ^ 0) (by omega), u8nat, u8nat, u8nat, u8nat, Nat.pow_zero, Nat.div_one]
 rw [if_neg h4, show decide ((UInt64.toNat n : Int) < (UInt64.toNat 4294967296 : Int)) = false from (lt_dec _ 4294967296).trans (decide_eq_false h4), cd_f, i0, bnd_s, i1, bnd_s, letm_e, bnd_s, bnd_s, letm_e, bndS_r, letm_e, (ref_ws m).2.2.2]
 exact refB7 _ n
theorem cmp_go (a b : List UInt8) (ha : a.length ≤ 2000000) (hb : b.length ≤ 2000000) : ∀ (f : Nat) (i : Nat), i ≤ a.length → i ≤ b.length → a.length - i < f → loopF (R := Int) (S := Int) (fun self3 s2 =>
  bnd (β := Bool) (letm (decide (s2 < (a.length : Int))) fun x4 =>
  cond x4 (letm (decide (s2 < (b.length : Int))) fun x5 =>
  some x5)
   (some false)) fun v6 =>
  cond v6 (bnd (idx a s2) fun x7 =>
  bnd (idx b s2) fun x8 =>
  letm (((UInt8.toNat x7 : Int) != (UInt8.toNat x8 : Int))) fun x9 =>
  cond x9 (bnd (idx a s2) fun x10 =>
  bnd (idx b s2) fun x11 =>
  letm (decide ((UInt8.toNat x10 : Int) < (UInt8.toNat x11 : Int))) fun x12 =>
  cond x12 (some (-1))
   (some 1))
   (letm ((w64 (s2 + 1))) fun x13 =>
  self3 x13))
   (letm (decide ((a.length : Int) < (b.length : Int))) fun x14 =>
  cond x14 (some (-1))
   (letm (decide ((b.length : Int) < (a.length : Int))) fun x15 =>
  cond x15 (some 1)
   (some 0)))) f (i : Int) = some (Lib.compareBytes (a.drop i) (b.drop i))
 | 0, i, _, _, hf => absurd hf (Nat.not_lt_zero _)
 | f + 1, i, h1, h2, hf => by
  rw [loopF_succ, letm_e, letm_e, cd_and, bnd_s, lt_dec, lt_dec]
  by_cases ca : i < a.length
  ·by_cases cb : i < b.length
   ·rw [decide_eq_true ca, decide_eq_true cb, show (true && true) = true from rfl, cd_t, idx_some' (List.getElem?_eq_getElem ca), bnd_s, idx_some' (List.getElem?_eq_getElem cb), bnd_s, letm_e, bnd_s, bnd_s, letm_e, lt_dec,
     List.drop_eq_getElem_cons ca, List.drop_eq_getElem_cons cb, Lib.compareBytes]
    generalize a[i] = p
    generalize b[i] = q
    by_cases hpq : p = q
    ·subst hpq
     rw [show (((UInt8.toNat p : Nat) : Int) != ((UInt8.toNat p : Nat) : Int)) = false by simp, cd_f, letm_e, w64_of (by omega) (by omega), if_neg (by simp), if_neg (by simp)]
     exact cmp_go a b ha hb f (i + 1) (by omega) (by omega) (by omega)
    ·have hne : p.toNat ≠ q.toNat := fun h => hpq (UInt8.toNat_inj.1 h)
     rw [show (((UInt8.toNat p : Nat) : Int) != ((UInt8.toNat q : Nat) : Int)) = true by rw [bne_iff_ne]; omega, cd_t]
     by_cases hlt : p.toNat < q.toNat
     ·rw [decide_eq_true hlt, cd_t, if_pos (UInt8.lt_iff_toNat_lt.2 hlt)]
     ·rw [decide_eq_false hlt, cd_f, if_neg (fun h => hlt (UInt8.lt_iff_toNat_lt.1 h)), if_pos (UInt8.lt_iff_toNat_lt.2 (by omega))]
   ·rw [decide_eq_true ca, decide_eq_false cb, show (true && false) = false from rfl, cd_f, letm_e, lt_dec, letm_e, lt_dec, decide_eq_false (by omega), cd_f, decide_eq_true (by omega), cd_t, List.drop_eq_getElem_cons ca, List.drop_of_length_le (show b.length ≤ i by omega), Lib.compareBytes]
  ·rw [decide_eq_false ca, show (false && decide (i < b.length)) = false from rfl, cd_f, letm_e, lt_dec, List.drop_of_length_le (show a.length ≤ i by omega)]
   by_cases cb : i < b.length
   ·rw [decide_eq_true (by omega), cd_t, List.drop_eq_getElem_cons cb, Lib.compareBytes]
   ·rw [decide_eq_false (by omega), cd_f, letm_e, lt_dec, decide_eq_false (by omega), cd_f, List.drop_of_length_le (show b.length ≤ i by omega), Lib.compareBytes]
theorem compare_eq (a b : List UInt8) (ha : a.length ≤ 2000000) (hb : b.length ≤ 2000000) : m_coresecref01_Compare a b = some (Lib.compareBytes a b) :=
 cmp_go a b ha hb FUEL 0 (by omega) (by omega) (by rw [fuel_eq]; omega)
def ownE (k : Int) (n : UInt64) (b : List UInt8) (m : Nat) : List UInt8 :=
 if k = 8 then fE n else if k = 7 ∧ 24 ≤ n.toNat then [248, UInt8.ofNat n.toNat] else if k = 2 ∨ k = 3 then hd k.toNat (UInt64.ofNat b.length) ++ b
 else if k = 4 then hd 4 (UInt64.ofNat m) else if k = 5 then hd 5 (UInt64.ofNat (m / 2)) else hd k.toNat n
mutual
def encT : Tr → List UInt8
 | .mk k n b l => ownE k n b l.length ++ encL l
def encL : List Tr → List UInt8
 | [] => []
 | x :: l => encT x ++ encL l
end
mutual
def cntT : Tr → Nat
 | .mk _ _ _ l => 1 + cntL l
def cntL : List Tr → Nat
 | [] => 0
 | x :: l => cntT x + cntL l
end
theorem encT_mk (k n b l) : encT (.mk k n b l) = ownE k n b l.length ++ encL l := by unfold encT; rfl
theorem encL_nil : encL [] = [] := by unfold encL; rfl
theorem encL_cons (x l) : encL (x :: l) = encT x ++ encL l := by rw [encL]
theorem cntT_mk (k n b l) : cntT (.mk k n b l) = 1 + cntL l := by unfold cntT; rfl
theorem cntL_nil : cntL [] = 0 := by unfold cntL; rfl
theorem cntL_cons (x l) : cntL (x :: l) = cntT x + cntL l := by rw [cntL]
theorem cntT_pos (x : Tr) : 1 ≤ cntT x := by cases x; rw [cntT_mk]; omega
theorem cntL_len : ∀ l : List Tr, l.length ≤ cntL l
 | [] => by simp
 | x :: l => by have := cntL_len l; have := cntT_pos x; rw [cntL_cons, List.length_cons]; omega
noncomputable def u8v (b : List UInt8) : Bool := (m_unicode_utf8_Valid b).getD false
theorem u8v_eq {b : List UInt8} (h : b.length ≤ 1000000) : m_unicode_utf8_Valid b = some (u8v b) := by
 obtain ⟨v, hv⟩ := utf8_ex h
 unfold u8v
 rw [hv]; rfl
def nanOK (n : UInt64) : Bool := decide (n.toNat % 9223372036854775808 ≤ 9218868437227405312) || decide (n.toNat = 9221120237041090560)
def ascB : List (List UInt8) → Bool
 | a :: b :: c :: r => decide (Lib.compareBytes a c < 0) && ascB (c :: r)
 | _ => true
noncomputable def leafV (k : Int) (n : UInt64) (b : List UInt8) (l : List Tr) : Bool :=
 bif k == 0 || k == 1 then b.isEmpty && l.isEmpty
 else bif k == 2 then n.toNat == 0 && l.isEmpty && decide (b.length ≤ 4096)
 else bif k == 3 then n.toNat == 0 && l.isEmpty && decide (b.length ≤ 4096) && u8v b
 else bif k == 7 then b.isEmpty && l.isEmpty && (decide (n.toNat < 24) || decide (32 ≤ n.toNat) && decide (n.toNat < 256))
 else bif k == 8 then b.isEmpty && l.isEmpty && nanOK n
 else false
def boxV (k : Int) (n : UInt64) (b : List UInt8) (m : Nat) (d : Nat) : Bool :=
 (k == 4 || k == 5 || k == 6) && decide (1 ≤ d) && b.isEmpty && (bif k == 6 then m == 1 else n.toNat == 0) && (k != 5 || m % 2 == 0)
mutual
noncomputable def vT : Tr → Nat → Bool
 | .mk k n b l, d => leafV k n b l || boxV k n b l.length d && vL l (d - 1) && (k != 5 || ascB (l.map encT))
noncomputable def vL : List Tr → Nat → Bool
 | [], _ => true
 | x :: l, d => vT x d && vL l d
end
theorem vT_mk (k n b l d) : vT (.mk k n b l) d = (leafV k n b l || boxV k n b l.length d && vL l (d - 1) && (k != 5 || ascB (l.map encT))) := by unfold vT; rfl
theorem vL_nil (d) : vL [] d = true := by unfold vL; rfl
theorem vL_cons (x l d) : vL (x :: l) d = (vT x d && vL l d) := by rw [vL]
theorem u64z {n : UInt64} (h : n.toNat = 0) : n = 0 := UInt64.toNat_inj.1 h
theorem vT_inv {k : Int} {n : UInt64} {b : List UInt8} {l : List Tr} {d : Nat} (h : vT (.mk k n b l) d = true) :
  ((k = 0 ∨ k = 1) ∧ b = [] ∧ l = []) ∨ (k = 2 ∧ n = 0 ∧ l = [] ∧ b.length ≤ 4096) ∨ (k = 3 ∧ n = 0 ∧ l = [] ∧ b.length ≤ 4096 ∧ u8v b = true) ∨
  (k = 7 ∧ b = [] ∧ l = [] ∧ (n.toNat < 24 ∨ 32 ≤ n.toNat ∧ n.toNat < 256)) ∨ (k = 8 ∧ b = [] ∧ l = [] ∧ nanOK n = true) ∨
  (k = 4 ∧ n = 0 ∧ b = [] ∧ 1 ≤ d ∧ vL l (d - 1) = true) ∨ (k = 5 ∧ n = 0 ∧ b = [] ∧ 1 ≤ d ∧ l.length % 2 = 0 ∧ vL l (d - 1) = true ∧ ascB (l.map encT) = true) ∨
  (k = 6 ∧ b = [] ∧ 1 ≤ d ∧ ∃ y, l = [y] ∧ vT y (d - 1) = true) := by
 rw [vT_mk, Bool.or_eq_true] at h
 rcases h with h | h
 ·unfold leafV at h
  by_cases c1 : (k == 0 || k == 1) = true
  ·rw [c1, cond_true, Bool.and_eq_true, List.isEmpty_iff, List.isEmpty_iff] at h
   simp only [Bool.or_eq_true, beq_iff_eq] at c1
   exact .inl ⟨c1, h⟩
  rw [Bool.not_eq_true] at c1
  rw [c1, cond_false] at h
  by_cases c2 : (k == 2) = true
  ·rw [c2, cond_true] at h
   simp only [Bool.and_eq_true, beq_iff_eq, List.isEmpty_iff, decide_eq_true_eq] at h c2
   exact .inr (.inl ⟨c2, u64z h.1.1, h.1.2, h.2⟩)
  rw [Bool.not_eq_true] at c2
  rw [c2, cond_false] at h
  by_cases c3 : (k == 3) = true
  ·rw [c3, cond_true] at h
   simp only [Bool.and_eq_true, beq_iff_eq, List.isEmpty_iff, decide_eq_true_eq] at h c3
   exact .inr (.inr (.inl ⟨c3, u64z h.1.1.1, h.1.1.2, h.1.2, h.2⟩))
  rw [Bool.not_eq_true] at c3
  rw [c3, cond_false] at h
  by_cases c4 : (k == 7) = true
  ·rw [c4, cond_true] at h
   simp only [Bool.and_eq_true, Bool.or_eq_true, beq_iff_eq, List.isEmpty_iff, decide_eq_true_eq] at h c4
   exact .inr (.inr (.inr (.inl ⟨c4, h.1.1, h.1.2, h.2⟩)))
  rw [Bool.not_eq_true] at c4
  rw [c4, cond_false] at h
  by_cases c5 : (k == 8) = true
  ·rw [c5, cond_true] at h
   simp only [Bool.and_eq_true, beq_iff_eq, List.isEmpty_iff] at h c5
   exact .inr (.inr (.inr (.inr (.inl ⟨c5, h.1.1, h.1.2, h.2⟩))))
  rw [Bool.not_eq_true] at c5
  rw [c5, cond_false] at h
  cases h
 ·unfold boxV at h
  simp only [Bool.and_eq_true, Bool.or_eq_true, beq_iff_eq, bne_iff_ne, List.isEmpty_iff, decide_eq_true_eq] at h
  obtain ⟨⟨⟨⟨⟨⟨hk, hd⟩, hb⟩, hn⟩, h5⟩, hL⟩, hA⟩ := h
  rcases hk with (rfl | rfl) | rfl
  ·have hn : (n.toNat == 0) = true := hn
   exact .inr (.inr (.inr (.inr (.inr (.inl ⟨rfl, u64z (beq_iff_eq.1 hn), hb, hd, hL⟩)))))
  ·have hn : (n.toNat == 0) = true := hn
   exact .inr (.inr (.inr (.inr (.inr (.inr (.inl ⟨rfl, u64z (beq_iff_eq.1 hn), hb, hd, by simpa using h5, hL, by simpa using hA⟩))))))
  ·have hn : (l.length == 1) = true := hn
   obtain ⟨y, rfl⟩ := List.length_eq_one_iff.1 (beq_iff_eq.1 hn)
   rw [vL_cons, vL_nil, Bool.and_true] at hL
   exact .inr (.inr (.inr (.inr (.inr (.inr (.inr ⟨rfl, hb, hd, y, rfl, hL⟩))))))
theorem ownE_len (k : Int) (n : UInt64) (b : List UInt8) (m : Nat) : 1 ≤ (ownE k n b m).length ∧ (ownE k n b m).length ≤ 9 + b.length := by
 have f := fE_len n
 have g := fun m' n' => hd_len m' n'
 unfold ownE
 split
 ·omega
 ·split
  ·simp; omega
  ·split
   ·have := g k.toNat (UInt64.ofNat b.length); rw [List.length_append]; omega
   ·split
    ·have := g 4 (UInt64.ofNat m); omega
    ·split
     ·have := g 5 (UInt64.ofNat (m / 2)); omega
     ·have := g k.toNat n; omega
theorem vT_blen {k : Int} {n : UInt64} {b : List UInt8} {l : List Tr} {d : Nat} (h : vT (.mk k n b l) d = true) : b.length ≤ 4096 := by
 rcases vT_inv h with ⟨_, rfl, _⟩ | ⟨_, _, _, h⟩ | ⟨_, _, _, h, _⟩ | ⟨_, rfl, _⟩ | ⟨_, rfl, _⟩ | ⟨_, _, rfl, _⟩ | ⟨_, _, rfl, _⟩ | ⟨_, rfl, _⟩ <;> first | exact h | exact Nat.zero_le _
theorem vT_kids {k : Int} {n : UInt64} {b : List UInt8} {l : List Tr} {d : Nat} (h : vT (.mk k n b l) d = true) : l = [] ∨ 1 ≤ d ∧ vL l (d - 1) = true := by
 rcases vT_inv h with ⟨_, _, h⟩ | ⟨_, _, h, _⟩ | ⟨_, _, h, _⟩ | ⟨_, _, h, _⟩ | ⟨_, _, h, _⟩ | ⟨_, _, _, h1, h⟩ | ⟨_, _, _, h1, _, h, _⟩ | ⟨_, _, h1, y, rfl, hy⟩
 ·exact .inl h
 ·exact .inl h
 ·exact .inl h
 ·exact .inl h
 ·exact .inl h
 ·exact .inr ⟨h1, h⟩
 ·exact .inr ⟨h1, h⟩
 ·exact .inr ⟨h1, by rw [vL_cons, vL_nil, hy]; rfl⟩
mutual
theorem encT_len : (x : Tr) → (d : Nat) → vT x d = true → (encT x).length ≤ 4105 * cntT x
 | .mk k n b l, d, h => by
  have h1 := (ownE_len k n b l.length).2
  have h2 := vT_blen h
  rw [encT_mk, cntT_mk, List.length_append]
  rcases vT_kids h with rfl | ⟨_, hl⟩
  ·rw [encL_nil, cntL_nil]; simp only [List.length_nil] at h1 ⊢; omega
  ·have := encL_len l _ hl
   omega
theorem encL_len : (l : List Tr) → (d : Nat) → vL l d = true → (encL l).length ≤ 4105 * cntL l
 | [], _, _ => by rw [encL_nil]; simp
 | x :: l, d, h => by
  rw [vL_cons, Bool.and_eq_true] at h
  have h1 := encT_len x d h.1
  have h2 := encL_len l d h.2
  rw [encL_cons, cntL_cons, List.length_append]
  omega
end
theorem h0 (n : UInt64) : m_coresecref01_Head_o 0 n = some (hd 0 n) := head_ref 0 n
theorem h1 (n : UInt64) : m_coresecref01_Head_o 1 n = some (hd 1 n) := head_ref 1 n
theorem h2 (n : UInt64) : m_coresecref01_Head_o 2 n = some (hd 2 n) := head_ref 2 n
theorem h3 (n : UInt64) : m_coresecref01_Head_o 3 n = some (hd 3 n) := head_ref 3 n
theorem h4 (n : UInt64) : m_coresecref01_Head_o 4 n = some (hd 4 n) := head_ref 4 n
theorem h5 (n : UInt64) : m_coresecref01_Head_o 5 n = some (hd 5 n) := head_ref 5 n
theorem h6 (n : UInt64) : m_coresecref01_Head_o 6 n = some (hd 6 n) := head_ref 6 n
theorem quo2 {n : Nat} (h : n ≤ 1000000) : quo ((n : Nat) : Int) 2 = some ((n / 2 : Nat) : Int) := by
 unfold quo
 rw [if_neg (by omega)]
 refine congrArg some ?_
 rw [show ((n : Nat) : Int).tdiv 2 = ((n / 2 : Nat) : Int) from (Int.ofNat_tdiv n 2).symm, w64_of (by omega) (by omega)]
theorem own0 (n b m) : ownE 0 n b m = hd 0 n := rfl
theorem own1 (n b m) : ownE 1 n b m = hd 1 n := rfl
theorem own2 (n b m) : ownE 2 n b m = hd 2 (UInt64.ofNat b.length) ++ b := rfl
theorem own3 (n b m) : ownE 3 n b m = hd 3 (UInt64.ofNat b.length) ++ b := rfl
theorem own4 (n b m) : ownE 4 n b m = hd 4 (UInt64.ofNat m) := rfl
theorem own5 (n b m) : ownE 5 n b m = hd 5 (UInt64.ofNat (m / 2)) := rfl
theorem own6 (n b m) : ownE 6 n b m = hd 6 n := rfl
theorem own8 (n b m) : ownE 8 n b m = fE n := rfl
theorem raw_step (rec : Tr → Option (List UInt8)) (d : Nat) (hr : 1 ≤ d → ∀ y, vT y (d - 1) = true → cntT y ≤ 300 → rec y = some (encT y)) (x : Tr) (h : vT x d = true) (hc : cntT x ≤ 300) : b_coresecref01_Raw rec x = some (encT x) := by
 obtain ⟨k, n, b, l⟩ := x
 have hb := vT_blen h
 have hlen := encT_len _ d h
 have key : ∀ (l : List Tr), 1 ≤ d → vL l (d - 1) = true → cntL l ≤ 300 → ∀ (i : Nat) (s : List UInt8), s.length + (encL l).length ≤ 2000000 →
   loopL (R := (List UInt8)) (S := (List UInt8)) (α := Go.Gk.Tr) (fun _ s28 => some s28) (fun x29 _ s31 self32 => bnd (rec x29) fun x33 => bnd (app s31 x33) fun x34 => self32 x34) l i s = some (s ++ encL l) := by
  intro l
  induction l with
  | nil => intro _ _ _ i s _; rw [loopL_nil, encL_nil, List.append_nil]
  | cons y l ih =>
   intro hd1 hv hcl i s hs
   rw [vL_cons, Bool.and_eq_true] at hv
   rw [cntL_cons] at hcl
   rw [encL_cons, List.length_append] at hs
   rw [loopL_cons, hr hd1 y hv.1 (by omega), bnd_s, app_some' (by omega), bnd_s, ih hd1 hv.2 (by omega) _ _ (by rw [List.length_append]; omega), encL_cons, List.append_assoc]
 rw [cntT_mk] at hc hlen
 have hlen : (encT (.mk k n b l)).length ≤ 1300000 := by omega
 rw [encT_mk, List.length_append] at hlen
 have hcl : l.length ≤ 300 := by have := cntL_len l; omega
 rw [encT_mk]
 unfold b_coresecref01_Raw
 rcases vT_inv h with ⟨hk, rfl, rfl⟩ | ⟨rfl, rfl, rfl, _⟩ | ⟨rfl, rfl, rfl, _, _⟩ | ⟨rfl, rfl, rfl, hn⟩ | ⟨rfl, rfl, rfl, _⟩ | ⟨rfl, rfl, rfl, g1, gl⟩ | ⟨rfl, rfl, rfl, g1, _, gl, _⟩ | ⟨rfl, rfl, g1, y, rfl, gy⟩
 ·rcases hk with rfl | rfl
  ·simp only [Tr.k, Tr.n, Tr.b, Tr.l, letm_e, bnd_s]
   show bndS (bnd (m_coresecref01_Head_o 0 n) fun x4 => _) _ _ = _
   rw [h0, bnd_s, bndS_l, encL_nil, List.append_nil, own0]
  ·simp only [Tr.k, Tr.n, Tr.b, Tr.l, letm_e, bnd_s]
   show bndS (bnd (m_coresecref01_Head_o 1 n) fun x4 => _) _ _ = _
   rw [h1, bnd_s, bndS_l, encL_nil, List.append_nil, own1]
 ·simp only [Tr.k, Tr.n, Tr.b, Tr.l, letm_e, bnd_s, toU64_nat']
  show bndS (bnd (m_coresecref01_Head_o 2 (UInt64.ofNat b.length)) fun x9 => _) _ _ = _
  rw [h2, bnd_s, app_some' (by have := hd_len 2 (UInt64.ofNat b.length); omega), bnd_s, bndS_l, encL_nil, List.append_nil, own2]
 ·simp only [Tr.k, Tr.n, Tr.b, Tr.l, letm_e, bnd_s, toU64_nat']
  show bndS (bnd (m_coresecref01_Head_o 3 (UInt64.ofNat b.length)) fun x9 => _) _ _ = _
  rw [h3, bnd_s, app_some' (by have := hd_len 3 (UInt64.ofNat b.length); omega), bnd_s, bndS_l, encL_nil, List.append_nil, own3]
 ·simp only [Tr.k, Tr.n, Tr.b, Tr.l, letm_e, bnd_s]
  show bndS (cond (decide ((UInt64.toNat n : Int) < (UInt64.toNat 24 : Int))) _ _) _ _ = _
  rw [show decide ((UInt64.toNat n : Int) < (UInt64.toNat 24 : Int)) = decide (n.toNat < 24) from lt_dec _ 24]
  by_cases c : n.toNat < 24
  ·rw [decide_eq_true c, cd_t, bndS_l, encL_nil]
   have e : (224 + n).toNat = 224 + n.toNat := by
    rw [UInt64.toNat_add]
    show (224 + n.toNat) % 2 ^ 64 = _
    omega
   show some [toU8 ((224 + n).toNat : Int)] = some (ownE 7 n [] 0 ++ [])
   rw [e, u8nat]
   unfold ownE hd
   rw [if_neg (by omega), if_neg (by omega), if_neg (by omega), if_neg (by omega), if_neg (by omega), if_pos c]
   rfl
  ·rw [decide_eq_false c, cd_f, bndS_l, encL_nil, u8nat]
   show some [248, UInt8.ofNat n.toNat] = some (ownE 7 n [] 0 ++ [])
   unfold ownE
   rw [if_neg (by omega), if_pos ⟨rfl, by omega⟩]
   rfl
 ·simp only [Tr.k, Tr.n, Tr.b, Tr.l, letm_e, bnd_s]
  show bndS (bnd (m_coresecref01_float n) fun x4 => _) _ _ = _
  rw [ref_float, bnd_s, bndS_l, encL_nil, List.append_nil, own8]
 ·simp only [Tr.k, Tr.n, Tr.b, Tr.l, letm_e, bnd_s, toU64_nat']
  show bndS (bnd (m_coresecref01_Head_o 4 (UInt64.ofNat l.length)) fun x9 => _) _ _ = _
  rw [h4, bnd_s, bndS_r]
  exact key l g1 gl (by omega) 0 _ (by have := hd_len 4 (UInt64.ofNat l.length); omega)
 ·simp only [Tr.k, Tr.n, Tr.b, Tr.l, letm_e, bnd_s, quo2 (show l.length ≤ 1000000 by omega), toU64_nat']
  show bndS (bnd (m_coresecref01_Head_o 5 (UInt64.ofNat (l.length / 2))) fun x9 => _) _ _ = _
  rw [h5, bnd_s, bndS_r]
  exact key l g1 gl (by omega) 0 _ (by have := hd_len 5 (UInt64.ofNat (l.length / 2)); omega)
 ·simp only [Tr.k, Tr.n, Tr.b, Tr.l, letm_e, bnd_s]
  show bndS (bnd (m_coresecref01_Head_o 6 n) fun x9 => _) _ _ = _
  rw [h6, bnd_s, bndS_r]
  exact key [y] g1 (by rw [vL_cons, vL_nil, gy]; rfl) (by omega) 0 _ (by have := hd_len 6 n; omega)
theorem raw_eq (j : Nat) : ∀ (d : Nat) (x : Tr), vT x d = true → cntT x ≤ 300 → n_coresecref01_Raw (j + d + 1) x = some (encT x)
 | 0, x, h, hc => raw_step _ 0 (fun h => absurd h (by omega)) x h hc
 | d + 1, x, h, hc => raw_step _ (d + 1) (fun _ y hy hcy => raw_eq j d y hy hcy) x h hc
theorem c0 (n : UInt64) : m_cbor_head 0 n = some (hd 0 n) := head_eq 0 n
theorem c1 (n : UInt64) : m_cbor_head 1 n = some (hd 1 n) := head_eq 1 n
theorem c2 (n : UInt64) : m_cbor_head 2 n = some (hd 2 n) := head_eq 2 n
theorem c3 (n : UInt64) : m_cbor_head 3 n = some (hd 3 n) := head_eq 3 n
theorem c4 (n : UInt64) : m_cbor_head 4 n = some (hd 4 n) := head_eq 4 n
theorem c5 (n : UInt64) : m_cbor_head 5 n = some (hd 5 n) := head_eq 5 n
theorem c6 (n : UInt64) : m_cbor_head 6 n = some (hd 6 n) := head_eq 6 n
theorem c7 (n : UInt64) : m_cbor_head 7 n = some (hd 7 n) := head_eq 7 n
theorem own7s {n : UInt64} (h : n.toNat < 24) (b m) : ownE 7 n b m = hd 7 n := by
 unfold ownE
 rw [if_neg (by omega), if_neg (by omega), if_neg (by omega), if_neg (by omega), if_neg (by omega)]
 rfl
theorem own7l {n : UInt64} (h : 24 ≤ n.toNat) (b m) : ownE 7 n b m = [248, UInt8.ofNat n.toNat] := by
 unfold ownE
 rw [if_neg (by omega), if_pos ⟨rfl, h⟩]
theorem le_dec (a b : Nat) : decide ((a : Int) ≤ (b : Int)) = decide (a ≤ b) := by
 rw [Bool.eq_iff_iff, decide_eq_true_eq, decide_eq_true_eq]; omega
theorem major_eq {k : Int} {n : UInt64} {b : List UInt8} {l : List Tr} {d : Nat} (h : vT (.mk k n b l) d = true) (hl : l.length ≤ 1000000) (hk : ¬ k = 8) (h7 : ¬ (k = 7 ∧ 24 ≤ n.toNat)) :
  ∃ p, m_cbor_major (.mk k n b l) = some p ∧ ∃ e, m_cbor_head p.1 p.2 = some e ∧ e ++ b = ownE k n b l.length ∧ 1 ≤ e.length ∧ e.length ≤ 9 := by
 rcases vT_inv h with ⟨hk, rfl, rfl⟩ | ⟨rfl, rfl, rfl, _⟩ | ⟨rfl, rfl, rfl, _, _⟩ | ⟨rfl, rfl, rfl, hn⟩ | ⟨rfl, rfl, rfl, _⟩ | ⟨rfl, rfl, rfl, g1, gl⟩ | ⟨rfl, rfl, rfl, g1, _, gl, _⟩ | ⟨rfl, rfl, g1, y, rfl, gy⟩
 ·rcases hk with rfl | rfl
  ·exact ⟨(0, n), rfl, _, c0 n, by rw [own0, List.append_nil], hd_len 0 n⟩
  ·exact ⟨(1, n), rfl, _, c1 n, by rw [own1, List.append_nil], hd_len 1 n⟩
 ·exact ⟨(2, UInt64.ofNat b.length), (show some (toU8 2, toU64 (b.length : Int)) = _ by rw [toU64_nat']; rfl), _, c2 _, by rw [own2], hd_len 2 _⟩
 ·exact ⟨(3, UInt64.ofNat b.length), (show some (toU8 3, toU64 (b.length : Int)) = _ by rw [toU64_nat']; rfl), _, c3 _, by rw [own3], hd_len 3 _⟩
 ·exact ⟨(7, n), rfl, _, c7 n, by rw [own7s (by omega), List.append_nil], hd_len 7 n⟩
 ·exact absurd rfl hk
 ·exact ⟨(4, UInt64.ofNat l.length), (show some (4, toU64 (l.length : Int)) = _ by rw [toU64_nat']), _, c4 _, by rw [own4, List.append_nil], hd_len 4 _⟩
 ·exact ⟨(5, UInt64.ofNat (l.length / 2)), (show bnd (quo (l.length : Int) 2) (fun x9 => some (5, toU64 x9)) = _ by rw [quo2 hl, bnd_s, toU64_nat']), _, c5 _, by rw [own5, List.append_nil], hd_len 5 _⟩
 ·exact ⟨(6, n), rfl, _, c6 n, by rw [own6, List.append_nil], hd_len 6 n⟩
theorem add_step (rec : List UInt8 → Tr → Option (List UInt8)) (d : Nat) (hr : 1 ≤ d → ∀ s y, vT y (d - 1) = true → cntT y ≤ 300 → s.length + (encT y).length ≤ 3000000 → rec s y = some (s ++ encT y)) (s0 : List UInt8) (x : Tr) (h : vT x d = true) (hc : cntT x ≤ 300)
  (hs : s0.length + (encT x).length ≤ 3000000) : b_cbor_add_o rec s0 x = some (s0 ++ encT x) := by
 obtain ⟨k, n, b, l⟩ := x
 have key : ∀ (l : List Tr), (l ≠ [] → 1 ≤ d) → (l = [] ∨ vL l (d - 1) = true) → cntL l ≤ 300 → ∀ (i : Nat) (s : List UInt8), s.length + (encL l).length ≤ 3000000 →
   loopL (R := (List UInt8)) (S := (List UInt8)) (α := Go.Gk.Tr) (fun k14 s15 => some s15) (fun x16 k17 s18 self19 => bnd (rec s18 x16) fun x20 => self19 x20) l i s = some (s ++ encL l) := by
  intro l
  induction l with
  | nil => intro _ _ _ i s _; rw [loopL_nil, encL_nil, List.append_nil]
  | cons y l ih =>
   intro hd1 hv hcl i s hs
   have hd1 := hd1 (by simp)
   have hv : vL (y :: l) (d - 1) = true := by rcases hv with h | h; cases h; exact h
   rw [vL_cons, Bool.and_eq_true] at hv
   rw [cntL_cons] at hcl
   rw [encL_cons, List.length_append] at hs
   rw [loopL_cons, hr hd1 s y hv.1 (by omega) (by omega), bnd_s, ih (fun _ => hd1) (.inr hv.2) (by omega) _ _ (by rw [List.length_append]; omega), encL_cons, List.append_assoc]
 have hb := vT_blen h
 rw [cntT_mk] at hc
 rw [encT_mk, List.length_append] at hs
 have hcl : l.length ≤ 300 := by have := cntL_len l; omega
 have hkid := vT_kids h
 rw [encT_mk]
 unfold b_cbor_add_o
 by_cases h8 : k = 8
 ·subst h8
  have hnil : l = [] := by
   rcases vT_inv h with ⟨hk, _⟩ | ⟨hk, _⟩ | ⟨hk, _⟩ | ⟨hk, _⟩ | ⟨_, _, h, _⟩ | ⟨hk, _⟩ | ⟨hk, _⟩ | ⟨hk, _⟩ <;> first | exact h | omega
  subst hnil
  rw [own8] at hs ⊢
  rw [letm_e, show ((Tr.mk 8 n b []).k == 8) = true from rfl, cd_t]
  refine bnd_of (cbor_float n) ?_
  rw [app_some' (by omega), bnd_s, encL_nil, List.append_nil]
 rw [letm_e, show ((Tr.mk k n b l).k == 8) = false by show (k == 8) = false; rw [← Bool.not_eq_true, beq_iff_eq]; exact h8, cd_f, letm_e, letm_e, cd_and, bnd_s,
  show decide ((UInt64.toNat 24 : Int) ≤ (UInt64.toNat (Tr.mk k n b l).n : Int)) = decide (24 ≤ n.toNat) from le_dec 24 _]
 by_cases h7 : k = 7 ∧ 24 ≤ n.toNat
 ·obtain ⟨rfl, h24⟩ := h7
  have hnil : l = [] := by
   rcases vT_inv h with ⟨hk, _⟩ | ⟨hk, _⟩ | ⟨hk, _⟩ | ⟨_, _, h, _⟩ | ⟨hk, _⟩ | ⟨hk, _⟩ | ⟨hk, _⟩ | ⟨hk, _⟩ <;> first | exact h | omega
  subst hnil
  rw [own7l h24] at hs ⊢
  rw [decide_eq_true h24, show ((Tr.mk 7 n b []).k == 7 && true) = true from rfl, cd_t, letm_e]
  show bnd (app s0 [248, toU8 (n.toNat : Int)]) _ = _
  rw [u8nat, app_some' (by omega), bnd_s, encL_nil, List.append_nil]
 rw [show ((Tr.mk k n b l).k == 7 && decide (24 ≤ n.toNat)) = false by
  show (k == 7 && decide (24 ≤ n.toNat)) = false
  rw [← Bool.not_eq_true, Bool.and_eq_true, beq_iff_eq, decide_eq_true_eq]; exact h7, cd_f]
 obtain ⟨p, hp, e, he, heq, e1, e9⟩ := major_eq h (by omega) h8 h7
 rw [← heq, List.length_append] at hs
 rw [← heq]
 refine bnd_of hp (bnd_of he ?_)
 rw [app_some' (by omega), bnd_s]
 show bnd (app (s0 ++ e) b) _ = _
 rw [app_some' (by rw [List.length_append]; omega), bnd_s, show s0 ++ (e ++ b ++ encL l) = (s0 ++ e ++ b) ++ encL l by simp]
 refine key l (fun hne => ?_) ?_ (by omega) 0 _ (by simp only [List.length_append]; omega)
 ·rcases hkid with rfl | h
  ·exact absurd rfl hne
  ·exact h.1
 ·rcases hkid with h | h
  ·exact .inl h
  ·exact .inr h.2
theorem add_eq (j : Nat) : ∀ (d : Nat) (s : List UInt8) (x : Tr), vT x d = true → cntT x ≤ 300 → s.length + (encT x).length ≤ 3000000 → n_cbor_add_o (j + d + 1) s x = some (s ++ encT x)
 | 0, s, x, h, hc, hs => add_step _ 0 (fun h => absurd h (by omega)) s x h hc hs
 | d + 1, s, x, h, hc, hs => add_step _ (d + 1) (fun _ s y hy hcy hsy => add_eq j d s y hy hcy hsy) s x h hc hs
theorem add_top {d : Nat} {x : Tr} (h : vT x d = true) (hd : d ≤ 9) (hc : cntT x ≤ 300) : m_cbor_add [] x = some (encT x) := by
 have hl := encT_len x d h
 have := add_eq (40 - d) d [] x h hc (by simp; omega)
 rw [show 40 - d + d + 1 = 41 by omega] at this
 exact this
theorem raw_top {d : Nat} {x : Tr} (h : vT x d = true) (hd : d ≤ 9) (hc : cntT x ≤ 300) : m_coresecref01_Raw x = some (encT x) := by
 have := raw_eq (39 - d) d x h hc
 rw [show 39 - d + d + 1 = 40 by omega] at this
 exact this
noncomputable def ownV (k : Int) (n : UInt64) (b : List UInt8) (l : List Tr) (d : Nat) : Bool := leafV k n b l || boxV k n b l.length d
def ownP (k : Int) (n bl ll d : Nat) (u q : Prop) : Prop :=
 ((k = 0 ∨ k = 1) ∧ bl = 0 ∧ ll = 0) ∨ (k = 2 ∧ n = 0 ∧ ll = 0 ∧ bl ≤ 4096) ∨ (k = 3 ∧ n = 0 ∧ ll = 0 ∧ bl ≤ 4096 ∧ u) ∨ (k = 7 ∧ bl = 0 ∧ ll = 0 ∧ (n < 24 ∨ 32 ≤ n ∧ n < 256)) ∨ (k = 8 ∧ bl = 0 ∧ ll = 0 ∧ q) ∨
 (k = 4 ∧ n = 0 ∧ bl = 0 ∧ 1 ≤ d) ∨ (k = 5 ∧ n = 0 ∧ bl = 0 ∧ 1 ≤ d ∧ ll % 2 = 0) ∨ (k = 6 ∧ bl = 0 ∧ 1 ≤ d ∧ ll = 1)
theorem len0 {α : Type} (l : List α) : l.isEmpty = decide (l.length = 0) := by cases l <;> simp
theorem own_iff (k : Int) (n : UInt64) (b : List UInt8) (l : List Tr) (d : Nat) : ownV k n b l d = true ↔ ownP k n.toNat b.length l.length d (u8v b = true) (nanOK n = true) := by
 unfold ownV leafV boxV ownP
 by_cases c0 : k = 0
 ·subst c0; simp [len0]
 by_cases c1 : k = 1
 ·subst c1; simp [len0]
 by_cases c2 : k = 2
 ·subst c2; simp [len0, and_assoc, and_comm, and_left_comm]
 by_cases c3 : k = 3
 ·subst c3; simp [len0, and_assoc]
 by_cases c4 : k = 4
 ·subst c4; simp [len0, and_assoc, and_comm, and_left_comm]
 by_cases c5 : k = 5
 ·subst c5; simp [len0, and_assoc, and_comm, and_left_comm]
 by_cases c6 : k = 6
 ·subst c6; simp [len0, and_assoc, and_comm, and_left_comm]
 by_cases c7 : k = 7
 ·subst c7; simp [len0, and_assoc]
 by_cases c8 : k = 8
 ·subst c8; simp [len0, and_assoc]
 ·simp [c0, c1, c2, c3, c4, c5, c6, c7, c8]
theorem vT_own (k n b l d) : vT (.mk k n b l) d = (ownV k n b l d && vL l (d - 1) && (k != 5 || ascB (l.map encT))) := by
 rw [vT_mk]
 unfold ownV
 cases hl : leafV k n b l with
 | false => simp [Bool.and_assoc]
 | true =>
  have h : ownV k n b l d = true := by unfold ownV; rw [hl]; rfl
  have hll : l = [] := by
   unfold leafV at hl
   by_cases c1 : (k == 0 || k == 1) = true
   ·rw [c1, cond_true, Bool.and_eq_true, List.isEmpty_iff, List.isEmpty_iff] at hl; exact hl.2
   rw [Bool.not_eq_true] at c1
   rw [c1, cond_false] at hl
   cases e2 : (k == 2) <;> cases e3 : (k == 3) <;> cases e7 : (k == 7) <;> cases e8 : (k == 8) <;> simp [e2, e3, e7, e8] at hl <;> first | exact hl.1.1.2 | exact hl.1.2 | exact hl.2.1 | skip
  subst hll
  simp [vL_nil, ascB]
theorem ascB_drop (l : List Tr) (i : Nat) : ascB ((l.drop i).map encT) = if h : i + 2 < l.length then (decide (Lib.compareBytes (encT l[i]) (encT l[i + 2]) < 0) && ascB ((l.drop (i + 2)).map encT)) else true := by
 split
 ·rename_i h
  have e2 : l.drop (i + 2) = l[i + 2] :: l.drop (i + 3) := List.drop_eq_getElem_cons h
  have e0 : l.drop i = l[i] :: l[i + 1] :: l.drop (i + 2) := by rw [List.drop_eq_getElem_cons (show i < l.length by omega), List.drop_eq_getElem_cons (show i + 1 < l.length by omega)]
  rw [e0, e2]
  simp only [List.map_cons, ascB]
 ·rename_i h
  have hl : (l.drop i).length ≤ 2 := by rw [List.length_drop]; omega
  generalize l.drop i = m at hl
  match m, hl with
  | [], _ => simp [ascB]
  | [_], _ => simp [ascB]
  | [_, _], _ => simp [ascB]
theorem vL_get {l : List Tr} {d : Nat} (h : vL l d = true) : ∀ (i : Nat) (hi : i < l.length), vT l[i] d = true := by
 induction l with
 | nil => intro i hi; exact absurd hi (Nat.not_lt_zero _)
 | cons x l ih =>
  rw [vL_cons, Bool.and_eq_true] at h
  intro i hi
  cases i with
  | zero => exact h.1
  | succ i => exact ih h.2 i (by simpa using hi)
theorem cntL_get {l : List Tr} : ∀ (i : Nat) (hi : i < l.length), cntT l[i] ≤ cntL l := by
 induction l with
 | nil => intro i hi; exact absurd hi (Nat.not_lt_zero _)
 | cons x l ih =>
  intro i hi
  rw [cntL_cons]
  cases i with
  | zero => show cntT x ≤ _; omega
  | succ i => have := ih i (by simpa using hi); simp only [List.getElem_cons_succ]; omega
theorem cmp_dec (x : Int) : decide ((0 : Int) ≤ x) = !decide (x < 0) := by
 rw [Bool.eq_iff_iff, decide_eq_true_eq, Bool.not_eq_true', decide_eq_false_iff_not]; omega
theorem asc_prog (l : List Tr) (d : Nat) (hd : d ≤ 9) (h : vL l d = true) (hc : cntL l ≤ 300) : m_cbor_ascending l = some (ascB (l.map encT)) := by
 have hll := cntL_len l
 have key : ∀ (f i : Nat), i ≤ l.length → l.length < f + i → loopF (R := Bool) (S := Int) (fun self2 s1 =>
   letm (decide (s1 < (l.length : Int))) fun x3 =>
   cond x3 (letm ((w64 (s1 - 2))) fun x4 =>
   bnd (idx l x4) fun x5 =>
   bnd (m_cbor_add [] x5) fun x6 =>
   bnd (idx l s1) fun x7 =>
   bnd (m_cbor_add [] x7) fun x8 =>
   bnd (m_bytes_Compare x6 x8) fun x9 =>
   letm (decide (0 ≤ x9)) fun x10 =>
   cond x10 (some false)
    (letm ((w64 (s1 + 2))) fun x11 =>
   self2 x11))
    (some true)) (f + 1) ((i + 2 : Nat) : Int) = some (ascB ((l.drop i).map encT)) := by
  intro f
  induction f with
  | zero => intro i hi hf; omega
  | succ f ih =>
   intro i hi hf
   rw [loopF_succ, letm_e, lt_dec, ascB_drop]
   by_cases c : i + 2 < l.length
   ·have e1 : m_cbor_add [] l[i] = some (encT l[i]) := add_top (vL_get h i (by omega)) hd (by have := cntL_get (l := l) i (by omega); omega)
    have e2 : m_cbor_add [] l[i + 2] = some (encT l[i + 2]) := add_top (vL_get h (i + 2) c) hd (by have := cntL_get (l := l) (i + 2) c; omega)
    rw [decide_eq_true c, cd_t, dif_pos c, letm_e, w64_of (by omega) (by omega), show ((i + 2 : Nat) : Int) - 2 = (i : Int) by omega, idx_some' (List.getElem?_eq_getElem (show i < l.length by omega)), bnd_s, e1, bnd_s,
     idx_some' (List.getElem?_eq_getElem c), bnd_s, e2, bnd_s]
    refine bnd_of (show m_bytes_Compare (encT l[i]) (encT l[i + 2]) = some (Lib.compareBytes (encT l[i]) (encT l[i + 2])) from rfl) ?_
    rw [letm_e, cmp_dec]
    cases hcm : decide (Lib.compareBytes (encT l[i]) (encT l[i + 2]) < 0) with
    | false => rfl
    | true =>
     rw [show (!true) = false from rfl, cd_f, letm_e, w64_of (by omega) (by omega), Bool.true_and]
     exact ih (i + 2) (by omega) (by omega)
   ·rw [decide_eq_false c, cd_f, dif_neg c]
 exact key 1180591620717411303423 0 (by omega) (by omega)
theorem asc_ref (l : List Tr) (d : Nat) (hd : d ≤ 8) (h : vL l d = true) (hc : cntL l ≤ 300) (k : Int) (rec : Tr → Option (List UInt8)) (hrec : ∀ y, vT y d = true → cntT y ≤ 300 → rec y = some (encT y)) (v : Int) : loopF (R := Int) (S := Int) (fun self61 s60 =>
  bnd (β := Bool) (letm ((k == 5)) fun x62 =>
  cond x62 (letm (decide (s60 < (l.length : Int))) fun x63 =>
  some x63)
   (some false)) fun v64 =>
  cond v64 (letm ((w64 (s60 - 2))) fun x65 =>
  bnd (idx l x65) fun x66 =>
  bnd (rec x66) fun x67 =>
  bnd (idx l s60) fun x68 =>
  bnd (rec x68) fun x69 =>
  bnd (m_coresecref01_Compare x67 x69) fun x70 =>
  letm (decide (0 ≤ x70)) fun x71 =>
  cond x71 (some (-1))
   (letm ((w64 (s60 + 2))) fun x72 =>
  self61 x72))
   (some v)) FUEL 2 = some (if (k != 5 || ascB (l.map encT)) = true then v else -1) := by
 have hll := cntL_len l
 by_cases hk : k = 5
 ·subst hk
  rw [show ((5 : Int) != 5) = false from rfl, Bool.false_or]
  have key : ∀ (f i : Nat), i ≤ l.length → l.length < f + i → loopF (R := Int) (S := Int) (fun self61 s60 =>
   bnd (β := Bool) (letm (((5 : Int) == 5)) fun x62 =>
   cond x62 (letm (decide (s60 < (l.length : Int))) fun x63 =>
   some x63)
    (some false)) fun v64 =>
   cond v64 (letm ((w64 (s60 - 2))) fun x65 =>
   bnd (idx l x65) fun x66 =>
   bnd (rec x66) fun x67 =>
   bnd (idx l s60) fun x68 =>
   bnd (rec x68) fun x69 =>
   bnd (m_coresecref01_Compare x67 x69) fun x70 =>
   letm (decide (0 ≤ x70)) fun x71 =>
   cond x71 (some (-1))
    (letm ((w64 (s60 + 2))) fun x72 =>
   self61 x72))
    (some v)) (f + 1) ((i + 2 : Nat) : Int) = some (if ascB ((l.drop i).map encT) = true then v else -1) := by
   intro f
   induction f with
   | zero => intro i hi hf; omega
   | succ f ih =>
    intro i hi hf
    rw [loopF_succ, letm_e, show ((5 : Int) == 5) = true from rfl, cd_t, letm_e, bnd_s, lt_dec, ascB_drop]
    by_cases c : i + 2 < l.length
    ·have g1 := cntL_get (l := l) i (by omega)
     have g2 := cntL_get (l := l) (i + 2) c
     have e1 := hrec _ (vL_get h i (by omega)) (by omega)
     have e2 := hrec _ (vL_get h (i + 2) c) (by omega)
     have l1 := encT_len _ d (vL_get h i (by omega))
     have l2 := encT_len _ d (vL_get h (i + 2) c)
     rw [decide_eq_true c, cd_t, dif_pos c, letm_e, w64_of (by omega) (by omega), show ((i + 2 : Nat) : Int) - 2 = (i : Int) by omega, idx_some' (List.getElem?_eq_getElem (show i < l.length by omega)), bnd_s, e1, bnd_s,
      idx_some' (List.getElem?_eq_getElem c), bnd_s, e2, bnd_s, compare_eq _ _ (by omega) (by omega), bnd_s, letm_e, cmp_dec]
     cases hcm : decide (Lib.compareBytes (encT l[i]) (encT l[i + 2]) < 0) with
     | false => rfl
     | true =>
      rw [show (!true) = false from rfl, cd_f, letm_e, w64_of (by omega) (by omega), Bool.true_and]
      exact ih (i + 2) (by omega) (by omega)
    ·rw [decide_eq_false c, cd_f, dif_neg c]
     rfl
  exact key 1180591620717411303423 0 (by omega) (by omega)
 ·rw [show FUEL = 1180591620717411303423 + 1 from rfl, loopF_succ, letm_e, show (k == 5) = false by rw [← Bool.not_eq_true, beq_iff_eq]; exact hk, cd_f, bnd_s, cd_f, show (k != 5) = true by rw [bne_iff_ne]; exact hk]
  rfl
theorem cond_split {α : Type} {c : Bool} {x y r : Option α} (h1 : c = true → x = r) (h2 : c = false → y = r) : cond c x y = r := by
 cases c with
 | true => exact h1 rfl
 | false => exact h2 rfl
theorem rem2 (n : Nat) : Gk.rem ((n : Nat) : Int) 2 = some ((n % 2 : Nat) : Int) := by
 unfold Gk.rem
 rw [if_neg (by omega)]
 exact congrArg some (Int.ofNat_tmod n 2).symm
theorem pos_dec {n : Nat} : decide ((0 : Int) < (n : Int)) = decide (0 < n) := by
 rw [Bool.eq_iff_iff, decide_eq_true_eq, decide_eq_true_eq]; omega
noncomputable def leftV (x : Tr) (d n : Nat) : Int := if vT x d = true ∧ cntT x ≤ n then ((n - cntT x : Nat) : Int) else -1
theorem leftV_no {x : Tr} {d n : Nat} (h : ¬ (vT x d = true ∧ cntT x ≤ n)) : leftV x d n = -1 := if_neg h
theorem leftV_yes {x : Tr} {d n : Nat} (h : vT x d = true ∧ cntT x ≤ n) : leftV x d n = ((n - cntT x : Nat) : Int) := if_pos h
theorem kids_ref (rec : Tr → Int → Int → Option Int) (d : Nat) (hd : d ≤ 8) (hd1 : 1 ≤ d) (hr : ∀ y (n : Nat), n ≤ 256 → rec y (n : Int) (8 - ((d - 1 : Nat) : Int)) = some (leftV y (d - 1) n)) : ∀ (l : List Tr) (i n : Nat), n ≤ 256 →
  loopL (R := (Int ⊕ Int)) (S := Int) (α := Go.Gk.Tr) (fun k50 s51 => some (.inr s51)) (fun x52 k53 s54 self55 =>
   letm ((w64 (8 - (d : Int) + 1))) fun x56 =>
   bnd (rec x52 s54 x56) fun x57 =>
   letm (decide (x57 < 0)) fun x58 =>
   cond x58 (some (.inl (-1)))
    (self55 x57)) l i (n : Int) = some (if vL l (d - 1) = true ∧ cntL l ≤ n then .inr ((n - cntL l : Nat) : Int) else .inl (-1))
 | [], i, n, hn => by rw [loopL_nil, vL_nil, cntL_nil, if_pos ⟨rfl, by omega⟩]; rfl
 | x :: l, i, n, hn => by
  rw [loopL_cons, letm_e, w64_of (by omega) (by omega), show (8 : Int) - (d : Int) + 1 = 8 - ((d - 1 : Nat) : Int) by omega, hr x n hn, bnd_s, letm_e, vL_cons, cntL_cons]
  have hp := cntT_pos x
  by_cases h : vT x (d - 1) = true ∧ cntT x ≤ n
  ·rw [leftV_yes h, decide_eq_false (by omega), cd_f]
   have ih := kids_ref rec d hd hd1 hr l (i + 1) (n - cntT x) (by omega)
   rw [w64_of (by omega) (by omega), show (8 : Int) - (d : Int) + 1 = 8 - ((d - 1 : Nat) : Int) by omega] at ih
   refine ih.trans ?_
   rw [h.1, Bool.true_and]
   by_cases h2 : vL l (d - 1) = true ∧ cntL l ≤ n - cntT x
   ·rw [if_pos h2, if_pos ⟨h2.1, by omega⟩, show n - cntT x - cntL l = n - (cntT x + cntL l) by omega]
   ·rw [if_neg h2, if_neg (fun h3 => h2 ⟨h3.1, by omega⟩)]
  ·rw [leftV_no h, show decide ((-1 : Int) < 0) = true from rfl, cd_t, if_neg]
   rintro ⟨h1, h2⟩
   rw [Bool.and_eq_true] at h1
   exact h ⟨h1.1, by omega⟩
theorem vT_x (x : Tr) (d : Nat) : vT x d = (ownV x.k x.n x.b x.l d && vL x.l (d - 1) && (x.k != 5 || ascB (x.l.map encT))) := by
 obtain ⟨k, n, b, l⟩ := x
 exact vT_own k n b l d
theorem cntT_x (x : Tr) : cntT x = 1 + cntL x.l := by
 obtain ⟨k, n, b, l⟩ := x
 exact cntT_mk k n b l
theorem vT_no {x : Tr} {d : Nat} (h : ¬ ownP x.k x.n.toNat x.b.length x.l.length d (u8v x.b = true) (nanOK x.n = true)) : ¬ vT x d = true := by
 rw [← own_iff, Bool.not_eq_true] at h
 rw [vT_x, h]; simp
theorem own_of {k : Int} {n bl ll d : Nat} {u q : Prop} (ha : 0 ≤ k) (hb : k ≤ 8) (g1 : 0 < bl → k = 2 ∨ k = 3) (g2 : 0 < ll → k = 4 ∨ k = 5 ∨ k = 6) (g3 : k = 2 ∨ k = 3 ∨ k = 4 ∨ k = 5 → n = 0) (hbl : bl ≤ 4096) (hu : k = 3 → u) (g7 : k = 7 → n < 24 ∨ 32 ≤ n ∧ n < 256) (hq : k = 8 → q)
  (gd : k = 4 ∨ k = 5 ∨ k = 6 → 1 ≤ d) (g6 : k = 6 → ll = 1) (g5 : k = 5 → ll % 2 = 0) : ownP k n bl ll d u q := by
 unfold ownP
 have hk : k = 0 ∨ k = 1 ∨ k = 2 ∨ k = 3 ∨ k = 4 ∨ k = 5 ∨ k = 6 ∨ k = 7 ∨ k = 8 := by omega
 rcases hk with rfl | rfl | rfl | rfl | rfl | rfl | rfl | rfl | rfl
 ·exact .inl ⟨.inl rfl, by omega, by omega⟩
 ·exact .inl ⟨.inr rfl, by omega, by omega⟩
 ·exact .inr (.inl ⟨rfl, g3 (by omega), by omega, hbl⟩)
 ·exact .inr (.inr (.inl ⟨rfl, g3 (by omega), by omega, hbl, hu rfl⟩))
 ·exact .inr (.inr (.inr (.inr (.inr (.inl ⟨rfl, g3 (by omega), by omega, gd (by omega)⟩)))))
 ·exact .inr (.inr (.inr (.inr (.inr (.inr (.inl ⟨rfl, g3 (by omega), by omega, gd (by omega), g5 rfl⟩))))))
 ·exact .inr (.inr (.inr (.inr (.inr (.inr (.inr ⟨rfl, by omega, gd (by omega), g6 rfl⟩))))))
 ·exact .inr (.inr (.inr (.inl ⟨rfl, by omega, by omega, g7 rfl⟩)))
 ·exact .inr (.inr (.inr (.inr (.inl ⟨rfl, by omega, by omega, hq rfl⟩))))
theorem left_step (rec : Tr → Int → Int → Option Int) (d : Nat) (hd : d ≤ 8) (hr : 1 ≤ d → ∀ y (n : Nat), n ≤ 256 → rec y (n : Int) (8 - ((d - 1 : Nat) : Int)) = some (leftV y (d - 1) n)) (x : Tr) (n : Nat) (hn : n ≤ 256) :
  b_coresecref01_left rec x (n : Int) (8 - (d : Int)) = some (leftV x d n) := by
 have hp := cntT_x x
 have hpl := cntL_len x.l
 unfold b_coresecref01_left
 rw [letm_e]
 refine cond_split (fun h => ?_) (fun h => ?_)
 ·rw [decide_eq_true_eq] at h
  rw [leftV_no (by omega)]
 rw [decide_eq_false_iff_not] at h
 have hn1 : ((n : Int) - 1) = ((n - 1 : Nat) : Int) := by omega
 rw [letm_e, w64_of (by omega) (by omega), hn1]
 simp only [letm_e, cd_or, cd_and, bnd_s, isnan_eq, rem2]
 have hz : ((UInt64.toNat 0 : Nat) : Int) = 0 := rfl
 have h23 : ((UInt64.toNat 23 : Nat) : Int) = 23 := rfl
 have h32 : ((UInt64.toNat 32 : Nat) : Int) = 32 := rfl
 have h255 : ((UInt64.toNat 255 : Nat) : Int) = 255 := rfl
 have hN : ((UInt64.toNat 9221120237041090560 : Nat) : Int) = 9221120237041090560 := rfl
 refine cond_split (fun g1 => ?_) (fun g1 => ?_)
 ·rw [leftV_no]
  rintro ⟨hv, _⟩
  refine vT_no (fun ho => ?_) hv
  unfold ownP at ho
  rw [hz] at g1
  simp only [Bool.or_eq_true, Bool.and_eq_true, decide_eq_true_eq, beq_iff_eq, bne_iff_ne, Bool.not_eq_true', Bool.or_eq_false_iff, beq_eq_false_iff_ne] at g1
  omega
 by_cases hb : 4096 < x.b.length
 ·have hbb : decide ((4096 : Int) < (x.b.length : Int)) = true := decide_eq_true (by omega)
  rw [hbb, cd_t, bnd_s, cd_t, leftV_no]
  rintro ⟨hv, _⟩
  refine vT_no (fun ho => ?_) hv
  unfold ownP at ho
  omega
 have hbb : decide ((4096 : Int) < (x.b.length : Int)) = false := decide_eq_false (by omega)
 rw [hbb, cd_f, u8v_eq (by omega), bnd_s, cd_and, bnd_s]
 refine cond_split (fun g2 => ?_) (fun g2 => ?_)
 ·rw [leftV_no]
  rintro ⟨hv, _⟩
  refine vT_no (fun ho => ?_) hv
  unfold ownP at ho
  simp only [Bool.and_eq_true, beq_iff_eq, Bool.not_eq_true'] at g2
  rw [g2.2] at ho
  have := g2.1
  simp only [Bool.false_eq_true, and_false, false_or, or_false] at ho
  omega
 refine cond_split (fun g3 => ?_) (fun g3 => ?_)
 ·rw [leftV_no]
  rintro ⟨hv, _⟩
  refine vT_no (fun ho => ?_) hv
  unfold ownP nanOK at ho
  rw [h23, h32, h255, hN] at g3
  simp only [Bool.or_eq_true, Bool.and_eq_true, decide_eq_true_eq, beq_iff_eq, bne_iff_ne, Bool.not_eq_true', Bool.or_eq_false_iff, beq_eq_false_iff_ne] at g3 ho
  omega
 refine cond_split (fun g4 => ?_) (fun g4 => ?_)
 ·rw [leftV_no]
  rintro ⟨hv, hcn⟩
  refine vT_no (fun ho => ?_) hv
  unfold ownP at ho
  simp only [Bool.or_eq_true, Bool.and_eq_true, decide_eq_true_eq, beq_iff_eq, bne_iff_ne, Bool.not_eq_true', Bool.or_eq_false_iff, beq_eq_false_iff_ne] at g4
  omega
 have hown : ownP x.k x.n.toNat x.b.length x.l.length d (u8v x.b = true) (nanOK x.n = true) := by
  rw [hz] at g1
  rw [h23, h32, h255, hN] at g3
  simp only [← Bool.not_eq_true, Bool.not_eq_true', Bool.or_eq_true, Bool.and_eq_true, decide_eq_true_eq, beq_iff_eq, bne_iff_ne] at g1 g2 g3 g4
  refine own_of (by omega) (by omega) (by omega) (by omega) (by omega) (by omega) (fun h => ?_) (by omega) (fun h => ?_) (by omega) (by omega) (by omega)
  ·cases hu : u8v x.b with
   | true => rfl
   | false => exact absurd ⟨h, by rw [hu]; simp⟩ g2
  ·unfold nanOK
   rw [Bool.or_eq_true, decide_eq_true_eq, decide_eq_true_eq]
   omega
 have hle : x.l.length ≤ n - 1 := by
  simp only [← Bool.not_eq_true, Bool.or_eq_true, decide_eq_true_eq] at g4
  omega
 have hoV : ownV x.k x.n x.b x.l d = true := (own_iff _ _ _ _ _).2 hown
 have hvx : vT x d = (vL x.l (d - 1) && (x.k != 5 || ascB (x.l.map encT))) := by rw [vT_x, hoV, Bool.true_and]
 by_cases hd1 : 1 ≤ d
 ·have hk := kids_ref rec d hd hd1 (hr hd1) x.l 0 (n - 1) (by omega)
  simp only [letm_e] at hk
  rw [hk]
  by_cases hv : vL x.l (d - 1) = true ∧ cntL x.l ≤ n - 1
  ·rw [if_pos hv, bndS_r]
   have hq := asc_ref x.l (d - 1) (by omega) hv.1 (by omega) x.k m_coresecref01_Raw (fun y hy hc => raw_top hy (by omega) hc) ((n - 1 - cntL x.l : Nat) : Int)
   simp only [letm_e, cd_and, bnd_s] at hq
   rw [hq]
   by_cases ha : (x.k != 5 || ascB (x.l.map encT)) = true
   ·rw [if_pos ha, leftV_yes ⟨by rw [hvx, hv.1, ha]; rfl, by omega⟩, show n - 1 - cntL x.l = n - cntT x by omega]
   ·rw [if_neg ha, leftV_no]
    rintro ⟨h1, _⟩
    rw [hvx, Bool.and_eq_true] at h1
    exact ha h1.2
  ·rw [if_neg hv, bndS_l, leftV_no]
   rintro ⟨h1, h2⟩
   rw [hvx, Bool.and_eq_true] at h1
   exact hv ⟨h1.1, by omega⟩
 ·have hnil : x.l = [] := by
   unfold ownP at hown
   exact List.length_eq_zero_iff.1 (by omega)
  rw [hnil] at hvx hp hpl ⊢
  rw [loopL_nil, bndS_r]
  have hq := asc_ref [] 0 (by omega) (vL_nil 0) (by rw [cntL_nil]; omega) x.k m_coresecref01_Raw (fun y hy hc => raw_top hy (by omega) hc) ((n - 1 : Nat) : Int)
  simp only [letm_e, cd_and, bnd_s] at hq
  rw [hq]
  have ha : (x.k != 5 || ascB (([] : List Tr).map encT)) = true := by simp [ascB]
  rw [cntL_nil] at hp
  rw [vL_nil, Bool.true_and, ha] at hvx
  rw [if_pos ha, leftV_yes ⟨hvx, by omega⟩, show n - cntT x = n - 1 by omega]
theorem left_eq (j : Nat) : ∀ (d : Nat), d ≤ 8 → ∀ (x : Tr) (n : Nat), n ≤ 256 → n_coresecref01_left (j + d + 1) x (n : Int) (8 - (d : Int)) = some (leftV x d n)
 | 0, hd, x, n, hn => left_step _ 0 hd (fun h => absurd h (by omega)) x n hn
 | d + 1, hd, x, n, hn => left_step _ (d + 1) hd (fun _ y n hn => left_eq j d (by omega) y n hn) x n hn
noncomputable def okT (x : Tr) : Bool := vT x 8 && decide (cntT x ≤ 256) && decide ((encT x).length ≤ 4096)
theorem ref_valid (x : Tr) : m_coresecref01_Valid x = some (okT x) := by
 have hl : m_coresecref01_left x 256 0 = some (leftV x 8 256) := left_eq 31 8 (by omega) x 256 (by omega)
 unfold m_coresecref01_Valid okT
 rw [hl, bnd_s, letm_e]
 by_cases h : vT x 8 = true ∧ cntT x ≤ 256
 ·rw [leftV_yes h, decide_eq_true (by omega), cd_t, raw_top h.1 (by omega) (by omega), bnd_s, letm_e, bnd_s, h.1, decide_eq_true h.2]
  refine congrArg some ?_
  rw [Bool.eq_iff_iff, decide_eq_true_eq, Bool.true_and, Bool.true_and, decide_eq_true_eq]
  omega
 ·rw [leftV_no h, show decide ((0 : Int) ≤ -1) = false from rfl, cd_f, bnd_s]
  refine congrArg some ?_
  cases hv : vT x 8 with
  | false => rfl
  | true =>
   rw [decide_eq_false (fun hc => h ⟨hv, hc⟩)]; rfl
theorem ie {α : Type} (l : List α) : ((l.length : Int) == 0) = l.isEmpty := by cases l <;> simp; omega
theorem nz (n : UInt64) : (((UInt64.toNat n : Nat) : Int) == ((UInt64.toNat 0 : Nat) : Int)) = (n.toNat == 0) := by
 rw [Bool.eq_iff_iff, beq_iff_eq, beq_iff_eq]; exact Int.natCast_inj
theorem cd_pair (a b : Bool) : cond a (some (b, true)) (some (false, true)) = some (a && b, true) := by cases a <;> rfl
theorem cd_pairt (a b : Bool) : cond a (some (true, true)) (some (b, true)) = some (a || b, true) := by cases a <;> rfl
def isLeaf (k : Int) : Bool := k == 0 || k == 1 || k == 2 || k == 3 || k == 7 || k == 8
theorem feq_eq (n : UInt64) : feq n n = decide (n.toNat % 9223372036854775808 ≤ 9218868437227405312) := feq_self n
theorem plain_eq (x : Tr) (hb : x.b.length ≤ 4096) : m_cbor_plain x = some (leafV x.k x.n x.b x.l, isLeaf x.k) := by
 have hu := u8v_eq (b := x.b) (by omega)
 have hN : (((UInt64.toNat x.n : Nat) : Int) == ((UInt64.toNat 9221120237041090560 : Nat) : Int)) = decide (x.n.toNat = 9221120237041090560) := by
  rw [Bool.eq_iff_iff, beq_iff_eq, decide_eq_true_eq]; exact Int.natCast_inj
 have h24 : decide (((UInt64.toNat x.n : Nat) : Int) < ((UInt64.toNat 24 : Nat) : Int)) = decide (x.n.toNat < 24) := lt_dec _ 24
 have h32 : decide (((UInt64.toNat 32 : Nat) : Int) ≤ ((UInt64.toNat x.n : Nat) : Int)) = decide (32 ≤ x.n.toNat) := le_dec 32 _
 have h256 : decide (((UInt64.toNat x.n : Nat) : Int) < ((UInt64.toNat 256 : Nat) : Int)) = decide (x.n.toNat < 256) := lt_dec _ 256
 unfold m_cbor_plain leafV isLeaf
 simp only [letm_e, cd_or, bnd_s, hu, ie, nz, feq_eq, hN, h24, h32, h256, cd_pair, cd_pairt]
 have hbd : decide (x.b.length ≤ 4096) = true := decide_eq_true hb
 rw [hbd]
 by_cases c0 : (x.k == 0 || x.k == 1) = true
 ·rw [c0, cd_t, cond_true]; rfl
 rw [Bool.not_eq_true] at c0
 rw [c0, cd_f, cond_false, Bool.false_or]
 by_cases c2 : (x.k == 2) = true
 ·rw [c2, cd_t, cond_true, Bool.and_true]; rfl
 rw [Bool.not_eq_true] at c2
 rw [c2, cd_f, cond_false, Bool.false_or]
 by_cases c3 : (x.k == 3) = true
 ·rw [c3, cd_t, cond_true, Bool.and_true, Bool.and_assoc]; rfl
 rw [Bool.not_eq_true] at c3
 rw [c3, cd_f, cond_false, Bool.false_or]
 by_cases c7 : (x.k == 7) = true
 ·rw [c7, cd_t, cond_true, Bool.and_assoc]; rfl
 rw [Bool.not_eq_true] at c7
 rw [c7, cd_f, cond_false, Bool.false_or]
 by_cases c8 : (x.k == 8) = true
 ·rw [c8, cd_t, cond_true, Bool.and_assoc]; rfl
 rw [Bool.not_eq_true] at c8
 rw [c8, cd_f, cond_false]
theorem major_own {k : Int} {n : UInt64} {b : List UInt8} {l : List Tr} {d : Nat} {u q : Prop} (h : ownP k n.toNat b.length l.length d u q) (hl : l.length ≤ 1000000) (hk : ¬ k = 8) (h7 : ¬ k = 7) :
  ∃ p, m_cbor_major (.mk k n b l) = some p ∧ ∃ e, m_cbor_head p.1 p.2 = some e ∧ e.length + b.length = (ownE k n b l.length).length := by
 rcases h with ⟨hk, hb, _⟩ | ⟨rfl, hn, hb⟩ | ⟨rfl, hn, hb⟩ | ⟨rfl, hb, _⟩ | ⟨rfl, hb, _⟩ | ⟨rfl, hn, hb, _⟩ | ⟨rfl, hn, hb, _⟩ | ⟨rfl, hb, _⟩
 ·rcases hk with rfl | rfl
  ·exact ⟨(0, n), rfl, _, c0 n, by rw [own0]; omega⟩
  ·exact ⟨(1, n), rfl, _, c1 n, by rw [own1]; omega⟩
 ·exact ⟨(2, UInt64.ofNat b.length), (show some (toU8 2, toU64 (b.length : Int)) = _ by rw [toU64_nat']; rfl), _, c2 _, by rw [own2, List.length_append]⟩
 ·exact ⟨(3, UInt64.ofNat b.length), (show some (toU8 3, toU64 (b.length : Int)) = _ by rw [toU64_nat']; rfl), _, c3 _, by rw [own3, List.length_append]⟩
 ·exact absurd rfl h7
 ·exact absurd rfl hk
 ·exact ⟨(4, UInt64.ofNat l.length), (show some (4, toU64 (l.length : Int)) = _ by rw [toU64_nat']), hd 4 (UInt64.ofNat l.length), c4 _, by rw [own4]; omega⟩
 ·exact ⟨(5, UInt64.ofNat (l.length / 2)), (show bnd (quo (l.length : Int) 2) (fun x9 => some (5, toU64 x9)) = _ by rw [quo2 hl, bnd_s, toU64_nat']), hd 5 (UInt64.ofNat (l.length / 2)), c5 _, by rw [own5]; omega⟩
 ·exact ⟨(6, n), rfl, _, c6 n, by rw [own6]; omega⟩
theorem spend_eq (x : Tr) (d i s : Nat) {u q : Prop} (h : ownP x.k x.n.toNat x.b.length x.l.length d u q) (hl : x.l.length ≤ 256) (hb : x.b.length ≤ 4096) (hs : s ≤ 4096) :
  m_cbor_checker_spend ((i : Int), (s : Int)) x = some (decide (s + (ownE x.k x.n x.b x.l.length).length ≤ 4096), ((i : Int), ((s + (ownE x.k x.n x.b x.l.length).length : Nat) : Int))) := by
 have fin : ∀ m : Nat, letm (decide ((((i : Int), ((s + m : Nat) : Int)) : S_cbor_checker).2 ≤ 4096)) (fun x14 => some (x14, (((i : Int), ((s + m : Nat) : Int)) : S_cbor_checker))) = some (decide (s + m ≤ 4096), ((i : Int), ((s + m : Nat) : Int))) := by
  intro m
  rw [letm_e]
  show some (decide (((s + m : Nat) : Int) ≤ 4096), _) = _
  rw [show decide (((s + m : Nat) : Int) ≤ 4096) = decide (s + m ≤ 4096) from le_dec _ 4096]
 unfold m_cbor_checker_spend
 by_cases h8 : x.k = 8
 ·have hf := fE_len x.n
  have e : ownE x.k x.n x.b x.l.length = fE x.n := by rw [h8, own8]
  rw [e]
  refine bnd_of (y := ((i : Int), ((s + (fE x.n).length : Nat) : Int))) ?_ (fin _)
  rw [letm_e, show (x.k == 8) = true by rw [h8]; rfl, cd_t, cbor_float, bnd_s, letm_e]
  show some ((i : Int), w64 ((s : Int) + ((fE x.n).length : Int))) = _
  rw [w64_of (by omega) (by omega)]
  rfl
 have k8 : (x.k == 8) = false := by rw [← Bool.not_eq_true, beq_iff_eq]; exact h8
 by_cases h7 : x.k = 7
 ·by_cases c : 24 ≤ x.n.toNat
  ·have e : ownE x.k x.n x.b x.l.length = [248, UInt8.ofNat x.n.toNat] := by rw [h7, own7l c]
   rw [e]
   refine bnd_of (y := ((i : Int), ((s + 2 : Nat) : Int))) ?_ (fin 2)
   rw [letm_e, k8, cd_f, letm_e, show (x.k == 7) = true by rw [h7]; rfl, cd_t, letm_e, letm_e, show decide (((UInt64.toNat 24 : Nat) : Int) ≤ ((UInt64.toNat x.n : Nat) : Int)) = decide (24 ≤ x.n.toNat) from le_dec 24 _, decide_eq_true c, cd_t, letm_e]
   show some ((i : Int), w64 (w64 ((s : Int) + 1) + 1)) = _
   rw [w64_of (x := (s : Int) + 1) (by omega) (by omega), w64_of (by omega) (by omega)]
   refine congrArg some (Prod.ext rfl ?_)
   show (s : Int) + 1 + 1 = ((s + 2 : Nat) : Int)
   omega
  ·have e : ownE x.k x.n x.b x.l.length = [UInt8.ofNat (32 * 7 + x.n.toNat)] := by rw [h7, own7s (by omega)]; unfold hd; rw [if_pos (by omega)]
   rw [e]
   refine bnd_of (y := ((i : Int), ((s + 1 : Nat) : Int))) ?_ (fin 1)
   rw [letm_e, k8, cd_f, letm_e, show (x.k == 7) = true by rw [h7]; rfl, cd_t, letm_e, letm_e, show decide (((UInt64.toNat 24 : Nat) : Int) ≤ ((UInt64.toNat x.n : Nat) : Int)) = decide (24 ≤ x.n.toNat) from le_dec 24 _, decide_eq_false c, cd_f]
   show some ((i : Int), w64 ((s : Int) + 1)) = _
   rw [w64_of (by omega) (by omega)]
   rfl
 have k7 : (x.k == 7) = false := by rw [← Bool.not_eq_true, beq_iff_eq]; exact h7
 obtain ⟨k, n, b, l⟩ := x
 obtain ⟨p, hp, e, he, hlen⟩ := major_own h (Nat.le_trans hl (by omega)) h8 h7
 have hol := (ownE_len k n b l.length).2
 have hl2 : b.length ≤ 4096 := hb
 have hlen : e.length + b.length = (ownE k n b l.length).length := hlen
 show bnd _ _ = some (decide (s + (ownE k n b l.length).length ≤ 4096), ((i : Int), ((s + (ownE k n b l.length).length : Nat) : Int)))
 refine bnd_of (y := ((i : Int), ((s + (ownE k n b l.length).length : Nat) : Int))) ?_ (fin _)
 rw [letm_e, k8, cd_f, letm_e, k7, cd_f]
 refine bnd_of hp (bnd_of he ?_)
 rw [letm_e, letm_e]
 show some ((i : Int), w64 ((s : Int) + w64 ((e.length : Int) + (b.length : Int)))) = _
 rw [w64_of (x := (e.length : Int) + (b.length : Int)) (by omega) (by omega), w64_of (by omega) (by omega)]
 refine congrArg some (Prod.ext rfl ?_)
 show (s : Int) + ((e.length : Int) + (b.length : Int)) = ((s + (ownE k n b l.length).length : Nat) : Int)
 omega
def okC (x : Tr) (d i s : Nat) : Prop := vT x d = true ∧ i + cntT x ≤ 256 ∧ s + (encT x).length ≤ 4096
theorem encT_x (x : Tr) : encT x = ownE x.k x.n x.b x.l.length ++ encL x.l := by
 obtain ⟨k, n, b, l⟩ := x
 exact encT_mk k n b l
def ChkR (x : Tr) (d i s : Nat) (r : Option (Bool × S_cbor_checker)) : Prop :=
 (okC x d i s ∧ r = some (true, (((i + cntT x : Nat) : Int), ((s + (encT x).length : Nat) : Int)))) ∨ (¬ okC x d i s ∧ ∃ c', r = some (false, c'))
theorem kids_prog (rec : S_cbor_checker → Tr → Int → Option (Bool × S_cbor_checker)) (d : Nat) (hd : d ≤ 8) (hd1 : 1 ≤ d) (hr : ∀ y i s, i ≤ 256 → s ≤ 4096 → ChkR y (d - 1) i s (rec ((i : Int), (s : Int)) y (8 - ((d - 1 : Nat) : Int)))) (bn : Nat → S_cbor_checker → Option (Bool × S_cbor_checker)) : ∀ (l : List Tr) (k i s : Nat), i ≤ 256 → s ≤ 4096 →
  ((vL l (d - 1) = true ∧ i + cntL l ≤ 256 ∧ s + (encL l).length ≤ 4096) ∧ loopL (R := (Bool × S_cbor_checker)) (S := S_cbor_checker) (α := Go.Gk.Tr) bn (fun x42 k43 s44 self45 =>
   letm ((w64 (8 - (d : Int) + 1))) fun x46 =>
   bnd (rec s44 x42 x46) fun x47 =>
   letm ((!x47.1)) fun x48 =>
   cond x48 (some (false, x47.2))
    (self45 x47.2)) l k ((i : Int), (s : Int)) = bn (k + l.length) (((i + cntL l : Nat) : Int), ((s + (encL l).length : Nat) : Int))) ∨
  (¬ (vL l (d - 1) = true ∧ i + cntL l ≤ 256 ∧ s + (encL l).length ≤ 4096) ∧ ∃ c', loopL (R := (Bool × S_cbor_checker)) (S := S_cbor_checker) (α := Go.Gk.Tr) bn (fun x42 k43 s44 self45 =>
   letm ((w64 (8 - (d : Int) + 1))) fun x46 =>
   bnd (rec s44 x42 x46) fun x47 =>
   letm ((!x47.1)) fun x48 =>
   cond x48 (some (false, x47.2))
    (self45 x47.2)) l k ((i : Int), (s : Int)) = some (false, c'))
 | [], k, i, s, hi, hs => by
  refine .inl ⟨⟨vL_nil _, by rw [cntL_nil]; omega, by rw [encL_nil]; simpa using hs⟩, ?_⟩
  rw [loopL_nil, cntL_nil, encL_nil]; rfl
 | x :: l, k, i, s, hi, hs => by
  rw [loopL_cons, letm_e, w64_of (by omega) (by omega), show (8 : Int) - (d : Int) + 1 = 8 - ((d - 1 : Nat) : Int) by omega, vL_cons, cntL_cons, encL_cons, List.length_append]
  rcases hr x i s hi hs with ⟨⟨h1, h2, h3⟩, e⟩ | ⟨hno, c', e⟩
  ·rw [e, bnd_s, letm_e, show (!true) = false from rfl, cd_f, h1, Bool.true_and]
   have ih := kids_prog rec d hd hd1 hr bn l (k + 1) (i + cntT x) (s + (encT x).length) h2 h3
   rw [w64_of (by omega) (by omega), show (8 : Int) - (d : Int) + 1 = 8 - ((d - 1 : Nat) : Int) by omega] at ih
   rw [show i + (cntT x + cntL l) = i + cntT x + cntL l by omega, show s + ((encT x).length + (encL l).length) = s + (encT x).length + (encL l).length by omega, show k + (x :: l).length = k + 1 + l.length by rw [List.length_cons]; omega]
   exact ih
  ·refine .inr ⟨?_, c', ?_⟩
   ·rintro ⟨h1, h2, h3⟩
    rw [Bool.and_eq_true] at h1
    exact hno ⟨h1.1, by omega, by omega⟩
   ·rw [e, bnd_s, letm_e]; rfl
theorem chk_step (rec : S_cbor_checker → Tr → Int → Option (Bool × S_cbor_checker)) (d : Nat) (hd : d ≤ 8) (hr : 1 ≤ d → ∀ y i s, i ≤ 256 → s ≤ 4096 → ChkR y (d - 1) i s (rec ((i : Int), (s : Int)) y (8 - ((d - 1 : Nat) : Int)))) (x : Tr) (i s : Nat) (hi : i ≤ 256) (hs : s ≤ 4096) :
  ChkR x d i s (b_cbor_checker_item rec ((i : Int), (s : Int)) x (8 - (d : Int))) := by
 have hp := cntT_x x
 have hpl := cntL_len x.l
 have hen := encT_x x
 have no : ∀ c', ¬ okC x d i s → ChkR x d i s (some (false, c')) := fun c' h => .inr ⟨h, c', rfl⟩
 unfold b_cbor_checker_item
 rw [letm_e, w64_of (x := (i : Int) + 1) (by omega) (by omega)]
 simp only [letm_e, cd_or, cd_and, bnd_s, rem2]
 have split : ∀ {c : Bool} {p q : Option (Bool × S_cbor_checker)}, (c = true → ChkR x d i s p) → (c = false → ChkR x d i s q) → ChkR x d i s (cond c p q) := fun {c p q} h1 h2 => by
  cases c with
  | true => exact h1 rfl
  | false => exact h2 rfl
 refine split (fun g1 => ?_) (fun g1 => ?_)
 ·refine no _ (fun h => ?_)
  simp only [Bool.or_eq_true, decide_eq_true_eq] at g1
  have := h.2.1
  have h2 : x.b.length ≤ 4096 := by
   have hv := h.1
   obtain ⟨k, n, b, l⟩ := x
   exact vT_blen hv
  omega
 simp only [Bool.or_eq_false_iff, decide_eq_false_iff_not] at g1
 rw [plain_eq x (by omega), bnd_s, show (i : Int) + 1 = ((i + 1 : Nat) : Int) by omega]
 have hvx := vT_x x d
 refine split (fun hlf => ?_) (fun hlf => ?_)
 ·have hlf : isLeaf x.k = true := hlf
  have hk : x.k = 0 ∨ x.k = 1 ∨ x.k = 2 ∨ x.k = 3 ∨ x.k = 7 ∨ x.k = 8 := by
   unfold isLeaf at hlf
   simp only [Bool.or_eq_true, beq_iff_eq] at hlf
   omega
  cases hlv : leafV x.k x.n x.b x.l with
  | false =>
   show ChkR x d i s (some (false, _))
   refine no _ (fun h => ?_)
   have hv := h.1
   rw [hvx, Bool.and_eq_true, Bool.and_eq_true] at hv
   have ho := hv.1.1
   unfold ownV boxV at ho
   rw [hlv, Bool.false_or] at ho
   simp only [Bool.and_eq_true, Bool.or_eq_true, beq_iff_eq] at ho
   omega
  | true =>
   have hoV : ownV x.k x.n x.b x.l d = true := by unfold ownV; rw [hlv]; rfl
   have hown := (own_iff _ _ _ _ _).1 hoV
   have hnil : x.l = [] := by
    have := hown
    unfold ownP at this
    exact List.length_eq_zero_iff.1 (by omega)
   have hv : vT x d = true := by rw [hvx, hoV, hnil, vL_nil]; simp [ascB]
   have hsp := spend_eq x d (i + 1) s hown (by omega) (by omega) hs
   show ChkR x d i s (bnd (bnd (m_cbor_checker_spend (((i + 1 : Nat) : Int), (s : Int)) x) fun x9 => some (x9.1, x9.2)) fun v10 => some (v10.1, v10.2))
   rw [hsp, bnd_s, bnd_s]
   rw [hnil, encL_nil, List.append_nil] at hen
   rw [hnil, cntL_nil] at hp
   rw [hnil] at hsp ⊢
   by_cases c : s + (ownE x.k x.n x.b ([] : List Tr).length).length ≤ 4096
   ·refine .inl ⟨⟨hv, by omega, by rw [hen]; exact c⟩, ?_⟩
    rw [decide_eq_true c, hen, hp]
   ·refine .inr ⟨fun h => c ?_, (((i + 1 : Nat) : Int), ((s + (ownE x.k x.n x.b ([] : List Tr).length).length : Nat) : Int)), ?_⟩
    ·have := h.2.2; rw [hen] at this; exact this
    ·rw [decide_eq_false c]
 have hlf : isLeaf x.k = false := hlf
 have hnl : ¬ (x.k = 0 ∨ x.k = 1 ∨ x.k = 2 ∨ x.k = 3 ∨ x.k = 7 ∨ x.k = 8) := by
  unfold isLeaf at hlf
  simp only [Bool.or_eq_false_iff, beq_eq_false_iff_ne] at hlf
  omega
 have ofv : vT x d = true → ownP x.k x.n.toNat x.b.length x.l.length d (u8v x.b = true) (nanOK x.n = true) := by
  intro h
  rw [hvx, Bool.and_eq_true, Bool.and_eq_true] at h
  exact (own_iff _ _ _ _ _).1 h.1.1
 refine split (fun g2 => ?_) (fun g2 => ?_)
 ·refine no _ (fun h => ?_)
  have ho := ofv h.1
  unfold ownP at ho
  simp only [Bool.or_eq_true, decide_eq_true_eq] at g2
  omega
 simp only [Bool.or_eq_false_iff, decide_eq_false_iff_not] at g2
 have hz : ((UInt64.toNat 0 : Nat) : Int) = 0 := rfl
 have e3 : (bif x.k == 6 then
      bif (x.l.length : Int) != 1 then some true
      else
       bif x.k != 6 then some ((x.n.toNat : Int) != ((UInt64.toNat 0 : Nat) : Int) || x.k == 5 && ((x.l.length % 2 : Nat) : Int) == 1)
       else some (x.k == 5 && ((x.l.length % 2 : Nat) : Int) == 1)
     else
      bif x.k != 6 then some ((x.n.toNat : Int) != ((UInt64.toNat 0 : Nat) : Int) || x.k == 5 && ((x.l.length % 2 : Nat) : Int) == 1)
      else some (x.k == 5 && ((x.l.length % 2 : Nat) : Int) == 1)) = some (decide (x.k = 6 ∧ x.l.length ≠ 1 ∨ x.k ≠ 6 ∧ x.n.toNat ≠ 0 ∨ x.k = 5 ∧ x.l.length % 2 = 1)) := by
  by_cases c6 : x.k = 6
  ·rw [show (x.k == 6) = true by rw [c6]; rfl, show (x.k != 6) = false by rw [c6]; rfl, show (x.k == 5) = false by rw [c6]; rfl, cd_t, cd_f, Bool.false_and]
   by_cases c1 : x.l.length = 1
   ·rw [show ((x.l.length : Int) != 1) = false by rw [c1]; rfl, cd_f, decide_eq_false (by omega)]
   ·rw [show ((x.l.length : Int) != 1) = true by rw [bne_iff_ne]; omega, cd_t, decide_eq_true (by omega)]
  ·rw [show (x.k == 6) = false by rw [← Bool.not_eq_true, beq_iff_eq]; exact c6, show (x.k != 6) = true by rw [bne_iff_ne]; exact c6, cd_f, cd_t]
   refine congrArg some ?_
   rw [hz, Bool.eq_iff_iff, decide_eq_true_eq]
   simp only [Bool.or_eq_true, Bool.and_eq_true, bne_iff_ne, beq_iff_eq]
   omega
 rw [e3, bnd_s]
 refine split (fun g3 => ?_) (fun g3 => ?_)
 ·refine no _ (fun h => ?_)
  have ho := ofv h.1
  unfold ownP at ho
  rw [decide_eq_true_eq] at g3
  omega
 rw [decide_eq_false_iff_not] at g3
 have hown : ownP x.k x.n.toNat x.b.length x.l.length d (u8v x.b = true) (nanOK x.n = true) := own_of (by omega) (by omega) (by omega) (by omega) (by omega) (by omega) (by omega) (by omega) (by omega) (by omega) (by omega) (by omega)
 have hoV : ownV x.k x.n x.b x.l d = true := (own_iff _ _ _ _ _).2 hown
 rw [hoV, Bool.true_and] at hvx
 rw [spend_eq x d (i + 1) s hown (by omega) (by omega) hs, bnd_s]
 have hlen : (encT x).length = (ownE x.k x.n x.b x.l.length).length + (encL x.l).length := by rw [hen, List.length_append]
 by_cases c : s + (ownE x.k x.n x.b x.l.length).length ≤ 4096
 ·rw [decide_eq_true c, show (!(true, (((i + 1 : Nat) : Int), ((s + (ownE x.k x.n x.b x.l.length).length : Nat) : Int))).1) = false from rfl, cd_f]
  have hd1 : 1 ≤ d := by omega
  by_cases ci : i + 1 ≤ 256
  ·have hk := kids_prog rec d hd hd1 (hr hd1) (fun x_1 s38 => bnd (bif x.k != 5 then some true else bnd (m_cbor_ascending x.l) fun x6 => some x6) fun v41 => some (v41, s38)) x.l 0 (i + 1) (s + (ownE x.k x.n x.b x.l.length).length) ci c
   simp only [letm_e] at hk
   rcases hk with ⟨⟨k1, k2, k3⟩, e⟩ | ⟨hno, c', e⟩
   ·rw [e]
    have hasc : (bif x.k != 5 then some true else bnd (m_cbor_ascending x.l) fun x6 => some x6) = some (x.k != 5 || ascB (x.l.map encT)) := by
     rw [asc_prog x.l (d - 1) (by omega) k1 (by omega), bnd_s, cd_or]
    rw [hasc, bnd_s]
    rw [k1, Bool.true_and] at hvx
    cases ha : (x.k != 5 || ascB (x.l.map encT)) with
    | true =>
     rw [ha] at hvx
     refine .inl ⟨⟨hvx, by omega, by omega⟩, ?_⟩
     rw [hlen, hp, show i + 1 + cntL x.l = i + (1 + cntL x.l) by omega, show s + (ownE x.k x.n x.b x.l.length).length + (encL x.l).length = s + ((ownE x.k x.n x.b x.l.length).length + (encL x.l).length) by omega]
    | false =>
     rw [ha] at hvx
     exact .inr ⟨(fun h => Bool.noConfusion (hvx.symm.trans h.1)), _, rfl⟩
   ·rw [e]
    refine no _ (fun h => hno ?_)
    have h1 := h.1
    rw [hvx, Bool.and_eq_true] at h1
    have h2 := h.2.1
    have h3 := h.2.2
    exact ⟨h1.1, by omega, by omega⟩
  ·omega
 ·rw [decide_eq_false c]
  show ChkR x d i s (some (false, _))
  refine no _ (fun h => c ?_)
  have := h.2.2
  omega
theorem chk_eq (j : Nat) : ∀ (d : Nat), d ≤ 8 → ∀ (x : Tr) (i s : Nat), i ≤ 256 → s ≤ 4096 → ChkR x d i s (n_cbor_checker_item (j + d + 1) ((i : Int), (s : Int)) x (8 - (d : Int)))
 | 0, hd, x, i, s, hi, hs => chk_step _ 0 hd (fun h => absurd h (by omega)) x i s hi hs
 | d + 1, hd, x, i, s, hi, hs => chk_step _ (d + 1) hd (fun _ y i s hi hs => chk_eq j d (by omega) y i s hi hs) x i s hi hs
theorem prog_valid (x : Tr) : m_cbor_Valid x = some (okT x) := by
 have h : ChkR x 8 0 0 (m_cbor_checker_item (0, 0) x 0) := chk_eq 31 8 (by omega) x 0 0 (by omega) (by omega)
 unfold m_cbor_Valid okT
 rcases h with ⟨⟨h1, h2, h3⟩, e⟩ | ⟨hno, c', e⟩
 ·rw [e, bnd_s, h1, decide_eq_true (by omega), decide_eq_true (by omega)]; rfl
 ·rw [e, bnd_s]
  refine congrArg some ?_
  show false = _
  cases hv : vT x 8 with
  | false => rfl
  | true =>
   by_cases hc : cntT x ≤ 256
   ·rw [decide_eq_true hc, decide_eq_false (fun hs => hno ⟨hv, by omega, by omega⟩)]; rfl
   ·rw [decide_eq_false hc]; rfl
end Go.Proofs.YtbfkbakadpkgoaaGreatDoor
