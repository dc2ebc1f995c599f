/-
  Items are printed alike by both texts; decks give items; DiagPrints. Of the models alone; no program; no condition but the ranges told.
-/
import Derived.Test.YtbfkbakadpkgoaaGreatDoorQ00
import Derived.Test.YtbfkbakadpkgoaaGreatDoorMo
import Derived.Test.YtbfkbakadpkgoaaGreatDoorQDB
namespace Go.Proofs.YtbfkbakadpkgoaaGreatDoor
open Go.Gk Go.RowKit
theorem mod_some (a : Int) {m : Int} (h0 : 0 < m) (h1 : m < 4611686018427387904) : ∃ y, m_coresecmake_Mod a m = some y ∧ 0 ≤ y ∧ y < m := by
 obtain ⟨q, hq, l1, l2⟩ := rem_some (a := a) h0
 unfold m_coresecmake_Mod
 rw [hq, bnd_s, letm_e]
 by_cases h : q < 0
 ·rw [decide_eq_true h, cd_t, letm_e, bnd_s, w64_of (by omega) (by omega)]
  exact ⟨_, rfl, by omega, by omega⟩
 ·rw [decide_eq_false h, cd_f, bnd_s]
  exact ⟨_, rfl, by omega, by omega⟩
structure DeckOK (d : S_coresecmake_Deck) : Prop where
 lo : 0 ≤ d.2
 hi : d.2 ≤ (d.1.length : Int)
 len : d.1.length ≤ maxLen
theorem new_ok {l : List Int} (h : l.length ≤ maxLen) : DeckOK (l, 0) := ⟨Int.le_refl _, by show (0 : Int) ≤ (l.length : Int); omega, h⟩
theorem next_some {d : S_coresecmake_Deck} (h : DeckOK d) {n : Int} (h0 : 0 < n) (h1 : n < 4611686018427387904) : ∃ v d', m_coresecmake_Deck_Next d n = some (v, d') ∧ 0 ≤ v ∧ v < n ∧ DeckOK d' := by
 have hm : maxLen = 9223372036854775807 := rfl
 have a := h.lo
 have b := h.hi
 have c := h.len
 unfold m_coresecmake_Deck_Next
 rw [letm_e]
 by_cases hq : (d.1.length : Int) ≤ d.2
 ·rw [decide_eq_true hq, cd_t]
  exact ⟨0, d, rfl, Int.le_refl _, h0, h⟩
 ·rw [decide_eq_false hq, cd_f, letm_e, letm_e, w64_of (x := d.2 + 1) (by omega) (by omega), w64_of (by omega) (by omega)]
  obtain ⟨i, hi⟩ : ∃ i : Nat, d.2 + 1 - 1 = (i : Int) := ⟨d.2.toNat, by omega⟩
  have hlt : i < d.1.length := by omega
  rw [hi, idx_some' (List.getElem?_eq_getElem hlt), bnd_s]
  obtain ⟨y, hy, y0, y1⟩ := mod_some d.1[i] h0 h1
  rw [hy, bnd_s]
  exact ⟨_, _, rfl, y0, y1, by show 0 ≤ d.2 + 1; omega, by show d.2 + 1 ≤ (d.1.length : Int); omega, c⟩
theorem idx_lit {α : Type} (l : List α) {v : Int} (h0 : 0 ≤ v) (h1 : v < (l.length : Int)) : ∃ x, idx l v = some x ∧ x ∈ l := by
 obtain ⟨i, rfl⟩ : ∃ i : Nat, v = (i : Int) := ⟨v.toNat, by omega⟩
 have hi : i < l.length := by omega
 exact ⟨l[i], idx_some' (List.getElem?_eq_getElem hi), List.getElem_mem hi⟩
def hexL : List UInt8 := [48, 49, 50, 51, 52, 53, 54, 55, 56, 57, 97, 98, 99, 100, 101, 102]
def hexd (i : Nat) : UInt8 := hexL.getD i 0
theorem hex_idx {i : Nat} (h : i < 16) : idx hexL ((i : Nat) : Int) = some (hexd i) := by
 have : i < hexL.length := h
 rw [idx_some' (List.getElem?_eq_getElem this)]
 unfold hexd
 rw [List.getD_eq_getElem?_getD, List.getElem?_eq_getElem this]; rfl
theorem shr4 : ∀ c : Fin 256, (Option.map (fun x : UInt8 => x.toNat) (shrK .u8 (UInt8.ofNat c.1) (UInt64.toNat 4 : Int)) : Option Nat) = some (c.1 / 16) := by decide +kernel
theorem and15 : ∀ c : Fin 256, toU8 (bits .and .u8 (UInt8.toNat (UInt8.ofNat c.1)) (UInt8.toNat 15)) = UInt8.ofNat (c.1 % 16) := by decide +kernel
theorem shr4' (x : UInt8) : @Eq (Option UInt8) (shrK .u8 x (UInt64.toNat 4 : Int)) (some (UInt8.ofNat (x.toNat / 16))) := by
 have := shr4 ⟨x.toNat, UInt8.toNat_lt x⟩
 rw [show UInt8.ofNat ((⟨x.toNat, UInt8.toNat_lt x⟩ : Fin 256).1) = x by simp] at this
 obtain ⟨y, h1, h2⟩ := Option.map_eq_some_iff.1 this
 have h1 : @Eq (Option UInt8) (shrK .u8 x (UInt64.toNat 4 : Int)) (some y) := h1
 refine h1.trans (congrArg some (UInt8.toNat_inj.1 ?_))
 have h2 : y.toNat = x.toNat / 16 := h2
 have hx := UInt8.toNat_lt x
 rw [h2, UInt8.toNat_ofNat']
 omega
theorem and15' (x : UInt8) : toU8 (bits .and .u8 (UInt8.toNat x) (UInt8.toNat 15)) = UInt8.ofNat (x.toNat % 16) := by
 have := and15 ⟨x.toNat, UInt8.toNat_lt x⟩
 rwa [show UInt8.ofNat ((⟨x.toNat, UInt8.toNat_lt x⟩ : Fin 256).1) = x by simp] at this
theorem hexpair {α : Type} (x : UInt8) (K : UInt8 → UInt8 → Option α) : (bnd (shrK .u8 x (UInt64.toNat 4 : Int)) fun x8 => bnd (idx [48, 49, 50, 51, 52, 53, 54, 55, 56, 57, 97, 98, 99, 100, 101, 102] (UInt8.toNat x8 : Int)) fun x9 =>
  letm ((toU8 (bits .and .u8 (UInt8.toNat x) (UInt8.toNat 15)))) fun x10 => bnd (idx [48, 49, 50, 51, 52, 53, 54, 55, 56, 57, 97, 98, 99, 100, 101, 102] (UInt8.toNat x10 : Int)) fun x11 => K x9 x11) = K (hexd (x.toNat / 16)) (hexd (x.toNat % 16)) := by
 have hx := UInt8.toNat_lt x
 refine bnd_of (shr4' x) ?_
 rw [show ((UInt8.toNat (UInt8.ofNat (x.toNat / 16)) : Nat) : Int) = ((x.toNat / 16 : Nat) : Int) by rw [UInt8.toNat_ofNat']; omega]
 refine bnd_of (hex_idx (by omega)) ?_
 rw [letm_e, and15', show ((UInt8.toNat (UInt8.ofNat (x.toNat % 16)) : Nat) : Int) = ((x.toNat % 16 : Nat) : Int) by rw [UInt8.toNat_ofNat']; omega]
 exact bnd_of (hex_idx (by omega)) rfl
def hexS (b : List UInt8) : List UInt8 := b.flatMap fun c => [hexd (c.toNat / 16), hexd (c.toNat % 16)]
def qc (c : UInt8) : List UInt8 := if c = 34 ∨ c = 92 then [92, c] else if c.toNat < 32 ∨ c = 127 then [92, 117, 48, 48, hexd (c.toNat / 16), hexd (c.toNat % 16)] else [c]
theorem hexS_len (b : List UInt8) : (hexS b).length = 2 * b.length := by
 unfold hexS
 induction b with
 | nil => rfl
 | cons c b ih => rw [List.flatMap_cons, List.length_append, ih, List.length_cons]; simp; omega
theorem qc_len (c : UInt8) : (qc c).length ≤ 6 := by
 unfold qc
 split
 ·simp
 ·split <;> simp
theorem qcs_len (b : List UInt8) : (b.flatMap qc).length ≤ 6 * b.length := by
 induction b with
 | nil => simp
 | cons c b ih => have := qc_len c; rw [List.flatMap_cons, List.length_append, List.length_cons]; omega
theorem loopL_flat {R : Type} {bn : Nat → List UInt8 → Option R} {bs : UInt8 → Nat → List UInt8 → (List UInt8 → Option R) → Option R} (f : UInt8 → List UInt8) (hf : ∀ c, (f c).length ≤ 6)
  (hs : ∀ x k s self, s.length + 6 ≤ 4294967296 → bs x k s self = self (s ++ f x)) : ∀ (b : List UInt8) (k : Nat) (s : List UInt8), s.length + 6 * b.length ≤ 4294967296 → loopL bn bs b k s = bn (k + b.length) (s ++ b.flatMap f)
 | [], k, s, _ => by rw [loopL_nil, List.flatMap_nil, List.append_nil]; rfl
 | c :: b, k, s, h => by
  rw [List.length_cons] at h
  have := hf c
  rw [loopL_cons, hs _ _ _ _ (by omega), loopL_flat f hf hs b (k + 1) _ (by rw [List.length_append]; omega), List.flatMap_cons, List.append_assoc, List.length_cons, show k + 1 + b.length = k + (b.length + 1) by omega]
theorem two_len (c : UInt8) : ([hexd (c.toNat / 16), hexd (c.toNat % 16)] : List UInt8).length ≤ 6 := by simp
theorem hexed_eq (s b : List UInt8) (h : s.length + 6 * b.length ≤ 4294967296) : m_diag_hexed_o s b = some (s ++ hexS b) := by
 unfold m_diag_hexed_o
 refine (loopL_flat (fun c => [hexd (c.toNat / 16), hexd (c.toNat % 16)]) two_len (fun x k s self hl => ?_) b 0 s h).trans rfl
 refine (hexpair x _).trans ?_
 rw [app_some' (by simp; omega), bnd_s]
theorem hex_ref (b : List UInt8) (h : b.length ≤ 1000000) : m_coresecref03_Hex b = some (hexS b) := by
 unfold m_coresecref03_Hex
 refine (loopL_flat (fun c => [hexd (c.toNat / 16), hexd (c.toNat % 16)]) two_len (fun x k s self hl => ?_) b 0 [] (by simp; omega)).trans rfl
 refine (hexpair x _).trans ?_
 rw [app_some' (by simp; omega), bnd_s]
theorem u8eq (x y : UInt8) : (((UInt8.toNat x : Nat) : Int) == ((UInt8.toNat y : Nat) : Int)) = decide (x = y) := by
 rw [Bool.eq_iff_iff, beq_iff_eq, decide_eq_true_eq]
 constructor
 ·intro h; exact UInt8.toNat_inj.1 (by omega)
 ·rintro rfl; rfl
theorem u8lt (x y : UInt8) : decide (((UInt8.toNat x : Nat) : Int) < ((UInt8.toNat y : Nat) : Int)) = decide (x.toNat < y.toNat) := lt_dec _ _
theorem quo_body {α : Type} (x : UInt8) (s : List UInt8) (K : List UInt8 → Option α) (hl : s.length + 6 ≤ 4294967296) : (bnd (β := (List UInt8)) (bnd (β := Bool) (letm (((UInt8.toNat x : Int) == (UInt8.toNat 34 : Int))) fun x10 =>
  cond x10 (some true)
   (letm (((UInt8.toNat x : Int) == (UInt8.toNat 92 : Int))) fun x11 =>
  some x11)) fun v12 =>
  cond v12 (bnd (app s [92, x]) fun x13 =>
  some x13)
   (bnd (β := Bool) (letm (decide ((UInt8.toNat x : Int) < (UInt8.toNat 32 : Int))) fun x14 =>
  cond x14 (some true)
   (letm (((UInt8.toNat x : Int) == (UInt8.toNat 127 : Int))) fun x15 =>
  some x15)) fun v16 =>
  cond v16 (bnd (shrK .u8 x (UInt64.toNat 4 : Int)) fun x17 =>
  bnd (idx [48, 49, 50, 51, 52, 53, 54, 55, 56, 57, 97, 98, 99, 100, 101, 102] (UInt8.toNat x17 : Int)) fun x18 =>
  letm ((toU8 (bits .and .u8 (UInt8.toNat x) (UInt8.toNat 15)))) fun x19 =>
  bnd (idx [48, 49, 50, 51, 52, 53, 54, 55, 56, 57, 97, 98, 99, 100, 101, 102] (UInt8.toNat x19 : Int)) fun x20 =>
  bnd (app s [92, 117, 48, 48, x18, x20]) fun x21 =>
  some x21)
   (bnd (app s [x]) fun x22 =>
  some x22))) K) = K (s ++ qc x) := by
 refine bnd_of ?_ rfl
 rw [letm_e, letm_e, cd_or, bnd_s, u8eq, u8eq]
 unfold qc
 by_cases c1 : x = 34 ∨ x = 92
 ·rw [if_pos c1, show (decide (x = 34) || decide (x = 92)) = true by simp [c1], cd_t, app_some' (by simp; omega), bnd_s]
 rw [if_neg c1, show (decide (x = 34) || decide (x = 92)) = false by rw [← Bool.not_eq_true]; simpa using c1, cd_f, letm_e, letm_e, cd_or, bnd_s, u8lt, u8eq]
 have h32 : (32 : UInt8).toNat = 32 := rfl
 by_cases c2 : x.toNat < 32 ∨ x = 127
 ·rw [if_pos c2, show (decide (x.toNat < UInt8.toNat 32) || decide (x = 127)) = true by rw [h32]; simpa using c2, cd_t]
  refine (hexpair x _).trans ?_
  rw [app_some' (by simp; omega), bnd_s]
 ·rw [if_neg c2, show (decide (x.toNat < UInt8.toNat 32) || decide (x = 127)) = false by rw [h32, ← Bool.not_eq_true]; simpa using c2, cd_f, app_some' (by simp; omega), bnd_s]
theorem quoted_eq (s b : List UInt8) (h : s.length + 6 * b.length + 2 ≤ 4294967296) : m_diag_quoted_o s b = some (s ++ (34 :: b.flatMap qc ++ [34])) := by
 have hq := qcs_len b
 unfold m_diag_quoted_o
 rw [app_some' (by simp; omega), bnd_s]
 refine (loopL_flat qc qc_len (fun x k s self hl => quo_body x s self hl) b 0 _ (by simp; omega)).trans ?_
 rw [app_some' (by simp only [List.length_append, List.length_cons, List.length_nil]; omega), bnd_s]
 simp
theorem quoted_ref (b : List UInt8) (h : b.length ≤ 1000000) : m_coresecref03_quoted b = some (34 :: b.flatMap qc ++ [34]) := by
 have hq := qcs_len b
 unfold m_coresecref03_quoted
 refine (loopL_flat qc qc_len (fun x k s self hl => quo_body x s self hl) b 0 _ (by simp; omega)).trans ?_
 rw [app_some' (by simp only [List.length_append, List.length_cons, List.length_nil]; omega), bnd_s]
 simp
def dig (n : UInt64) : List UInt8 := Lib.decDigits n.toNat
theorem dec_big {m : Nat} (h : 10 ≤ m) : Lib.decDigits m = Lib.decDigits (m / 10) ++ [UInt8.ofNat (48 + m % 10)] := by rw [Lib.decDigits, dif_neg (by omega)]
theorem dec_small {m : Nat} (h : m < 10) : Lib.decDigits m = [UInt8.ofNat (48 + m)] := Lib.decDigits_one h
theorem dec_len : ∀ (k m : Nat), m < 10 ^ (k + 1) → 1 ≤ (Lib.decDigits m).length ∧ (Lib.decDigits m).length ≤ k + 1
 | 0, m, h => by rw [dec_small (by simpa using h)]; simp
 | k + 1, m, h => by
  by_cases c : m < 10
  ·rw [dec_small c]; simp
  ·have := dec_len k (m / 10) (by rw [Nat.pow_succ] at h; omega)
   rw [dec_big (by omega), List.length_append]
   simp only [List.length_cons, List.length_nil]
   omega
theorem dig_len (n : UInt64) : 1 ≤ (dig n).length ∧ (dig n).length ≤ 20 := dec_len 19 n.toNat (by have := n.toNat_lt; omega)
theorem cut_hex : ∀ d : Fin 10, Gk.cut hexL ((d.1 : Nat) : Int) ((d.1 + 1 : Nat) : Int) = some [UInt8.ofNat (48 + d.1)] := by decide +kernel
theorem rem10 {m : Nat} (h : m < 18446744073709551616) : @Eq (Option UInt64) (remK .u64 (UInt64.ofNat m) (10 : UInt64)) (some (UInt64.ofNat (m % 10))) := by
 show (if UInt64.toNat 10 = 0 then none else some (UInt64.mod (UInt64.ofNat m) 10)) = _
 rw [if_neg (by decide)]
 refine congrArg some (UInt64.toNat_inj.1 ?_)
 show (UInt64.ofNat m % 10).toNat = _
 rw [UInt64.toNat_mod, nat64 h, nat64 (by omega)]
 rfl
theorem quo10 {m : Nat} (h : m < 18446744073709551616) : @Eq (Option UInt64) (quoK .u64 (UInt64.ofNat m) (10 : UInt64)) (some (UInt64.ofNat (m / 10))) := by
 show (if toI .u64 (10 : UInt64) = 0 then none else some (fromI .u64 ((toI .u64 (UInt64.ofNat m)).tdiv (toI .u64 (10 : UInt64))))) = _
 rw [if_neg (by decide)]
 show some (toU64 ((((UInt64.ofNat m).toNat : Nat) : Int).tdiv ((10 : Nat) : Int))) = _
 rw [nat64 h, ← Int.ofNat_tdiv, toU64_nat']
theorem decimal_eq (n : UInt64) : m_coresecref03_decimal n = some (dig n) := by
 have key : ∀ (f m : Nat) (acc : List UInt8), m < f → m < 18446744073709551616 → (Lib.decDigits m).length + acc.length ≤ 1000 → ∃ q str, q < 10 ∧ loopF (R := (UInt64 × (List UInt8))) (S := (UInt64 × (List UInt8))) (fun self2 s1 =>
   letm (decide ((UInt64.toNat 9 : Int) < (UInt64.toNat s1.1 : Int))) fun x3 =>
   cond x3 (bnd ((remK .u64 (s1.1 : UInt64) (10 : UInt64) : Option UInt64)) fun (x4 : UInt64) =>
   letm ((x4 + 1)) fun x5 =>
   bnd (Gk.cut [48, 49, 50, 51, 52, 53, 54, 55, 56, 57, 97, 98, 99, 100, 101, 102] (UInt64.toNat x4 : Int) (UInt64.toNat x5 : Int)) fun x6 =>
   bnd (app x6 s1.2) fun x7 =>
   bnd ((quoK .u64 (s1.1 : UInt64) (10 : UInt64) : Option UInt64)) fun (x8 : UInt64) =>
   self2 (x8, x7))
    (some (s1.1, s1.2))) f (UInt64.ofNat m, acc) = some (UInt64.ofNat q, str) ∧ Lib.decDigits m ++ acc = UInt8.ofNat (48 + q) :: str ∧ str.length ≤ 1000 := by
  intro f
  induction f with
  | zero => intro m acc h; omega
  | succ f ih =>
   intro m acc hf hm hl
   rw [loopF_succ, letm_e]
   have h9 : decide (((UInt64.toNat 9 : Nat) : Int) < ((UInt64.toNat (UInt64.ofNat m) : Nat) : Int)) = decide (9 < m) := by rw [nat64 hm]; exact lt_dec 9 m
   show ∃ q str, q < 10 ∧ cond (decide (((UInt64.toNat 9 : Nat) : Int) < ((UInt64.toNat (UInt64.ofNat m) : Nat) : Int))) _ _ = _ ∧ _
   rw [h9]
   by_cases c : 9 < m
   ·rw [decide_eq_true c, cd_t]
    have hd := dec_big (m := m) (by omega)
    rw [hd, List.length_append, List.length_cons, List.length_nil] at hl
    obtain ⟨q, str, h1, h2, h3, h4⟩ := ih (m / 10) (UInt8.ofNat (48 + m % 10) :: acc) (by omega) (by omega) (by rw [List.length_cons]; omega)
    refine ⟨q, str, h1, ?_, by rw [← h3, hd, List.append_assoc]; rfl, h4⟩
    refine bnd_of (rem10 hm) ?_
    have e1 : (UInt64.ofNat (m % 10) + 1).toNat = m % 10 + 1 := by
     rw [UInt64.toNat_add, nat64 (by omega)]
     show (m % 10 + 1) % 2 ^ 64 = _
     omega
    rw [letm_e, e1, nat64 (by omega)]
    refine bnd_of (cut_hex ⟨m % 10, by omega⟩) ?_
    show bnd (app [UInt8.ofNat (48 + m % 10)] acc) _ = _
    rw [app_some' (by simp only [List.length_cons, List.length_nil]; omega), bnd_s]
    refine bnd_of (quo10 hm) ?_
    exact h2
   ·rw [decide_eq_false c, cd_f]
    refine ⟨m, acc, by omega, rfl, by rw [dec_small (by omega)]; rfl, by omega⟩
 have hn := n.toNat_lt
 have hdl := dig_len n
 obtain ⟨q, str, h1, h2, h3, h4⟩ := key FUEL n.toNat [] (by rw [fuel_eq]; omega) hn (by unfold dig at hdl; rw [List.length_nil]; omega)
 rw [List.append_nil] at h3
 unfold m_coresecref03_decimal
 rw [show UInt64.ofNat n.toNat = n by simp] at h2
 refine bnd_of h2 ?_
 have e1 : (UInt64.ofNat q + 1).toNat = q + 1 := by
  rw [UInt64.toNat_add, nat64 (by omega)]
  show (q + 1) % 2 ^ 64 = _
  omega
 show letm (UInt64.ofNat q + 1) _ = _
 rw [letm_e]
 show bnd (Gk.cut _ (((UInt64.ofNat q).toNat : Nat) : Int) (((UInt64.ofNat q + 1).toNat : Nat) : Int)) _ = _
 rw [e1, nat64 (by omega)]
 refine bnd_of (cut_hex ⟨q, h1⟩) ?_
 show bnd (app [UInt8.ofNat (48 + q)] str) _ = _
 rw [app_some' (by simp only [List.length_cons, List.length_nil]; omega), bnd_s]
 unfold dig
 rw [h3]; rfl
theorem appu_eq (s : List UInt8) (n : UInt64) (h : s.length + 20 ≤ 4294967296) : m_strconv_AppendUint_o s n 10 = some (s ++ dig n) := by
 have hl := dig_len n
 show bnd (app s (dig n)) (fun x3 => some x3) = _
 rw [app_some' (by omega), bnd_s]
def flR (n : Nat) : Nat → List UInt8
 | 0 => [hexd (n % 16)]
 | k + 1 => hexd (n / 2 ^ (4 * (k + 1)) % 16) :: flR n k
theorem flR_be (n : UInt64) : flR n.toNat 15 = hexS (be8 n) := by
 have hn := n.toNat_lt
 have e : ∀ k : Nat, k ≤ 60 → (toU8 (((UInt64.ofNat (n.toNat / 2 ^ k)).toNat : Nat) : Int)).toNat = n.toNat / 2 ^ k % 256 := by
  intro k hk
  have : n.toNat / 2 ^ k ≤ n.toNat := Nat.div_le_self _ _
  rw [nat64 (by omega), u8nat, UInt8.toNat_ofNat']
 unfold hexS be8
 simp only [List.flatMap_cons, List.flatMap_nil, List.append_nil, e 56 (by omega), e 48 (by omega), e 40 (by omega), e 32 (by omega), e 24 (by omega), e 16 (by omega), e 8 (by omega), e 0 (by omega)]
 simp only [flR]
 have d : ∀ k : Nat, n.toNat / 2 ^ (k + 4) % 16 = n.toNat / 2 ^ k % 256 / 16 := by
  intro k
  rw [Nat.pow_add, ← Nat.div_div_eq_div_mul]
  omega
 have m : ∀ k : Nat, n.toNat / 2 ^ k % 16 = n.toNat / 2 ^ k % 256 % 16 := by intro k; omega
 have d56 := d 56; have d48 := d 48; have d40 := d 40; have d32 := d 32; have d24 := d 24; have d16 := d 16; have d8 := d 8; have d0 := d 0
 have m56 := m 56; have m48 := m 48; have m40 := m 40; have m32 := m 32; have m24 := m 24; have m16 := m 16; have m8 := m 8; have m0 := m 0
 simp only [Nat.reduceAdd, Nat.reduceMul] at *
 rw [d56, d48, d40, d32, d24, d16, d8, m56, m48, m40, m32, m24, m16, m8]
 rw [show n.toNat / 2 ^ 4 % 16 = n.toNat / 2 ^ 0 % 256 / 16 from d0, show n.toNat % 16 = n.toNat / 2 ^ 0 % 256 % 16 by rw [Nat.pow_zero, Nat.div_one]; omega]
 rfl
theorem fl_loop (n : UInt64) (K : List UInt8 → Option (List UInt8)) : ∀ (k f : Nat) (s : List UInt8), k ≤ 15 → k < f → s.length + k ≤ 4000000000 → loopF (R := (List UInt8)) (S := ((List UInt8) × Int)) (fun self35 s34 =>
  letm (decide (0 ≤ s34.2)) fun x36 =>
  cond x36 (bnd ((shrK .u64 (n : UInt64) s34.2 : Option UInt64)) fun (x37 : UInt64) =>
  letm ((bitK .and .u64 (x37 : UInt64) (15 : UInt64) : UInt64)) fun x38 =>
  bnd (idx [48, 49, 50, 51, 52, 53, 54, 55, 56, 57, 97, 98, 99, 100, 101, 102] (UInt64.toNat x38 : Int)) fun x39 =>
  bnd (app s34.1 [x39]) fun x40 =>
  letm ((w64 (s34.2 - 4))) fun x41 =>
  self35 (x40, x41))
   (K s34.1)) (f + 1) (s, ((4 * k : Nat) : Int)) = K (s ++ flR n.toNat k) := by
 intro k
 induction k with
 | zero =>
  intro f s hk hf hs
  obtain ⟨f, rfl⟩ : ∃ f', f = f' + 1 := ⟨f - 1, by omega⟩
  have hn := n.toNat_lt
  rw [loopF_succ, letm_e, decide_eq_true (show (0 : Int) ≤ ((4 * 0 : Nat) : Int) by omega), cd_t]
  refine bnd_of (sr64 n 0 (by omega)) ?_
  rw [letm_e, and_low _ 4 15 rfl, nat64 (n := n.toNat / 2 ^ 0) (by omega), nat64 (by omega), Nat.pow_zero, Nat.div_one]
  refine bnd_of (hex_idx (i := n.toNat % 2 ^ 4) (by omega)) ?_
  rw [app_some' (by simp only [List.length_cons, List.length_nil]; omega), bnd_s, letm_e, loopF_succ, letm_e]
  rfl
 | succ k ih =>
  intro f s hk hf hs
  obtain ⟨f, rfl⟩ : ∃ f', f = f' + 1 := ⟨f - 1, by omega⟩
  have hn := n.toNat_lt
  have hle : n.toNat / 2 ^ (4 * (k + 1)) ≤ n.toNat := Nat.div_le_self _ _
  rw [loopF_succ, letm_e, decide_eq_true (show (0 : Int) ≤ ((4 * (k + 1) : Nat) : Int) by omega), cd_t]
  refine bnd_of (sr64 n (4 * (k + 1)) (by omega)) ?_
  rw [letm_e, and_low _ 4 15 rfl, nat64 (n := n.toNat / 2 ^ (4 * (k + 1))) (by omega), nat64 (by omega)]
  refine bnd_of (hex_idx (i := n.toNat / 2 ^ (4 * (k + 1)) % 2 ^ 4) (by omega)) ?_
  rw [app_some' (by simp only [List.length_cons, List.length_nil]; omega), bnd_s, letm_e, w64_of (by omega) (by omega), show ((4 * (k + 1) : Nat) : Int) - 4 = ((4 * k : Nat) : Int) by omega]
  rw [ih f _ (by omega) (by omega) (by rw [List.length_append]; simp only [List.length_cons, List.length_nil]; omega), flR, List.append_assoc]
  rfl
theorem pattern_eq (n : UInt64) : m_coresecref03_pattern n = some (hexS (be8 n)) := by
 have h : m_coresecref03_pattern n = bnd (m_coresecref03_Hex (be8 n)) (fun x10 => some x10) := by kernel_rfl
 rw [h, hex_ref _ (by unfold be8; simp), bnd_s]
theorem fl_put (n : UInt64) (s : List UInt8) (hs : s.length + 30 ≤ 4000000000) : loopF (R := (List UInt8)) (S := ((List UInt8) × Int)) (fun self35 s34 =>
  letm (decide (0 ≤ s34.2)) fun x36 =>
  cond x36 (bnd ((shrK .u64 (n : UInt64) s34.2 : Option UInt64)) fun (x37 : UInt64) =>
  letm ((bitK .and .u64 (x37 : UInt64) (15 : UInt64) : UInt64)) fun x38 =>
  bnd (idx [48, 49, 50, 51, 52, 53, 54, 55, 56, 57, 97, 98, 99, 100, 101, 102] (UInt64.toNat x38 : Int)) fun x39 =>
  bnd (app s34.1 [x39]) fun x40 =>
  letm ((w64 (s34.2 - 4))) fun x41 =>
  self35 (x40, x41))
   (bnd (app s34.1 [39]) fun x42 => some x42)) FUEL (s, 60) = some (s ++ hexS (be8 n) ++ [39]) := by
 have h := fl_loop n (fun s => bnd (app s [39]) fun x42 => some x42) 15 1180591620717411303423 s (by omega) (by omega) (by omega)
 rw [flR_be] at h
 have hl : (hexS (be8 n)).length = 16 := by rw [hexS_len]; rfl
 refine h.trans ?_
 show bnd (app (s ++ hexS (be8 n)) [39]) _ = _
 rw [app_some' (by rw [List.length_append, hl]; simp only [List.length_cons, List.length_nil]; omega), bnd_s]
def nmL : List (List UInt8) := [[102, 97, 108, 115, 101], [116, 114, 117, 101], [110, 117, 108, 108], [117, 110, 100, 101, 102, 105, 110, 101, 100]]
def bigT : List UInt8 := [45, 49, 56, 52, 52, 54, 55, 52, 52, 48, 55, 51, 55, 48, 57, 53, 53, 49, 54, 49, 54]
def sepT (m : Bool) (i : Nat) : List UInt8 := if i = 0 then [] else if m && i % 2 == 1 then [58, 32] else [44, 32]
mutual
def txT : Tr → List UInt8
 | .mk k n b l => if k = 0 then dig n else if k = 1 then (if n.toNat = 18446744073709551615 then bigT else 45 :: dig (n + 1)) else if k = 2 then [104, 39] ++ hexS b ++ [39]
  else if k = 3 then 34 :: b.flatMap qc ++ [34] else if k = 6 then dig n ++ [40] ++ txL l false 0 ++ [41]
  else if k = 7 then (if 20 ≤ n.toNat ∧ n.toNat < 24 then nmL.getD (n.toNat - 20) [] else [115, 105, 109, 112, 108, 101, 40] ++ dig n ++ [41])
  else if k = 8 then [102, 108, 111, 97, 116, 39] ++ hexS (be8 n) ++ [39] else (if k = 5 then [123] else [91]) ++ txL l (k == 5) 0 ++ (if k = 5 then [125] else [93])
def txL : List Tr → Bool → Nat → List UInt8
 | [], _, _ => []
 | x :: l, m, i => sepT m i ++ txT x ++ txL l m (i + 1)
end
theorem txL_nil (m i) : txL [] m i = [] := by unfold txL; rfl
theorem txL_cons (x l m i) : txL (x :: l) m i = sepT m i ++ txT x ++ txL l m (i + 1) := by rw [txL]
theorem txT_mk (k n b l) : txT (.mk k n b l) = if k = 0 then dig n else if k = 1 then (if n.toNat = 18446744073709551615 then bigT else 45 :: dig (n + 1)) else if k = 2 then [104, 39] ++ hexS b ++ [39]
  else if k = 3 then 34 :: b.flatMap qc ++ [34] else if k = 6 then dig n ++ [40] ++ txL l false 0 ++ [41]
  else if k = 7 then (if 20 ≤ n.toNat ∧ n.toNat < 24 then nmL.getD (n.toNat - 20) [] else [115, 105, 109, 112, 108, 101, 40] ++ dig n ++ [41])
  else if k = 8 then [102, 108, 111, 97, 116, 39] ++ hexS (be8 n) ++ [39] else (if k = 5 then [123] else [91]) ++ txL l (k == 5) 0 ++ (if k = 5 then [125] else [93]) := by unfold txT; rfl
theorem tx0 (n b l) : txT (.mk 0 n b l) = dig n := txT_mk 0 n b l
theorem tx1 (n b l) : txT (.mk 1 n b l) = if n.toNat = 18446744073709551615 then bigT else 45 :: dig (n + 1) := txT_mk 1 n b l
theorem tx2 (n b l) : txT (.mk 2 n b l) = [104, 39] ++ hexS b ++ [39] := txT_mk 2 n b l
theorem tx3 (n b l) : txT (.mk 3 n b l) = 34 :: b.flatMap qc ++ [34] := txT_mk 3 n b l
theorem tx4 (n b l) : txT (.mk 4 n b l) = [91] ++ txL l false 0 ++ [93] := txT_mk 4 n b l
theorem tx5 (n b l) : txT (.mk 5 n b l) = [123] ++ txL l true 0 ++ [125] := txT_mk 5 n b l
theorem tx6 (n b l) : txT (.mk 6 n b l) = dig n ++ [40] ++ txL l false 0 ++ [41] := txT_mk 6 n b l
theorem tx7 (n b l) : txT (.mk 7 n b l) = if 20 ≤ n.toNat ∧ n.toNat < 24 then nmL.getD (n.toNat - 20) [] else [115, 105, 109, 112, 108, 101, 40] ++ dig n ++ [41] := txT_mk 7 n b l
theorem tx8 (n b l) : txT (.mk 8 n b l) = [102, 108, 111, 97, 116, 39] ++ hexS (be8 n) ++ [39] := txT_mk 8 n b l
theorem sepT_len (m i) : (sepT m i).length ≤ 2 := by
 unfold sepT
 split
 ·simp
 ·split <;> simp
theorem nmL_len (i : Nat) : (nmL.getD i []).length ≤ 9 := by
 match i with
 | 0 => decide
 | 1 => decide
 | 2 => decide
 | 3 => decide
 | i + 4 => simp [nmL]
mutual
theorem txT_len : (x : Tr) → (d : Nat) → vT x d = true → (txT x).length + 2 ≤ 24700 * cntT x
 | .mk k n b l, d, h => by
  have hb := vT_blen h
  have d1 := dig_len n
  have d2 := dig_len (n + 1)
  have hx := hexS_len b
  have hf : (hexS (be8 n)).length = 16 := by rw [hexS_len]; rfl
  have hq := qcs_len b
  have hnm := nmL_len (n.toNat - 20)
  have hbig : bigT.length = 21 := rfl
  rw [cntT_mk]
  rcases vT_inv h with ⟨hk, rfl, rfl⟩ | ⟨rfl, rfl, rfl, _⟩ | ⟨rfl, rfl, rfl, _, _⟩ | ⟨rfl, rfl, rfl, hn⟩ | ⟨rfl, rfl, rfl, _⟩ | ⟨rfl, rfl, rfl, g1, gl⟩ | ⟨rfl, rfl, rfl, g1, _, gl, _⟩ | ⟨rfl, rfl, g1, y, rfl, gy⟩
  ·rcases hk with rfl | rfl
   ·rw [tx0]; omega
   ·rw [tx1]
    split
    ·omega
    ·rw [List.length_cons]; omega
  ·rw [tx2]; simp only [List.length_append, List.length_cons, List.length_nil]; omega
  ·rw [tx3]; simp only [List.length_append, List.length_cons, List.length_nil]; omega
  ·rw [tx7]
   split
   ·omega
   ·simp only [List.length_append, List.length_cons, List.length_nil]; omega
  ·rw [tx8]; simp only [List.length_append, List.length_cons, List.length_nil]; omega
  ·have := txL_len l (d - 1) false 0 gl
   rw [tx4]; simp only [List.length_append, List.length_cons, List.length_nil]; omega
  ·have := txL_len l (d - 1) true 0 gl
   rw [tx5]; simp only [List.length_append, List.length_cons, List.length_nil]; omega
  ·have := txL_len [y] (d - 1) false 0 (by rw [vL_cons, vL_nil, gy]; rfl)
   rw [tx6]; simp only [List.length_append, List.length_cons, List.length_nil]; omega
theorem txL_len : (l : List Tr) → (d : Nat) → (m : Bool) → (i : Nat) → vL l d = true → (txL l m i).length ≤ 24700 * cntL l
 | [], _, _, _, _ => by rw [txL_nil]; simp
 | x :: l, d, m, i, h => by
  rw [vL_cons, Bool.and_eq_true] at h
  have h1 := txT_len x d h.1
  have h2 := txL_len l d m (i + 1) h.2
  have h3 := sepT_len m i
  rw [txL_cons, cntL_cons, List.length_append, List.length_append]
  omega
end
theorem i1 (i : Nat) : (((i % 2 : Nat) : Int) == 1) = (i % 2 == 1) := by
 rw [Bool.eq_iff_iff, beq_iff_eq, beq_iff_eq]; omega
theorem sep_ref {α : Type} (m : Bool) (i : Nat) (s : List UInt8) (K : List UInt8 → Option α) (hs : s.length + 2 ≤ 4294967296) : (bnd (β := (List UInt8)) (bnd (β := Bool) (letm (decide (0 < (i : Int))) fun x43 =>
  cond x43 (letm m fun x44 =>
  cond x44 (bnd (Gk.rem (i : Int) 2) fun x45 =>
  letm ((x45 == 1)) fun x46 =>
  some x46)
   (some false))
   (some false)) fun v47 =>
  cond v47 (bnd (app s [58, 32]) fun x48 =>
  some x48)
   (letm (decide (0 < (i : Int))) fun x49 =>
  cond x49 (bnd (app s [44, 32]) fun x50 =>
  some x50)
   (some s))) K) = K (s ++ sepT m i) := by
 refine bnd_of ?_ rfl
 simp only [letm_e, rem2, bnd_s, cd_and, i1, pos_dec]
 unfold sepT
 by_cases h : i = 0
 ·subst h
  rw [if_pos rfl, List.append_nil]; rfl
 rw [if_neg h, decide_eq_true (by omega : 0 < i), Bool.true_and]
 by_cases c : (m && i % 2 == 1) = true
 ·rw [c, cd_t, app_some' (by simp only [List.length_cons, List.length_nil]; omega), bnd_s]; rfl
 ·rw [Bool.not_eq_true] at c
  rw [c, cd_f, cd_t, app_some' (by simp only [List.length_cons, List.length_nil]; omega), bnd_s]; rfl
theorem sep_put {α : Type} (m : Bool) (i : Nat) (s : List UInt8) (K : List UInt8 → Option α) (hs : s.length + 2 ≤ 4294967296) : (bnd (β := (List UInt8)) (bnd (β := Bool) (letm m fun x53 =>
  cond x53 (bnd (Gk.rem (i : Int) 2) fun x54 =>
  letm ((x54 == 1)) fun x55 =>
  some x55)
   (some false)) fun v56 =>
  cond v56 (bnd (app s [58, 32]) fun x57 =>
  some x57)
   (letm (decide (0 < (i : Int))) fun x58 =>
  cond x58 (bnd (app s [44, 32]) fun x59 =>
  some x59)
   (some s))) K) = K (s ++ sepT m i) := by
 refine bnd_of ?_ rfl
 simp only [letm_e, rem2, bnd_s, cd_and, i1, pos_dec]
 unfold sepT
 by_cases h : i = 0
 ·subst h
  rw [if_pos rfl, List.append_nil, show (m && 0 % 2 == 1) = false by cases m <;> rfl]; rfl
 rw [if_neg h, decide_eq_true (by omega : 0 < i)]
 by_cases c : (m && i % 2 == 1) = true
 ·rw [c, cd_t, app_some' (by simp only [List.length_cons, List.length_nil]; omega), bnd_s]; rfl
 ·rw [Bool.not_eq_true] at c
  rw [c, cd_f, cd_t, app_some' (by simp only [List.length_cons, List.length_nil]; omega), bnd_s]; rfl
theorem nm_idx {n : UInt64} (h1 : 20 ≤ n.toNat) (h2 : n.toNat < 24) : idx nmL (((n - 20 : UInt64).toNat : Nat) : Int) = some (nmL.getD (n.toNat - 20) []) := by
 have e : (n - 20 : UInt64).toNat = n.toNat - 20 := UInt64.toNat_sub_of_le n 20 (by rw [UInt64.le_iff_toNat_le]; exact h1)
 have hl : n.toNat - 20 < nmL.length := by show n.toNat - 20 < 4; omega
 rw [e, idx_some' (List.getElem?_eq_getElem hl), List.getD_eq_getElem?_getD, List.getElem?_eq_getElem hl]; rfl
theorem nmax (n : UInt64) : (((UInt64.toNat n : Nat) : Int) == ((UInt64.toNat 18446744073709551615 : Nat) : Int)) = decide (n.toNat = 18446744073709551615) := by
 rw [Bool.eq_iff_iff, beq_iff_eq, decide_eq_true_eq]; exact Int.natCast_inj
theorem named_b (n : UInt64) : (decide (((UInt64.toNat 20 : Nat) : Int) ≤ ((UInt64.toNat n : Nat) : Int)) && decide (((UInt64.toNat n : Nat) : Int) < ((UInt64.toNat 24 : Nat) : Int))) = decide (20 ≤ n.toNat ∧ n.toNat < 24) := by
 have e1 : decide (((UInt64.toNat 20 : Nat) : Int) ≤ ((UInt64.toNat n : Nat) : Int)) = decide (20 ≤ n.toNat) := le_dec 20 _
 have e2 : decide (((UInt64.toNat n : Nat) : Int) < ((UInt64.toNat 24 : Nat) : Int)) = decide (n.toNat < 24) := lt_dec _ 24
 rw [e1, e2, Bool.eq_iff_iff]; simp
set_option maxHeartbeats 1000000 in
theorem text_step (rec : Tr → Option (List UInt8)) (d : Nat) (hr : 1 ≤ d → ∀ y, vT y (d - 1) = true → cntT y ≤ 300 → rec y = some (txT y)) (x : Tr) (h : vT x d = true) (hc : cntT x ≤ 300) : b_coresecref03_text rec x = some (txT x) := by
 have hlen := txT_len x d h
 have key : ∀ (m : Bool) (cl : List UInt8), cl.length ≤ 1 → ∀ (l : List Tr), 1 ≤ d → vL l (d - 1) = true → cntL l ≤ 300 → ∀ (i : Nat) (s : List UInt8), s.length + (txL l m i).length ≤ 8000000 →
   loopL (R := (List UInt8)) (S := (List UInt8)) (α := Go.Gk.Tr) (fun k36 s37 =>
   bnd (app s37 cl) fun x38 =>
   some x38)
    (fun x39 k40 s41 self42 =>
   bnd (β := (List UInt8)) (bnd (β := Bool) (letm (decide (0 < (k40 : Int))) fun x43 =>
   cond x43 (letm m fun x44 =>
   cond x44 (bnd (Gk.rem (k40 : Int) 2) fun x45 =>
   letm ((x45 == 1)) fun x46 =>
   some x46)
    (some false))
    (some false)) fun v47 =>
   cond v47 (bnd (app s41 [58, 32]) fun x48 =>
   some x48)
    (letm (decide (0 < (k40 : Int))) fun x49 =>
   cond x49 (bnd (app s41 [44, 32]) fun x50 =>
   some x50)
    (some s41))) fun v51 =>
   bnd (rec x39) fun x52 =>
   bnd (app v51 x52) fun x53 =>
   self42 x53) l i s = some (s ++ txL l m i ++ cl) := by
  intro m cl hcl l
  induction l with
  | nil => intro _ _ _ i s hs; rw [loopL_nil, txL_nil] at *; rw [List.append_nil, app_some' (by simp at hs; omega), bnd_s]
  | cons y l ih =>
   intro hd1 hv hcn i s hs
   rw [vL_cons, Bool.and_eq_true] at hv
   rw [cntL_cons] at hcn
   have h3 := sepT_len m i
   rw [txL_cons, List.length_append, List.length_append] at hs
   rw [loopL_cons, sep_ref m i s _ (by omega), hr hd1 y hv.1 (by omega), bnd_s, app_some' (by rw [List.length_append]; omega), bnd_s, ih hd1 hv.2 (by omega) _ _ (by rw [List.length_append, List.length_append]; omega), txL_cons]
   simp
 obtain ⟨k, n, b, l⟩ := x
 have hb := vT_blen h
 have d1 := dig_len n
 have d2 := dig_len (n + 1)
 have hx := hexS_len b
 have hq := qcs_len b
 have hf : (hexS (be8 n)).length = 16 := by rw [hexS_len]; rfl
 unfold b_coresecref03_text
 rcases vT_inv h with ⟨hk, rfl, rfl⟩ | ⟨rfl, rfl, rfl, _⟩ | ⟨rfl, rfl, rfl, _, _⟩ | ⟨rfl, rfl, rfl, hn⟩ | ⟨rfl, rfl, rfl, _⟩ | ⟨rfl, rfl, rfl, g1, gl⟩ | ⟨rfl, rfl, rfl, g1, _, gl, _⟩ | ⟨rfl, rfl, g1, y, rfl, gy⟩
 ·rcases hk with rfl | rfl
  ·show (bnd (m_coresecref03_decimal n) fun x2 => some x2) = _
   rw [decimal_eq, bnd_s, tx0]
  ·show (letm (((UInt64.toNat n : Int) == (UInt64.toNat 18446744073709551615 : Int))) fun x4 => cond x4 (some [45, 49, 56, 52, 52, 54, 55, 52, 52, 48, 55, 51, 55, 48, 57, 53, 53, 49, 54, 49, 54]) (letm ((n + 1)) fun x5 => bnd (m_coresecref03_decimal x5) fun x6 => bnd (app [45] x6) fun x7 => some x7)) = _
   rw [letm_e, nmax, tx1]
   by_cases c : n.toNat = 18446744073709551615
   ·rw [decide_eq_true c, cd_t, if_pos c]; rfl
   ·rw [decide_eq_false c, cd_f, letm_e, decimal_eq, bnd_s, app_some' (by simp only [List.length_cons, List.length_nil]; omega), bnd_s, if_neg c]; rfl
 ·show (bnd (m_coresecref03_Hex b) fun x9 => bnd (app [104, 39] x9) fun x10 => bnd (app x10 [39]) fun x11 => some x11) = _
  rw [hex_ref b (by omega), bnd_s, app_some' (by simp only [List.length_cons, List.length_nil]; omega), bnd_s, app_some' (by simp only [List.length_append, List.length_cons, List.length_nil]; omega), bnd_s, tx2]
 ·show (bnd (m_coresecref03_quoted b) fun x13 => some x13) = _
  rw [quoted_ref b (by omega), bnd_s, tx3]
 ·show (bnd (β := Bool) (letm (decide ((UInt64.toNat 20 : Int) ≤ (UInt64.toNat n : Int))) fun x22 => cond x22 (letm (decide ((UInt64.toNat n : Int) < (UInt64.toNat 24 : Int))) fun x23 => some x23) (some false)) fun v24 =>
   cond v24 (letm ((n - 20)) fun x25 => bnd (idx nmL (UInt64.toNat x25 : Int)) fun x26 => some x26)
    (bnd (m_coresecref03_decimal n) fun x27 => bnd (app [115, 105, 109, 112, 108, 101, 40] x27) fun x28 => bnd (app x28 [41]) fun x29 => some x29)) = _
  rw [letm_e, letm_e, cd_and, bnd_s, named_b, tx7]
  by_cases c : 20 ≤ n.toNat ∧ n.toNat < 24
  ·rw [decide_eq_true c, cd_t, if_pos c, letm_e]
   refine bnd_of (nm_idx c.1 c.2) rfl
  ·rw [decide_eq_false c, cd_f, if_neg c, decimal_eq, bnd_s, app_some' (by simp only [List.length_cons, List.length_nil]; omega), bnd_s, app_some' (by simp only [List.length_append, List.length_cons, List.length_nil]; omega), bnd_s]
 ·show (bnd (m_coresecref03_pattern n) fun x31 => bnd (app [102, 108, 111, 97, 116, 39] x31) fun x32 => bnd (app x32 [39]) fun x33 => some x33) = _
  rw [pattern_eq, bnd_s, app_some' (by simp only [List.length_cons, List.length_nil]; omega), bnd_s, app_some' (by simp only [List.length_append, List.length_cons, List.length_nil]; omega), bnd_s, tx8]
 ·rw [cntT_mk] at hc hlen
  rw [tx4] at hlen ⊢
  simp only [List.length_append, List.length_cons, List.length_nil] at hlen
  exact key false [93] (by simp) l g1 gl (by omega) 0 [91] (by simp only [List.length_cons, List.length_nil]; omega)
 ·rw [cntT_mk] at hc hlen
  rw [tx5] at hlen ⊢
  simp only [List.length_append, List.length_cons, List.length_nil] at hlen
  exact key true [125] (by simp) l g1 gl (by omega) 0 [123] (by simp only [List.length_cons, List.length_nil]; omega)
 ·rw [cntT_mk, cntL_cons] at hc
  have hy := txT_len y _ gy
  show (bnd (m_coresecref03_decimal n) fun x15 => bnd (app x15 [40]) fun x16 => bnd (idx [y] 0) fun x17 => bnd (rec x17) fun x18 => bnd (app x16 x18) fun x19 => bnd (app x19 [41]) fun x20 => some x20) = _
  rw [decimal_eq, bnd_s, app_some' (by simp only [List.length_cons, List.length_nil]; omega), bnd_s, show idx [y] 0 = some y from idx_some' (i := 0) rfl, bnd_s, hr g1 y gy (by omega), bnd_s, app_some' (by simp only [List.length_append, List.length_cons, List.length_nil]; omega), bnd_s,
   app_some' (by simp only [List.length_append, List.length_cons, List.length_nil]; omega), bnd_s, tx6, txL_cons, txL_nil, List.append_nil]
  rfl
theorem text_eq (j : Nat) : ∀ (d : Nat) (x : Tr), vT x d = true → cntT x ≤ 300 → n_coresecref03_text (j + d + 1) x = some (txT x)
 | 0, x, h, hc => text_step _ 0 (fun h => absurd h (by omega)) x h hc
 | d + 1, x, h, hc => text_step _ (d + 1) (fun _ y hy hcy => text_eq j d y hy hcy) x h hc
theorem text_top {d : Nat} {x : Tr} (h : vT x d = true) (hd : d ≤ 9) (hc : cntT x ≤ 300) : m_coresecref03_text x = some (txT x) := by
 have := text_eq (39 - d) d x h hc
 rw [show 39 - d + d + 1 = 40 by omega] at this
 exact this
set_option maxHeartbeats 1000000 in
theorem put_step (rec : List UInt8 → Tr → Option (List UInt8)) (d : Nat) (hr : 1 ≤ d → ∀ s y, vT y (d - 1) = true → cntT y ≤ 300 → s.length + (txT y).length ≤ 20000000 → rec s y = some (s ++ txT y)) (s0 : List UInt8) (x : Tr) (h : vT x d = true) (hc : cntT x ≤ 300) (hs : s0.length + (txT x).length ≤ 20000000) : b_diag_put_o rec s0 x = some (s0 ++ txT x) := by
 have hlen := txT_len x d h
 have key : ∀ (m : Bool) (cl : UInt8), ∀ (l : List Tr), 1 ≤ d → vL l (d - 1) = true → cntL l ≤ 300 → ∀ (i : Nat) (s : List UInt8), s.length + (txL l m i).length + 1 ≤ 20000000 →
   loopL (R := (List UInt8)) (S := (List UInt8)) (α := Go.Gk.Tr) (fun k36 s37 =>
   bnd (app s37 [cl]) fun x38 =>
   some x38)
    (fun x39 k40 s41 self42 =>
   bnd (β := (List UInt8)) (bnd (β := Bool) (letm m fun x53 =>
   cond x53 (bnd (Gk.rem (k40 : Int) 2) fun x54 =>
   letm ((x54 == 1)) fun x55 =>
   some x55)
    (some false)) fun v56 =>
   cond v56 (bnd (app s41 [58, 32]) fun x57 =>
   some x57)
    (letm (decide (0 < (k40 : Int))) fun x58 =>
   cond x58 (bnd (app s41 [44, 32]) fun x59 =>
   some x59)
    (some s41))) fun v60 =>
   bnd (rec v60 x39) fun x61 =>
   self42 x61) l i s = some (s ++ txL l m i ++ [cl]) := by
  intro m cl l
  induction l with
  | nil => intro _ _ _ i s hs; rw [loopL_nil, txL_nil] at *; rw [List.append_nil, app_some' (by simp at hs; simp only [List.length_cons, List.length_nil]; omega), bnd_s]
  | cons y l ih =>
   intro hd1 hv hcn i s hs
   rw [vL_cons, Bool.and_eq_true] at hv
   rw [cntL_cons] at hcn
   have h3 := sepT_len m i
   rw [txL_cons, List.length_append, List.length_append] at hs
   rw [loopL_cons, sep_put m i s _ (by omega), hr hd1 _ y hv.1 (by omega) (by rw [List.length_append]; omega), bnd_s, ih hd1 hv.2 (by omega) _ _ (by rw [List.length_append, List.length_append]; omega), txL_cons]
   simp
 obtain ⟨k, n, b, l⟩ := x
 have hb := vT_blen h
 have d1 := dig_len n
 have d2 := dig_len (n + 1)
 have hx := hexS_len b
 have hq := qcs_len b
 have hf : (hexS (be8 n)).length = 16 := by rw [hexS_len]; rfl
 unfold b_diag_put_o
 rcases vT_inv h with ⟨hk, rfl, rfl⟩ | ⟨rfl, rfl, rfl, _⟩ | ⟨rfl, rfl, rfl, _, _⟩ | ⟨rfl, rfl, rfl, hn⟩ | ⟨rfl, rfl, rfl, _⟩ | ⟨rfl, rfl, rfl, g1, gl⟩ | ⟨rfl, rfl, rfl, g1, _, gl, _⟩ | ⟨rfl, rfl, g1, y, rfl, gy⟩
 ·rcases hk with rfl | rfl
  ·show (bnd (m_strconv_AppendUint_o s0 n 10) fun x3 => some x3) = _
   rw [appu_eq _ _ (by omega), bnd_s, tx0]
  ·show (letm (((UInt64.toNat n : Int) == (UInt64.toNat 18446744073709551615 : Int))) fun x5 => cond x5 (bnd (app s0 bigT) fun x6 => some x6) (bnd (app s0 [45]) fun x7 => letm ((n + 1)) fun x8 => bnd (m_strconv_AppendUint_o x7 x8 10) fun x9 => some x9)) = _
   rw [letm_e, nmax, tx1]
   by_cases c : n.toNat = 18446744073709551615
   ·rw [decide_eq_true c, cd_t, if_pos c, app_some' (by have : bigT.length = 21 := rfl; omega), bnd_s]
   ·rw [decide_eq_false c, cd_f, app_some' (by simp only [List.length_cons, List.length_nil]; omega), bnd_s, letm_e, appu_eq _ _ (by simp only [List.length_append, List.length_cons, List.length_nil]; omega), bnd_s, if_neg c, List.append_assoc]; rfl
 ·show (bnd (app s0 [104, 39]) fun x11 => bnd (m_diag_hexed_o x11 b) fun x12 => bnd (app x12 [39]) fun x13 => some x13) = _
  rw [app_some' (by simp only [List.length_cons, List.length_nil]; omega), bnd_s, hexed_eq _ _ (by simp only [List.length_append, List.length_cons, List.length_nil]; omega), bnd_s, app_some' (by simp only [List.length_append, List.length_cons, List.length_nil]; omega), bnd_s, tx2]
  simp
 ·show (bnd (m_diag_quoted_o s0 b) fun x15 => some x15) = _
  rw [quoted_eq _ b (by omega), bnd_s, tx3]
 ·show (bnd (β := Bool) (letm (decide ((UInt64.toNat 20 : Int) ≤ (UInt64.toNat n : Int))) fun x22 => cond x22 (letm (decide ((UInt64.toNat n : Int) < (UInt64.toNat 24 : Int))) fun x23 => some x23) (some false)) fun v24 =>
   cond v24 (letm ((n - 20)) fun x25 => bnd (idx nmL (UInt64.toNat x25 : Int)) fun x26 => bnd (app s0 x26) fun x28 => some x28)
    (bnd (app s0 [115, 105, 109, 112, 108, 101, 40]) fun x29 => bnd (m_strconv_AppendUint_o x29 n 10) fun x30 => bnd (app x30 [41]) fun x31 => some x31)) = _
  rw [letm_e, letm_e, cd_and, bnd_s, named_b, tx7]
  by_cases c : 20 ≤ n.toNat ∧ n.toNat < 24
  ·rw [decide_eq_true c, cd_t, if_pos c, letm_e]
   refine bnd_of (nm_idx c.1 c.2) ?_
   rw [app_some' (by have := nmL_len (n.toNat - 20); omega), bnd_s]
  ·rw [decide_eq_false c, cd_f, if_neg c, app_some' (by simp only [List.length_cons, List.length_nil]; omega), bnd_s, appu_eq _ _ (by simp only [List.length_append, List.length_cons, List.length_nil]; omega), bnd_s, app_some' (by simp only [List.length_append, List.length_cons, List.length_nil]; omega), bnd_s]
   simp
 ·show (bnd (app s0 [102, 108, 111, 97, 116, 39]) fun x33 => _) = _
  rw [app_some' (by simp only [List.length_cons, List.length_nil]; omega), bnd_s, tx8]
  refine (fl_put n _ (by simp only [List.length_append, List.length_cons, List.length_nil]; omega)).trans ?_
  simp
 ·rw [cntT_mk] at hc hlen
  rw [tx4] at hs ⊢
  simp only [List.length_append, List.length_cons, List.length_nil] at hs
  show (bnd (app s0 [91]) fun x45 => _) = _
  rw [app_some' (by simp only [List.length_cons, List.length_nil]; omega), bnd_s]
  refine (key false 93 l g1 gl (by omega) 0 (s0 ++ [91]) (by simp only [List.length_append, List.length_cons, List.length_nil]; omega)).trans ?_
  simp
 ·rw [cntT_mk] at hc hlen
  rw [tx5] at hs ⊢
  simp only [List.length_append, List.length_cons, List.length_nil] at hs
  show (bnd (app s0 [123]) fun x45 => _) = _
  rw [app_some' (by simp only [List.length_cons, List.length_nil]; omega), bnd_s]
  refine (key true 125 l g1 gl (by omega) 0 (s0 ++ [123]) (by simp only [List.length_append, List.length_cons, List.length_nil]; omega)).trans ?_
  simp
 ·rw [cntT_mk, cntL_cons] at hc
  have hy := txT_len y _ gy
  rw [tx6, txL_cons, txL_nil, List.append_nil] at hs
  simp only [List.length_append, List.length_cons, List.length_nil] at hs
  show (bnd (m_strconv_AppendUint_o s0 n 10) fun x17 => bnd (app x17 [40]) fun x18 => bnd (idx [y] 0) fun x19 => bnd (rec x18 x19) fun x20 => bnd (app x20 [41]) fun x21 => some x21) = _
  rw [appu_eq _ _ (by omega), bnd_s, app_some' (by simp only [List.length_append, List.length_cons, List.length_nil]; omega), bnd_s, show idx [y] 0 = some y from idx_some' (i := 0) rfl, bnd_s, hr g1 _ y gy (by omega) (by simp only [List.length_append, List.length_cons, List.length_nil]; omega), bnd_s,
   app_some' (by simp only [List.length_append, List.length_cons, List.length_nil]; omega), bnd_s, tx6, txL_cons, txL_nil, List.append_nil]
  simp [sepT]
theorem put_eq (j : Nat) : ∀ (d : Nat) (s : List UInt8) (x : Tr), vT x d = true → cntT x ≤ 300 → s.length + (txT x).length ≤ 20000000 → n_diag_put_o (j + d + 1) s x = some (s ++ txT x)
 | 0, s, x, h, hc, hs => put_step _ 0 (fun h => absurd h (by omega)) s x h hc hs
 | d + 1, s, x, h, hc, hs => put_step _ (d + 1) (fun _ s y hy hcy hsy => put_eq j d s y hy hcy hsy) s x h hc hs
theorem put_same (s : List UInt8) (x : Tr) : m_diag_put s x = n_diag_put_o 41 s x := by kernel_rfl
theorem put_top {d : Nat} {x : Tr} (h : vT x d = true) (hd : d ≤ 9) (hc : cntT x ≤ 300) : m_diag_put [] x = some (txT x) := by
 have hl := txT_len x d h
 have := put_eq (40 - d) d [] x h hc (by rw [List.length_nil]; omega)
 rw [show 40 - d + d + 1 = 41 by omega] at this
 rw [put_same, this]; rfl
noncomputable def prS (x : Tr) : List UInt8 × Int := if okT x = true then (txT x, 0) else ([], 1)
theorem okT_split {x : Tr} (h : okT x = true) : vT x 8 = true ∧ cntT x ≤ 256 := by
 unfold okT at h
 simp only [Bool.and_eq_true, decide_eq_true_eq] at h
 exact h.1
theorem print_prog (x : Tr) : m_diag_Print x = some (prS x) := by
 unfold m_diag_Print prS
 rw [prog_valid, bnd_s, letm_e]
 cases h : okT x with
 | false => rfl
 | true =>
  obtain ⟨h1, h2⟩ := okT_split h
  rw [show (!true) = false from rfl, cd_f, put_top h1 (by omega) (by omega), bnd_s]; rfl
theorem print_ref (x : Tr) : m_coresecref03_Print x = some (prS x) := by
 unfold m_coresecref03_Print prS
 rw [ref_valid, bnd_s, letm_e]
 cases h : okT x with
 | false => rfl
 | true =>
  obtain ⟨h1, h2⟩ := okT_split h
  rw [show (!true) = false from rfl, cd_f, text_top h1 (by omega) (by omega), bnd_s]; rfl
theorem aw1 : m_diag_parser_item ([123, 49, 58, 32, 104, 39, 48, 97, 102, 102, 39, 44, 32, 45, 51, 58, 32, 116, 114, 117, 101, 125], (0, false)) 0 = some (Tr.mk 5 0 [] [Tr.mk 0 1 [] [], Tr.mk 2 0 [10, 255] [], Tr.mk 1 2 [] [], Tr.mk 7 21 [] []], ([], (5, false))) := by kernel_rfl
theorem aw2 : m_diag_parser_item ([123, 50, 58, 32, 48, 44, 32, 49, 58, 32, 48, 125], (0, false)) 0 = some (Tr.mk 5 0 [] [Tr.mk 0 2 [] [], Tr.mk 0 0 [] [], Tr.mk 0 1 [] [], Tr.mk 0 0 [] []], ([], (5, false))) := by kernel_rfl
theorem ok1 : okT (Tr.mk 5 0 [] [Tr.mk 0 1 [] [], Tr.mk 2 0 [10, 255] [], Tr.mk 1 2 [] [], Tr.mk 7 21 [] []]) = true := by kernel_rfl
theorem ok2 : okT (Tr.mk 5 0 [] [Tr.mk 0 2 [] [], Tr.mk 0 0 [] [], Tr.mk 0 1 [] [], Tr.mk 0 0 [] []]) = false := by kernel_rfl
theorem ok3 : okT (Tr.mk 6 24 [] [(Tr.mk 2 0 [] [])]) = true := by kernel_rfl
theorem dig_s {n : UInt64} (h : n.toNat < 10) : dig n = [UInt8.ofNat (48 + n.toNat)] := dec_small h
theorem dig24 : dig 24 = [50, 52] := by unfold dig; exact Lib.decDigits_two (by decide) (by decide)
theorem tx1' : txT (Tr.mk 5 0 [] [Tr.mk 0 1 [] [], Tr.mk 2 0 [10, 255] [], Tr.mk 1 2 [] [], Tr.mk 7 21 [] []]) = [123, 49, 58, 32, 104, 39, 48, 97, 102, 102, 39, 44, 32, 45, 51, 58, 32, 116, 114, 117, 101, 125] := by
 rw [tx5, txL_cons, txL_cons, txL_cons, txL_cons, txL_nil, tx0, tx2, tx1, tx7, dig_s (by decide), dig_s (show (2 + 1 : UInt64).toNat < 10 by decide)]
 kernel_rfl
theorem tx3' : txT (Tr.mk 6 24 [] [(Tr.mk 2 0 [] [])]) = [50, 52, 40, 104, 39, 39, 41] := by
 rw [tx6, txL_cons, txL_nil, tx2, dig24]
 kernel_rfl
theorem awake_true : m_coreseclaw03_awake = some true := by
 have p1 : m_diag_Parse [123, 49, 58, 32, 104, 39, 48, 97, 102, 102, 39, 44, 32, 45, 51, 58, 32, 116, 114, 117, 101, 125] = some (Tr.mk 5 0 [] [Tr.mk 0 1 [] [], Tr.mk 2 0 [10, 255] [], Tr.mk 1 2 [] [], Tr.mk 7 21 [] []], 0) := by
  unfold m_diag_Parse
  rw [aw1, bnd_s]
  obtain ⟨h1, h2⟩ := okT_split ok1
  dsimp only
  rw [cd_f, letm_e, show (([] : List UInt8) != []) = false from rfl, cd_f, prog_valid, ok1, bnd_s, letm_e, bnd_s, show (!true) = false from rfl, cd_f, put_top h1 (by omega) (by omega), bnd_s, tx1']
  rfl
 have p2 : m_diag_Parse [123, 50, 58, 32, 48, 44, 32, 49, 58, 32, 48, 125] = some (Tr.mk 0 0 [] [], 17) := by
  unfold m_diag_Parse
  rw [aw2, bnd_s]
  dsimp only
  rw [cd_f, letm_e, show (([] : List UInt8) != []) = false from rfl, cd_f, prog_valid, ok2, bnd_s, letm_e, bnd_s]
  rfl
 unfold m_coreseclaw03_awake
 rw [print_prog, bnd_s, p1, bnd_s, p2, bnd_s]
 unfold prS
 rw [if_pos ok3, tx3']
 rfl
theorem loopF_ex {S R : Type} {b : (S → Option R) → S → Option R} (I : Nat → S → Prop) (Q : R → Prop) (hb : ∀ n s self, I n s → (∀ m s', m < n → I m s' → ∃ r, self s' = some r ∧ Q r) → ∃ r, b self s = some r ∧ Q r) : ∀ (f n : Nat) (s : S), n < f → I n s → ∃ r, loopF b f s = some r ∧ Q r
 | 0, n, s, h, _ => absurd h (Nat.not_lt_zero _)
 | f + 1, n, s, h, hI => by
  rw [loopF_succ]
  exact hb n s _ hI fun m s' hm hI' => loopF_ex I Q hb f m s' (by omega) hI'
theorem bex2 {α β : Type} {X : Option β} {K : β → Option α} (P : β → Prop) {Q : α → Prop} (h : ∃ y, X = some y ∧ P y) (k : ∀ y, P y → ∃ r, K y = some r ∧ Q r) : ∃ r, bnd X K = some r ∧ Q r := by
 obtain ⟨y, rfl, hy⟩ := h
 exact k y hy
theorem lex2 {α β : Type} {e : β} {K : β → Option α} {Q : α → Prop} (k : ∃ r, K e = some r ∧ Q r) : ∃ r, letm e K = some r ∧ Q r := k
theorem cex2 {α : Type} {c : Bool} {x y : Option α} {Q : α → Prop} (h1 : c = true → ∃ r, x = some r ∧ Q r) (h2 : c = false → ∃ r, y = some r ∧ Q r) : ∃ r, cond c x y = some r ∧ Q r := by
 cases c with
 | true => exact h1 rfl
 | false => exact h2 rfl
theorem sr_ex (x n : UInt64) : ∃ y, @Eq (Option UInt64) (shrK .u64 x (UInt64.toNat n : Int)) (some y) := ⟨_, (show shr64 x ((UInt64.toNat n : Nat) : Int) = _ by unfold shr64; rw [if_neg (by omega)])⟩
theorem sl_ex (x n : UInt64) : ∃ y, @Eq (Option UInt64) (shlK .u64 x (UInt64.toNat n : Int)) (some y) := shl_ex x n
theorem shlI_ex (x : Int) (n : UInt64) : ∃ y, Gk.shl x (UInt64.toNat n : Int) = some y := ⟨_, (by unfold Gk.shl; rw [if_neg (by omega)])⟩
theorem wid_loop (x17 : UInt64) : ∃ r, loopF (R := Int) (S := Int) (fun self36 s35 =>
  letm ((w64 (s35 + 1))) fun x37 =>
  letm ((toU64 x37)) fun x38 =>
  bnd ((shrK .u64 (x17 : UInt64) (UInt64.toNat x38 : Int) : Option UInt64)) fun (x39 : UInt64) =>
  letm (decide ((UInt64.toNat 0 : Int) < (UInt64.toNat x39 : Int))) fun x40 =>
  cond x40 (letm ((w64 (s35 + 1))) fun x41 =>
  self36 x41)
   (some s35)) FUEL 0 = some r := by
 have h := loopF_ex (R := Int) (S := Int) (b := fun self36 s35 =>
  letm ((w64 (s35 + 1))) fun x37 =>
  letm ((toU64 x37)) fun x38 =>
  bnd ((shrK .u64 (x17 : UInt64) (UInt64.toNat x38 : Int) : Option UInt64)) fun (x39 : UInt64) =>
  letm (decide ((UInt64.toNat 0 : Int) < (UInt64.toNat x39 : Int))) fun x40 =>
  cond x40 (letm ((w64 (s35 + 1))) fun x41 =>
  self36 x41)
   (some s35)) (fun n s => ∃ k : Nat, s = (k : Int) ∧ n + k = 64) (fun _ => True) (fun n s self hI ih => by
   obtain ⟨k, rfl, hk⟩ := hI
   have hx := x17.toNat_lt
   rw [letm_e, letm_e, w64_of (by omega) (by omega), show ((k : Nat) : Int) + 1 = ((k + 1 : Nat) : Int) by omega, toU64_toNat (by omega)]
   by_cases hk2 : k + 1 ≤ 64
   ·rw [show ((((k + 1 : Nat) : Int) : Int)) = ((k + 1 : Nat) : Int) from rfl]
    refine bex2 (fun y => y = UInt64.ofNat (x17.toNat / 2 ^ (k + 1))) ⟨_, sr64 _ _ hk2, rfl⟩ fun y hy => ?_
    refine lex2 (cex2 (fun _ => lex2 ?_) (fun _ => ⟨_, rfl, trivial⟩))
    exact ih (n - 1) _ (by omega) ⟨k + 1, rfl, by omega⟩
   ·have hk3 : k = 64 := by omega
    subst hk3
    refine bex2 (fun y => y = UInt64.ofNat 0) ⟨_, ?_, rfl⟩ fun y hy => ?_
    ·show shr64 x17 _ = _
     unfold shr64
     rw [if_neg (by omega), show min (((64 + 1 : Nat) : Int).toNat) 64 = 64 from rfl]
     exact congrArg (fun z => some (UInt64.ofNat z)) (Nat.div_eq_of_lt (by simpa using hx))
    ·subst hy
     refine lex2 (cex2 (fun h => ?_) (fun _ => ⟨_, rfl, trivial⟩))
     exact absurd h (by decide)) FUEL 64 0 (by rw [fuel_eq]; omega) ⟨0, rfl, rfl⟩
 obtain ⟨r, hr, _⟩ := h
 exact ⟨r, hr⟩
theorem widen_ex (a0 : UInt64) (a1 a2 : Int) : ∃ y, m_coresecref01_Widen a0 a1 a2 = some y := by
 unfold m_coresecref01_Widen
 refine lex (lex (bex (sr_ex _ _) fun x5 => bex (sl_ex _ _) fun x6 => lex (bex (sr_ex _ _) fun x8 => lex (lex (bex (shlI_ex _ _) fun x11 => lex (lex (lex (bex (sl_ex _ _) fun x15 => lex (lex (lex (bex (shlI_ex _ _) fun x19 => lex (lex (lex (bex (shlI_ex _ _) fun x23 => lex (lex ?_)))))))))))))))
 refine cex (fun _ => lex (lex (lex (bex (sl_ex _ _) fun _ => lex (sex _))))) (fun _ => ?_)
 refine bex ?_ fun v33 => cex (fun _ => sex _) (fun _ => ?_)
 ·exact lex (cex (fun _ => lex (sex _)) (fun _ => sex _))
 refine lex (cex (fun _ => ?_) (fun _ => ?_))
 ·refine bex ?_ fun v42 => lex (lex (lex (lex (lex (bex (sl_ex _ _) fun _ => lex (lex (lex (bex (sl_ex _ _) fun _ => lex (lex (sex _))))))))))
  exact wid_loop _
 ·exact lex (lex (lex (bex (sl_ex _ _) fun _ => lex (lex (lex (bex (sl_ex _ _) fun _ => lex (sex _)))))))
theorem number_ex {d : S_coresecmake_Deck} (h : DeckOK d) : ∃ r, m_coresecmake_Deck_Number d = some r ∧ DeckOK r.2 := by
 unfold m_coresecmake_Deck_Number
 obtain ⟨v, d1, e1, v0, v1, h1⟩ := next_some h (n := 6) (by omega) (by omega)
 rw [e1, bnd_s]
 refine lex2 (cex2 (fun _ => ?_) (fun _ => lex2 (cex2 (fun _ => ?_) (fun _ => ?_))))
 ·obtain ⟨v2, d2, e2, w0, w1, h2⟩ := next_some h1 (n := 9) (by omega) (by omega)
  show ∃ r, bnd (m_coresecmake_Deck_Next d1 9) _ = some r ∧ _
  rw [e2, bnd_s]
  obtain ⟨x, hx, _⟩ := idx_lit [(23 : UInt64), 24, 255, 256, 65535, 65536, 4294967295, 4294967296, 18446744073709551615] w0 w1
  exact ⟨(x, d2), bnd_of hx rfl, h2⟩
 ·obtain ⟨v2, d2, e2, w0, w1, h2⟩ := next_some h1 (n := 1073741824) (by omega) (by omega)
  show ∃ r, bnd (m_coresecmake_Deck_Next d1 1073741824) _ = some r ∧ _
  rw [e2, bnd_s]
  exact ⟨(toU64 v2, d2), rfl, h2⟩
 ·obtain ⟨v2, d2, e2, w0, w1, h2⟩ := next_some h1 (n := 30) (by omega) (by omega)
  show ∃ r, bnd (m_coresecmake_Deck_Next d1 30) _ = some r ∧ _
  rw [e2, bnd_s]
  exact ⟨(toU64 v2, d2), rfl, h2⟩
theorem bytes_ex {d : S_coresecmake_Deck} (h : DeckOK d) : ∃ r, m_coresecmake_Deck_Bytes d 30 = some r ∧ r.1.length ≤ 30 ∧ DeckOK r.2 := by
 unfold m_coresecmake_Deck_Bytes
 obtain ⟨v, d1, e1, v0, v1, h1⟩ := next_some h (n := 31) (by omega) (by omega)
 rw [letm_e, show w64 (30 + 1) = 31 from rfl, e1, bnd_s]
 refine loopF_ex (S := List UInt8 × (Int × S_coresecmake_Deck)) (R := List UInt8 × S_coresecmake_Deck) (fun n s => (s.2.1 = (n : Int)) ∧ s.1.length + n ≤ 30 ∧ DeckOK s.2.2) (fun r => r.1.length ≤ 30 ∧ DeckOK r.2) (fun n s self hI ih => ?_) FUEL v.toNat _ (by rw [fuel_eq]; omega) ⟨by show v = _; omega, by rw [List.length_nil]; omega, h1⟩
 obtain ⟨i1, i2, i3⟩ := hI
 refine lex2 (cex2 (fun hc => ?_) (fun hc => ⟨_, rfl, (show s.1.length ≤ 30 by omega), i3⟩))
 rw [decide_eq_true_eq] at hc
 obtain ⟨v2, d2, e2, w0, w1, h2⟩ := next_some i3 (n := 256) (by omega) (by omega)
 rw [e2, bnd_s, letm_e, app_some' (by simp only [List.length_cons, List.length_nil]; omega), bnd_s, letm_e, w64_of (by omega) (by omega)]
 exact ih (n - 1) _ (by omega) ⟨by show s.2.1 - 1 = _; omega, by rw [List.length_append]; simp only [List.length_cons, List.length_nil]; omega, h2⟩
theorem text_ex {d : S_coresecmake_Deck} (h : DeckOK d) : ∃ r, m_coresecmake_Deck_Text d 8 = some r ∧ r.1.length ≤ 24 ∧ DeckOK r.2 := by
 unfold m_coresecmake_Deck_Text
 obtain ⟨v, d1, e1, v0, v1, h1⟩ := next_some h (n := 9) (by omega) (by omega)
 rw [letm_e, show w64 (8 + 1) = 9 from rfl, e1, bnd_s]
 refine loopF_ex (S := List UInt8 × (Int × S_coresecmake_Deck)) (R := List UInt8 × S_coresecmake_Deck) (fun n s => (s.2.1 = (n : Int)) ∧ s.1.length + 3 * n ≤ 24 ∧ DeckOK s.2.2) (fun r => r.1.length ≤ 24 ∧ DeckOK r.2) (fun n s self hI ih => ?_) FUEL v.toNat _ (by rw [fuel_eq]; omega) ⟨by show v = _; omega, by rw [List.length_nil]; omega, h1⟩
 obtain ⟨i1, i2, i3⟩ := hI
 refine lex2 (cex2 (fun hc => ?_) (fun hc => ⟨_, rfl, (show s.1.length ≤ 24 by omega), i3⟩))
 rw [decide_eq_true_eq] at hc
 obtain ⟨v2, d2, e2, w0, w1, h2⟩ := next_some i3 (n := 10) (by omega) (by omega)
 rw [e2, bnd_s]
 obtain ⟨x, hx, hm⟩ := idx_lit [([97] : List UInt8), [98], [47], [34], [92], [10], [127], [37], [195, 169], [226, 130, 172]] w0 w1
 have hxl : x.length ≤ 3 := by
  simp only [List.mem_cons, List.not_mem_nil, or_false] at hm
  rcases hm with rfl | rfl | rfl | rfl | rfl | rfl | rfl | rfl | rfl | rfl <;> simp
 refine bex2 (fun y => y = x) ⟨x, hx, rfl⟩ fun y hy => ?_
 subst hy
 rw [app_some' (by omega), bnd_s, letm_e, w64_of (by omega) (by omega)]
 exact ih (n - 1) _ (by omega) ⟨by show s.2.1 - 1 = _; omega, by rw [List.length_append]; omega, h2⟩
theorem float_ex {d : S_coresecmake_Deck} (h : DeckOK d) : ∃ r, m_coresecmake_Deck_Float d = some r ∧ DeckOK r.2 := by
 unfold m_coresecmake_Deck_Float
 obtain ⟨v, d1, e1, v0, v1, h1⟩ := next_some h (n := 1073741824) (by omega) (by omega)
 rw [e1, bnd_s, letm_e]
 obtain ⟨v2, d2, e2, w0, w1, h2⟩ := next_some h1 (n := 5) (by omega) (by omega)
 show ∃ r, bnd (m_coresecmake_Deck_Next d1 5) _ = some r ∧ _
 rw [e2, bnd_s]
 refine lex2 (cex2 (fun _ => ?_) (fun _ => lex2 (cex2 (fun _ => ?_) (fun _ => lex2 (cex2 (fun _ => ?_) (fun _ => ?_))))))
 ·obtain ⟨y, hy⟩ := sr_ex (toU64 v) 14
  refine lex2 (bex2 (fun _ => True) ⟨y, hy, trivial⟩ fun x6 _ => lex2 (lex2 ?_))
  obtain ⟨z, hz⟩ := widen_ex (bitK .or .u64 (bitK .and .u64 (toU64 v) (31743 : UInt64)) (bitK .and .u64 x6 (32768 : UInt64))) 5 10
  exact ⟨(z, d2), bnd_of hz rfl, h2⟩
 ·refine lex2 ?_
  obtain ⟨z, hz⟩ := widen_ex (bitK .and .u64 (toU64 v) (2139095039 : UInt64)) 8 23
  exact ⟨(z, d2), bnd_of hz rfl, h2⟩
 ·obtain ⟨v3, d3, e3, z0, z1, h3⟩ := next_some h2 (n := 7) (by omega) (by omega)
  show ∃ r, bnd (m_coresecmake_Deck_Next d2 7) _ = some r ∧ _
  rw [e3, bnd_s]
  obtain ⟨x, hx, _⟩ := idx_lit [(9221120237041090560 : UInt64), 9218868437227405312, 18442240474082181120, 9223372036854775808, 0, 1, 4609434218613702656] z0 z1
  exact ⟨(x, d3), bnd_of hx rfl, h3⟩
 ·obtain ⟨y, hy⟩ := sl_ex (toU64 v) 34
  refine bex2 (fun _ => True) ⟨y, hy, trivial⟩ fun x16 _ => ?_
  obtain ⟨v3, d3, e3, z0, z1, h3⟩ := next_some h2 (n := 1073741824) (by omega) (by omega)
  show ∃ r, bnd (m_coresecmake_Deck_Next d2 1073741824) _ = some r ∧ _
  rw [e3, bnd_s, letm_e]
  obtain ⟨y2, hy2⟩ := sl_ex (toU64 v3) 4
  refine bex2 (fun _ => True) ⟨y2, hy2, trivial⟩ fun x19 _ => lex2 ?_
  refine bex2 (fun _ => True) ⟨_, isnan_eq _, trivial⟩ fun x21 _ => ?_
  exact cex2 (fun _ => ⟨_, rfl, h3⟩) (fun _ => ⟨_, rfl, h3⟩)
theorem whole_ex (x : Tr) : ∃ y, m_coresecmake_whole x = some y := by
 unfold m_coresecmake_whole
 rw [ref_valid, bnd_s]
 exact lex (cex (fun _ => sex _) (fun _ => sex _))
theorem copy_step (rec : Tr → Option Tr) (d : Nat) (hr : 1 ≤ d → ∀ y, vT y (d - 1) = true → cntT y ≤ 300 → ∃ z, rec y = some z) (x : Tr) (h : vT x d = true) (hc : cntT x ≤ 300) : ∃ z, b_coresecref01_Copy rec x = some z := by
 have key : ∀ (l : List Tr), (l ≠ [] → 1 ≤ d) → (l = [] ∨ vL l (d - 1) = true) → cntL l ≤ 300 → ∀ (i : Nat) (s : List Tr), s.length + l.length ≤ 300 → ∃ z, loopL (R := Go.Gk.Tr) (S := (List Go.Gk.Tr)) (α := Go.Gk.Tr) (fun k2 s3 => some (Tr.mk x.k x.n ([] ++ x.b) s3))
    (fun x4 k5 s6 self7 => bnd (rec x4) fun x8 => bnd (app s6 [x8]) fun x9 => self7 x9) l i s = some z := by
  intro l
  induction l with
  | nil => intro _ _ _ i s _; exact ⟨_, rfl⟩
  | cons y l ih =>
   intro hd1 hv hcn i s hs
   have hd1 := hd1 (by simp)
   have hv : vL (y :: l) (d - 1) = true := by rcases hv with h | h; cases h; exact h
   rw [vL_cons, Bool.and_eq_true] at hv
   rw [List.length_cons] at hs
   rw [cntL_cons] at hcn
   obtain ⟨z, hz⟩ := hr hd1 y hv.1 (by omega)
   rw [loopL_cons, hz, bnd_s, app_some' (by simp only [List.length_cons, List.length_nil]; omega), bnd_s]
   exact ih (fun _ => hd1) (.inr hv.2) (by omega) _ _ (by rw [List.length_append]; simp only [List.length_cons, List.length_nil]; omega)
 have hb : x.b.length ≤ 4096 := by obtain ⟨k, n, b, l⟩ := x; exact vT_blen h
 have hk : x.l = [] ∨ 1 ≤ d ∧ vL x.l (d - 1) = true := by obtain ⟨k, n, b, l⟩ := x; exact vT_kids h
 have hx := cntT_x x
 have hl := cntL_len x.l
 unfold b_coresecref01_Copy
 rw [app_some' (by rw [List.length_nil]; omega), bnd_s]
 refine key x.l (fun hne => ?_) ?_ (by omega) 0 [] (by rw [List.length_nil]; omega)
 ·rcases hk with h | h
  ·exact absurd h hne
  ·exact h.1
 ·rcases hk with h | h
  ·exact .inl h
  ·exact .inr h.2
theorem copy_ex (j : Nat) : ∀ (d : Nat) (x : Tr), vT x d = true → cntT x ≤ 300 → ∃ z, n_coresecref01_Copy (j + d + 1) x = some z
 | 0, x, h, hc => copy_step _ 0 (fun h => absurd h (by omega)) x h hc
 | d + 1, x, h, hc => copy_step _ (d + 1) (fun _ y hy hcy => copy_ex j d y hy hcy) x h hc
theorem raw_ok {x : Tr} (h : okT x = true) : m_coresecref01_Raw x = some (encT x) ∧ (encT x).length ≤ 4096 := by
 obtain ⟨h1, h2⟩ := okT_split h
 unfold okT at h
 simp only [Bool.and_eq_true, decide_eq_true_eq] at h
 exact ⟨raw_top h1 (by omega) (by omega), h.2⟩
theorem build_ex (l0 : List Tr) (hl : l0.length ≤ 100) : ∃ r, m_coresecref01_Build l0 = some r := by
 unfold m_coresecref01_Build
 rw [rem2, bnd_s]
 refine lex (cex (fun _ => sex _) (fun hev => ?_))
 have hev : l0.length % 2 = 0 := by
  simp only [bne_eq_false_iff_eq] at hev
  omega
 -- all are valid, or an error
 have key : ∀ (l : List Tr) (i : Nat) (s : Tr), ∃ r, loopL (R := ((Go.Gk.Tr × Int) ⊕ Go.Gk.Tr)) (S := Go.Gk.Tr) (α := Go.Gk.Tr) (fun k3 s4 => some (.inr s4))
    (fun x5 k6 s7 self8 => bnd (m_coresecref01_Valid x5) fun x9 => letm ((!x9)) fun x10 => cond x10 (some (.inl ((Tr.mk 0 0 [] []), 1))) (self8 s7)) l i s = some r ∧ (r = .inl ((Tr.mk 0 0 [] []), 1) ∨ r = .inr s ∧ ∀ y, y ∈ l → okT y = true) := by
  intro l
  induction l with
  | nil => intro i s; exact ⟨_, rfl, .inr ⟨rfl, fun y hy => by cases hy⟩⟩
  | cons y l ih =>
   intro i s
   rw [loopL_cons, ref_valid, bnd_s, letm_e]
   cases hy : okT y with
   | false => exact ⟨_, rfl, .inl rfl⟩
   | true =>
    obtain ⟨r, hr, h⟩ := ih (i + 1) s
    refine ⟨r, hr, ?_⟩
    rcases h with h | ⟨h, h2⟩
    ·exact .inl h
    ·refine .inr ⟨h, fun z hz => ?_⟩
     rcases List.mem_cons.1 hz with rfl | hz
     ·exact hy
     ·exact h2 z hz
 obtain ⟨r, hr, h⟩ := key l0 0 (Tr.mk 0 0 [] [])
 rw [hr]
 rcases h with rfl | ⟨rfl, hok⟩
 ·exact ⟨_, rfl⟩
 rw [bndS_r]
 have hget : ∀ (i : Nat) (h : i < l0.length), okT l0[i] = true := fun i h => hok _ (List.getElem_mem h)
 refine bexp (fun r => r.1.length ≤ 200) ?_ fun v47 hv47 => cex (fun _ => sex _) (fun _ => ?_)
 ·refine loopF_ex (S := List Tr × (Bool × Int)) (R := List Tr × Bool) (fun n s => ∃ i : Nat, s.2.2 = (i : Int) ∧ i % 2 = 0 ∧ i + n = l0.length ∧ s.1.length = i ∧ ∀ y, y ∈ s.1 → okT y = true) (fun r => r.1.length ≤ 200) (fun n s self hI ih => ?_) FUEL l0.length _ (by rw [fuel_eq]; omega) ⟨0, rfl, rfl, by omega, rfl, fun y hy => by cases hy⟩
  obtain ⟨i, hi, hi2, hin, hsl, hall⟩ := hI
  have sget : ∀ (i : Nat) (h : i < s.1.length), okT s.1[i] = true := fun i h => hall _ (List.getElem_mem h)
  rw [hi]
  refine lex2 (cex2 (fun hc => ?_) (fun hc => ⟨_, rfl, (show s.1.length ≤ 200 by omega)⟩))
  rw [lt_dec, decide_eq_true_eq] at hc
  have cmpv : ∀ (t : Nat) (h2 : 2 ≤ t) (h3 : t ≤ s.1.length) (K : Int → Option Bool), (bnd (idx s.1 ((t - 2 : Nat) : Int)) fun x19 => bnd (m_coresecref01_Raw x19) fun x20 => bnd (idx l0 (i : Int)) fun x21 => bnd (m_coresecref01_Raw x21) fun x22 => bnd (m_coresecref01_Compare x20 x22) K) = K (Lib.compareBytes (encT (s.1[t - 2]'(by omega))) (encT l0[i])) := by
   intro t h2 h3 K
   obtain ⟨e1, l1⟩ := raw_ok (sget (t - 2) (by omega))
   obtain ⟨e2, l2⟩ := raw_ok (hget i hc)
   rw [idx_some' (List.getElem?_eq_getElem (show t - 2 < s.1.length by omega)), bnd_s, e1, bnd_s, idx_some' (List.getElem?_eq_getElem hc), bnd_s, e2, bnd_s, compare_eq _ _ (by omega) (by omega), bnd_s]
  refine bex2 (fun v45 => v45.1.length = i + 2 ∧ ∀ y, y ∈ v45.1 → okT y = true) ?_ fun v45 hv45 => ?_
  ·refine bex2 (fun k => ∃ t : Nat, k = (t : Int) ∧ t % 2 = 0 ∧ t ≤ s.1.length) ?_ fun v27 hv27 => ?_
   ·refine loopF_ex (S := Int) (R := Int) (fun n k => k = (n : Int) ∧ n % 2 = 0 ∧ n ≤ s.1.length) (fun k => ∃ t : Nat, k = (t : Int) ∧ t % 2 = 0 ∧ t ≤ s.1.length) (fun n k self hI ih => ?_) FUEL s.1.length _ (by rw [fuel_eq]; omega) ⟨rfl, by omega, by omega⟩
    obtain ⟨rfl, hn2, hnl⟩ := hI
    refine bex2 (fun b => b = true → 0 < n) ?_ fun v25 h25 => ?_
    ·refine lex2 (cex2 (fun h0 => ?_) (fun _ => ⟨false, rfl, fun h => Bool.noConfusion h⟩))
     rw [pos_dec, decide_eq_true_eq] at h0
     rw [letm_e, w64_of (by omega) (by omega), show ((n : Nat) : Int) - 2 = ((n - 2 : Nat) : Int) by omega, cmpv n (by omega) hnl]
     exact ⟨_, rfl, fun _ => h0⟩
    ·refine cex2 (fun h => ?_) (fun _ => ⟨_, rfl, n, rfl, hn2, hnl⟩)
     have h0 := h25 h
     rw [letm_e, w64_of (by omega) (by omega), show ((n : Nat) : Int) - 2 = ((n - 2 : Nat) : Int) by omega]
     exact ih (n - 2) _ (by omega) ⟨rfl, by omega, by omega⟩
   ·obtain ⟨t, rfl, ht2, htl⟩ := hv27
    refine bex2 (fun _ => True) ?_ fun v36 _ => ?_
    ·refine cex2 (fun _ => ⟨true, rfl, trivial⟩) (fun _ => lex2 (cex2 (fun h0 => ?_) (fun _ => ⟨false, rfl, trivial⟩)))
     rw [pos_dec, decide_eq_true_eq] at h0
     rw [letm_e, w64_of (by omega) (by omega), show ((t : Nat) : Int) - 2 = ((t - 2 : Nat) : Int) by omega, cmpv t (by omega) htl]
     exact ⟨_, rfl, trivial⟩
    ·have c1 : Gk.cut s.1 0 (t : Int) = some (s.1.take t) := by unfold Gk.cut; rw [if_pos (by omega)]; simp
     have c2 : Gk.cut s.1 (t : Int) (s.1.length : Int) = some (s.1.drop t) := cut_from htl
     have hi1 : i + 1 < l0.length := by omega
     rw [c1, bnd_s, app_some' (by simp; omega), bnd_s, idx_some' (List.getElem?_eq_getElem hc), bnd_s, letm_e, w64_of (by omega) (by omega), show ((i : Nat) : Int) + 1 = ((i + 1 : Nat) : Int) by omega, idx_some' (List.getElem?_eq_getElem hi1), bnd_s,
      app_some' (by simp; omega), bnd_s, c2, bnd_s, app_some' (by simp; omega), bnd_s]
     refine ⟨_, rfl, ?_, fun y hy => ?_⟩
     ·simp only [List.length_append, List.length_take, List.length_drop, List.length_cons, List.length_nil]; omega
     ·simp only [List.nil_append, List.mem_append, List.mem_cons, List.not_mem_nil, or_false] at hy
      rcases hy with (hy | rfl | rfl) | hy
      ·exact hall _ (List.mem_of_mem_take hy)
      ·exact hget _ hc
      ·exact hget _ hi1
      ·exact hall _ (List.mem_of_mem_drop hy)
  ·rw [letm_e, w64_of (by omega) (by omega)]
   exact ih (n - 2) _ (by omega) ⟨i + 2, by show (i : Int) + 2 = _; omega, by omega, by omega, hv45.1, hv45.2⟩
 ·rw [ref_valid, bnd_s]
  refine lex ?_
  cases hv : okT (Tr.mk 5 0 [] v47.1) with
  | false => exact ⟨_, rfl⟩
  | true =>
   obtain ⟨h1, h2⟩ := okT_split hv
   obtain ⟨z, hz⟩ := copy_ex 31 8 _ h1 (by omega)
   exact ⟨(z, 0), bnd_of hz rfl⟩
theorem refb_ex {b : List UInt8} (h : b.length ≤ 100) : m_coresecref01_Bytes b = some (Tr.mk 2 0 b []) ∧ m_coresecref01_Text b = some (Tr.mk 3 0 b []) := by
 unfold m_coresecref01_Bytes m_coresecref01_Text
 rw [app_some' (by simp; omega), bnd_s, bnd_s]
 exact ⟨rfl, rfl⟩
theorem item_step (rec : S_coresecmake_Deck → Int → Option (Tr × S_coresecmake_Deck)) (k : Nat) (hk : k ≤ 20) (hr : 1 ≤ k → ∀ d, DeckOK d → ∃ r, rec d ((k - 1 : Nat) : Int) = some r ∧ DeckOK r.2) (d : S_coresecmake_Deck) (h : DeckOK d) : ∃ r, b_coresecmake_Deck_Item rec d (k : Int) = some r ∧ DeckOK r.2 := by
 unfold b_coresecmake_Deck_Item
 obtain ⟨v, d1, e1, v0, v1, h1⟩ := next_some h (n := 9) (by omega) (by omega)
 rw [e1, bnd_s]
 refine bex2 (fun w => k = 0 → w = 0 ∨ w = 1 ∨ w = 2 ∨ w = 3 ∨ w = 7 ∨ w = 8) ?_ fun v7 hv7 => ?_
 ·rw [letm_e, letm_e, letm_e, cd_and, cd_and, bnd_s]
  refine cex2 (fun _ => ⟨0, rfl, fun _ => .inl rfl⟩) (fun hc => ⟨v, rfl, fun hk0 => ?_⟩)
  subst hk0
  have hc : (true && (decide (4 ≤ v) && decide (v ≤ 6))) = false := hc
  rw [Bool.true_and, ← Bool.not_eq_true, Bool.and_eq_true, decide_eq_true_eq, decide_eq_true_eq] at hc
  omega
 refine bex2 (fun b => b = (v7 == 0 || v7 == 1)) ⟨_, (show _ = some (v7 == 0 || v7 == 1) by rw [letm_e, letm_e, cd_or]), rfl⟩ fun v10 h10 => ?_
 have hw : 1 ≤ k → w64 ((k : Int) - 1) = ((k - 1 : Nat) : Int) := fun h => by rw [w64_of (by omega) (by omega)]; omega
 refine cex2 (fun _ => ?_) (fun _ => lex2 (cex2 (fun _ => ?_) (fun _ => lex2 (cex2 (fun _ => ?_) (fun _ => lex2 (cex2 (fun h6 => ?_) (fun _ => lex2 (cex2 (fun _ => ?_) (fun _ => lex2 (cex2 (fun _ => ?_) (fun _ => ?_)))))))))))
 ·obtain ⟨r, hr1, h2⟩ := number_ex h1
  exact ⟨_, bnd_of hr1 rfl, h2⟩
 ·obtain ⟨r, hr1, hl, h2⟩ := bytes_ex h1
  exact ⟨_, bnd_of hr1 (bnd_of (refb_ex (by omega)).1 rfl), h2⟩
 ·obtain ⟨r, hr1, hl, h2⟩ := text_ex h1
  exact ⟨_, bnd_of hr1 (bnd_of (refb_ex (by omega)).2 rfl), h2⟩
 ·have hk1 : 1 ≤ k := by
   rw [beq_iff_eq] at h6
   rcases Nat.eq_zero_or_pos k with hk0 | hk0
   ·have := hv7 hk0; omega
   ·exact hk0
  obtain ⟨r, hr1, h2⟩ := number_ex h1
  refine bex2 (fun y => DeckOK y.2) ⟨r, hr1, h2⟩ fun y hy => lex2 ?_
  rw [hw hk1]
  refine bex2 (fun y => DeckOK y.2) (hr hk1 _ hy) fun z hz => ?_
  obtain ⟨u, hu⟩ := whole_ex (Tr.mk v7 y.1 [] [z.1])
  exact ⟨_, bnd_of hu rfl, hz⟩
 ·obtain ⟨v2, d2, e2, w0, w1, h2⟩ := next_some h1 (n := 8) (by omega) (by omega)
  show ∃ r, bnd (m_coresecmake_Deck_Next d1 8) _ = some r ∧ _
  rw [e2, bnd_s]
  obtain ⟨x, hx, _⟩ := idx_lit [(20 : UInt64), 21, 22, 23, 0, 19, 32, 255] w0 w1
  exact ⟨_, bnd_of hx rfl, h2⟩
 ·obtain ⟨r, hr1, h2⟩ := float_ex h1
  exact ⟨_, bnd_of hr1 rfl, h2⟩
 rename_i g0 g2 g3 g6 g7 g8
 refine bex2 (fun r => r.1.length ≤ 6 ∧ DeckOK r.2) ?_ fun v41 hv41 => ?_
 ·obtain ⟨v2, d2, e2, w0, w1, h2⟩ := next_some h1 (n := 4) (by omega) (by omega)
  show ∃ r, bnd (m_coresecmake_Deck_Next d1 4) _ = some r ∧ _
  rw [e2, bnd_s]
  by_cases hk1 : 1 ≤ k
  ·refine loopF_ex (S := List Tr × (Int × S_coresecmake_Deck)) (R := List Tr × S_coresecmake_Deck) (fun n s => s.2.1 = (n : Int) ∧ s.1.length + 2 * n ≤ 6 ∧ DeckOK s.2.2) (fun r => r.1.length ≤ 6 ∧ DeckOK r.2) (fun n s self hI ih => ?_) FUEL v2.toNat _ (by rw [fuel_eq]; omega) ⟨by show v2 = _; omega, by rw [List.length_nil]; omega, h2⟩
   obtain ⟨i1, i2, i3⟩ := hI
   refine lex2 (cex2 (fun hc => ?_) (fun hc => ⟨_, rfl, (show s.1.length ≤ 6 by omega), i3⟩))
   rw [decide_eq_true_eq] at hc
   refine bex2 (fun r => r.1.length ≤ s.1.length + 2 ∧ DeckOK r.2) ?_ fun v39 hv39 => ?_
   ·rw [letm_e, hw hk1]
    refine bex2 (fun y => DeckOK y.2) (hr hk1 _ i3) fun z hz => ?_
    rw [app_some' (by simp only [List.length_cons, List.length_nil]; omega), bnd_s]
    refine lex2 (cex2 (fun _ => ?_) (fun _ => ⟨_, rfl, (by rw [List.length_append]; simp only [List.length_cons, List.length_nil]; omega), hz⟩))
    rw [letm_e]
    refine bex2 (fun y => DeckOK y.2) (hr hk1 _ hz) fun z2 hz2 => ?_
    rw [app_some' (by rw [List.length_append]; simp only [List.length_cons, List.length_nil]; omega), bnd_s]
    exact ⟨_, rfl, (by rw [List.length_append, List.length_append]; simp only [List.length_cons, List.length_nil]; omega), hz2⟩
   ·rw [letm_e, w64_of (by omega) (by omega)]
    exact ih (n - 1) _ (by omega) ⟨by show s.2.1 - 1 = _; omega, by show v39.1.length + _ ≤ _; omega, hv39.2⟩
  ·have := hv7 (by omega)
   rw [g0] at h10
   rw [← Bool.not_eq_true, beq_iff_eq] at g2 g3 g7 g8
   have h10 := h10.symm
   rw [← Bool.not_eq_true, Bool.or_eq_true, beq_iff_eq, beq_iff_eq] at h10
   omega
 ·refine lex2 (cex2 (fun _ => ?_) (fun _ => ?_))
  ·obtain ⟨u, hu⟩ := whole_ex (Tr.mk v7 0 [] v41.1)
   exact ⟨_, bnd_of hu rfl, hv41.2⟩
  ·obtain ⟨u, hu⟩ := build_ex v41.1 (by omega)
   refine bex2 (fun _ => True) ⟨u, hu, trivial⟩ fun y _ => lex2 (cex2 (fun _ => ⟨_, rfl, hv41.2⟩) (fun _ => ⟨_, rfl, hv41.2⟩))
theorem item_ex (j : Nat) : ∀ (k : Nat), k ≤ 20 → ∀ (d : S_coresecmake_Deck), DeckOK d → ∃ r, n_coresecmake_Deck_Item (j + k + 1) d (k : Int) = some r ∧ DeckOK r.2
 | 0, hk, d, h => item_step _ 0 hk (fun h => absurd h (by omega)) d h
 | k + 1, hk, d, h => item_step _ (k + 1) hk (fun _ d h => item_ex j k (by omega) d h) d h
theorem deck_item {l : List Int} (h : l.length ≤ maxLen) (k : Nat) (hk : k ≤ 20) : ∃ r, m_coresecmake_Deck_Item (l, 0) (k : Int) = some r := by
 obtain ⟨r, hr, _⟩ := item_ex (39 - k) k hk (l, 0) (new_ok h)
 rw [show 39 - k + k + 1 = 40 by omega] at hr
 exact ⟨r, hr⟩
end Go.Proofs.YtbfkbakadpkgoaaGreatDoor
