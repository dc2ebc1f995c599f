/-
  Scopes: which are within others, their normal forms, what both or one of two permit, by both texts (ScopeForms). Of the models alone; no program; no condition but the ranges told.
-/
import Derived.Test.YtmnbkcpopfmpdaaDoorQ85
import Derived.Test.YtmnbkcpopfmpdaaDoorQ71
namespace Go.Proofs.YtmnbkcpopfmpdaaDoor
open Go.Gk Go.RowKit
/-! ### Bits put together -/
def Bs (g : Int → Bool) : Nat → Nat
  | 0 => 0
  | n + 1 => Bs g n + (bif g ((n + 1 : Nat) : Int) then 2 ^ n else 0)
theorem Bs_lt (g : Int → Bool) : ∀ n, Bs g n < 2 ^ n
  | 0 => by show 0 < 1; omega
  | n + 1 => by
    have := Bs_lt g n
    rw [Bs, Nat.pow_succ]
    cases g ((n + 1 : Nat) : Int) <;> simp only [cond_true, cond_false] <;> omega
theorem Bs_bit (g : Int → Bool) : ∀ (n i : Nat), (Bs g n).testBit i = (decide (i < n) && g ((i + 1 : Nat) : Int))
  | 0, i => by rw [Bs]; simp
  | n + 1, i => by
    have ih := Bs_bit g n i
    have hlt := Bs_lt g n
    rw [Bs]
    rcases Nat.lt_trichotomy i n with h | h | h
    · rw [decide_eq_true (by omega : i < n + 1), Bool.true_and]
      rw [decide_eq_true h, Bool.true_and] at ih
      cases hg : g ((n + 1 : Nat) : Int) with
      | true => rw [cond_true, Nat.add_comm, Nat.testBit_two_pow_add_gt h, ih]
      | false => rw [cond_false, Nat.add_zero, ih]
    · subst h
      rw [decide_eq_true (by omega : i < i + 1), Bool.true_and]
      rw [decide_eq_false (Nat.lt_irrefl _), Bool.false_and] at ih
      cases hg : g ((i + 1 : Nat) : Int) with
      | true => rw [cond_true, Nat.add_comm, Nat.testBit_two_pow_add_eq, ih]; rfl
      | false => rw [cond_false, Nat.add_zero, ih]
    · rw [decide_eq_false (by omega : ¬ i < n + 1), Bool.false_and]
      have := Bs_lt g (n + 1)
      rw [Bs] at this
      have hp : (2 : Nat) ^ (n + 1) ≤ 2 ^ i := Nat.pow_le_pow_right (by omega) (by omega)
      exact Nat.testBit_lt_two_pow (Nat.lt_of_lt_of_le this hp)
theorem Bs_bitS (g : Int → Bool) {c : Int} (hc : Cr c) : bitS ((Bs g 7 : Nat) : Int) c = g c := by
  obtain ⟨i, rfl⟩ : ∃ i : Nat, c = ((i + 1 : Nat) : Int) := ⟨(c - 1).toNat, by have := hc.1; omega⟩
  have := hc.2
  unfold bitS
  rw [show (((i + 1 : Nat) : Int) - 1).toNat = i by omega, Int.toNat_natCast, Bs_bit, decide_eq_true (by omega : i < 7), Bool.true_and]
/-! ### What of a key stands in the normal form -/
def topB (l : List S_api_Permit) (k : Ky) (c : Int) : Bool := (l.any fun q => bitS q.2.2 c && (ky q == k)) && !(l.any fun q => bitS q.2.2 c && (!(ky q == k) && incK (ky q) k))
theorem topB_iff {l : List S_api_Permit} {k : Ky} {c : Int} : topB l k c = true ↔ hasP l k c ∧ ¬ ∃ k', k' ≠ k ∧ incK k' k = true ∧ hasP l k' c := by
  unfold topB
  rw [Bool.and_eq_true, Bool.not_eq_true', ← Bool.not_eq_true, List.any_eq_true, List.any_eq_true]
  refine and_congr ?_ (not_congr ?_)
  · constructor
    · rintro ⟨q, hq, h⟩
      rw [Bool.and_eq_true, beq_iff_eq] at h
      exact ⟨q, hq, h.2, h.1⟩
    · rintro ⟨q, hq, h1, h2⟩
      exact ⟨q, hq, by rw [h2, h1, beq_self_eq_true]; rfl⟩
  · constructor
    · rintro ⟨q, hq, h⟩
      simp only [Bool.and_eq_true, Bool.not_eq_true', beq_eq_false_iff_ne] at h
      exact ⟨ky q, h.2.1, h.2.2, q, hq, rfl, h.1⟩
    · rintro ⟨k', h1, h2, q, hq, rfl, h3⟩
      refine ⟨q, hq, ?_⟩
      rw [h3, h2, beq_eq_false_iff_ne.2 h1]; rfl
def topM (l : List S_api_Permit) (k : Ky) : Int := ((Bs (topB l k) 7 : Nat) : Int)
theorem topM_bit {l : List S_api_Permit} {k : Ky} {c : Int} (hc : Cr c) : bitS (topM l k) c = topB l k c := Bs_bitS _ hc
theorem topM_mr (l : List S_api_Permit) (k : Ky) : Mr (topM l k) := by
  have := Bs_lt (topB l k) 7
  unfold topM
  exact ⟨by omega, by omega⟩
theorem fold_or {α : Type} (f g : α → Bool) : ∀ (l : List α) (s : Bool × Bool), l.foldl (fun s q => (s.1 || f q, s.2 || g q)) s = (s.1 || l.any f, s.2 || l.any g)
  | [], s => by simp
  | x :: l, s => by rw [List.foldl_cons, fold_or f g l, List.any_cons, List.any_cons, Bool.or_assoc, Bool.or_assoc]
theorem cov_form (q p : S_api_Permit) : (!(ky q == ky p) && incK (ky q) (ky p)) = (q.2.1 && (belowS p.1 q.1 || ((q.1 == p.1) && !p.2.1))) := by
  have hk : (ky q == ky p) = ((q.1 == p.1) && (q.2.1 == p.2.1)) := rfl
  have hb : (q.1 == p.1) = true → belowS p.1 q.1 = false := fun h => by
    cases hx : belowS p.1 q.1 with
    | false => rfl
    | true => have := bl_len hx; rw [eq_of_beq h] at this; omega
  rw [hk]
  show (_ && (bif p.2.1 then q.2.1 && ((q.1 == p.1) || belowS p.1 q.1) else (q.1 == p.1) || (q.2.1 && belowS p.1 q.1))) = _
  cases he : (q.1 == p.1) with
  | true => rw [hb he]; cases q.2.1 <;> cases p.2.1 <;> rfl
  | false => cases belowS p.1 q.1 <;> cases q.2.1 <;> cases p.2.1 <;> rfl
theorem top_go {l : List S_api_Permit} (hg : Gd l) (p : S_api_Permit) {K : S_api_Permit → Option (List S_api_Permit)} : ∀ (n f : Nat) (i : Nat), i + n = 7 → n < f → loopF (R := (List S_api_Permit)) (S := (Int × S_api_Permit)) (fun self8 s7 =>
    letm (decide (s7.1 ≤ 7)) fun x9 =>
    cond x9 (bnd (β := S_api_Permit) (loopL (R := S_api_Permit) (S := (Bool × Bool)) (α := S_api_Permit) (fun k10 s11 =>
    bnd (β := Bool) (cond s11.1 (letm ((!s11.2)) fun x12 => some x12) (some false)) fun v13 =>
    cond v13 (letm ((w64 (s7.1 - 1))) fun x14 =>
    letm ((toU64 x14)) fun x15 =>
    bnd (Gk.shl 1 (UInt64.toNat x15 : Int)) fun x16 =>
    letm ((w64 (s7.2.2.2 + x16))) fun x17 =>
    some (s7.2.1, (s7.2.2.1, x17)))
     (some s7.2))
     (fun x18 k19 s20 self21 =>
    bnd (β := (Bool × Bool)) (bnd (m_coresecref39_bit x18 s7.1) fun x22 =>
    letm ((!x22)) fun x23 =>
    cond x23 (some (s20.1, s20.2))
     (bnd (β := Bool) (cond s20.1 (some true)
     (letm ((x18.1 == p.1)) fun x24 =>
    cond x24 (letm ((x18.2.1 == p.2.1)) fun x25 => some x25)
     (some false))) fun v26 =>
    cond s20.2 (some (v26, true))
     (cond x18.2.1 (bnd (m_coresecref39_under p.1 x18.1) fun x27 =>
    cond x27 (some (v26, true))
     (letm ((x18.1 == p.1)) fun x28 =>
    cond x28 (letm ((!p.2.1)) fun x29 => some (v26, x29))
     (some (v26, false))))
     (some (v26, false))))) fun v30 =>
    self21 (v30.1, v30.2)) l 0 (false, false)) fun v31 =>
    letm ((w64 (s7.1 + 1))) fun x32 =>
    self8 (x32, v31))
     (K s7.2)) f (((i + 1 : Nat) : Int), (p.1, (p.2.1, ((Bs (topB l (ky p)) i : Nat) : Int)))) = K (p.1, (p.2.1, topM l (ky p)))
  | 0, f + 1, i, hi, _ => by
    obtain rfl : i = 7 := by omega
    rw [loopF_succ, letm_e, decide_eq_false (by omega), cd_f]; rfl
  | n + 1, f + 1, i, hi, hf => by
    have hcr : Cr ((i + 1 : Nat) : Int) := ⟨by omega, by omega⟩
    have next := top_go hg p (K := K) n f (i + 1) (by omega) (by omega)
    rw [loopF_succ, letm_e, decide_eq_true (by omega : ((i + 1 : Nat) : Int) ≤ 7), cd_t]
    rw [loopL_run (fun (s : Bool × Bool) q => (s.1 || (bitS q.2.2 ((i + 1 : Nat) : Int) && (ky q == ky p)), s.2 || (bitS q.2.2 ((i + 1 : Nat) : Int) && (!(ky q == ky p) && incK (ky q) (ky p))))) (fun _ => True) l 0 (false, false) trivial (fun q hq k s self _ => ⟨?_, trivial⟩)]
    · rw [fold_or]
      simp only [Bool.false_or]
      have hbs : Bs (topB l (ky p)) (i + 1) = Bs (topB l (ky p)) i + (bif topB l (ky p) ((i + 1 : Nat) : Int) then 2 ^ i else 0) := rfl
      have hlt := Bs_lt (topB l (ky p)) i
      have hpw : (2 : Nat) ^ i ≤ 2 ^ 6 := Nat.pow_le_pow_right (by omega) (by omega)
      have hadd := add_pow ⟨i, by omega⟩ ⟨Bs (topB l (ky p)) i, by omega⟩
      rw [hbs] at next
      have hb : (cond (l.any fun q => bitS q.2.2 ((i + 1 : Nat) : Int) && (ky q == ky p)) (letm (!(l.any fun q => bitS q.2.2 ((i + 1 : Nat) : Int) && (!(ky q == ky p) && incK (ky q) (ky p)))) fun x12 => some x12) (some false) : Option Bool) = some (topB l (ky p) ((i + 1 : Nat) : Int)) := by
        unfold topB
        cases (l.any fun q => bitS q.2.2 ((i + 1 : Nat) : Int) && (ky q == ky p)) <;> rfl
      rw [hb, bnd_s]
      have hw : w64 (((i + 1 : Nat) : Int) + 1) = ((i + 1 + 1 : Nat) : Int) := by rw [w64_of (by omega) (by omega)]; omega
      cases ht : topB l (ky p) ((i + 1 : Nat) : Int) with
      | true =>
        rw [ht, cond_true] at next
        obtain ⟨z, hz, hz2⟩ := bnd_some hadd
        have hz2 := Option.some.inj hz2
        rw [cd_t, letm_e, letm_e]
        have hz' : Gk.shl 1 (UInt64.toNat (toU64 (w64 (((i + 1 : Nat) : Int) - 1))) : Int) = some z := hz
        rw [hz', bnd_s, letm_e]
        show bnd (some (p.1, (p.2.1, w64 (((Bs (topB l (ky p)) i : Nat) : Int) + z)))) _ = _
        rw [hz2, bnd_s, letm_e, hw]
        exact next
      | false =>
        rw [ht, cond_false, Nat.add_zero] at next
        rw [cd_f, bnd_s, letm_e, hw]
        exact next
    · have hm := hg q hq
      rw [cov_form]
      have hkq : (ky q == ky p) = ((q.1 == p.1) && (q.2.1 == p.2.1)) := rfl
      rw [hkq, ref_bit (by omega) hm.2.1 hcr.1 hcr.2, bnd_s, letm_e, under_eq]
      obtain ⟨s1, s2⟩ := s
      simp only [letm_e, bnd_s]
      cases bitS q.2.2 ((i + 1 : Nat) : Int) <;> cases s1 <;> cases s2 <;> cases (q.1 == p.1) <;> cases (q.2.1 == p.2.1) <;> cases q.2.1 <;> cases belowS p.1 q.1 <;> cases p.2.1 <;> rfl
theorem before_eq (a b : S_api_Permit) : m_coresecref39_before a b = some (lt_sort a b) := by
  unfold m_coresecref39_before
  rw [lt_val]
  simp only [letm_e]
  cases strLt a.1 b.1 <;> cases (a.1 == b.1) <;> cases a.2.1 <;> rfl
def lo (out : List S_api_Permit) (x : S_api_Permit) : List S_api_Permit := out.takeWhile fun o => lt_sort o x
def up (out : List S_api_Permit) (x : S_api_Permit) : List S_api_Permit := out.dropWhile fun o => lt_sort o x
theorem lo_up (out : List S_api_Permit) (x : S_api_Permit) : lo out x ++ up out x = out := List.takeWhile_append_dropWhile
def insF (out : List S_api_Permit) (x : S_api_Permit) : List S_api_Permit :=
  match up out x with
  | y :: _ => bif decide (y = x) then out else lo out x ++ x :: up out x
  | [] => lo out x ++ x :: up out x
theorem at_go (out : List S_api_Permit) (x : S_api_Permit) (hn : out.length ≤ 1000000) : ∀ (r : List S_api_Permit) (k f : Nat), out.drop k = r → r.length < f → loopF (R := Int) (S := Int) (fun self35 s34 =>
    bnd (β := Bool) (letm (decide (s34 < (out.length : Int))) fun x36 =>
    cond x36 (bnd (idx out s34) fun x37 =>
    bnd (idx out (((s34 : Int)).toNat : Int)) fun x38 =>
    bnd (m_coresecref39_before x38 x) fun x39 => some x39)
     (some false)) fun v40 =>
    cond v40 (letm ((w64 (s34 + 1))) fun x41 => self35 x41)
     (some s34)) f (k : Int) = some (((k + (r.takeWhile fun o => lt_sort o x).length : Nat)) : Int)
  | [], k, f + 1, hk, _ => by
    have hl := congrArg List.length hk
    rw [List.length_drop, List.length_nil] at hl
    rw [loopF_succ, letm_e, decide_eq_false (by omega), cd_f, bnd_s, cd_f]; rfl
  | y :: r, k, f + 1, hk, hf => by
    have hl := congrArg List.length hk
    rw [List.length_drop, List.length_cons] at hl
    have hy : out[k]? = some y := by have := congrArg (fun z => z[0]?) hk; simpa using this
    have hd : out.drop (k + 1) = r := by have := congrArg (fun z => z.drop 1) hk; simpa using this
    have hix : idx out (k : Int) = some y := idx_some' hy
    have ih := at_go out x hn r (k + 1) f hd (by simp at hf; omega)
    rw [loopF_succ, letm_e, decide_eq_true (by omega), cd_t, hix, bnd_s, show (((k : Int)).toNat : Int) = (k : Int) from rfl, hix, bnd_s, before_eq, bnd_s, bnd_s, List.takeWhile_cons]
    cases lt_sort y x with
    | true =>
      rw [cd_t, letm_e, w64_of (by omega) (by omega), show ((k : Int) + 1) = ((k + 1 : Nat) : Int) by omega, ih]
      simp only [if_true, List.length_cons]
      congr 2; omega
    | false => rw [cd_f]; rfl
theorem ins_eq {out : List S_api_Permit} {x : S_api_Permit} (hn : out.length ≤ 1000000) : (bnd (β := Int) (loopF (R := Int) (S := Int) (fun self35 s34 =>
    bnd (β := Bool) (letm (decide (s34 < (out.length : Int))) fun x36 =>
    cond x36 (bnd (idx out s34) fun x37 =>
    bnd (idx out (((s34 : Int)).toNat : Int)) fun x38 =>
    bnd (m_coresecref39_before x38 x) fun x39 => some x39)
     (some false)) fun v40 =>
    cond v40 (letm ((w64 (s34 + 1))) fun x41 => self35 x41)
     (some s34)) FUEL 0) fun v42 =>
    bnd (β := Bool) (letm (decide (v42 < (out.length : Int))) fun x43 =>
    cond x43 (bnd (idx out v42) fun x44 =>
    bnd (idx out (((v42 : Int)).toNat : Int)) fun x45 =>
    letm ((eqS (.pr .str (.pr .bool (.int .i64))) x45 x)) fun x46 => some x46)
     (some false)) fun v47 =>
    cond v47 (some out)
     (bnd (Gk.cut out v42 (out.length : Int)) fun x48 =>
    bnd (app [] x48) fun x49 =>
    bnd (Gk.cut out 0 v42) fun x50 =>
    bnd (app x50 [x]) fun x51 =>
    bnd (app x51 x49) fun x52 => some x52)) = some (insF out x) := by
  have hat := at_go out x hn out 0 FUEL (List.drop_zero) (by rw [fuel_eq]; omega)
  have hat : _ = some (((0 + (lo out x).length : Nat)) : Int) := hat
  rw [show ((0 : Nat) : Int) = (0 : Int) from rfl, Nat.zero_add] at hat
  rw [hat, bnd_s]
  have hlu := lo_up out x
  have hll : out.length = (lo out x).length + (up out x).length := by rw [← List.length_append, hlu]
  have key : ∀ (L U : List S_api_Permit), L ++ U = out → out.drop L.length = U ∧ out.take L.length = L := by
    rintro L U rfl; exact ⟨List.drop_left, List.take_left⟩
  have hcut : (bnd (Gk.cut out ((lo out x).length : Int) (out.length : Int)) fun x48 => bnd (app [] x48) fun x49 => bnd (Gk.cut out 0 ((lo out x).length : Int)) fun x50 => bnd (app x50 [x]) fun x51 => bnd (app x51 x49) fun x52 => some x52) = some (lo out x ++ x :: up out x) := by
    have e1 : Gk.cut out ((lo out x).length : Int) (out.length : Int) = some (up out x) := by
      unfold Gk.cut
      rw [if_pos (by omega)]
      have : out.take ((out.length : Int)).toNat = out := List.take_of_length_le (by omega)
      rw [this]
      congr 1
      exact (key _ _ hlu).1
    have e2 : Gk.cut out 0 ((lo out x).length : Int) = some (lo out x) := by
      unfold Gk.cut
      rw [if_pos (by omega)]
      congr 1
      show (out.take (lo out x).length).drop 0 = _
      rw [List.drop_zero]
      exact (key _ _ hlu).2
    rw [e1, bnd_s, app_some' (by simp; omega), bnd_s, e2, bnd_s, app_some' (by simp; omega), bnd_s, app_some' (by simp; omega), bnd_s]
    simp
  unfold insF
  cases hu : up out x with
  | nil =>
    rw [hu] at hll hcut
    rw [letm_e, decide_eq_false (by simp at hll; omega), cd_f, bnd_s, cd_f, hcut]
  | cons y d =>
    rw [hu] at hll hcut hlu
    have hy : out[(lo out x).length]? = some y := by
      have : ∀ L, L ++ y :: d = out → out[L.length]? = some y := by rintro L rfl; simp
      exact this _ hlu
    have hix : idx out ((lo out x).length : Int) = some y := idx_some' hy
    rw [letm_e, decide_eq_true (by simp at hll; omega), cd_t, hix, bnd_s, show (((((lo out x).length : Nat) : Int)).toNat : Int) = ((lo out x).length : Int) from rfl, hix, bnd_s, letm_e, bnd_s, eqS_permit]
    show _ = some (bif decide (y = x) then out else lo out x ++ x :: y :: d)
    cases decide (y = x) with
    | true => rfl
    | false => rw [cd_f, hcut]; rfl
/-! ### In order -/
structure Rn (l zs out : List S_api_Permit) : Prop where
  srt : out.Pairwise fun a b => lt_sort a b = true
  m : ∀ o ∈ out, o.2.2 = topM l (ky o) ∧ o.2.2 ≠ 0
  old : ∀ o ∈ out, ∃ z ∈ zs, ky z = ky o
  all : ∀ z ∈ zs, topM l (ky z) ≠ 0 → ∃ o ∈ out, ky o = ky z
  len : out.length ≤ zs.length
theorem Rn.skip {l zs out : List S_api_Permit} {p : S_api_Permit} (h : Rn l zs out) (hp : topM l (ky p) = 0 ∨ ∃ o ∈ out, ky o = ky p) : Rn l (zs ++ [p]) out := by
  refine ⟨h.srt, h.m, fun o ho => ?_, fun z hz hne => ?_, by have := h.len; simp; omega⟩
  · obtain ⟨z, hz, hk⟩ := h.old o ho
    exact ⟨z, by simp [hz], hk⟩
  · rcases List.mem_append.1 hz with hz | hz
    · exact h.all z hz hne
    · rw [List.mem_singleton.1 hz] at hne ⊢
      rcases hp with hp | hp
      · exact absurd hp hne
      · exact hp
theorem Rn.put {l zs out : List S_api_Permit} {p : S_api_Permit} (h : Rn l zs out) (hne : topM l (ky p) ≠ 0) : Rn l (zs ++ [p]) (insF out (p.1, (p.2.1, topM l (ky p)))) := by
  generalize hx : ((p.1, (p.2.1, topM l (ky p))) : S_api_Permit) = x
  have hkx : ky x = ky p := by rw [← hx]; rfl
  have hmx : x.2.2 = topM l (ky x) := by rw [← hx]; rfl
  by_cases hex : ∃ o ∈ out, ky o = ky x
  · obtain ⟨o, ho, hko⟩ := hex
    have hox : o = x := by
      have h1 := (h.m o ho).1
      rw [hko, ← hmx] at h1
      obtain ⟨o1, o2, o3⟩ := o
      obtain ⟨x1, x2, x3⟩ := x
      have e1 : o1 = x1 := congrArg (fun k : Ky => k.1) hko
      have e2 : o2 = x2 := congrArg (fun k : Ky => k.2) hko
      have e3 : o3 = x3 := h1
      rw [e1, e2, e3]
    subst hox
    have hins : insF out o = out := by
      obtain ⟨l1, l2, hl⟩ := List.append_of_mem ho
      have hsrt := h.srt
      rw [hl, List.pairwise_append] at hsrt
      have hup : up out o = o :: l2 := by
        unfold up
        rw [hl, List.dropWhile_append_of_pos fun a ha => hsrt.2.2 a ha o (by simp), List.dropWhile_cons_of_neg (by rw [swo_sort.irrefl]; exact Bool.false_ne_true)]
      unfold insF
      rw [hup]
      simp only [decide_true, cond_true]
    rw [hins]
    exact h.skip (.inr ⟨o, ho, hkx⟩)
  · have hins : insF out x = lo out x ++ x :: up out x := by
      unfold insF
      cases hu : up out x with
      | nil => rfl
      | cons y d =>
        have hym : y ∈ out := by rw [← lo_up out x, hu]; simp
        have : decide (y = x) = false := decide_eq_false fun e => hex ⟨y, hym, by rw [e]⟩
        simp only [this, cond_false]
    have hmem : ∀ o, o ∈ lo out x ++ x :: up out x ↔ o = x ∨ o ∈ out := fun o => by
      conv => rhs; rw [← lo_up out x]
      simp only [List.mem_append, List.mem_cons]
      constructor
      · rintro (a | a | a)
        · exact .inr (.inl a)
        · exact .inl a
        · exact .inr (.inr a)
      · rintro (a | a | a)
        · exact .inr (.inl a)
        · exact .inl a
        · exact .inr (.inr a)
    have hsrt := h.srt
    rw [← lo_up out x, List.pairwise_append] at hsrt
    have hlo : ∀ o ∈ lo out x, lt_sort o x = true := fun o ho => by
      have h2 := List.all_takeWhile (p := fun o => lt_sort o x) (l := out)
      exact List.all_eq_true.1 h2 o ho
    have hupx : ∀ o ∈ up out x, lt_sort x o = true := fun o ho => by
      cases hu : up out x with
      | nil => rw [hu] at ho; simp at ho
      | cons y d =>
        have hy : lt_sort y x = false := by
          have h2 := List.head?_dropWhile_not (fun o => lt_sort o x) out
          have h3 : (out.dropWhile fun o => lt_sort o x) = y :: d := hu
          rw [h3] at h2
          simpa using h2
        have hym : y ∈ out := by rw [← lo_up out x, hu]; simp
        have hxy : lt_sort x y = true := by
          cases hq : lt_sort x y with
          | true => rfl
          | false => exact absurd ⟨y, hym, lt_tri hy hq⟩ hex
        rw [hu] at ho
        rcases List.mem_cons.1 ho with rfl | ho
        · exact hxy
        · have h5 := hsrt.2.1
          rw [hu] at h5
          exact swo_sort.trans _ _ _ hxy ((List.pairwise_cons.1 h5).1 o ho)
    rw [hins]
    refine ⟨?_, fun o ho => ?_, fun o ho => ?_, fun z hz hz2 => ?_, ?_⟩
    · refine List.pairwise_append.2 ⟨hsrt.1, List.pairwise_cons.2 ⟨hupx, hsrt.2.1⟩, fun a ha b hb => ?_⟩
      rcases List.mem_cons.1 hb with rfl | hb
      · exact hlo a ha
      · exact hsrt.2.2 a ha b hb
    · rcases (hmem o).1 ho with rfl | ho
      · exact ⟨hmx, by rw [hmx, hkx]; exact hne⟩
      · exact h.m o ho
    · rcases (hmem o).1 ho with rfl | ho
      · exact ⟨p, by simp, hkx.symm⟩
      · obtain ⟨z, hz, hk⟩ := h.old o ho
        exact ⟨z, by simp [hz], hk⟩
    · rcases List.mem_append.1 hz with hz | hz
      · obtain ⟨o, ho, hk⟩ := h.all z hz hz2
        exact ⟨o, (hmem o).2 (.inr ho), hk⟩
      · rw [List.mem_singleton.1 hz]
        exact ⟨x, (hmem x).2 (.inl rfl), hkx⟩
    · have hl := congrArg List.length (lo_up out x)
      rw [List.length_append] at hl
      have := h.len
      simp only [List.length_append, List.length_cons, List.length_nil]; omega
theorem Rn.nf {l out : List S_api_Permit} (h : Rn l l out) : NF l out := by
  refine ⟨h.srt, fun p hp => ?_, h.len, fun k c hc => ?_⟩
  · obtain ⟨h1, h2⟩ := h.m p hp
    have h3 := topM_mr l (ky p)
    rw [← h1] at h3
    exact ⟨by have := h3.1; omega, h3.2⟩
  · rw [← topB_iff]
    constructor
    · rintro ⟨o, ho, rfl, hb⟩
      rw [(h.m o ho).1, topM_bit hc] at hb; exact hb
    · intro hb
      obtain ⟨⟨z, hz, rfl, _⟩, _⟩ := topB_iff.1 hb
      have hb2 : bitS (topM l (ky z)) c = true := by rw [topM_bit hc]; exact hb
      obtain ⟨o, ho, hk⟩ := h.all z hz (bit_none hb2)
      exact ⟨o, ho, hk, by rw [(h.m o ho).1, hk]; exact hb2⟩
def rnF (l out : List S_api_Permit) (p : S_api_Permit) : List S_api_Permit := bif topM l (ky p) == 0 then out else insF out (p.1, (p.2.1, topM l (ky p)))
theorem Rn.all_ {l : List S_api_Permit} : ∀ {ys zs out : List S_api_Permit}, Rn l zs out → Rn l (zs ++ ys) (ys.foldl (rnF l) out)
  | [], zs, out, h => by simpa using h
  | p :: ys, zs, out, h => by
    have h1 : Rn l (zs ++ [p]) (rnF l out p) := by
      unfold rnF
      cases hx : (topM l (ky p) == 0) with
      | true => exact h.skip (.inl (eq_of_beq hx))
      | false => exact h.put (by simpa using hx)
    have h2 := Rn.all_ (ys := ys) h1
    rw [List.append_assoc] at h2
    exact h2
theorem insF_len {out : List S_api_Permit} {x : S_api_Permit} : (insF out x).length ≤ out.length + 1 := by
  have hl := congrArg List.length (lo_up out x)
  rw [List.length_append] at hl
  unfold insF
  cases hu : up out x with
  | nil => rw [hu] at hl; simp at hl ⊢; omega
  | cons y d =>
    simp only
    cases decide (y = x) with
    | true => rw [cond_true]; omega
    | false => rw [hu] at hl; simp at hl ⊢; omega
theorem ref_nf {l : List S_api_Permit} (hg : Gd l) (hn : l.length ≤ 100000) : ∃ r, m_coresecref39_normal l = some r ∧ NF l r := by
  have h0 : Rn l [] [] := ⟨List.Pairwise.nil, fun o ho => by simp at ho, fun o ho => by simp at ho, fun o ho => by simp at ho, Nat.le_refl _⟩
  have h1 := h0.all_ (ys := l)
  rw [List.nil_append] at h1
  refine ⟨_, ?_, h1.nf⟩
  unfold m_coresecref39_normal
  refine (loopL_fold (rnF l) (fun k s => s.length ≤ k) l 0 [] (fun i p s self hx hJ => ?_) (Nat.le_refl _)).1.trans rfl
  have hi : i < l.length := (List.getElem?_eq_some_iff.1 hx).1
  refine ⟨?_, ?_⟩
  · rw [show ((1 : Int), (p.1, (p.2.1, (0 : Int)))) = (((0 + 1 : Nat) : Int), (p.1, (p.2.1, ((Bs (topB l (ky p)) 0 : Nat) : Int)))) from rfl]
    rw [top_go hg p (K := fun x => letm ((x.2.2 == 0)) fun x33 => cond x33 (some s) (bnd (β := Int) (loopF (R := Int) (S := Int) (fun self35 s34 =>
      bnd (β := Bool) (letm (decide (s34 < (s.length : Int))) fun x36 =>
      cond x36 (bnd (idx s s34) fun x37 =>
      bnd (idx s (((s34 : Int)).toNat : Int)) fun x38 =>
      bnd (m_coresecref39_before x38 x) fun x39 => some x39)
       (some false)) fun v40 =>
      cond v40 (letm ((w64 (s34 + 1))) fun x41 => self35 x41)
       (some s34)) FUEL 0) fun v42 =>
      bnd (β := Bool) (letm (decide (v42 < (s.length : Int))) fun x43 =>
      cond x43 (bnd (idx s v42) fun x44 =>
      bnd (idx s (((v42 : Int)).toNat : Int)) fun x45 =>
      letm ((eqS (.pr .str (.pr .bool (.int .i64))) x45 x)) fun x46 => some x46)
       (some false)) fun v47 =>
      cond v47 (some s)
       (bnd (Gk.cut s v42 (s.length : Int)) fun x48 =>
      bnd (app [] x48) fun x49 =>
      bnd (Gk.cut s 0 v42) fun x50 =>
      bnd (app x50 [x]) fun x51 =>
      bnd (app x51 x49) fun x52 => some x52))) 7 FUEL 0 rfl (by rw [fuel_eq]; omega), letm_e]
    unfold rnF
    cases (topM l (ky p) == 0) with
    | true => rfl
    | false => rw [cd_f, ins_eq (by omega), bnd_s]; rfl
  · unfold rnF
    cases (topM l (ky p) == 0) with
    | true => rw [cond_true]; omega
    | false => rw [cond_false]; have := insF_len (out := s) (x := (p.1, (p.2.1, topM l (ky p)))); omega
/-! ### Within -/
def bad (p : S_api_Permit) (b : List S_api_Permit) (c : Int) : Bool := bitS p.2.2 c && !(b.any fun q => incK (ky q) (ky p) && bitS q.2.2 c)
def badF (p : S_api_Permit) (b : List S_api_Permit) : Nat → Bool
  | 0 => false
  | n + 1 => bad p b (8 - ((n + 1 : Nat) : Int)) || badF p b n
theorem badF_iff {p : S_api_Permit} {b : List S_api_Permit} : ∀ (n : Nat), badF p b n = true ↔ ∃ c, 8 - (n : Int) ≤ c ∧ c ≤ 7 ∧ bad p b c = true
  | 0 => ⟨fun h => (by cases h), fun ⟨c, h1, h2, _⟩ => by omega⟩
  | n + 1 => by
    rw [badF, Bool.or_eq_true, badF_iff n]
    constructor
    · rintro (h | ⟨c, h1, h2, h3⟩)
      · exact ⟨_, Int.le_refl _, by omega, h⟩
      · exact ⟨c, by omega, h2, h3⟩
    · rintro ⟨c, h1, h2, h3⟩
      by_cases e : c = 8 - ((n + 1 : Nat) : Int)
      · left; rw [← e]; exact h3
      · exact .inr ⟨c, by omega, h2, h3⟩
theorem badF_rest {p : S_api_Permit} {b : List S_api_Permit} (hb : ∀ q ∈ b, Mr q.2.2) (hp : Mr p.2.2) : badF p b 7 = !(restM p b p.2.2 == 0) := by
  obtain ⟨h1, h2⟩ := restM_ok (p := p) hb hp
  rw [Bool.eq_iff_iff, badF_iff, Bool.not_eq_true', beq_eq_false_iff_ne]
  constructor
  · rintro ⟨c, c1, c2, h3⟩
    exact bit_none (c := c) (by rw [h2 c ⟨by omega, c2⟩]; exact h3)
  · intro hne
    obtain ⟨c, hc, h3⟩ := bit_some h1 hne
    rw [h2 c hc] at h3
    exact ⟨c, by have := hc.1; omega, hc.2, h3⟩
theorem whole_eq {l : List S_api_Permit} (hg : Gd l) (path : List UInt8) {c : Int} (hc : Cr c) : m_coresecref39_whole l path c = some (l.any fun q => incK (ky q) (path, true) && bitS q.2.2 c) := by
  unfold m_coresecref39_whole
  refine (loopL_any (fun q => incK (ky q) (path, true) && bitS q.2.2 c) (some true) l 0 fun q hq k self => ?_).trans ?_
  · have hm := hg q hq
    rw [ref_bit (by omega) hm.2.1 hc.1 hc.2, bnd_s, under_eq]
    simp only [letm_e, bnd_s]
    show _ = cond ((q.2.1 && ((q.1 == path) || belowS path q.1)) && bitS q.2.2 c) _ _
    cases bitS q.2.2 c <;> cases q.2.1 <;> cases (q.1 == path) <;> cases belowS path q.1 <;> rfl
  · cases (l.any fun q => incK (ky q) (path, true) && bitS q.2.2 c) <;> rfl
theorem ref_within (a b : List S_api_Permit) : m_coresecref39_Within a b = some (withS a b) := by
  unfold m_coresecref39_Within withS
  simp only [ref_valid39, bnd_s, letm_e, cd_or]
  cases ha : validS a with
  | false => rfl
  | true =>
    cases hb : validS b with
    | false => rfl
    | true =>
      have ga := validS_gd ha
      have gb := validS_gd hb
      rw [Bool.not_true, Bool.or_false, cd_f]
      have inner : ∀ (p : S_api_Permit), p ∈ a → ∀ (n f : Nat) (c : Int), c = 8 - (n : Int) → n ≤ 7 → n < f → loopF (R := ((Bool ⊕ Unit) ⊕ Unit)) (S := Int) (fun self14 s13 =>
          cond (decide (s13 ≤ 7)) (bnd (β := Bool) (bnd (m_coresecref39_bit p s13) fun x16 =>
          cond x16 (cond p.2.1 (bnd (m_coresecref39_whole b p.1 s13) fun x17 =>
          cond (!x17) (some true)
           (cond (!p.2.1) (bnd (m_coresecref39_Permits b p.1 s13) fun x20 => some (!x20))
           (some false)))
           (cond (!p.2.1) (bnd (m_coresecref39_Permits b p.1 s13) fun x23 => some (!x23))
           (some false)))
           (some false)) fun v25 =>
          cond v25 (some (.inl (.inl false)))
           (self14 (w64 (s13 + 1))))
           (some (.inr ()))) f c = bif badF p b n then some (.inl (.inl false)) else some (.inr ()) := by
        intro p hp n
        induction n with
        | zero =>
          intro f c hc _ hf
          obtain ⟨f, rfl⟩ : ∃ g, f = g + 1 := ⟨f - 1, by omega⟩
          rw [loopF_succ, decide_eq_false (by omega), cd_f]; rfl
        | succ n ih =>
          intro f c hc hn hf
          obtain ⟨f, rfl⟩ : ∃ g, f = g + 1 := ⟨f - 1, by omega⟩
          have hcr : Cr c := ⟨by omega, by omega⟩
          have hm := ga p hp
          have ih := ih f (c + 1) (by omega) (by omega) (by omega)
          rw [loopF_succ, decide_eq_true (by omega : c ≤ 7), cd_t, ref_bit (by omega) hm.2.1 hcr.1 hcr.2, bnd_s, whole_eq gb _ hcr, bnd_s, ref_permits, bnd_s, w64_of (by omega) (by omega), ih]
          have hp2 : permS b p.1 c = b.any fun q => bitS q.2.2 c && covS q p.1 := by
            unfold permS
            rw [hb, decide_eq_true hcr.1, decide_eq_true hcr.2]; rfl
          have hbad : bad p b c = (bitS p.2.2 c && !(bif p.2.1 then (b.any fun q => incK (ky q) (p.1, true) && bitS q.2.2 c) else permS b p.1 c)) := by
            unfold bad
            cases hpb : p.2.1 with
            | true =>
              have : ky p = (p.1, true) := by rw [← hpb]; rfl
              rw [this]; rfl
            | false =>
              have : ky p = (p.1, false) := by rw [← hpb]; rfl
              rw [this, hp2]
              have e : (fun q : S_api_Permit => incK (ky q) (p.1, false) && bitS q.2.2 c) = fun q => bitS q.2.2 c && covS q p.1 := funext fun q => Bool.and_comm _ _
              rw [e]; rfl
          rw [badF, ← hc, hbad]
          cases bitS p.2.2 c <;> cases p.2.1 <;> cases (b.any fun q => incK (ky q) (p.1, true) && bitS q.2.2 c) <;> cases permS b p.1 c <;> rfl
      have outer : ∀ (xs : List S_api_Permit) (k : Nat), (∀ x ∈ xs, x ∈ a) → loopL (R := (Bool ⊕ Unit)) (S := Unit) (α := S_api_Permit) (fun _ _ => some (.inr ())) (fun x9 _ _ self12 =>
          bndS (ρ := (Bool ⊕ Unit)) (ρ' := (Bool ⊕ Unit)) (Y := Unit) (loopF (R := ((Bool ⊕ Unit) ⊕ Unit)) (S := Int) (fun self14 s13 =>
          cond (decide (s13 ≤ 7)) (bnd (β := Bool) (bnd (m_coresecref39_bit x9 s13) fun x16 =>
          cond x16 (cond x9.2.1 (bnd (m_coresecref39_whole b x9.1 s13) fun x17 =>
          cond (!x17) (some true)
           (cond (!x9.2.1) (bnd (m_coresecref39_Permits b x9.1 s13) fun x20 => some (!x20))
           (some false)))
           (cond (!x9.2.1) (bnd (m_coresecref39_Permits b x9.1 s13) fun x23 => some (!x23))
           (some false)))
           (some false)) fun v25 =>
          cond v25 (some (.inl (.inl false)))
           (self14 (w64 (s13 + 1))))
           (some (.inr ()))) FUEL 1) (fun q => q) fun _ => self12 ()) xs k () = bif xs.all (fun p => restM p b p.2.2 == 0) then some (.inr ()) else some (.inl false) := by
        intro xs
        induction xs with
        | nil => intro k _; rfl
        | cons x xs ih =>
          intro k hx
          have ih := ih (k + 1) fun y hy => hx y (by simp [hy])
          rw [loopL_cons, inner x (hx x (by simp)) 7 FUEL 1 (by omega) (by omega) (by rw [fuel_eq]; omega), badF_rest (fun q hq => gb.mr hq) (ga.mr (hx x (by simp))), List.all_cons]
          cases (restM x b x.2.2 == 0) with
          | true => exact ih
          | false => rfl
      rw [outer a 0 fun _ h => h]
      cases (a.all fun p => restM p b p.2.2 == 0) <;> rfl
/-! ### Normal forms -/
theorem normal_same {l : List S_api_Permit} (hg : Gd l) (hn : l.length ≤ 100000) : ∃ r, NF l r ∧ m_scope_normal l = some r ∧ m_coresecref39_normal l = some r := by
  obtain ⟨r, h1, h2⟩ := normal_nf hg (by omega)
  obtain ⟨r', h3, h4⟩ := ref_nf hg hn
  have : r = r' := h2.uniq h4 fun _ _ _ => Iff.rfl
  subst this
  exact ⟨r, h2, h1, h3⟩
theorem Normal_same (l : List S_api_Permit) : ∃ r, r.length ≤ 8 ∧ m_scope_Normal l = some r ∧ m_coresecref39_Normal l = some r := by
  unfold m_scope_Normal m_coresecref39_Normal
  rw [valid39, bnd_s, letm_e, ref_valid39, bnd_s, letm_e]
  cases h : validS l with
  | false => exact ⟨[], by simp, rfl, rfl⟩
  | true =>
    have hl := (validS_mem h).1
    obtain ⟨r, h1, h2, h3⟩ := normal_same (validS_gd h) (by omega)
    rw [h2, h3]
    exact ⟨r, by have := h1.len; omega, rfl, rfl⟩
theorem ref_limited {l r : List S_api_Permit} (h : m_coresecref39_normal l = some r) : m_coresecref39_limited l = some (bif decide (8 < (r.length : Int)) then ([], 8) else (r, 0)) := by
  unfold m_coresecref39_limited
  rw [h, bnd_s, letm_e]
  cases decide (8 < (r.length : Int)) <;> rfl
theorem bothv_ref (a b : List S_api_Permit) : (bnd (m_coresecref39_Valid a) fun x2 => letm ((!x2)) fun x3 => cond x3 (some true) (bnd (m_coresecref39_Valid b) fun x4 => letm ((!x4)) fun x5 => some x5)) = some (!(validS a && validS b)) := by
  simp only [ref_valid39, bnd_s, letm_e]
  cases validS a <;> cases validS b <;> rfl
theorem both_eq (p q : S_api_Permit) : ∃ z, m_coresecref39_both p q = some (match mtS p q with | some v => (v, true) | none => (z, false)) := by
  refine ⟨([], (false, 0)), ?_⟩
  obtain ⟨p1, p2, p3⟩ := p
  obtain ⟨q1, q2, q3⟩ := q
  unfold m_coresecref39_both mtS
  simp only [letm_e, bnd_s, under_eq]
  have hn : (ibit .and p3 q3 != 0) = !(ibit .and p3 q3 == 0) := rfl
  have hcomm : (q1 == p1) = (p1 == q1) := by rw [Bool.eq_iff_iff, beq_iff_eq, beq_iff_eq]; exact ⟨Eq.symm, Eq.symm⟩
  have h1 : incK (ky (q1, (q2, q3))) (ky (p1, (p2, p3))) = (bif p2 then q2 && ((p1 == q1) || belowS p1 q1) else (p1 == q1) || (q2 && belowS p1 q1)) := by rw [← hcomm]; rfl
  have h2 : incK (ky (p1, (p2, p3))) (ky (q1, (q2, q3))) = (bif q2 then p2 && ((p1 == q1) || belowS q1 p1) else (p1 == q1) || (p2 && belowS q1 p1)) := rfl
  rw [hn, h1, h2]
  generalize ibit .and p3 q3 = z
  cases hz : (z == 0) with
  | true =>
    rw [cd_t]
    cases p2 <;> cases q2 <;> cases (p1 == q1) <;> cases belowS p1 q1 <;> cases belowS q1 p1 <;> rfl
  | false =>
    rw [cd_f]
    cases he : (p1 == q1) with
    | true =>
      obtain rfl := eq_of_beq he
      have b1 : belowS p1 p1 = false := by
        cases hx : belowS p1 p1 with
        | false => rfl
        | true => have := bl_len hx; omega
      rw [b1]
      cases p2 <;> cases q2 <;> rfl
    | false =>
      cases p2 <;> cases q2 <;> cases h3 : belowS p1 q1 <;> cases h4 : belowS q1 p1
      all_goals first | rfl | (have l3 := bl_len h3; have l4 := bl_len h4; omega)
theorem Join_same (a b : List S_api_Permit) : ∃ r e, r.length ≤ 1000 ∧ m_scope_Join a b = some (r, e) ∧ m_coresecref39_Join a b = some (r, e) := by
  cases hv : (validS a && validS b) with
  | false =>
    have h1 := bothv a b
    rw [bnd_id, hv] at h1
    have h2 := bothv_ref a b
    rw [hv] at h2
    refine ⟨[], 1, by simp, ?_, ?_⟩
    · unfold m_scope_Join; rw [h1]; rfl
    · unfold m_coresecref39_Join; rw [h2]; rfl
  | true =>
    rw [Bool.and_eq_true] at hv
    obtain ⟨va, vb⟩ := hv
    have la := (validS_mem va).1
    have lb := (validS_mem vb).1
    obtain ⟨r, h1, h2, h3⟩ := Join_eq va vb
    obtain ⟨r', k1, k2, k3⟩ := normal_same (join_gd (validS_gd va) (validS_gd vb)) (by simp; omega)
    obtain rfl : r = r' := by rw [h2] at k2; exact Option.some.inj k2
    have h4 := ref_limited k3
    have hb := bothv_ref a b
    rw [va, vb] at hb
    have hl : r.length ≤ 1000 := by have := h1.len; simp at this; omega
    have href : m_coresecref39_Join a b = some (bif decide (8 < (r.length : Int)) then ([], 8) else (r, 0)) := by
      unfold m_coresecref39_Join
      rw [hb]
      show bnd (app [] a) _ = _
      rw [app_some' (by simp; omega), bnd_s, List.nil_append, app_some' (by omega), bnd_s, h4, bnd_s]
    rw [h3, href]
    cases decide (8 < (r.length : Int)) with
    | true => exact ⟨[], 8, by simp, rfl, rfl⟩
    | false => exact ⟨r, 0, hl, rfl, rfl⟩
theorem Meet_same (a b : List S_api_Permit) : ∃ r e, r.length ≤ 1000 ∧ m_scope_Meet a b = some (r, e) ∧ m_coresecref39_Meet a b = some (r, e) := by
  cases hv : (validS a && validS b) with
  | false =>
    have h1 := bothv a b
    rw [bnd_id, hv] at h1
    have h2 := bothv_ref a b
    rw [hv] at h2
    refine ⟨[], 1, by simp, ?_, ?_⟩
    · unfold m_scope_Meet; rw [h1]; rfl
    · unfold m_coresecref39_Meet; rw [h2]; rfl
  | true =>
    rw [Bool.and_eq_true] at hv
    obtain ⟨va, vb⟩ := hv
    have la := (validS_mem va).1
    have lb := (validS_mem vb).1
    have ga := validS_gd va
    have gb := validS_gd vb
    have hfl : ∀ p, (b.filterMap (mtS p)).length ≤ 8 := fun p => by have := List.length_filterMap_le (mtS p) b; omega
    have hln : ∀ l : List S_api_Permit, (l.flatMap fun p => b.filterMap (mtS p)).length ≤ 8 * l.length := fun l => by
      induction l with
      | nil => simp
      | cons x l ih => rw [List.flatMap_cons, List.length_append, List.length_cons]; have := hfl x; omega
    have hml : (meetL a b).length ≤ 64 := by have := hln a; unfold meetL; omega
    obtain ⟨r, h1, h2, h3⟩ := Meet_eq va vb
    obtain ⟨r', k1, k2, k3⟩ := normal_same (meet_gd ga gb) (by omega)
    obtain rfl : r = r' := by rw [h2] at k2; exact Option.some.inj k2
    have h4 := ref_limited k3
    have hb := bothv_ref a b
    rw [va, vb] at hb
    have hl : r.length ≤ 1000 := by have := h1.len; omega
    have href : m_coresecref39_Meet a b = some (bif decide (8 < (r.length : Int)) then ([], 8) else (r, 0)) := by
      unfold m_coresecref39_Meet
      rw [hb, bnd_s, Bool.and_self, Bool.not_true, cd_f]
      obtain ⟨e1, _⟩ := loopL_fold (R := (List S_api_Permit) × Int) (bn := fun _ s8 => bnd (m_coresecref39_limited s8) fun x9 => some (x9.1, x9.2)) (bs := fun x10 _ s12 self13 =>
        loopL (R := ((List S_api_Permit) × Int)) (S := (List S_api_Permit)) (α := S_api_Permit) (fun _ s15 => self13 s15)
         (fun x16 _ s18 self19 =>
        bnd (β := (List S_api_Permit)) (bnd (m_coresecref39_both x10 x16) fun x20 =>
        cond x20.2 (bnd (app s18 [x20.1]) fun x21 => some x21)
         (some s18)) fun v22 =>
        self19 v22) b 0 s12) (fun acc p => acc ++ b.filterMap (mtS p)) (fun k s => s.length ≤ 8 * k) a 0 [] (fun i p s self hx hJ => by
          have hi : i < a.length := (List.getElem?_eq_some_iff.1 hx).1
          have hpa := List.mem_of_getElem? hx
          refine ⟨?_, by have := hfl p; rw [List.length_append]; omega⟩
          refine (loopL_filterMap (mtS p) b 0 s (by omega) fun q hq k s self => ?_)
          obtain ⟨z, hz⟩ := both_eq p q
          rw [hz, bnd_s]
          cases mtS p q with
          | some v => rw [cd_t, bnd_id]
          | none => rfl) (Nat.zero_le _)
      refine e1.trans ?_
      have hfm : ∀ (l acc : List S_api_Permit), l.foldl (fun acc p => acc ++ b.filterMap (mtS p)) acc = acc ++ l.flatMap fun p => b.filterMap (mtS p) := fun l => by
        induction l with
        | nil => intro acc; simp
        | cons x l ih => intro acc; rw [List.foldl_cons, ih, List.flatMap_cons, List.append_assoc]
      rw [hfm, List.nil_append]
      show bnd (m_coresecref39_limited (meetL a b)) _ = _
      rw [h4, bnd_s]
    rw [h3, href]
    cases decide (8 < (r.length : Int)) with
    | true => exact ⟨[], 8, by simp, rfl, rfl⟩
    | false => exact ⟨r, 0, hl, rfl, rfl⟩
/-! ### The law -/
theorem ScopeForms_true (a0 a1 : List S_api_Permit) (a2 a3 : List Int) (h2 : a2.length ≤ maxLen) (h3 : a3.length ≤ maxLen) : m_coreseclaw39_ScopeForms a0 a1 a2 a3 = some true := by
  unfold m_coreseclaw39_ScopeForms
  rw [light_eq, bnd_s, light_eq, bnd_s, awake39]
  simp only [letm_e, cd_or, bnd_s]
  cases (!(decide ((a0.length : Int) ≤ 20) && a0.all fun p => !decide (300 < (p.1.length : Int))) || !(decide ((a1.length : Int) ≤ 20) && a1.all fun p => !decide (300 < (p.1.length : Int)))) with
  | true => rfl
  | false =>
    rw [cd_f]
    obtain ⟨a, _, ea, la, _, _⟩ := scope_some (new_ok h2)
    obtain ⟨b, _, eb, lb, _, _⟩ := scope_some (new_ok h3)
    have e2 : m_coresecmake_New a2 = some (a2, 0) := rfl
    have e3 : m_coresecmake_New a3 = some (a3, 0) := rfl
    obtain ⟨r, _, _, er⟩ := Normal_same (a ++ b)
    have ap1 : app ([] : List S_api_Permit) a = some a := by rw [app_some' (by simp; omega)]; rfl
    have ap2 : app a b = some (a ++ b) := app_some' (by omega)
    rw [e2, bnd_s, ea, bnd_s, e3, bnd_s, eb, bnd_s, ap1, bnd_s, ap2, bnd_s, er, bnd_s]
    have key : ∀ (x y : List S_api_Permit) (self : Unit → Option (Bool ⊕ Unit)), (bnd (idx [x, y] 0) fun x23 => bnd (idx [x, y] 1) fun x24 => bnd (m_scope_Meet x23 x24) fun x25 => bnd (idx [x, y] 0) fun x26 => bnd (idx [x, y] 1) fun x27 => bnd (m_coresecref39_Meet x26 x27) fun x28 => bnd (idx [x, y] 0) fun x29 => bnd (idx [x, y] 1) fun x30 => bnd (m_scope_Join x29 x30) fun x31 => bnd (idx [x, y] 0) fun x32 => bnd (idx [x, y] 1) fun x33 => bnd (m_coresecref39_Join x32 x33) fun x34 =>
        bnd (β := Bool) (cond (x25.2 != x28.2) (some true) (cond (x31.2 != x34.2) (some true) (bnd (m_coresecref39_Same x25.1 x28.1) fun x37 => cond (!x37) (some true) (bnd (m_coresecref39_Same x31.1 x34.1) fun x39 => cond (!x39) (some true) (bnd (idx [x, y] 0) fun x41 => bnd (idx [x, y] 1) fun x42 => bnd (m_scope_Within x41 x42) fun x43 => bnd (idx [x, y] 0) fun x44 => bnd (idx [x, y] 1) fun x45 => bnd (m_coresecref39_Within x44 x45) fun x46 => cond (x43 != x46) (some true) (bnd (idx [x, y] 0) fun x48 => bnd (m_scope_Normal x48) fun x49 => bnd (idx [x, y] 0) fun x50 => bnd (m_coresecref39_Normal x50) fun x51 => bnd (m_coresecref39_Same x49 x51) fun x52 => some (!x52))))))) fun v54 => cond v54 (some (.inl false)) (self ())) = self () := by
      intro x y self
      obtain ⟨m, e, lm, m1, m2⟩ := Meet_same x y
      obtain ⟨j, f, lj, j1, j2⟩ := Join_same x y
      obtain ⟨n, ln, n1, n2⟩ := Normal_same x
      have i0 : idx [x, y] (0 : Int) = some x := rfl
      have i1 : idx [x, y] (1 : Int) = some y := rfl
      simp only [i0, i1, bnd_s, m1, m2, j1, j2, n1, n2, bne_self_eq_false, cd_f, same_eq (show m.length ≤ 1000000 by omega), same_eq (show j.length ≤ 1000000 by omega), same_eq (show n.length ≤ 1000000 by omega), decide_true, Bool.not_true, within_eq, ref_within]
    have hall : loopL (R := (Bool ⊕ Unit)) (S := Unit) (α := (List (List S_api_Permit))) (fun _ _ => some (.inr ())) (fun x19 _ _ self22 => bnd (idx x19 0) fun x23 => bnd (idx x19 1) fun x24 => bnd (m_scope_Meet x23 x24) fun x25 => bnd (idx x19 0) fun x26 => bnd (idx x19 1) fun x27 => bnd (m_coresecref39_Meet x26 x27) fun x28 => bnd (idx x19 0) fun x29 => bnd (idx x19 1) fun x30 => bnd (m_scope_Join x29 x30) fun x31 => bnd (idx x19 0) fun x32 => bnd (idx x19 1) fun x33 => bnd (m_coresecref39_Join x32 x33) fun x34 =>
        bnd (β := Bool) (cond (x25.2 != x28.2) (some true) (cond (x31.2 != x34.2) (some true) (bnd (m_coresecref39_Same x25.1 x28.1) fun x37 => cond (!x37) (some true) (bnd (m_coresecref39_Same x31.1 x34.1) fun x39 => cond (!x39) (some true) (bnd (idx x19 0) fun x41 => bnd (idx x19 1) fun x42 => bnd (m_scope_Within x41 x42) fun x43 => bnd (idx x19 0) fun x44 => bnd (idx x19 1) fun x45 => bnd (m_coresecref39_Within x44 x45) fun x46 => cond (x43 != x46) (some true) (bnd (idx x19 0) fun x48 => bnd (m_scope_Normal x48) fun x49 => bnd (idx x19 0) fun x50 => bnd (m_coresecref39_Normal x50) fun x51 => bnd (m_coresecref39_Same x49 x51) fun x52 => some (!x52))))))) fun v54 => cond v54 (some (.inl false)) (self22 ())) [[a0, a1], [a, b], [a, a0], [b, a], [a, r]] 0 () = some (.inr ()) := by
      rw [loopL_cons, key, loopL_cons, key, loopL_cons, key, loopL_cons, key, loopL_cons, key, loopL_nil]
    rw [hall]; rfl
end Go.Proofs.YtmnbkcpopfmpdaaDoor
