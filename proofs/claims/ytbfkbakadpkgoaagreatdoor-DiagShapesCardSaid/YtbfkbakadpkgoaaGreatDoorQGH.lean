/-
  Both texts read back what is printed, and read the same; DiagParses, DiagShapes. Of the models alone; no program; no condition but the ranges told.
-/
import Derived.Test.YtbfkbakadpkgoaaGreatDoorQED
namespace Go.Proofs.YtbfkbakadpkgoaaGreatDoor
open Go.Gk Go.RowKit
theorem pu_app (c : UInt8) : ∀ (l : List UInt8) (acc v : Nat), Lib.parseUint10 acc l = .ok v → Lib.parseUint10 acc (l ++ [c]) = Lib.parseUint10 v [c]
 | [], acc, v, h => by
  have : acc = v := by simpa [Lib.parseUint10] using h
  subst this; rfl
 | b :: l, acc, v, h => by
  rw [List.cons_append]
  unfold Lib.parseUint10 at h ⊢
  by_cases h1 : 48 ≤ b.toNat ∧ b.toNat ≤ 57
  ·rw [if_pos h1] at h ⊢
   by_cases h2 : 1844674407370955162 ≤ acc
   ·rw [if_pos h2] at h; cases h
   rw [if_neg h2] at h ⊢
   by_cases h3 : 18446744073709551616 ≤ acc * 10 + (b.toNat - 48)
   ·rw [if_pos h3] at h; cases h
   rw [if_neg h3] at h ⊢
   have := pu_app c l _ v h
   rw [this]
   rfl
  ·rw [if_neg h1] at h; cases h
theorem dig_char {v : Nat} (h : v < 10) : (UInt8.ofNat (48 + v)).toNat = 48 + v := by rw [UInt8.toNat_ofNat']; omega
theorem pu_one {v acc : Nat} (h : v < 10) (ha : acc * 10 + v < 18446744073709551616) : Lib.parseUint10 acc [UInt8.ofNat (48 + v)] = .ok (acc * 10 + v) := by
 unfold Lib.parseUint10
 rw [dig_char h, if_pos (by omega), if_neg (by omega), if_neg (by omega)]
 rw [show acc * 10 + (48 + v - 48) = acc * 10 + v by omega]
 rfl
theorem pu_dec : ∀ (k n : Nat), n < k → n < 18446744073709551616 → Lib.parseUint10 0 (Lib.decDigits n) = .ok n
 | 0, n, h, _ => absurd h (Nat.not_lt_zero _)
 | k + 1, n, h, hn => by
  by_cases c : n < 10
  ·rw [dec_small c]
   have := pu_one (v := n) (acc := 0) c (by omega)
   rw [this]
   congr 1
   omega
  ·rw [dec_big (by omega), pu_app _ _ _ _ (pu_dec k (n / 10) (by omega) (by omega)), pu_one (by omega) (by omega)]
   congr 1
   omega
theorem dec_isD : ∀ (k n : Nat), n < k → ∀ c, c ∈ Lib.decDigits n → isD c = true
 | 0, n, h, _, _ => absurd h (Nat.not_lt_zero _)
 | k + 1, n, h, c, hc => by
  have one : ∀ v, v < 10 → isD (UInt8.ofNat (48 + v)) = true := fun v hv => by
   unfold isD
   rw [dig_char hv, decide_eq_true (by omega), decide_eq_true (by omega)]; rfl
  by_cases c10 : n < 10
  ·rw [dec_small c10] at hc
   simp only [List.mem_cons, List.not_mem_nil, or_false] at hc
   subst hc
   exact one n c10
  ·rw [dec_big (by omega), List.mem_append] at hc
   rcases hc with hc | hc
   ·exact dec_isD k (n / 10) (by omega) c hc
   ·simp only [List.mem_cons, List.not_mem_nil, or_false] at hc
    subst hc
    exact one _ (by omega)
theorem dec_head : ∀ (k n : Nat), n < k → ∃ c t, Lib.decDigits n = c :: t ∧ (c = 48 → t = [])
 | 0, n, h => absurd h (Nat.not_lt_zero _)
 | k + 1, n, h => by
  by_cases c10 : n < 10
  ·exact ⟨_, [], dec_small c10, fun _ => rfl⟩
  ·obtain ⟨c, t, e, h0⟩ := dec_head k (n / 10) (by omega)
   refine ⟨c, t ++ [UInt8.ofNat (48 + n % 10)], by rw [dec_big (by omega), e]; rfl, fun hc => ?_⟩
   exfalso
   have ht := h0 hc
   rw [ht, hc] at e
   by_cases c100 : n / 10 < 10
   ·rw [dec_small c100] at e
    have e2 : UInt8.ofNat (48 + n / 10) = 48 := by injection e
    have e3 := congrArg UInt8.toNat e2
    rw [dig_char c100] at e3
    have e4 : 48 + n / 10 = 48 := e3
    omega
   ·have := (dec_len 0 0 (by omega)).1
    rw [dec_big (m := n / 10) (by omega)] at e
    have e2 := congrArg List.length e
    rw [List.length_append] at e2
    have h1 : 1 ≤ (Lib.decDigits (n / 10 / 10)).length := by
     obtain ⟨c', t', e', _⟩ := dec_head k (n / 10 / 10) (by omega)
     rw [e']; simp
    simp at e2
    rw [e2] at h1
    simp at h1
def folB (r : List UInt8) : Prop := ∀ c t, r = c :: t → isD c = false ∧ c ≠ 40
theorem tw_app (p : UInt8 → Bool) : ∀ (a r : List UInt8), (∀ c, c ∈ a → p c = true) → (∀ c t, r = c :: t → p c = false) → (a ++ r).takeWhile p = a ∧ (a ++ r).dropWhile p = r
 | [], r, _, hr => by
  match r, hr with
  | [], _ => exact ⟨rfl, rfl⟩
  | c :: t, hr =>
   have := hr c t rfl
   rw [List.nil_append, List.takeWhile_cons_of_neg (by rw [this]; simp), List.dropWhile_cons_of_neg (by rw [this]; simp)]
   exact ⟨rfl, rfl⟩
 | c :: a, r, ha, hr => by
  have ih := tw_app p a r (fun x hx => ha x (by simp [hx])) hr
  have hc := ha c (by simp)
  rw [List.cons_append, List.takeWhile_cons_of_pos hc, List.dropWhile_cons_of_pos hc, ih.1, ih.2]
  exact ⟨rfl, rfl⟩
theorem number_at (n : UInt64) (r : List UInt8) (i : Int) (hr : ∀ c t, r = c :: t → isD c = false) (hl : (dig n ++ r).length ≤ 10000000) : m_diag_parser_number (dig n ++ r, (i, false)) = some (n, (r, (i, false))) := by
 have hn := n.toNat_lt
 have hd : ∀ c, c ∈ dig n → isD c = true := dec_isD (n.toNat + 1) n.toNat (by omega)
 obtain ⟨t1, t2⟩ := tw_app isD (dig n) r hd hr
 obtain ⟨c, t, e, h0⟩ := dec_head (n.toNat + 1) n.toNat (by omega)
 have e : dig n = c :: t := e
 have hR : numR (dig n ++ r) = (n, false) := by
  unfold numR
  rw [t1]
  unfold Lib.parseUintB
  rw [if_neg (by rw [e]; simp), show (2 : Nat) ^ 64 - 1 = 18446744073709551615 by decide, Lib.parseUintM_64]
  unfold dig
  rw [pu_dec (n.toNat + 1) n.toNat (by omega) hn]
  simp [puRes]
 rw [number_eq _ _ _ hl, hR, t1, t2]
 refine congrArg some (Prod.ext rfl (Prod.ext rfl (Prod.ext rfl ?_)))
 show (false || false || (decide (1 < (dig n).length) && (dig n ++ r).head? == some 48)) = false
 rw [Bool.or_false, Bool.false_or, ← Bool.not_eq_true, Bool.and_eq_true, decide_eq_true_eq, beq_iff_eq, e]
 rintro ⟨h1, h2⟩
 have h2 : c = 48 := by simpa using h2
 rw [h0 h2] at h1
 simp at h1
theorem hexv_hexd : ∀ v : Fin 16, Gk.hexv (hexd v.1) = v.1 := by decide +kernel
theorem ph_fl (n : Nat) (hn : n < 18446744073709551616) : ∀ (k : Nat), k ≤ 15 → Gk.parseHex (n / 2 ^ (4 * (k + 1))) (flR n k) = .ok n
 | 0, _ => by
  unfold flR Gk.parseHex
  rw [hexv_hexd ⟨n % 16, by omega⟩, if_neg (by show ¬ 16 ≤ n % 16; omega), if_neg (by omega)]
  show Gk.parseHex (n / 2 ^ (4 * (0 + 1)) * 16 + n % 16) [] = _
  unfold Gk.parseHex
  congr 1
  omega
 | k + 1, hk => by
  have ih := ph_fl n hn k (by omega)
  have hd : n / 2 ^ (4 * (k + 1 + 1)) = n / 2 ^ (4 * (k + 1)) / 16 := by
   rw [show 4 * (k + 1 + 1) = 4 * (k + 1) + 4 by omega, Nat.pow_add, ← Nat.div_div_eq_div_mul]
  have hle : n / 2 ^ (4 * (k + 1)) ≤ n / 2 ^ 4 := Nat.div_le_div_left (Nat.pow_le_pow_right (by omega) (by omega)) (by omega)
  unfold flR Gk.parseHex
  rw [hexv_hexd ⟨n / 2 ^ (4 * (k + 1)) % 16, by omega⟩, if_neg (by show ¬ 16 ≤ n / 2 ^ (4 * (k + 1)) % 16; omega), hd, if_neg (by omega)]
  show Gk.parseHex (n / 2 ^ (4 * (k + 1)) / 16 * 16 + n / 2 ^ (4 * (k + 1)) % 16) _ = _
  rw [show n / 2 ^ (4 * (k + 1)) / 16 * 16 + n / 2 ^ (4 * (k + 1)) % 16 = n / 2 ^ (4 * (k + 1)) by omega]
  exact ih
theorem pu_hex (n : UInt64) : m_strconv_ParseUint (hexS (be8 n)) 16 64 = some (n, false) := by
 have hn := n.toNat_lt
 have h := ph_fl n.toNat hn 15 (by omega)
 rw [flR_be, show n.toNat / 2 ^ (4 * (15 + 1)) = 0 from Nat.div_eq_of_lt (by simpa using hn)] at h
 have hl : (hexS (be8 n)).length = 16 := by rw [hexS_len]; rfl
 have hA : Gk.parseHexA (hexS (be8 n)) = .ok n.toNat := by
  unfold Gk.parseHexA
  rw [if_neg (fun e => by rw [e] at hl; simp at hl), h]
 unfold m_strconv_ParseUint
 rw [decide_eq_true (by omega)]
 show some (puRes (Gk.parseHexA (hexS (be8 n)))) = _
 rw [hA]
 simp [puRes]
def startB (c : UInt8) : Bool := isD c || c == 45 || c == 104 || c == 34 || c == 91 || c == 123 || c == 115 || c == 102 || c == 116 || c == 110 || c == 117
theorem dig_cons (n : UInt64) : ∃ c t, dig n = c :: t ∧ isD c = true := by
 obtain ⟨c, t, e, _⟩ := dec_head (n.toNat + 1) n.toNat (by omega)
 exact ⟨c, t, e, dec_isD (n.toNat + 1) n.toNat (by omega) c (by rw [e]; simp)⟩
theorem txT_start {x : Tr} {d : Nat} (h : vT x d = true) : ∃ c t, txT x = c :: t ∧ startB c = true := by
 obtain ⟨k, n, b, l⟩ := x
 rcases vT_inv h with ⟨hk, rfl, rfl⟩ | ⟨rfl, rfl, rfl, _⟩ | ⟨rfl, rfl, rfl, _, _⟩ | ⟨rfl, rfl, rfl, hn⟩ | ⟨rfl, rfl, rfl, _⟩ | ⟨rfl, rfl, rfl, g1, gl⟩ | ⟨rfl, rfl, rfl, g1, _, gl, _⟩ | ⟨rfl, rfl, g1, y, rfl, gy⟩
 ·rcases hk with rfl | rfl
  ·obtain ⟨c, t, e, hc⟩ := dig_cons n
   exact ⟨c, t, by rw [tx0, e], by unfold startB; rw [hc]; rfl⟩
  ·rw [tx1]
   split
   ·exact ⟨45, _, rfl, rfl⟩
   ·exact ⟨45, _, rfl, rfl⟩
 ·exact ⟨104, _, by rw [tx2]; rfl, rfl⟩
 ·exact ⟨34, _, by rw [tx3]; rfl, rfl⟩
 ·rw [tx7]
  split
  ·rename_i hc
   have : n.toNat - 20 = 0 ∨ n.toNat - 20 = 1 ∨ n.toNat - 20 = 2 ∨ n.toNat - 20 = 3 := by omega
   rcases this with h | h | h | h <;> rw [h]
   ·exact ⟨102, _, rfl, rfl⟩
   ·exact ⟨116, _, rfl, rfl⟩
   ·exact ⟨110, _, rfl, rfl⟩
   ·exact ⟨117, _, rfl, rfl⟩
  ·exact ⟨115, _, rfl, rfl⟩
 ·exact ⟨102, _, by rw [tx8]; rfl, rfl⟩
 ·exact ⟨91, _, by rw [tx4]; rfl, rfl⟩
 ·exact ⟨123, _, by rw [tx5]; rfl, rfl⟩
 ·obtain ⟨c, t, e, hc⟩ := dig_cons n
  exact ⟨c, t ++ ([40] ++ txL [y] false 0 ++ [41]), by rw [tx6, e]; simp, by unfold startB; rw [hc]; rfl⟩
theorem isD_ne {c d : UInt8} (h : isD c = true) (hd : isD d = false) : c ≠ d := fun e => by rw [e, hd] at h; cases h
theorem preB_ne {c d : UInt8} (h : c ≠ d) (s w : List UInt8) : preB (c :: s) (d :: w) = false := by
 rw [preB_cons, show (c == d) = false by simpa using h]; rfl
theorem start_ne {c d : UInt8} (h : startB c = true) (hd : startB d = false) : c ≠ d := fun e => by rw [e, hd] at h; cases h
theorem folB_sep (m : Bool) (i : Nat) (hi : i ≠ 0) (r : List UInt8) : folB (sepT m i ++ r) := by
 intro c t e
 unfold sepT at e
 rw [if_neg hi] at e
 split at e
 ·cases e; exact ⟨rfl, by decide⟩
 ·cases e; exact ⟨rfl, by decide⟩
theorem folB_c (c : UInt8) (r : List UInt8) (h : isD c = false) (h2 : c ≠ 40) : folB (c :: r) := by
 intro c' t e; cases e; exact ⟨h, h2⟩
theorem fol_rest (l : List Tr) (m : Bool) (i : Nat) (hi : i ≠ 0) (e : UInt8) (r : List UInt8) (he : isD e = false) (h2 : e ≠ 40) : folB (txL l m i ++ e :: r) := by
 cases l with
 | nil => rw [txL_nil]; exact folB_c e r he h2
 | cons x l => rw [txL_cons, List.append_assoc, List.append_assoc]; exact folB_sep m i hi _
def RdQ (rec : S_diag_parser → Int → Option (Tr × S_diag_parser)) (lv : Int) (d : Nat) : Prop :=
 ∀ (y : Tr) (i : Nat) (r : List UInt8), vT y d = true → i + cntT y ≤ 256 → folB r → (txT y ++ r).length ≤ 9000000 → rec (txT y ++ r, ((i : Int), false)) lv = some (y, (r, (((i + cntT y : Nat) : Int), false)))
theorem txt_no (x : Tr) (d : Nat) (h : vT x d = true) (s : List UInt8) (e : UInt8) (he : startB e = false) (w : List UInt8) : preB (txT x ++ s) (e :: w) = false := by
 obtain ⟨c, t, ex, hc⟩ := txT_start h
 rw [ex]
 exact preB_ne (start_ne hc he) _ _
def lstB (rec : S_diag_parser → Int → Option (Tr × S_diag_parser)) (a1 : List UInt8) (a2 : Bool) (a3 : Int) : ((List Tr × S_diag_parser) → Option (List Tr × S_diag_parser)) → (List Tr × S_diag_parser) → Option (List Tr × S_diag_parser) := fun self5 s4 =>
 bnd (β := (Bool × S_diag_parser)) (letm ((!s4.2.2.2)) fun x6 =>
 cond x6 (bnd (m_diag_parser_skip s4.2 a1) fun x7 =>
 letm ((!x7.1)) fun x8 =>
 some (x8, x7.2))
  (some (false, s4.2))) fun v9 =>
 cond v9.1 (bnd (β := S_diag_parser) (letm (decide (0 < (s4.1.length : Int))) fun x10 =>
 cond x10 (bnd (m_diag_parser_need v9.2 [44, 32]) fun x11 =>
 some x11)
  (some v9.2)) fun v12 =>
 bnd (rec v12 a3) fun x13 =>
 bnd (app s4.1 [x13.1]) fun x14 =>
 cond a2 (bnd (m_diag_parser_need x13.2 [58, 32]) fun x15 =>
 bnd (rec x15 a3) fun x16 =>
 bnd (app x14 [x16.1]) fun x17 =>
 self5 (x17, x16.2))
  (self5 (x14, x13.2)))
  (some (s4.1, v9.2))
theorem lst_def (rec) (p : S_diag_parser) (a1 a2 a3) : b_diag_parser_list rec p a1 a2 a3 = bnd (loopF (lstB rec a1 a2 a3) FUEL ([], p)) fun v18 => some (v18.1, v18.2) := rfl
theorem lst_end (rec) (e : UInt8) (m : Bool) (lv : Int) (acc : List Tr) (r : List UInt8) (i : Int) (f : Nat) : loopF (lstB rec [e] m lv) (f + 1) (acc, (e :: r, (i, false))) = some (acc, (r, (i, false))) := by
 rw [loopF_succ]
 unfold lstB
 refine bnd_of (y := (false, (r, (i, false)))) ?_ rfl
 rw [letm_e, show (!(acc, (e :: r, (i, false))).2.2.2) = true from rfl, cd_t, skip_yes (by rw [preB_cons, preB_nil, beq_self_eq_true]; rfl), bnd_s]
 rfl
theorem lst_head (rec) (e : UInt8) (he : startB e = false) (he2 : e ≠ 44) (m : Bool) (lv : Int) (acc : List Tr) (hm : m = true → acc.length % 2 = 0) (x : Tr) (d : Nat) (hv : vT x d = true) (s : List UInt8) (i : Int) (f : Nat) : loopF (lstB rec [e] m lv) (f + 1) (acc, (sepT m acc.length ++ txT x ++ s, (i, false))) =
  bnd (rec (txT x ++ s, (i, false)) lv) fun x13 => bnd (app acc [x13.1]) fun x14 =>
   cond m (bnd (m_diag_parser_need x13.2 [58, 32]) fun x15 => bnd (rec x15 lv) fun x16 => bnd (app x14 [x16.1]) fun x17 => loopF (lstB rec [e] m lv) f (x17, x16.2)) (loopF (lstB rec [e] m lv) f (x14, x13.2)) := by
 rw [loopF_succ]
 have hsep : sepT m acc.length = if acc.length = 0 then [] else [44, 32] := by
  unfold sepT
  split
  ·rfl
  ·split
   ·rename_i h
    simp only [Bool.and_eq_true, beq_iff_eq] at h
    have := hm h.1
    omega
   ·rfl
 have hno : preB (sepT m acc.length ++ txT x ++ s) [e] = false := by
  rw [hsep]
  split
  ·exact txt_no x d hv s e he []
  ·exact preB_ne (Ne.symm he2) _ _
 refine bnd_of (y := (true, (sepT m acc.length ++ txT x ++ s, (i, false)))) ?_ ?_
 ·rw [letm_e, show (!(acc, (sepT m acc.length ++ txT x ++ s, (i, false))).2.2.2) = true from rfl, cd_t, skip_no hno, bnd_s]
  rfl
 dsimp only
 rw [cd_t]
 refine bnd_of (y := (txT x ++ s, (i, false))) ?_ rfl
 rw [letm_e, pos_dec, hsep]
 by_cases h0 : acc.length = 0
 ·rw [if_pos h0, decide_eq_false (by omega), cd_f]; rfl
 ·rw [if_neg h0, decide_eq_true (by omega), cd_t, List.append_assoc, need_app, bnd_s]
theorem lst_arr (rec) (lv : Int) (d : Nat) (hr : RdQ rec lv d) (e : UInt8) (he : startB e = false) (he2 : e ≠ 44) (heD : isD e = false) (he40 : e ≠ 40) : ∀ (l acc : List Tr) (i : Nat) (r : List UInt8) (f : Nat), vL l d = true → i + cntL l ≤ 256 → l.length < f → acc.length + l.length ≤ 1000 → (txL l false acc.length ++ e :: r).length ≤ 9000000 →
  loopF (lstB rec [e] false lv) f (acc, (txL l false acc.length ++ e :: r, ((i : Int), false))) = some (acc ++ l, (r, (((i + cntL l : Nat) : Int), false)))
 | [], acc, i, r, f, _, _, hf, _, _ => by
  obtain ⟨f, rfl⟩ : ∃ f', f = f' + 1 := ⟨f - 1, by simp at hf; omega⟩
  rw [txL_nil, List.nil_append, lst_end, List.append_nil, cntL_nil]; rfl
 | x :: l, acc, i, r, f, hv, hc, hf, ha, hl => by
  obtain ⟨f, rfl⟩ : ∃ f', f = f' + 1 := ⟨f - 1, by simp at hf; omega⟩
  rw [vL_cons, Bool.and_eq_true] at hv
  rw [cntL_cons] at hc
  rw [List.length_cons] at ha hf
  have e0 : txL (x :: l) false acc.length ++ e :: r = sepT false acc.length ++ txT x ++ (txL l false (acc.length + 1) ++ e :: r) := by rw [txL_cons]; simp
  rw [e0] at hl ⊢
  rw [lst_head rec e he he2 false lv acc (fun h => Bool.noConfusion h) x d hv.1 _ _ f]
  have hl2 : (txT x ++ (txL l false (acc.length + 1) ++ e :: r)).length ≤ 9000000 := by rw [List.append_assoc, List.length_append] at hl; omega
  rw [hr x i _ hv.1 (by omega) (fol_rest l false _ (by omega) e r heD he40) hl2, bnd_s, app_some' (by simp only [List.length_cons, List.length_nil]; omega), bnd_s, cd_f]
  have ih := lst_arr rec lv d hr e he he2 heD he40 l (acc ++ [x]) (i + cntT x) r f hv.2 (by omega) (by omega) (by rw [List.length_append]; simp only [List.length_cons, List.length_nil]; omega)
  rw [show (acc ++ [x]).length = acc.length + 1 by simp] at ih
  refine (ih (by rw [List.length_append] at hl2; omega)).trans ?_
  rw [cntL_cons, List.append_assoc, show i + cntT x + cntL l = i + (cntT x + cntL l) by omega]; rfl
theorem lst_map (rec) (lv : Int) (d : Nat) (hr : RdQ rec lv d) (e : UInt8) (he : startB e = false) (he2 : e ≠ 44) (heD : isD e = false) (he40 : e ≠ 40) : ∀ (l acc : List Tr) (i : Nat) (r : List UInt8) (f : Nat), l.length % 2 = 0 → acc.length % 2 = 0 → vL l d = true → i + cntL l ≤ 256 → l.length < f → acc.length + l.length ≤ 1000 → (txL l true acc.length ++ e :: r).length ≤ 9000000 →
  loopF (lstB rec [e] true lv) f (acc, (txL l true acc.length ++ e :: r, ((i : Int), false))) = some (acc ++ l, (r, (((i + cntL l : Nat) : Int), false)))
 | [], acc, i, r, f, _, _, _, _, hf, _, _ => by
  obtain ⟨f, rfl⟩ : ∃ f', f = f' + 1 := ⟨f - 1, by simp at hf; omega⟩
  rw [txL_nil, List.nil_append, lst_end, List.append_nil, cntL_nil]; rfl
 | [x], acc, i, r, f, h, _, _, _, _, _, _ => by simp at h
 | x :: y :: l, acc, i, r, f, h2, ha2, hv, hc, hf, ha, hl => by
  obtain ⟨f, rfl⟩ : ∃ f', f = f' + 1 := ⟨f - 1, by simp at hf; omega⟩
  rw [vL_cons, vL_cons, Bool.and_eq_true, Bool.and_eq_true] at hv
  rw [cntL_cons, cntL_cons] at hc
  rw [List.length_cons, List.length_cons] at ha hf h2
  have hs1 : sepT true (acc.length + 1) = [58, 32] := by
   unfold sepT
   rw [if_neg (by omega), if_pos (by rw [Bool.true_and, beq_iff_eq]; omega)]
  have e0 : txL (x :: y :: l) true acc.length ++ e :: r = sepT true acc.length ++ txT x ++ ([58, 32] ++ (txT y ++ (txL l true (acc.length + 2) ++ e :: r))) := by rw [txL_cons, txL_cons, hs1]; simp
  rw [e0] at hl ⊢
  rw [lst_head rec e he he2 true lv acc (fun _ => ha2) x d hv.1 _ _ f]
  have hl2 : (txT x ++ ([58, 32] ++ (txT y ++ (txL l true (acc.length + 2) ++ e :: r)))).length ≤ 9000000 := by rw [List.append_assoc, List.length_append] at hl; omega
  have hl3 : (txT y ++ (txL l true (acc.length + 2) ++ e :: r)).length ≤ 9000000 := by rw [List.length_append, List.length_append] at hl2; omega
  have hq := hr x i ([58, 32] ++ (txT y ++ (txL l true (acc.length + 2) ++ e :: r))) hv.1 (by omega) (folB_c 58 _ rfl (by decide)) hl2
  rw [hq, bnd_s, app_some' (by simp only [List.length_cons, List.length_nil]; omega), bnd_s, cd_t]
  dsimp only
  rw [need_app, bnd_s, hr y (i + cntT x) _ hv.2.1 (by omega) (fol_rest l true _ (by omega) e r heD he40) hl3, bnd_s, app_some' (by rw [List.length_append]; simp only [List.length_cons, List.length_nil]; omega), bnd_s]
  have ih := lst_map rec lv d hr e he he2 heD he40 l (acc ++ [x] ++ [y]) (i + cntT x + cntT y) r f (by omega) (by rw [List.length_append, List.length_append]; simp only [List.length_cons, List.length_nil]; omega) hv.2.2 (by omega) (by omega) (by rw [List.length_append, List.length_append]; simp only [List.length_cons, List.length_nil]; omega)
  rw [show (acc ++ [x] ++ [y]).length = acc.length + 2 by simp] at ih
  refine (ih (by rw [List.length_append] at hl3; omega)).trans ?_
  rw [cntL_cons, cntL_cons, show i + cntT x + cntT y + cntL l = i + (cntT x + (cntT y + cntL l)) by omega]
  simp
theorem sk_no {c e : UInt8} (h : c ≠ e) (s w : List UInt8) (st : Int × Bool) : m_diag_parser_skip (c :: s, st) (e :: w) = some (false, (c :: s, st)) := skip_no (preB_ne h s w) st
theorem item_skips (rec) (c : UInt8) (s : List UInt8) (i : Nat) (hi : i + 1 ≤ 256) (lv : Int) (hlv : lv ≤ 8) (h1 : c ≠ 104) (h2 : c ≠ 34) (h3 : c ≠ 91) (h4 : c ≠ 123) :
  b_diag_parser_item rec (c :: s, ((i : Int), false)) lv = bnd (m_diag_parser_skip (c :: s, (((i + 1 : Nat) : Int), false)) [115, 105, 109, 112, 108, 101, 40]) fun x16 =>
   cond x16.1 (bnd (m_diag_parser_number x16.2) fun x17 => bnd (m_diag_parser_need x17.2 [41]) fun x18 => some ((Tr.mk 7 x17.1 [] []), x18))
    (bnd (m_diag_parser_skip x16.2 [102, 108, 111, 97, 116, 39]) fun x19 =>
   cond x19.1 (bnd (m_diag_parser_digits x19.2) fun x20 =>
   bnd (m_strconv_ParseUint x20.1 16 64) fun x21 =>
   bnd (β := S_diag_parser) (cond x20.2.2.2 (some (x20.2.1, (x20.2.2.1, true)))
    (letm (x21.2) fun x22 =>
   cond x22 (some (x20.2.1, (x20.2.2.1, true)))
    (letm (((x20.1.length : Int) != 16)) fun x23 =>
   some (x20.2.1, (x20.2.2.1, x23))))) fun v24 =>
   some ((Tr.mk 8 x21.1 [] []), v24))
    (bnd (m_diag_parser_skip x19.2 [45]) fun x25 =>
   cond x25.1 (bnd (m_diag_parser_skip x25.2 [49, 56, 52, 52, 54, 55, 52, 52, 48, 55, 51, 55, 48, 57, 53, 53, 49, 54, 49, 54]) fun x26 =>
   cond x26.1 (some ((Tr.mk 1 18446744073709551615 [] []), x26.2))
    (bnd (m_diag_parser_number x26.2) fun x27 =>
   bnd (β := S_diag_parser) (cond x27.2.2.2 (some (x27.2.1, (x27.2.2.1, true)))
    (letm (((UInt64.toNat x27.1 : Int) == (UInt64.toNat 0 : Int))) fun x28 =>
   some (x27.2.1, (x27.2.2.1, x28)))) fun v29 =>
   letm ((x27.1 - 1)) fun x30 =>
   some ((Tr.mk 1 x30 [] []), v29)))
    (loopF (R := (Go.Gk.Tr × S_diag_parser)) (S := (Int × (S_diag_parser × Go.Gk.Tr))) (fun self32 s31 =>
   letm (decide (s31.1 < 4)) fun x33 =>
   cond x33 (bnd (idx [[102, 97, 108, 115, 101], [116, 114, 117, 101], [110, 117, 108, 108], [117, 110, 100, 101, 102, 105, 110, 101, 100]] s31.1) fun x34 =>
   bnd (m_diag_parser_skip s31.2.1 x34) fun x35 =>
   cond x35.1 (letm ((w64 (20 + s31.1))) fun x36 =>
   letm ((toU64 x36)) fun x37 =>
   some ((Tr.mk 7 x37 [] []), x35.2))
    (letm ((w64 (s31.1 + 1))) fun x38 =>
   self32 (x38, (x35.2, s31.2.2))))
    (bnd (m_diag_parser_number s31.2.1) fun x39 =>
   bnd (m_diag_parser_skip x39.2 [40]) fun x40 =>
   letm ((!x40.1)) fun x41 =>
   cond x41 (some ((Tr.mk 0 x39.1 [] []), x40.2))
    (letm ((w64 (lv + 1))) fun x42 =>
   bnd (rec x40.2 x42) fun x43 =>
   bnd (m_diag_parser_need x43.2 [41]) fun x44 =>
   some ((Tr.mk 6 x39.1 [] [x43.1]), x44)))) FUEL (0, (x25.2, (Tr.mk 0 0 [] [])))))) := by
 unfold b_diag_parser_item
 rw [letm_e]
 dsimp only
 rw [w64_of (by omega) (by omega), show ((i : Int) + 1) = ((i + 1 : Nat) : Int) by omega]
 refine bnd_of (y := false) ?_ ?_
 ·rw [cd_f, letm_e, decide_eq_false (by omega), cd_f, letm_e, decide_eq_false (by omega)]
 rw [cd_f, sk_no h1, bnd_s]
 dsimp only
 rw [cd_f, sk_no h2, bnd_s]
 dsimp only
 rw [cd_f, sk_no h3, bnd_s]
 dsimp only
 rw [cd_f, sk_no h4, bnd_s]
 rfl
theorem nm_no {α : Type} (c : UInt8) (h1 : c ≠ 102) (h2 : c ≠ 116) (h3 : c ≠ 110) (h4 : c ≠ 117) (s : List UInt8) (st : Int × Bool) (k : Nat) (hk : k < 4) (K : Bool × S_diag_parser → Option α) : (bnd (idx [[102, 97, 108, 115, 101], [116, 114, 117, 101], [110, 117, 108, 108], [117, 110, 100, 101, 102, 105, 110, 101, 100]] (k : Int)) fun x34 => bnd (m_diag_parser_skip (c :: s, st) x34) K) = K (false, (c :: s, st)) := by
 have : k = 0 ∨ k = 1 ∨ k = 2 ∨ k = 3 := by omega
 rcases this with rfl | rfl | rfl | rfl
 ·refine bnd_of (idx_some' (i := 0) rfl) ?_
  rw [sk_no h1, bnd_s]
 ·refine bnd_of (idx_some' (i := 1) rfl) ?_
  rw [sk_no h2, bnd_s]
 ·refine bnd_of (idx_some' (i := 2) rfl) ?_
  rw [sk_no h3, bnd_s]
 ·refine bnd_of (idx_some' (i := 3) rfl) ?_
  rw [sk_no h4, bnd_s]
theorem names_dig {K : S_diag_parser → Option (Tr × S_diag_parser)} (c : UInt8) (hc : isD c = true) (s : List UInt8) (st : Int × Bool) (tr : Tr) : ∀ (m k f : Nat), m + k = 4 → m < f → loopF (R := (Go.Gk.Tr × S_diag_parser)) (S := (Int × (S_diag_parser × Go.Gk.Tr))) (fun self32 s31 =>
   letm (decide (s31.1 < 4)) fun x33 =>
   cond x33 (bnd (idx [[102, 97, 108, 115, 101], [116, 114, 117, 101], [110, 117, 108, 108], [117, 110, 100, 101, 102, 105, 110, 101, 100]] s31.1) fun x34 =>
   bnd (m_diag_parser_skip s31.2.1 x34) fun x35 =>
   cond x35.1 (letm ((w64 (20 + s31.1))) fun x36 =>
   letm ((toU64 x36)) fun x37 =>
   some ((Tr.mk 7 x37 [] []), x35.2))
    (letm ((w64 (s31.1 + 1))) fun x38 =>
   self32 (x38, (x35.2, s31.2.2))))
    (K s31.2.1)) f ((k : Int), ((c :: s, st), tr)) = K (c :: s, st)
 | m, k, 0, _, h => absurd h (Nat.not_lt_zero _)
 | m, k, f + 1, h, hf => by
  rw [loopF_succ]
  dsimp only
  rw [letm_e, show decide (((k : Nat) : Int) < 4) = decide (k < 4) from lt_dec k 4]
  by_cases hk : k < 4
  ·rw [decide_eq_true hk, cd_t, nm_no c (isD_ne hc rfl) (isD_ne hc rfl) (isD_ne hc rfl) (isD_ne hc rfl) s st k hk]
   dsimp only
   rw [cd_f, letm_e, w64_of (by omega) (by omega), show ((k : Nat) : Int) + 1 = ((k + 1 : Nat) : Int) by omega]
   exact names_dig c hc s st tr (m - 1) (k + 1) f (by omega) (by omega)
  ·rw [decide_eq_false hk, cd_f]
def bigD : List UInt8 := [49, 56, 52, 52, 54, 55, 52, 52, 48, 55, 51, 55, 48, 57, 53, 53, 49, 54, 49, 54]
theorem big_no (n : UInt64) (r : List UInt8) (hr : ∀ c t, r = c :: t → isD c = false) : preB (dig n ++ r) bigD = false := by
 have hn := n.toNat_lt
 have hd : ∀ c, c ∈ dig n → isD c = true := dec_isD (n.toNat + 1) n.toNat (by omega)
 rw [← Bool.not_eq_true]
 intro h
 unfold preB at h
 rw [beq_iff_eq] at h
 have hs : dig n ++ r = bigD ++ (dig n ++ r).drop bigD.length := by
  have := List.take_append_drop bigD.length (dig n ++ r)
  rw [h] at this
  exact this.symm
 have t1 := (tw_app isD (dig n) r hd hr).1
 rw [hs] at t1
 have t2 : ∀ (a q : List UInt8), (∀ c, c ∈ a → isD c = true) → (a ++ q).takeWhile isD = a ++ q.takeWhile isD := by
  intro a q ha
  induction a with
  | nil => rfl
  | cons c a ih =>
   rw [List.cons_append, List.takeWhile_cons_of_pos (ha c (by simp)), ih (fun x hx => ha x (by simp [hx]))]
   rfl
 rw [t2 bigD _ (by decide)] at t1
 have hl := (dig_len n).2
 have hb : bigD.length = 20 := rfl
 have hz : (((dig n ++ r).drop bigD.length).takeWhile isD) = [] := by
  have := congrArg List.length t1
  rw [List.length_append] at this
  exact List.length_eq_zero_iff.1 (by omega)
 rw [hz, List.append_nil] at t1
 have h1 := pu_dec (n.toNat + 1) n.toNat (by omega) hn
 have h2 : Lib.parseUint10 0 bigD = .range := by decide
 have t1 : bigD = Lib.decDigits n.toNat := t1
 rw [← t1, h2] at h1
 cases h1
theorem names_word (rec) (n : UInt64) (h1 : 20 ≤ n.toNat) (h2 : n.toNat < 24) (r : List UInt8) (i : Nat) (hi : i + 1 ≤ 256) (lv : Int) (hlv : lv ≤ 8) : b_diag_parser_item rec (nmL.getD (n.toNat - 20) [] ++ r, ((i : Int), false)) lv = some (Tr.mk 7 n [] [], (r, (((i + 1 : Nat) : Int), false))) := by
 have hn : ∀ v : Nat, n.toNat = v → n = UInt64.ofNat v := fun v h => by rw [← h]; simp
 have : n.toNat - 20 = 0 ∨ n.toNat - 20 = 1 ∨ n.toNat - 20 = 2 ∨ n.toNat - 20 = 3 := by omega
 rcases this with h | h | h | h <;> rw [h]
 ·rw [hn 20 (by omega)]
  show b_diag_parser_item rec (102 :: (97 :: 108 :: 115 :: 101 :: r), ((i : Int), false)) lv = _
  rw [item_skips rec 102 _ i hi lv hlv (by decide) (by decide) (by decide) (by decide), sk_no (by decide), bnd_s]
  dsimp only
  rw [cd_f, skip_no rfl, bnd_s]
  dsimp only
  rw [cd_f, sk_no (by decide), bnd_s]
  dsimp only
  rw [cd_f, show FUEL = 1180591620717411303423 + 1 from rfl, loopF_succ]
  dsimp only
  rw [letm_e, show decide ((0 : Int) < 4) = true from rfl, cd_t]
  refine bnd_of (idx_some' (i := 0) rfl) ?_
  have := skip_app [102, 97, 108, 115, 101] r (((i + 1 : Nat) : Int), false)
  refine bnd_of this ?_
  rfl
 ·rw [hn 21 (by omega)]
  show b_diag_parser_item rec (116 :: (114 :: 117 :: 101 :: r), ((i : Int), false)) lv = _
  rw [item_skips rec 116 _ i hi lv hlv (by decide) (by decide) (by decide) (by decide), sk_no (by decide), bnd_s]
  dsimp only
  rw [cd_f, sk_no (by decide), bnd_s]
  dsimp only
  rw [cd_f, sk_no (by decide), bnd_s]
  dsimp only
  rw [cd_f, show FUEL = 1180591620717411303422 + 1 + 1 from rfl, loopF_succ]
  dsimp only
  rw [letm_e, show decide ((0 : Int) < 4) = true from rfl, cd_t]
  refine bnd_of (idx_some' (i := 0) rfl) ?_
  rw [sk_no (by decide), bnd_s]
  dsimp only
  rw [cd_f, letm_e, loopF_succ]
  dsimp only
  rw [letm_e, show decide (w64 (0 + 1) < 4) = true from rfl, cd_t]
  refine bnd_of (idx_some' (i := 1) rfl) ?_
  have := skip_app [116, 114, 117, 101] r (((i + 1 : Nat) : Int), false)
  refine bnd_of this ?_
  rfl
 ·rw [hn 22 (by omega)]
  show b_diag_parser_item rec (110 :: (117 :: 108 :: 108 :: r), ((i : Int), false)) lv = _
  rw [item_skips rec 110 _ i hi lv hlv (by decide) (by decide) (by decide) (by decide), sk_no (by decide), bnd_s]
  dsimp only
  rw [cd_f, sk_no (by decide), bnd_s]
  dsimp only
  rw [cd_f, sk_no (by decide), bnd_s]
  dsimp only
  rw [cd_f, show FUEL = 1180591620717411303421 + 1 + 1 + 1 from rfl, loopF_succ]
  dsimp only
  rw [letm_e, show decide ((0 : Int) < 4) = true from rfl, cd_t]
  refine bnd_of (idx_some' (i := 0) rfl) ?_
  rw [sk_no (by decide), bnd_s]
  dsimp only
  rw [cd_f, letm_e, loopF_succ]
  dsimp only
  rw [letm_e, show decide (w64 (0 + 1) < 4) = true from rfl, cd_t]
  refine bnd_of (idx_some' (i := 1) rfl) ?_
  rw [sk_no (by decide), bnd_s]
  dsimp only
  rw [cd_f, letm_e, loopF_succ]
  dsimp only
  rw [letm_e, show decide (w64 (w64 (0 + 1) + 1) < 4) = true from rfl, cd_t]
  refine bnd_of (idx_some' (i := 2) rfl) ?_
  have := skip_app [110, 117, 108, 108] r (((i + 1 : Nat) : Int), false)
  refine bnd_of this ?_
  rfl
 ·rw [hn 23 (by omega)]
  show b_diag_parser_item rec (117 :: (110 :: 100 :: 101 :: 102 :: 105 :: 110 :: 101 :: 100 :: r), ((i : Int), false)) lv = _
  rw [item_skips rec 117 _ i hi lv hlv (by decide) (by decide) (by decide) (by decide), sk_no (by decide), bnd_s]
  dsimp only
  rw [cd_f, sk_no (by decide), bnd_s]
  dsimp only
  rw [cd_f, sk_no (by decide), bnd_s]
  dsimp only
  rw [cd_f, show FUEL = 1180591620717411303420 + 1 + 1 + 1 + 1 from rfl, loopF_succ]
  dsimp only
  rw [letm_e, show decide ((0 : Int) < 4) = true from rfl, cd_t]
  refine bnd_of (idx_some' (i := 0) rfl) ?_
  rw [sk_no (by decide), bnd_s]
  dsimp only
  rw [cd_f, letm_e, loopF_succ]
  dsimp only
  rw [letm_e, show decide (w64 (0 + 1) < 4) = true from rfl, cd_t]
  refine bnd_of (idx_some' (i := 1) rfl) ?_
  rw [sk_no (by decide), bnd_s]
  dsimp only
  rw [cd_f, letm_e, loopF_succ]
  dsimp only
  rw [letm_e, show decide (w64 (w64 (0 + 1) + 1) < 4) = true from rfl, cd_t]
  refine bnd_of (idx_some' (i := 2) rfl) ?_
  rw [sk_no (by decide), bnd_s]
  dsimp only
  rw [cd_f, letm_e, loopF_succ]
  dsimp only
  rw [letm_e, show decide (w64 (w64 (w64 (0 + 1) + 1) + 1) < 4) = true from rfl, cd_t]
  refine bnd_of (idx_some' (i := 3) rfl) ?_
  have := skip_app [117, 110, 100, 101, 102, 105, 110, 101, 100] r (((i + 1 : Nat) : Int), false)
  refine bnd_of this ?_
  rfl
theorem rd0 (rec) (lv : Int) (hlv : lv ≤ 8) (n : UInt64) (i : Nat) (hi : i + 1 ≤ 256) (r : List UInt8) (hf : folB r) (hl : (dig n ++ r).length ≤ 9000000) : b_diag_parser_item rec (dig n ++ r, ((i : Int), false)) lv = some (Tr.mk 0 n [] [], (r, (((i + 1 : Nat) : Int), false))) := by
 have hfd : ∀ c t, r = c :: t → isD c = false := fun c t e => (hf c t e).1
 obtain ⟨c, t, e, hcD⟩ := dig_cons n
 have hnum := number_at n r ((i + 1 : Nat) : Int) hfd (by omega)
 rw [e] at hnum ⊢
 rw [List.cons_append] at hnum ⊢
 rw [item_skips rec c _ i hi _ hlv (isD_ne hcD rfl) (isD_ne hcD rfl) (isD_ne hcD rfl) (isD_ne hcD rfl), sk_no (isD_ne hcD rfl), bnd_s]
 dsimp only
 rw [cd_f, sk_no (isD_ne hcD rfl), bnd_s]
 dsimp only
 rw [cd_f, sk_no (isD_ne hcD rfl), bnd_s]
 dsimp only
 rw [cd_f]
 refine (names_dig (K := fun p => bnd (m_diag_parser_number p) fun x39 => bnd (m_diag_parser_skip x39.2 [40]) fun x40 => letm ((!x40.1)) fun x41 => cond x41 (some ((Tr.mk 0 x39.1 [] []), x40.2)) (letm ((w64 (lv + 1))) fun x42 => bnd (rec x40.2 x42) fun x43 => bnd (m_diag_parser_need x43.2 [41]) fun x44 => some ((Tr.mk 6 x39.1 [] [x43.1]), x44))) c hcD _ _ _ 4 0 FUEL rfl (by rw [fuel_eq]; omega)).trans ?_
 rw [hnum, bnd_s]
 have h40 : m_diag_parser_skip (r, (((i + 1 : Nat) : Int), false)) [40] = some (false, (r, (((i + 1 : Nat) : Int), false))) := by
  match r, hf with
  | [], _ => exact skip_no rfl _
  | c' :: t', hf => exact sk_no (hf c' t' rfl).2 _ _ _
 show bnd (m_diag_parser_skip (r, (((i + 1 : Nat) : Int), false)) [40]) _ = _
 rw [h40, bnd_s]
 rfl
theorem rd1 (rec) (lv : Int) (hlv : lv ≤ 8) (n : UInt64) (i : Nat) (hi : i + 1 ≤ 256) (r : List UInt8) (hf : folB r) (hl : (txT (Tr.mk 1 n [] []) ++ r).length ≤ 9000000) : b_diag_parser_item rec (txT (Tr.mk 1 n [] []) ++ r, ((i : Int), false)) lv = some (Tr.mk 1 n [] [], (r, (((i + 1 : Nat) : Int), false))) := by
 have hfd : ∀ c t, r = c :: t → isD c = false := fun c t e => (hf c t e).1
 rw [tx1] at hl ⊢
 have hcons : (if n.toNat = 18446744073709551615 then bigT else 45 :: dig (n + 1)) = 45 :: (if n.toNat = 18446744073709551615 then bigD else dig (n + 1)) := by split <;> rfl
 rw [hcons] at hl ⊢
 rw [List.cons_append] at hl ⊢
 rw [item_skips rec 45 _ i hi _ hlv (by decide) (by decide) (by decide) (by decide), sk_no (by decide), bnd_s]
 dsimp only
 rw [cd_f, sk_no (by decide), bnd_s]
 dsimp only
 rw [cd_f]
 have h45 := skip_app [45] ((if n.toNat = 18446744073709551615 then bigD else dig (n + 1)) ++ r) (((i + 1 : Nat) : Int), false)
 refine bnd_of h45 ?_
 dsimp only
 rw [cd_t]
 by_cases hm : n.toNat = 18446744073709551615
 ·rw [if_pos hm]
  refine bnd_of (skip_app bigD r (((i + 1 : Nat) : Int), false)) ?_
  have hnm : n = 18446744073709551615 := UInt64.toNat_inj.1 hm
  rw [hnm]; rfl
 ·rw [if_neg hm] at hl ⊢
  refine bnd_of (skip_no (big_no (n + 1) r hfd) _) ?_
  dsimp only
  rw [cd_f]
  refine bnd_of (number_at (n + 1) r _ hfd (by rw [List.length_cons] at hl; omega)) ?_
  dsimp only
  have hn1 : (n + 1).toNat = n.toNat + 1 := by
   rw [UInt64.toNat_add]
   have := n.toNat_lt
   show (n.toNat + 1) % 2 ^ 64 = _
   omega
  have hn2 : n + 1 - 1 = n := UInt64.add_sub_cancel n 1
  rw [cd_f, letm_e, nz, hn1, bnd_s, letm_e, hn2]
  rfl
theorem rd2 (rec) (lv : Int) (hlv : lv ≤ 8) (b : List UInt8) (i : Nat) (hi : i + 1 ≤ 256) (r : List UInt8) (hl : ([104, 39] ++ (hexS b ++ 39 :: r)).length ≤ 9000000) : b_diag_parser_item rec ([104, 39] ++ (hexS b ++ 39 :: r), ((i : Int), false)) lv = some (Tr.mk 2 0 b [], (r, (((i + 1 : Nat) : Int), false))) := by
 unfold b_diag_parser_item
 rw [letm_e]
 dsimp only
 rw [w64_of (by omega) (by omega), show ((i : Int) + 1) = ((i + 1 : Nat) : Int) by omega]
 refine bnd_of (y := false) ?_ ?_
 ·rw [cd_f, letm_e, decide_eq_false (by omega), cd_f, letm_e, decide_eq_false (by omega)]
 rw [cd_f, skip_app, bnd_s]
 dsimp only
 rw [cd_t, bytes_at b r _ (by rw [List.length_append] at hl; omega), bnd_s]
theorem rd3 (rec) (lv : Int) (hlv : lv ≤ 8) (b : List UInt8) (i : Nat) (hi : i + 1 ≤ 256) (r : List UInt8) (hb : b.length ≤ 10000000) : b_diag_parser_item rec (34 :: (b.flatMap qc ++ 34 :: r), ((i : Int), false)) lv = some (Tr.mk 3 0 b [], (r, (((i + 1 : Nat) : Int), false))) := by
 unfold b_diag_parser_item
 rw [letm_e]
 dsimp only
 rw [w64_of (by omega) (by omega), show ((i : Int) + 1) = ((i + 1 : Nat) : Int) by omega]
 refine bnd_of (y := false) ?_ ?_
 ·rw [cd_f, letm_e, decide_eq_false (by omega), cd_f, letm_e, decide_eq_false (by omega)]
 rw [cd_f, sk_no (by decide), bnd_s]
 dsimp only
 have h34 := skip_app [34] (b.flatMap qc ++ 34 :: r) (((i + 1 : Nat) : Int), false)
 rw [cd_f]
 refine bnd_of h34 ?_
 dsimp only
 rw [cd_t, text_at b r _ hb, bnd_s]
theorem rd7 (rec) (lv : Int) (hlv : lv ≤ 8) (n : UInt64) (i : Nat) (hi : i + 1 ≤ 256) (r : List UInt8) (hl : ([115, 105, 109, 112, 108, 101, 40] ++ (dig n ++ ([41] ++ r))).length ≤ 9000000) : b_diag_parser_item rec (115 :: (105 :: 109 :: 112 :: 108 :: 101 :: 40 :: (dig n ++ ([41] ++ r))), ((i : Int), false)) lv = some (Tr.mk 7 n [] [], (r, (((i + 1 : Nat) : Int), false))) := by
 have hs := item_skips rec 115 (105 :: 109 :: 112 :: 108 :: 101 :: 40 :: (dig n ++ ([41] ++ r))) i hi _ hlv (by decide) (by decide) (by decide) (by decide)
 rw [hs]
 have h1 := skip_app [115, 105, 109, 112, 108, 101, 40] (dig n ++ ([41] ++ r)) (((i + 1 : Nat) : Int), false)
 refine bnd_of h1 ?_
 dsimp only
 rw [cd_t]
 have h2 := number_at n ([41] ++ r) ((i + 1 : Nat) : Int) (fun c t e => by cases e; rfl) (by rw [List.length_append] at hl; omega)
 rw [h2, bnd_s]
 dsimp only
 rw [need_app, bnd_s]
theorem rd8 (rec) (lv : Int) (hlv : lv ≤ 8) (n : UInt64) (i : Nat) (hi : i + 1 ≤ 256) (r : List UInt8) (hl : ([102, 108, 111, 97, 116, 39] ++ (hexS (be8 n) ++ 39 :: r)).length ≤ 9000000) : b_diag_parser_item rec (102 :: (108 :: 111 :: 97 :: 116 :: 39 :: (hexS (be8 n) ++ 39 :: r)), ((i : Int), false)) lv = some (Tr.mk 8 n [] [], (r, (((i + 1 : Nat) : Int), false))) := by
 have hlen : (hexS (be8 n)).length = 16 := by rw [hexS_len]; rfl
 have hs := item_skips rec 102 (108 :: 111 :: 97 :: 116 :: 39 :: (hexS (be8 n) ++ 39 :: r)) i hi _ hlv (by decide) (by decide) (by decide) (by decide)
 rw [hs, sk_no (by decide), bnd_s]
 dsimp only
 rw [cd_f]
 have h1 := skip_app [102, 108, 111, 97, 116, 39] (hexS (be8 n) ++ 39 :: r) (((i + 1 : Nat) : Int), false)
 refine bnd_of h1 ?_
 dsimp only
 rw [cd_t, digits_at (fun h => hex_no39 (hexS_mem h)) (by rw [List.length_append] at hl; omega), bnd_s]
 dsimp only
 rw [pu_hex, bnd_s]
 dsimp only
 rw [trim_hex (fun c => hexS_mem), show (false || ([] : List UInt8) != []) = false from rfl, cd_f, letm_e, cd_f, letm_e, hlen, bnd_s]
 rfl
theorem rd4 (rec) (lv : Int) (d : Nat) (hlv : lv ≤ 8) (h0 : -1000 ≤ lv) (hr : RdQ rec (lv + 1) d) (l : List Tr) (i : Nat) (gl : vL l d = true) (hc : i + (1 + cntL l) ≤ 256) (r : List UInt8) (hl : (txL l false 0 ++ 93 :: r).length ≤ 9000000) : b_diag_parser_item rec (91 :: (txL l false 0 ++ 93 :: r), ((i : Int), false)) lv = some (Tr.mk 4 0 [] l, (r, (((i + (1 + cntL l) : Nat) : Int), false))) := by
 have hcl := cntL_len l
 unfold b_diag_parser_item
 rw [letm_e]
 dsimp only
 rw [w64_of (by omega) (by omega), show ((i : Int) + 1) = ((i + 1 : Nat) : Int) by omega]
 refine bnd_of (y := false) ?_ ?_
 ·rw [cd_f, letm_e, decide_eq_false (by omega), cd_f, letm_e, decide_eq_false (by omega)]
 rw [cd_f, sk_no (by decide), bnd_s]
 dsimp only
 rw [cd_f, sk_no (by decide), bnd_s]
 dsimp only
 rw [cd_f]
 have h1 := skip_app [91] (txL l false 0 ++ 93 :: r) (((i + 1 : Nat) : Int), false)
 refine bnd_of h1 ?_
 dsimp only
 rw [cd_t, letm_e, w64_of (by omega) (by omega), lst_def]
 have hL := lst_arr rec _ d hr 93 rfl (by decide) rfl (by decide) l [] (i + 1) r FUEL gl (by omega) (by rw [fuel_eq]; omega) (by rw [List.length_nil]; omega) hl
 rw [show txL l false 0 = txL l false ([] : List Tr).length from rfl, hL, bnd_s, bnd_s, show i + 1 + cntL l = i + (1 + cntL l) by omega]
 rfl
theorem rd5 (rec) (lv : Int) (d : Nat) (hlv : lv ≤ 8) (h0 : -1000 ≤ lv) (hr : RdQ rec (lv + 1) d) (l : List Tr) (g2 : l.length % 2 = 0) (i : Nat) (gl : vL l d = true) (hc : i + (1 + cntL l) ≤ 256) (r : List UInt8) (hl : (txL l true 0 ++ 125 :: r).length ≤ 9000000) : b_diag_parser_item rec (123 :: (txL l true 0 ++ 125 :: r), ((i : Int), false)) lv = some (Tr.mk 5 0 [] l, (r, (((i + (1 + cntL l) : Nat) : Int), false))) := by
 have hcl := cntL_len l
 unfold b_diag_parser_item
 rw [letm_e]
 dsimp only
 rw [w64_of (by omega) (by omega), show ((i : Int) + 1) = ((i + 1 : Nat) : Int) by omega]
 refine bnd_of (y := false) ?_ ?_
 ·rw [cd_f, letm_e, decide_eq_false (by omega), cd_f, letm_e, decide_eq_false (by omega)]
 rw [cd_f, sk_no (by decide), bnd_s]
 dsimp only
 rw [cd_f, sk_no (by decide), bnd_s]
 dsimp only
 rw [cd_f, sk_no (by decide), bnd_s]
 dsimp only
 rw [cd_f]
 have h1 := skip_app [123] (txL l true 0 ++ 125 :: r) (((i + 1 : Nat) : Int), false)
 refine bnd_of h1 ?_
 dsimp only
 rw [cd_t, letm_e, w64_of (by omega) (by omega), lst_def]
 have hL := lst_map rec _ d hr 125 rfl (by decide) rfl (by decide) l [] (i + 1) r FUEL g2 rfl gl (by omega) (by rw [fuel_eq]; omega) (by rw [List.length_nil]; omega) hl
 rw [show txL l true 0 = txL l true ([] : List Tr).length from rfl, hL, bnd_s, bnd_s, show i + 1 + cntL l = i + (1 + cntL l) by omega]
 rfl
theorem rd6 (rec) (lv : Int) (d : Nat) (hlv : lv ≤ 8) (h0 : -1000 ≤ lv) (hr : RdQ rec (lv + 1) d) (n : UInt64) (y : Tr) (i : Nat) (gy : vT y d = true) (hc : i + (1 + cntT y) ≤ 256) (r : List UInt8) (hl : (dig n ++ ([40] ++ (txT y ++ ([41] ++ r)))).length ≤ 9000000) : b_diag_parser_item rec (dig n ++ ([40] ++ (txT y ++ ([41] ++ r))), ((i : Int), false)) lv = some (Tr.mk 6 n [] [y], (r, (((i + (1 + cntT y) : Nat) : Int), false))) := by
 have hly : (txT y ++ ([41] ++ r)).length ≤ 9000000 := by rw [List.length_append, List.length_append] at hl; omega
 obtain ⟨c, t, ed, hcD⟩ := dig_cons n
 have hnum := number_at n ([40] ++ (txT y ++ ([41] ++ r))) ((i + 1 : Nat) : Int) (fun c t e => by cases e; rfl) (by omega)
 rw [ed] at hnum ⊢
 rw [List.cons_append] at hnum ⊢
 rw [item_skips rec c _ i (by omega) _ hlv (isD_ne hcD rfl) (isD_ne hcD rfl) (isD_ne hcD rfl) (isD_ne hcD rfl), sk_no (isD_ne hcD rfl), bnd_s]
 dsimp only
 rw [cd_f, sk_no (isD_ne hcD rfl), bnd_s]
 dsimp only
 rw [cd_f, sk_no (isD_ne hcD rfl), bnd_s]
 dsimp only
 rw [cd_f]
 refine (names_dig (K := fun p => bnd (m_diag_parser_number p) fun x39 => bnd (m_diag_parser_skip x39.2 [40]) fun x40 => letm ((!x40.1)) fun x41 => cond x41 (some ((Tr.mk 0 x39.1 [] []), x40.2)) (letm ((w64 (lv + 1))) fun x42 => bnd (rec x40.2 x42) fun x43 => bnd (m_diag_parser_need x43.2 [41]) fun x44 => some ((Tr.mk 6 x39.1 [] [x43.1]), x44))) c hcD _ _ _ 4 0 FUEL rfl (by rw [fuel_eq]; omega)).trans ?_
 rw [hnum, bnd_s]
 dsimp only
 rw [skip_app, bnd_s]
 dsimp only
 rw [letm_e, show (!true) = false from rfl, cd_f, letm_e, w64_of (by omega) (by omega)]
 have h2 := hr y (i + 1) ([41] ++ r) gy (by omega) (folB_c 41 r rfl (by decide)) hly
 rw [h2, bnd_s]
 dsimp only
 rw [need_app, bnd_s, show i + 1 + cntT y = i + (1 + cntT y) by omega]
theorem read_step (rec) (d : Nat) (hd : d ≤ 8) (hr : 1 ≤ d → RdQ rec (8 - (d : Int) + 1) (d - 1)) : RdQ (b_diag_parser_item rec) (8 - (d : Int)) d := by
 intro y i r hv hc hf hl
 have hlv : (8 : Int) - (d : Int) ≤ 8 := by omega
 obtain ⟨k, n, b, l⟩ := y
 rw [cntT_mk] at hc ⊢
 have hi : i + 1 ≤ 256 := by omega
 rcases vT_inv hv with ⟨hk, rfl, rfl⟩ | ⟨rfl, rfl, rfl, hbl⟩ | ⟨rfl, rfl, rfl, hbl, _⟩ | ⟨rfl, rfl, rfl, hn⟩ | ⟨rfl, rfl, rfl, _⟩ | ⟨rfl, rfl, rfl, g1, gl⟩ | ⟨rfl, rfl, rfl, g1, g2, gl, _⟩ | ⟨rfl, rfl, g1, y, rfl, gy⟩
 ·rw [cntL_nil]
  rcases hk with rfl | rfl
  ·rw [tx0] at hl ⊢
   exact rd0 rec _ hlv n i hi r hf hl
  ·exact rd1 rec _ hlv n i hi r hf hl
 ·rw [tx2] at hl ⊢
  rw [cntL_nil]
  have e : [104, 39] ++ hexS b ++ [39] ++ r = [104, 39] ++ (hexS b ++ 39 :: r) := by simp
  rw [e] at hl ⊢
  exact rd2 rec _ hlv b i hi r hl
 ·rw [tx3] at hl ⊢
  rw [cntL_nil]
  have e : 34 :: b.flatMap qc ++ [34] ++ r = 34 :: (b.flatMap qc ++ 34 :: r) := by simp
  rw [e]
  exact rd3 rec _ hlv b i hi r (by omega)
 ·rw [tx7] at hl ⊢
  rw [cntL_nil]
  by_cases c : 20 ≤ n.toNat ∧ n.toNat < 24
  ·rw [if_pos c]
   exact names_word rec n c.1 c.2 r i hi _ hlv
  ·rw [if_neg c] at hl ⊢
   have e : [115, 105, 109, 112, 108, 101, 40] ++ dig n ++ [41] ++ r = [115, 105, 109, 112, 108, 101, 40] ++ (dig n ++ ([41] ++ r)) := by simp
   rw [e] at hl ⊢
   exact rd7 rec _ hlv n i hi r hl
 ·rw [tx8] at hl ⊢
  rw [cntL_nil]
  have e : [102, 108, 111, 97, 116, 39] ++ hexS (be8 n) ++ [39] ++ r = [102, 108, 111, 97, 116, 39] ++ (hexS (be8 n) ++ 39 :: r) := by simp
  rw [e] at hl ⊢
  exact rd8 rec _ hlv n i hi r hl
 ·rw [tx4] at hl ⊢
  have e : [91] ++ txL l false 0 ++ [93] ++ r = 91 :: (txL l false 0 ++ 93 :: r) := by simp
  rw [e] at hl ⊢
  exact rd4 rec _ (d - 1) hlv (by omega) (hr g1) l i gl hc r (by rw [List.length_cons] at hl; omega)
 ·rw [tx5] at hl ⊢
  have e : [123] ++ txL l true 0 ++ [125] ++ r = 123 :: (txL l true 0 ++ 125 :: r) := by simp
  rw [e] at hl ⊢
  exact rd5 rec _ (d - 1) hlv (by omega) (hr g1) l g2 i gl hc r (by rw [List.length_cons] at hl; omega)
 ·rw [tx6] at hl ⊢
  rw [cntL_cons, cntL_nil] at hc ⊢
  have e : dig n ++ [40] ++ txL [y] false 0 ++ [41] ++ r = dig n ++ ([40] ++ (txT y ++ ([41] ++ r))) := by rw [txL_cons, txL_nil]; simp [sepT]
  rw [e] at hl ⊢
  exact rd6 rec _ (d - 1) hlv (by omega) (hr g1) n y i gy hc r hl
theorem read_eq (j : Nat) : ∀ (d : Nat), d ≤ 8 → RdQ (n_diag_parser_item (j + d + 1)) (8 - (d : Int)) d
 | 0, hd => read_step _ 0 hd (fun h => absurd h (by omega))
 | d + 1, hd => read_step _ (d + 1) hd (fun _ => by
  have := read_eq j d (by omega)
  rw [show (8 : Int) - ((d + 1 : Nat) : Int) + 1 = 8 - (d : Int) by omega]
  exact this)
theorem parse_back {x : Tr} (h : okT x = true) : m_diag_Parse (txT x) = some (x, 0) := by
 obtain ⟨h1, h2⟩ := okT_split h
 have hl := prS_len x
 unfold prS at hl
 rw [if_pos h] at hl
 have hl : (txT x).length ≤ 163840 := hl
 have e : m_diag_parser_item (txT x, (0, false)) 0 = some (x, ([], (((0 + cntT x : Nat) : Int), false))) := by
  have := read_eq 31 8 (by omega) x 0 [] h1 (by omega) (fun c t e => by cases e) (by rw [List.append_nil]; omega)
  rw [List.append_nil] at this
  exact this
 unfold m_diag_Parse
 rw [e, bnd_s]
 dsimp only
 rw [cd_f, letm_e, show (([] : List UInt8) != []) = false from rfl, cd_f, prog_valid, h, bnd_s, letm_e, bnd_s, show (!true) = false from rfl, cd_f, put_top h1 (by omega) (by omega), bnd_s, letm_e, show (txT x != txT x) = false by simp, cd_f]
structure Vw (s : List UInt8) (a : Nat) (v : List UInt8) : Prop where
 le : a ≤ s.length
 eq : s.drop a = v
 sz : s.length ≤ 9000000
theorem Vw.len {s v : List UInt8} {a : Nat} (h : Vw s a v) : s.length = a + v.length := by
 have := congrArg List.length h.eq
 rw [List.length_drop] at this
 have := h.le
 omega
theorem Vw.adv {s w v : List UInt8} {a : Nat} (h : Vw s a (w ++ v)) : Vw s (a + w.length) v := by
 have hl := h.len
 rw [List.length_append] at hl
 refine ⟨by omega, ?_, h.sz⟩
 rw [← List.drop_drop, h.eq, List.drop_left]
theorem Vw.get {s v : List UInt8} {c : UInt8} {a : Nat} (h : Vw s a (c :: v)) : idx s (a : Int) = some c := by
 have hl := h.len
 refine idx_some' ?_
 have := congrArg (fun l : List UInt8 => l[0]?) h.eq
 simpa [List.getElem?_drop] using this
theorem Vw.one {s v : List UInt8} {c : UInt8} {a : Nat} (h : Vw s a (c :: v)) : Vw s (a + 1) v := Vw.adv (w := [c]) h
theorem Vw.cut {s w v : List UInt8} {a : Nat} (h : Vw s a (w ++ v)) : Gk.cut s (a : Int) ((a + w.length : Nat) : Int) = some w := by
 have hl := h.len
 rw [List.length_append] at hl
 unfold Gk.cut
 rw [if_pos (by omega)]
 refine congrArg some ?_
 rw [Int.toNat_natCast, Int.toNat_natCast, List.drop_take, h.eq, Nat.add_sub_cancel_left, List.take_left]
theorem vw_start {s : List UInt8} (h : s.length ≤ 9000000) : Vw s 0 s := ⟨Nat.zero_le _, rfl, h⟩
theorem vw_at {s : List UInt8} {a : Nat} (ha : a ≤ s.length) (h : s.length ≤ 9000000) : Vw s a (s.drop a) := ⟨ha, rfl, h⟩
theorem take_yes {s w v : List UInt8} {a : Nat} (h : Vw s a (w ++ v)) (bad : Bool) : m_coresecref03_parser_take (s, ((a : Int), bad)) w = some (true, (s, (((a + w.length : Nat) : Int), bad))) := by
 have hl := h.len
 have hz := h.sz
 rw [List.length_append] at hl
 unfold m_coresecref03_parser_take
 dsimp only
 rw [letm_e, w64_of (by omega) (by omega), letm_e, decide_eq_false (by omega), cd_f, letm_e, w64_of (by omega) (by omega), show (a : Int) + (w.length : Int) = ((a + w.length : Nat) : Int) by omega, h.cut, bnd_s, letm_e, bnd_s, show (w != w) = false by simp, cd_f, letm_e]
theorem take_no {s w v : List UInt8} {a : Nat} (h : Vw s a v) (hp : preB v w = false) (bad : Bool) : m_coresecref03_parser_take (s, ((a : Int), bad)) w = some (false, (s, ((a : Int), bad))) := by
 have hl := h.len
 have hz := h.sz
 unfold m_coresecref03_parser_take
 dsimp only
 refine bnd_of (y := true) ?_ rfl
 rw [letm_e, w64_of (by omega) (by omega), letm_e]
 by_cases hw : v.length < w.length
 ·rw [decide_eq_true (by omega), cd_t]
 ·have hv : v = v.take w.length ++ v.drop w.length := (List.take_append_drop _ _).symm
  have h2 : Vw s a (v.take w.length ++ v.drop w.length) := by rw [← hv]; exact h
  have hc := h2.cut
  rw [List.length_take, Nat.min_eq_left (by omega)] at hc
  rw [decide_eq_false (by omega), cd_f, letm_e, w64_of (by omega) (by omega), show (a : Int) + (w.length : Int) = ((a + w.length : Nat) : Int) by omega, hc, bnd_s, letm_e]
  refine congrArg some ?_
  rw [bne_iff_ne]
  intro e
  unfold preB at hp
  rw [e, beq_self_eq_true] at hp
  cases hp
theorem take_ex {s : List UInt8} {a : Nat} (ha : a ≤ s.length) (hs : s.length ≤ 9000000) (w : List UInt8) (bad : Bool) : ∃ t a', m_coresecref03_parser_take (s, ((a : Int), bad)) w = some (t, (s, (((a' : Nat) : Int), bad))) ∧ a ≤ a' ∧ a' ≤ s.length ∧ (t = true → a' = a + w.length) := by
 have h := vw_at ha hs
 have hl := h.len
 cases hp : preB (s.drop a) w with
 | true =>
  have hv : s.drop a = w ++ (s.drop a).drop w.length := by
   have := List.take_append_drop w.length (s.drop a)
   unfold preB at hp
   rw [beq_iff_eq] at hp
   rw [hp] at this
   exact this.symm
  have h2 : Vw s a (w ++ (s.drop a).drop w.length) := by rw [← hv]; exact h
  exact ⟨true, a + w.length, take_yes h2 bad, by omega, h2.adv.le, fun _ => rfl⟩
 | false => exact ⟨false, a, take_no h hp bad, Nat.le_refl _, ha, fun h => Bool.noConfusion h⟩
def untB (a1 : UInt8) : ((Int × S_diag_parser) → Option (List UInt8 × S_diag_parser)) → (Int × S_diag_parser) → Option (List UInt8 × S_diag_parser) := fun self3 s2 =>
 letm (decide (s2.1 < (s2.2.1.length : Int))) fun x4 =>
 cond x4 (bnd (idx s2.2.1 s2.1) fun x5 =>
 letm (((UInt8.toNat x5 : Int) == (UInt8.toNat a1 : Int))) fun x6 =>
 cond x6 (bnd (Gk.cut s2.2.1 s2.2.2.1 s2.1) fun x7 =>
 letm ((w64 (s2.1 + 1))) fun x8 =>
 some (x7, (s2.2.1, (x8, s2.2.2.2))))
  (letm ((w64 (s2.1 + 1))) fun x9 =>
 self3 (x9, s2.2)))
  (some ([], (s2.2.1, (s2.2.2.1, true))))
theorem until_run {s : List UInt8} {a : Nat} (c : UInt8) (bad : Bool) : ∀ (d w v : List UInt8) (f : Nat), Vw s a (w ++ d ++ c :: v) → c ∉ d → d.length < f → loopF (untB c) f (((a + w.length : Nat) : Int), (s, ((a : Int), bad))) = some (w ++ d, (s, (((a + (w ++ d).length + 1 : Nat) : Int), bad)))
 | d, w, v, 0, _, _, h => absurd h (Nat.not_lt_zero _)
 | [], w, v, f + 1, h, _, _ => by
  rw [List.append_nil] at h ⊢
  have hl := h.len
  have hz := h.sz
  rw [List.length_append, List.length_cons] at hl
  rw [loopF_succ]
  unfold untB
  dsimp only
  rw [letm_e, lt_dec, decide_eq_true (by omega), cd_t, h.adv.get, bnd_s, letm_e, u8eq, decide_eq_true rfl, cd_t, h.cut, bnd_s, letm_e, w64_of (by omega) (by omega)]
  rfl
 | b :: d, w, v, f + 1, h, hn, hf => by
  have h' : Vw s a (w ++ (b :: (d ++ c :: v))) := by simpa using h
  have hl := h'.len
  have hz := h'.sz
  rw [List.length_append, List.length_cons] at hl
  have hb : ¬ b = c := fun e => hn (by simp [e])
  rw [loopF_succ]
  unfold untB
  dsimp only
  rw [letm_e, lt_dec, decide_eq_true (by omega), cd_t, h'.adv.get, bnd_s, letm_e, u8eq, decide_eq_false hb, cd_f, letm_e, w64_of (by omega) (by omega), show ((a + w.length : Nat) : Int) + 1 = ((a + (w ++ [b]).length : Nat) : Int) by rw [List.length_append]; simp only [List.length_cons, List.length_nil]; omega]
  have ih := until_run (a := a) c bad d (w ++ [b]) v f (by simpa using h) (fun e => hn (by simp [e])) (by rw [List.length_cons] at hf; omega)
  rw [show w ++ [b] ++ d = w ++ b :: d by simp] at ih
  exact ih
theorem until_at {s d v : List UInt8} {a : Nat} {c : UInt8} (h : Vw s a (d ++ c :: v)) (hn : c ∉ d) (bad : Bool) : m_coresecref03_parser_until (s, ((a : Int), bad)) c = some (d, (s, (((a + d.length + 1 : Nat) : Int), bad))) := by
 have hl := h.len
 have hz := h.sz
 rw [List.length_append] at hl
 exact until_run (a := a) c bad d [] v FUEL h hn (by rw [fuel_eq]; omega)
theorem until_none {s : List UInt8} {a : Nat} (c : UInt8) (bad : Bool) (hs : s.length ≤ 9000000) : ∀ (f k : Nat), a ≤ k → k ≤ s.length → c ∉ s.drop k → s.length - k < f → loopF (untB c) f ((k : Int), (s, ((a : Int), bad))) = some ([], (s, ((a : Int), true)))
 | 0, k, _, _, _, h => absurd h (Nat.not_lt_zero _)
 | f + 1, k, hak, hk, hn, hf => by
  rw [loopF_succ]
  unfold untB
  dsimp only
  rw [letm_e, lt_dec]
  by_cases hc : k < s.length
  ·rw [List.drop_eq_getElem_cons hc] at hn
   have hb : ¬ s[k] = c := fun e => hn (by simp [e])
   rw [decide_eq_true hc, cd_t, idx_some' (List.getElem?_eq_getElem hc), bnd_s, letm_e, u8eq, decide_eq_false hb, cd_f, letm_e, w64_of (by omega) (by omega), show (k : Int) + 1 = ((k + 1 : Nat) : Int) by omega]
   exact until_none c bad hs f (k + 1) (by omega) (by omega) (fun e => hn (List.mem_cons_of_mem _ e)) (by omega)
  ·rw [decide_eq_false hc, cd_f]
theorem until_ex {s : List UInt8} {a : Nat} (ha : a ≤ s.length) (hs : s.length ≤ 9000000) (c : UInt8) (bad : Bool) : ∃ d a' b2, m_coresecref03_parser_until (s, ((a : Int), bad)) c = some (d, (s, (((a' : Nat) : Int), b2))) ∧ a ≤ a' ∧ a' ≤ s.length ∧ d.length ≤ s.length := by
 rcases split_at c (s.drop a) with h | ⟨d, r, e, h⟩
 ·exact ⟨[], a, true, until_none c bad hs FUEL a (Nat.le_refl _) ha h (by rw [fuel_eq]; omega), Nat.le_refl _, ha, by simp⟩
 ·have hv : Vw s a (d ++ c :: r) := by rw [← e]; exact vw_at ha hs
  have hl := hv.len
  rw [List.length_append, List.length_cons] at hl
  exact ⟨d, a + d.length + 1, bad, until_at hv h bad, by omega, by omega, by omega⟩
def valF (v : UInt64) : List UInt8 → UInt64
 | [] => v
 | c :: l => valF (10 * v + toU64 ((c - 48 : UInt8).toNat : Int)) l
def numB : ((UInt64 × S_diag_parser) → Option (UInt64 × S_diag_parser)) → (UInt64 × S_diag_parser) → Option (UInt64 × S_diag_parser) := fun self2 s1 =>
 bnd (β := Bool) (letm (decide (s1.2.2.1 < (s1.2.1.length : Int))) fun x3 =>
 cond x3 (bnd (idx s1.2.1 s1.2.2.1) fun x4 =>
 letm (decide ((UInt8.toNat 48 : Int) ≤ (UInt8.toNat x4 : Int))) fun x5 =>
 cond x5 (bnd (idx s1.2.1 s1.2.2.1) fun x6 =>
 letm (decide ((UInt8.toNat x6 : Int) ≤ (UInt8.toNat 57 : Int))) fun x7 =>
 some x7)
  (some false))
  (some false)) fun v8 =>
 cond v8 (letm ((10 * s1.1)) fun x9 =>
 bnd (idx s1.2.1 s1.2.2.1) fun x10 =>
 letm ((x10 - 48)) fun x11 =>
 letm ((toU64 (UInt8.toNat x11 : Int))) fun x12 =>
 letm ((x9 + x12)) fun x13 =>
 letm ((w64 (s1.2.2.1 + 1))) fun x14 =>
 self2 (x13, (s1.2.1, (x14, s1.2.2.2))))
  (some (s1.1, s1.2))
theorem rnum_run {s : List UInt8} (bad : Bool) (r : List UInt8) (hr : ∀ c t, r = c :: t → isD c = false) : ∀ (d : List UInt8) (a : Nat) (v : UInt64) (f : Nat), Vw s a (d ++ r) → (∀ c, c ∈ d → isD c = true) → d.length < f → loopF numB f (v, (s, ((a : Int), bad))) = some (valF v d, (s, (((a + d.length : Nat) : Int), bad)))
 | d, a, v, 0, _, _, h => absurd h (Nat.not_lt_zero _)
 | [], a, v, f + 1, h, _, _ => by
  rw [List.nil_append] at h
  have hz := h.sz
  rw [loopF_succ]
  unfold numB
  dsimp only
  refine bnd_of (y := false) ?_ rfl
  rw [letm_e, lt_dec]
  match r, h, hr with
  | [], h, _ =>
   have hl := h.len
   rw [List.length_nil] at hl
   rw [decide_eq_false (by omega), cd_f]
  | c :: r, h, hr =>
   have hl := h.len
   rw [List.length_cons] at hl
   rw [decide_eq_true (by omega), cd_t, h.get, bnd_s, bnd_s, letm_e, letm_e, cd_and, digit_dec, hr c r rfl]
 | c :: d, a, v, f + 1, h, hd, hf => by
  have hl := h.len
  have hz := h.sz
  rw [List.cons_append] at h
  rw [List.length_append, List.length_cons] at hl
  rw [loopF_succ]
  unfold numB
  dsimp only
  refine bnd_of (y := true) ?_ ?_
  ·rw [letm_e, lt_dec, decide_eq_true (by omega), cd_t, h.get, bnd_s, bnd_s, letm_e, letm_e, cd_and, digit_dec, hd c (by simp)]
  rw [cd_t, letm_e, h.get, bnd_s, letm_e, letm_e, letm_e, letm_e, w64_of (by omega) (by omega), show (a : Int) + 1 = ((a + 1 : Nat) : Int) by omega]
  have ih := rnum_run bad r hr d (a + 1) (10 * v + toU64 ((c - 48 : UInt8).toNat : Int)) f h.one (fun x hx => hd x (by simp [hx])) (by rw [List.length_cons] at hf; omega)
  rw [List.length_cons, show a + (d.length + 1) = a + 1 + d.length by omega]
  exact ih
theorem rnum_def (p : S_diag_parser) : m_coresecref03_parser_number p = bnd (β := (UInt64 × S_diag_parser)) (loopF numB FUEL (0, p)) fun v15 => bnd (β := S_diag_parser) (cond v15.2.2.2 (some (v15.2.1, (v15.2.2.1, true))) (letm ((v15.2.2.1 == p.2.1)) fun x16 => some (v15.2.1, (v15.2.2.1, x16)))) fun v17 => some (v15.1, v17) := rfl
theorem rnum_at {s d r : List UInt8} {a : Nat} (h : Vw s a (d ++ r)) (hd : ∀ c, c ∈ d → isD c = true) (hr : ∀ c t, r = c :: t → isD c = false) (bad : Bool) : m_coresecref03_parser_number (s, ((a : Int), bad)) = some (valF 0 d, (s, (((a + d.length : Nat) : Int), bad || d.length == 0))) := by
 have hl := h.len
 have hz := h.sz
 rw [List.length_append] at hl
 rw [rnum_def, rnum_run bad r hr d a 0 FUEL h hd (by rw [fuel_eq]; omega), bnd_s]
 cases bad with
 | true => rfl
 | false =>
  dsimp only
  rw [cd_f, letm_e, bnd_s]
  refine congrArg some (Prod.ext rfl (Prod.ext rfl (Prod.ext rfl ?_)))
  show (((a + d.length : Nat) : Int) == (a : Int)) = (false || d.length == 0)
  rw [Bool.false_or, Bool.eq_iff_iff, beq_iff_eq, beq_iff_eq]
  omega
theorem tw_mem (p : UInt8 → Bool) : ∀ (l : List UInt8) {c : UInt8}, c ∈ l.takeWhile p → p c = true
 | [], _, h => by simp at h
 | b :: l, c, h => by
  by_cases hb : p b = true
  ·rw [List.takeWhile_cons_of_pos hb] at h
   rcases List.mem_cons.1 h with rfl | h
   ·exact hb
   ·exact tw_mem p l h
  ·rw [List.takeWhile_cons_of_neg hb] at h
   simp at h
theorem rnum_ex {s : List UInt8} {a : Nat} (ha : a ≤ s.length) (hs : s.length ≤ 9000000) (bad : Bool) : ∃ n a' b2, m_coresecref03_parser_number (s, ((a : Int), bad)) = some (n, (s, (((a' : Nat) : Int), b2))) ∧ a ≤ a' ∧ a' ≤ s.length ∧ (b2 = false → a < a') ∧ (bad = true → b2 = true) := by
 have hv := vw_at ha hs
 have e := (List.takeWhile_append_dropWhile (p := isD) (l := s.drop a)).symm
 have hd : ∀ c, c ∈ (s.drop a).takeWhile isD → isD c = true := fun c hc => tw_mem isD _ hc
 have hr : ∀ c t, (s.drop a).dropWhile isD = c :: t → isD c = false := fun c t ht => by
  have h1 := List.head?_dropWhile_not isD (s.drop a)
  rw [ht] at h1
  simpa using h1
 rw [e] at hv
 have hl := hv.len
 rw [List.length_append] at hl
 refine ⟨_, _, _, rnum_at hv hd hr bad, by omega, by omega, fun h => ?_, fun h => by rw [h]; rfl⟩
 simp only [Bool.or_eq_false_iff, beq_eq_false_iff_ne] at h
 omega
def valN (v : Nat) : List UInt8 → Nat
 | [] => v
 | c :: l => valN (10 * v + (c.toNat - 48)) l
theorem valF_N : ∀ (l : List UInt8) (v : UInt64) (m : Nat), (∀ c, c ∈ l → isD c = true) → v.toNat = m % 18446744073709551616 → (valF v l).toNat = valN m l % 18446744073709551616
 | [], v, m, _, h => h
 | c :: l, v, m, hd, h => by
  have hc := hd c (by simp)
  unfold isD at hc
  simp only [Bool.and_eq_true, decide_eq_true_eq] at hc
  have e1 : (c - 48 : UInt8).toNat = c.toNat - 48 := UInt8.toNat_sub_of_le c 48 (by rw [UInt8.le_iff_toNat_le]; exact hc.1)
  refine valF_N l _ _ (fun x hx => hd x (by simp [hx])) ?_
  rw [UInt64.toNat_add, UInt64.toNat_mul, e1, toU64_toNat (by omega), h]
  show ((10 * (m % 18446744073709551616)) % 2 ^ 64 + (c.toNat - 48)) % 2 ^ 64 = _
  omega
theorem valN_app (c : UInt8) : ∀ (l : List UInt8) (m : Nat), valN m (l ++ [c]) = 10 * valN m l + (c.toNat - 48)
 | [], m => rfl
 | b :: l, m => by rw [List.cons_append]; exact valN_app c l _
theorem valN_dec : ∀ (k n : Nat), n < k → valN 0 (Lib.decDigits n) = n
 | 0, n, h => absurd h (Nat.not_lt_zero _)
 | k + 1, n, h => by
  by_cases c : n < 10
  ·rw [dec_small c]
   show 10 * 0 + ((UInt8.ofNat (48 + n)).toNat - 48) = n
   rw [dig_char c]; omega
  ·rw [dec_big (by omega), valN_app, valN_dec k (n / 10) (by omega), dig_char (by omega)]
   omega
theorem valF_dig (n : UInt64) : valF 0 (dig n) = n := by
 have hn := n.toNat_lt
 apply UInt64.toNat_inj.1
 rw [valF_N (dig n) 0 0 (dec_isD (n.toNat + 1) n.toNat (by omega)) rfl]
 unfold dig
 rw [valN_dec (n.toNat + 1) n.toNat (by omega)]
 omega
theorem rnum_dig {s r : List UInt8} {a : Nat} (n : UInt64) (h : Vw s a (dig n ++ r)) (hr : ∀ c t, r = c :: t → isD c = false) : m_coresecref03_parser_number (s, ((a : Int), false)) = some (n, (s, (((a + (dig n).length : Nat) : Int), false))) := by
 have hl := (dig_len n).1
 rw [rnum_at h (dec_isD (n.toNat + 1) n.toNat (by omega)) hr false, valF_dig]
 rw [show (false || (dig n).length == 0) = false by rw [Bool.false_or, beq_eq_false_iff_ne]; omega]
theorem digit_hex : ∀ v : Fin 16, m_coresecref03_digit (hexd v.1) = some (v.1 : Int) := by decide +kernel
theorem digit_is : ∀ c : Fin 256, (m_coresecref03_digit (UInt8.ofNat c.1)).isSome = true := by decide +kernel
theorem digit_ex (c : UInt8) : ∃ v, m_coresecref03_digit c = some v := by
 have := digit_is ⟨c.toNat, UInt8.toNat_lt c⟩
 rw [show UInt8.ofNat ((⟨c.toNat, UInt8.toNat_lt c⟩ : Fin 256).1) = c by simp] at this
 exact Option.isSome_iff_exists.1 this
def rbyB (d : List UInt8) : ((List UInt8 × (Int × S_diag_parser)) → Option (List UInt8 × S_diag_parser)) → (List UInt8 × (Int × S_diag_parser)) → Option (List UInt8 × S_diag_parser) := fun self3 s2 =>
 letm ((w64 (s2.2.1 + 1))) fun x4 =>
 letm (decide (x4 < (d.length : Int))) fun x5 =>
 cond x5 (bnd (idx d s2.2.1) fun x6 =>
 bnd (m_coresecref03_digit x6) fun x7 =>
 letm ((w64 (s2.2.1 + 1))) fun x8 =>
 bnd (idx d x8) fun x9 =>
 bnd (m_coresecref03_digit x9) fun x10 =>
 bnd (β := Bool) (letm (decide (x7 < 0)) fun x11 =>
 cond x11 (some true)
  (letm (decide (x10 < 0)) fun x12 =>
 some x12)) fun v13 =>
 cond v13 (some ([], (s2.2.2.1, (s2.2.2.2.1, true))))
  (letm ((w64 (16 * x7))) fun x14 =>
 letm ((w64 (x14 + x10))) fun x15 =>
 letm ((toU8 x15)) fun x16 =>
 bnd (app s2.1 [x16]) fun x17 =>
 letm ((w64 (s2.2.1 + 2))) fun x18 =>
 self3 (x17, (x18, s2.2.2))))
  (some (s2.1, s2.2.2))
theorem rby_def (p : S_diag_parser) (d : List UInt8) : m_coresecref03_parser_bytes p d = loopF (rbyB d) FUEL ([], (0, p)) := rfl
theorem rby_run (st : S_diag_parser) (d : List UInt8) (hd : d.length ≤ 10000000) : ∀ (b pre acc : List UInt8) (f : Nat), d = pre ++ hexS b → b.length < f → acc.length ≤ pre.length → loopF (rbyB d) f (acc, ((pre.length : Int), st)) = some (acc ++ b, st)
 | b, pre, acc, 0, _, h, _ => absurd h (Nat.not_lt_zero _)
 | [], pre, acc, f + 1, e, _, _ => by
  have hl : d.length = pre.length := by rw [e]; simp [hexS]
  rw [loopF_succ]
  unfold rbyB
  dsimp only
  rw [letm_e, w64_of (by omega) (by omega), letm_e, decide_eq_false (by omega), cd_f, List.append_nil]
 | c :: b, pre, acc, f + 1, e, h, ha => by
  have hc := UInt8.toNat_lt c
  have e' : d = pre ++ hexd (c.toNat / 16) :: hexd (c.toNat % 16) :: hexS b := by rw [e, hexS_cons]
  have hl : d.length = pre.length + 2 + (hexS b).length := by rw [e']; simp only [List.length_append, List.length_cons]; omega
  have g1 : idx d ((pre.length : Nat) : Int) = some (hexd (c.toNat / 16)) := idx_some' (by rw [e', List.getElem?_append_right (Nat.le_refl _), Nat.sub_self]; rfl)
  have g2 : idx d ((pre.length + 1 : Nat) : Int) = some (hexd (c.toNat % 16)) := idx_some' (by rw [e', List.getElem?_append_right (by omega), Nat.add_sub_cancel_left]; rfl)
  have d1 : m_coresecref03_digit (hexd (c.toNat / 16)) = some ((c.toNat / 16 : Nat) : Int) := digit_hex ⟨c.toNat / 16, by omega⟩
  have d2 : m_coresecref03_digit (hexd (c.toNat % 16)) = some ((c.toNat % 16 : Nat) : Int) := digit_hex ⟨c.toNat % 16, by omega⟩
  rw [loopF_succ]
  unfold rbyB
  dsimp only
  rw [letm_e, w64_of (by omega) (by omega), letm_e, decide_eq_true (by omega), cd_t, g1, bnd_s, d1, bnd_s, letm_e, show ((pre.length : Nat) : Int) + 1 = ((pre.length + 1 : Nat) : Int) by omega, g2, bnd_s, d2, bnd_s, letm_e, letm_e, cd_or, bnd_s, decide_eq_false (by omega), decide_eq_false (by omega), show (false || false) = false from rfl, cd_f, letm_e, letm_e, letm_e,
   w64_of (x := 16 * ((c.toNat / 16 : Nat) : Int)) (by omega) (by omega), w64_of (by omega) (by omega), show 16 * ((c.toNat / 16 : Nat) : Int) + ((c.toNat % 16 : Nat) : Int) = ((c.toNat : Nat) : Int) by omega, u8nat, show UInt8.ofNat c.toNat = c by simp,
   app_some' (by simp only [List.length_cons, List.length_nil]; omega), bnd_s, letm_e, w64_of (by omega) (by omega)]
  have ih := rby_run st d hd b (pre ++ [hexd (c.toNat / 16), hexd (c.toNat % 16)]) (acc ++ [c]) f (by rw [e']; simp) (by simpa using h) (by simp only [List.length_append, List.length_cons, List.length_nil]; omega)
  rw [show (((pre ++ [hexd (c.toNat / 16), hexd (c.toNat % 16)]).length : Nat) : Int) = (pre.length : Int) + 2 by simp] at ih
  refine ih.trans ?_
  simp
theorem rby_at (st : S_diag_parser) (b : List UInt8) (hl : (hexS b).length ≤ 10000000) : m_coresecref03_parser_bytes st (hexS b) = some (b, st) := by
 have hh := hexS_len b
 rw [rby_def]
 exact rby_run st (hexS b) hl b [] [] FUEL rfl (by rw [fuel_eq]; omega) (Nat.le_refl _)
theorem rby_ex (s : List UInt8) (a : Int) (bad : Bool) (d : List UInt8) (hd : d.length ≤ 10000000) : ∃ r b2, m_coresecref03_parser_bytes (s, (a, bad)) d = some (r, (s, (a, b2))) ∧ r.length ≤ d.length ∧ (bad = true → b2 = true) := by
 rw [rby_def]
 have h := loopF_ex (S := List UInt8 × (Int × S_diag_parser)) (R := List UInt8 × S_diag_parser) (b := rbyB d) (fun n x => ∃ k : Nat, x.2.1 = (k : Int) ∧ n + k = d.length + 2 ∧ x.1.length ≤ k ∧ x.1.length ≤ d.length ∧ x.2.2 = (s, (a, bad))) (fun r => r.1.length ≤ d.length ∧ r.2.1 = s ∧ r.2.2.1 = a ∧ (bad = true → r.2.2.2 = true)) (fun n x self hI ih => ?_) FUEL (d.length + 2) ([], (0, (s, (a, bad)))) (by rw [fuel_eq]; omega) ⟨0, rfl, rfl, by simp, by simp, rfl⟩
 ·obtain ⟨⟨r, s', a', b2⟩, hr, h1, h2, h3, h4⟩ := h
  have h2 : s' = s := h2
  have h3 : a' = a := h3
  subst h2 h3
  exact ⟨r, b2, hr, h1, h4⟩
 ·obtain ⟨acc, j, st⟩ := x
  obtain ⟨k, hk, hn, hl, hl2, hst⟩ := hI
  have hk : j = (k : Int) := hk
  have hst : st = (s, (a, bad)) := hst
  have hl : acc.length ≤ k := hl
  have hl2 : acc.length ≤ d.length := hl2
  subst hk hst
  unfold rbyB
  dsimp only
  rw [letm_e, w64_of (by omega) (by omega)]
  refine lex2 (cex2 (fun hc => ?_) (fun _ => ⟨_, rfl, hl2, rfl, rfl, fun h => h⟩))
  rw [decide_eq_true_eq] at hc
  have hk1 : k + 1 < d.length := by omega
  have hk0 : k < d.length := by omega
  obtain ⟨v1, e1⟩ := digit_ex d[k]
  obtain ⟨v2, e2⟩ := digit_ex d[k + 1]
  rw [idx_some' (List.getElem?_eq_getElem hk0), bnd_s, e1, bnd_s, letm_e, show ((k : Nat) : Int) + 1 = ((k + 1 : Nat) : Int) by omega, idx_some' (List.getElem?_eq_getElem hk1), bnd_s, e2, bnd_s, letm_e, letm_e, cd_or, bnd_s]
  refine cex2 (fun _ => ⟨_, rfl, by simp, rfl, rfl, fun _ => rfl⟩) (fun _ => lex2 (lex2 (lex2 ?_)))
  rw [app_some' (by simp only [List.length_cons, List.length_nil]; omega), bnd_s, letm_e, w64_of (x := (k : Int) + 2) (by omega) (by omega)]
  exact ih (n - 2) _ (by omega) ⟨k + 2, by show (k : Int) + 2 = _; omega, by omega, by rw [List.length_append]; simp only [List.length_cons, List.length_nil]; omega, by rw [List.length_append]; simp only [List.length_cons, List.length_nil]; omega, rfl⟩
def quoB : ((List UInt8 × S_diag_parser) → Option (List UInt8 × S_diag_parser)) → (List UInt8 × S_diag_parser) → Option (List UInt8 × S_diag_parser) := fun self2 s1 =>
 bnd (β := Bool) (letm (decide (s1.2.2.1 < (s1.2.1.length : Int))) fun x3 =>
 cond x3 (bnd (idx s1.2.1 s1.2.2.1) fun x4 =>
 letm (((UInt8.toNat x4 : Int) != (UInt8.toNat 34 : Int))) fun x5 =>
 some x5)
  (some false)) fun v6 =>
 cond v6 (bnd (idx s1.2.1 s1.2.2.1) fun x7 =>
 letm ((w64 (s1.2.2.1 + 1))) fun x8 =>
 letm (((UInt8.toNat x7 : Int) != (UInt8.toNat 92 : Int))) fun x9 =>
 cond x9 (bnd (app s1.1 [x7]) fun x10 =>
 self2 (x10, (s1.2.1, (x8, s1.2.2.2))))
  (bnd (m_coresecref03_parser_take (s1.2.1, (x8, s1.2.2.2)) [117, 48, 48]) fun x11 =>
 cond x11.1 (letm ((w64 ((x11.2.1.length : Int) - x11.2.2.1))) fun x12 =>
 letm (decide (x12 < 2)) fun x13 =>
 cond x13 (some (s1.1, x11.2))
  (letm ((w64 (x11.2.2.1 + 2))) fun x14 =>
 bnd (Gk.cut x11.2.1 x11.2.2.1 x14) fun x15 =>
 bnd (m_coresecref03_parser_bytes x11.2 x15) fun x16 =>
 bnd (app s1.1 x16.1) fun x17 =>
 letm ((w64 (x16.2.2.1 + 2))) fun x18 =>
 self2 (x17, (x16.2.1, (x18, x16.2.2.2)))))
  (letm (decide (x11.2.2.1 < (x11.2.1.length : Int))) fun x19 =>
 cond x19 (bnd (idx x11.2.1 x11.2.2.1) fun x20 =>
 bnd (app s1.1 [x20]) fun x21 =>
 letm ((w64 (x11.2.2.1 + 1))) fun x22 =>
 self2 (x21, (x11.2.1, (x22, x11.2.2.2))))
  (self2 (s1.1, x11.2)))))
  (some (s1.1, s1.2))
theorem quo_def (p : S_diag_parser) : m_coresecref03_parser_quoted p = bnd (β := ((List UInt8) × S_diag_parser)) (loopF quoB FUEL ([], p)) fun v23 => bnd (β := S_diag_parser) (cond v23.2.2.2 (some (v23.2.1, (v23.2.2.1, true))) (bnd (m_coresecref03_parser_take v23.2 [34]) fun x24 => letm ((!x24.1)) fun x25 => some (x24.2.1, (x24.2.2.1, x25)))) fun v26 => some (v23.1, v26) := rfl
theorem ne_u8 (x y : UInt8) : (((UInt8.toNat x : Nat) : Int) != ((UInt8.toNat y : Nat) : Int)) = !decide (x = y) := by
 rw [← u8eq]; rfl
theorem quo_run {s : List UInt8} (r : List UInt8) : ∀ (b acc : List UInt8) (a f : Nat), Vw s a (b.flatMap qc ++ 34 :: r) → b.length < f → acc.length + b.length ≤ 10000000 → ∃ a' : Nat, loopF quoB f (acc, (s, ((a : Int), false))) = some (acc ++ b, (s, ((a' : Int), false))) ∧ Vw s a' (34 :: r)
 | b, acc, a, 0, _, h, _ => absurd h (Nat.not_lt_zero _)
 | [], acc, a, f + 1, h, _, _ => by
  rw [List.flatMap_nil, List.nil_append] at h
  have hl := h.len
  have hz := h.sz
  rw [List.length_cons] at hl
  refine ⟨a, ?_, h⟩
  rw [loopF_succ, List.append_nil]
  unfold quoB
  dsimp only
  refine bnd_of (y := false) ?_ rfl
  rw [letm_e, lt_dec, decide_eq_true (by omega), cd_t, h.get, bnd_s]
  rfl
 | c :: b, acc, a, f + 1, h, hf, ha => by
  have hcc := UInt8.toNat_lt c
  rw [List.length_cons] at hf ha
  have happ : ∀ x : UInt8, app acc [x] = some (acc ++ [x]) := fun x => app_some' (by simp only [List.length_cons, List.length_nil]; omega)
  have step : ∀ (a' : Nat), Vw s a' (b.flatMap qc ++ 34 :: r) → ∃ a'' : Nat, loopF quoB f (acc ++ [c], (s, ((a' : Int), false))) = some (acc ++ c :: b, (s, ((a'' : Int), false))) ∧ Vw s a'' (34 :: r) := fun a' hv => by
   obtain ⟨a'', h1, h2⟩ := quo_run r b (acc ++ [c]) a' f hv (by omega) (by rw [List.length_append]; simp only [List.length_cons, List.length_nil]; omega)
   exact ⟨a'', by rw [h1]; simp, h2⟩
  rw [List.flatMap_cons, List.append_assoc] at h
  generalize hs : b.flatMap qc ++ 34 :: r = v at h step
  have hl := h.len
  have hz := h.sz
  rw [loopF_succ]
  unfold qc at h hl
  by_cases c1 : c = 34 ∨ c = 92
  ·rw [if_pos c1] at h hl
   have h : Vw s a (92 :: c :: v) := h
   have hl : s.length = a + (v.length + 1 + 1) := hl
   have h1 : Vw s (a + 1) (c :: v) := h.one
   unfold quoB
   dsimp only
   obtain ⟨a'', g1, g2⟩ := step (a + 1 + 1) h1.one
   refine ⟨a'', ?_, g2⟩
   refine bnd_of (y := true) ?_ ?_
   ·rw [letm_e, lt_dec, decide_eq_true (by omega), cd_t, h.get, bnd_s]; rfl
   rw [cd_t, h.get, bnd_s, letm_e, w64_of (by omega) (by omega), show (a : Int) + 1 = ((a + 1 : Nat) : Int) by omega, letm_e, show (((UInt8.toNat 92 : Nat) : Int) != ((UInt8.toNat 92 : Nat) : Int)) = false from rfl, cd_f]
   rw [take_no h1 (preB_ne (by rcases c1 with rfl | rfl <;> decide) _ _), bnd_s]
   dsimp only
   rw [cd_f, letm_e, lt_dec, decide_eq_true (by omega), cd_t, h1.get, bnd_s, happ, bnd_s, letm_e, w64_of (by omega) (by omega), show ((a + 1 : Nat) : Int) + 1 = ((a + 1 + 1 : Nat) : Int) by omega]
   exact g1
  rw [if_neg c1] at h hl
  have c1a : ¬ c = 34 := fun h => c1 (.inl h)
  have c1b : ¬ c = 92 := fun h => c1 (.inr h)
  by_cases c2 : c.toNat < 32 ∨ c = 127
  ·rw [if_pos c2] at h hl
   have h : Vw s a (92 :: ([117, 48, 48] ++ (hexS [c] ++ v))) := h
   have hl : s.length = a + (v.length + 1 + 1 + 1 + 1 + 1 + 1) := hl
   have h1 : Vw s (a + 1) ([117, 48, 48] ++ (hexS [c] ++ v)) := h.one
   have h2 : Vw s (a + 1 + 3) (hexS [c] ++ v) := h1.adv
   have h3 : Vw s (a + 1 + 3 + 2) v := h2.adv
   unfold quoB
   dsimp only
   obtain ⟨a'', g1, g2⟩ := step (a + 1 + 3 + 2) h3
   refine ⟨a'', ?_, g2⟩
   refine bnd_of (y := true) ?_ ?_
   ·rw [letm_e, lt_dec, decide_eq_true (by omega), cd_t, h.get, bnd_s]; rfl
   rw [cd_t, h.get, bnd_s, letm_e, w64_of (by omega) (by omega), show (a : Int) + 1 = ((a + 1 : Nat) : Int) by omega, letm_e, show (((UInt8.toNat 92 : Nat) : Int) != ((UInt8.toNat 92 : Nat) : Int)) = false from rfl, cd_f]
   rw [take_yes h1, bnd_s]
   dsimp only
   have hcut := h2.cut
   rw [show ([117, 48, 48] : List UInt8).length = 3 from rfl]
   rw [cd_t, letm_e, w64_of (by omega) (by omega), letm_e, decide_eq_false (by omega), cd_f, letm_e, w64_of (by omega) (by omega), show ((a + 1 + 3 : Nat) : Int) + 2 = ((a + 1 + 3 + (hexS [c]).length : Nat) : Int) by rw [hexS_len]; simp, hcut, bnd_s, rby_at _ [c] (by rw [hexS_len]; simp), bnd_s]
   dsimp only
   rw [happ, bnd_s, letm_e, w64_of (by omega) (by omega), show ((a + 1 + 3 : Nat) : Int) + 2 = ((a + 1 + 3 + 2 : Nat) : Int) by omega]
   exact g1
  ·rw [if_neg c2] at h hl
   have h : Vw s a (c :: v) := h
   have hl : s.length = a + (v.length + 1) := hl
   unfold quoB
   dsimp only
   obtain ⟨a'', g1, g2⟩ := step (a + 1) h.one
   refine ⟨a'', ?_, g2⟩
   refine bnd_of (y := true) ?_ ?_
   ·rw [letm_e, lt_dec, decide_eq_true (by omega), cd_t, h.get, bnd_s, letm_e, ne_u8, decide_eq_false c1a]; rfl
   rw [cd_t, h.get, bnd_s, letm_e, w64_of (by omega) (by omega), show (a : Int) + 1 = ((a + 1 : Nat) : Int) by omega, letm_e, ne_u8, decide_eq_false c1b, show (!false) = true from rfl, cd_t, happ, bnd_s]
   exact g1
theorem quo_at {s r b : List UInt8} {a : Nat} (h : Vw s a (b.flatMap qc ++ 34 :: r)) (hb : b.length ≤ 10000000) : ∃ a' : Nat, m_coresecref03_parser_quoted (s, ((a : Int), false)) = some (b, (s, ((a' : Int), false))) ∧ Vw s a' r := by
 obtain ⟨a', e, hv⟩ := quo_run r b [] a FUEL h (by rw [fuel_eq]; omega) (by rw [List.length_nil]; omega)
 refine ⟨a' + 1, ?_, hv.one⟩
 rw [quo_def, e, bnd_s]
 dsimp only
 rw [cd_f, take_yes (w := [34]) hv, bnd_s]
 rfl
theorem rquo_ex {s : List UInt8} {a : Nat} (ha : a ≤ s.length) (hs : s.length ≤ 9000000) (bad : Bool) : ∃ b a' b2, m_coresecref03_parser_quoted (s, ((a : Int), bad)) = some (b, (s, (((a' : Nat) : Int), b2))) ∧ a ≤ a' ∧ a' ≤ s.length := by
 have h := loopF_ex (S := List UInt8 × S_diag_parser) (R := List UInt8 × S_diag_parser) (b := quoB) (fun n x => ∃ (k : Nat) (b' : Bool), x.2 = (s, ((k : Int), b')) ∧ k + n = s.length ∧ a ≤ k ∧ x.1.length ≤ k) (fun r => ∃ (k : Nat) (b' : Bool), r.2 = (s, ((k : Int), b')) ∧ a ≤ k ∧ k ≤ s.length) (fun n x self hI ih => ?_) FUEL (s.length - a) ([], (s, ((a : Int), bad))) (by rw [fuel_eq]; omega) ⟨a, bad, rfl, by omega, Nat.le_refl _, by simp⟩
 ·obtain ⟨⟨b, q⟩, hr, k, b', hq, hk1, hk2⟩ := h
  have hq : q = (s, ((k : Int), b')) := hq
  subst hq
  rw [quo_def, hr, bnd_s]
  dsimp only
  cases b' with
  | true => exact ⟨b, k, true, rfl, hk1, hk2⟩
  | false =>
   obtain ⟨t, a', e, h1, h2, _⟩ := take_ex hk2 hs [34] false
   rw [cd_f, e, bnd_s]
   exact ⟨b, a', !t, rfl, by omega, h2⟩
 ·obtain ⟨acc, st⟩ := x
  obtain ⟨k, b', hst, hkn, hak, hacc⟩ := hI
  have hst : st = (s, ((k : Int), b')) := hst
  have hacc : acc.length ≤ k := hacc
  subst hst
  unfold quoB
  dsimp only
  have happ : ∀ x : List UInt8, x.length ≤ 10 → app acc x = some (acc ++ x) := fun x hx => app_some' (by omega)
  have done : ∀ (k' : Nat) (b'' : Bool), k ≤ k' → k' ≤ s.length → ∃ r, (some (acc, (s, ((k' : Int), b''))) : Option (List UInt8 × S_diag_parser)) = some r ∧ ∃ (k : Nat) (b' : Bool), r.2 = (s, ((k : Int), b')) ∧ a ≤ k ∧ k ≤ s.length := fun k' b'' h1 h2 => ⟨_, rfl, k', b'', rfl, by omega, h2⟩
  have step : ∀ (acc' : List UInt8) (k' : Nat) (b'' : Bool), k < k' → k' ≤ s.length → acc'.length ≤ k' → ∃ r, self (acc', (s, ((k' : Int), b''))) = some r ∧ ∃ (k : Nat) (b' : Bool), r.2 = (s, ((k : Int), b')) ∧ a ≤ k ∧ k ≤ s.length := fun acc' k' b'' h1 h2 h3 => ih (s.length - k') _ (by omega) ⟨k', b'', rfl, by omega, by omega, h3⟩
  refine bex2 (fun v => v = true → k < s.length) ?_ fun v6 hv6 => cex2 (fun hc => ?_) (fun _ => done k b' (Nat.le_refl _) (by omega))
  ·rw [letm_e, lt_dec]
   refine cex2 (fun hc => ?_) (fun _ => ⟨false, rfl, fun h => Bool.noConfusion h⟩)
   rw [decide_eq_true_eq] at hc
   rw [idx_some' (List.getElem?_eq_getElem hc), bnd_s]
   exact ⟨_, rfl, fun _ => hc⟩
  have hk := hv6 hc
  rw [idx_some' (List.getElem?_eq_getElem hk), bnd_s, letm_e, w64_of (by omega) (by omega), show (k : Int) + 1 = ((k + 1 : Nat) : Int) by omega]
  refine lex2 (cex2 (fun _ => ?_) (fun _ => ?_))
  ·rw [happ _ (by simp), bnd_s]
   exact step _ (k + 1) b' (by omega) (by omega) (by rw [List.length_append]; simp only [List.length_cons, List.length_nil]; omega)
  obtain ⟨t, a', e, h1, h2, h3⟩ := take_ex (a := k + 1) (by omega) hs [117, 48, 48] b'
  rw [e, bnd_s]
  dsimp only
  refine cex2 (fun _ => lex2 (cex2 (fun _ => done a' b' (by omega) h2) (fun hc => ?_))) (fun _ => lex2 (cex2 (fun hc => ?_) (fun _ => ?_)))
  ·rw [decide_eq_false_iff_not, w64_of (by omega) (by omega)] at hc
   have hcut : ∃ d, Gk.cut s (a' : Int) ((a' + 2 : Nat) : Int) = some d ∧ d.length = 2 := by
    refine ⟨(s.take (a' + 2)).drop a', ?_, ?_⟩
    ·unfold Gk.cut
     rw [if_pos (by omega), Int.toNat_natCast, Int.toNat_natCast]
    ·rw [List.length_drop, List.length_take]; omega
   obtain ⟨d, hd, hdl⟩ := hcut
   rw [letm_e, w64_of (by omega) (by omega), show (a' : Int) + 2 = ((a' + 2 : Nat) : Int) by omega, hd, bnd_s]
   obtain ⟨q, b2, e2, hq, _⟩ := rby_ex s (a' : Int) b' d (by omega)
   rw [e2, bnd_s]
   dsimp only
   rw [happ _ (by omega), bnd_s, letm_e, w64_of (by omega) (by omega), show (a' : Int) + 2 = ((a' + 2 : Nat) : Int) by omega]
   exact step _ (a' + 2) b2 (by omega) (by omega) (by rw [List.length_append]; omega)
  ·rw [lt_dec, decide_eq_true_eq] at hc
   rw [idx_some' (List.getElem?_eq_getElem hc), bnd_s, happ _ (by simp), bnd_s, letm_e, w64_of (by omega) (by omega), show (a' : Int) + 1 = ((a' + 1 : Nat) : Int) by omega]
   exact step _ (a' + 1) b' (by omega) (by omega) (by rw [List.length_append]; simp only [List.length_cons, List.length_nil]; omega)
  ·exact step _ a' b' (by omega) h2 (by omega)
def rlsB (rec : S_diag_parser → Int → Option (Tr × S_diag_parser)) (a1 : Int) (a2 : List UInt8) (a3 : Int) : ((List Tr × S_diag_parser) → Option (List Tr × S_diag_parser)) → (List Tr × S_diag_parser) → Option (List Tr × S_diag_parser) := fun self5 s4 =>
 bnd (β := (Bool × S_diag_parser)) (letm ((!s4.2.2.2)) fun x6 =>
 cond x6 (bnd (m_coresecref03_parser_take s4.2 a2) fun x7 =>
 letm ((!x7.1)) fun x8 =>
 some (x8, x7.2))
 (some (false, s4.2))) fun v9 =>
 cond v9.1 (bnd (β := (List UInt8)) (bnd (β := Bool) (letm ((a1 == 5)) fun x10 =>
 cond x10 (bnd (Gk.rem (s4.1.length : Int) 2) fun x11 =>
 letm ((x11 == 1)) fun x12 =>
 some x12)
 (some false)) fun v13 =>
 cond v13 (some [58, 32])
 (some [44, 32])) fun v14 =>
 bnd (β := (Bool × S_diag_parser)) (letm (decide (0 < (s4.1.length : Int))) fun x15 =>
 cond x15 (bnd (m_coresecref03_parser_take v9.2 v14) fun x16 =>
 letm ((!x16.1)) fun x17 =>
 cond x17 (some (true, x16.2))
 (letm (decide (256 < (s4.1.length : Int))) fun x18 =>
 some (x18, x16.2)))
 (letm (decide (256 < (s4.1.length : Int))) fun x19 =>
 some (x19, v9.2))) fun v20 =>
 cond v20.1 (some (s4.1, (v20.2.1, (v20.2.2.1, true))))
 (letm ((w64 (a3 + 1))) fun x21 =>
 bnd (rec v20.2 x21) fun x22 =>
 bnd (app s4.1 [x22.1]) fun x23 =>
 self5 (x23, x22.2)))
 (some (s4.1, v9.2))
theorem rls_def (rec) (p : S_diag_parser) (a1 a2 a3) : b_coresecref03_parser_list rec p a1 a2 a3 = bnd (loopF (rlsB rec a1 a2 a3) FUEL ([], p)) fun v24 => some ((Tr.mk a1 0 [] v24.1), v24.2) := rfl
def rtl (rec : S_diag_parser → Int → Option (Tr × S_diag_parser)) (a1 : Int) (p : S_diag_parser) : Option (Tr × S_diag_parser) :=
 bnd (m_coresecref03_parser_take p [91]) fun x8 =>
 cond x8.1 (bnd (b_coresecref03_parser_list rec x8.2 4 [93] a1) fun x9 =>
 some (x9.1, x9.2))
 (bnd (m_coresecref03_parser_take x8.2 [123]) fun x10 =>
 cond x10.1 (bnd (b_coresecref03_parser_list rec x10.2 5 [125] a1) fun x11 =>
 some (x11.1, x11.2))
 (bnd (m_coresecref03_parser_take x10.2 [104, 39]) fun x12 =>
 cond x12.1 (bnd (m_coresecref03_parser_until x12.2 39) fun x13 =>
 bnd (m_coresecref03_parser_bytes x13.2 x13.1) fun x14 =>
 some ((Tr.mk 2 0 x14.1 []), x14.2))
 (bnd (m_coresecref03_parser_take x12.2 [34]) fun x15 =>
 cond x15.1 (bnd (m_coresecref03_parser_quoted x15.2) fun x16 =>
 some ((Tr.mk 3 0 x16.1 []), x16.2))
 (bnd (m_coresecref03_parser_take x15.2 [115, 105, 109, 112, 108, 101, 40]) fun x17 =>
 cond x17.1 (bnd (m_coresecref03_parser_number x17.2) fun x18 =>
 bnd (β := S_diag_parser) (cond x18.2.2.2 (some (x18.2.1, (x18.2.2.1, true)))
 (bnd (m_coresecref03_parser_take x18.2 [41]) fun x19 =>
 letm ((!x19.1)) fun x20 =>
 some (x19.2.1, (x19.2.2.1, x20)))) fun v21 =>
 some ((Tr.mk 7 x18.1 [] []), v21))
 (bnd (m_coresecref03_parser_take x17.2 [102, 108, 111, 97, 116, 39]) fun x22 =>
 cond x22.1 (bnd (m_coresecref03_parser_until x22.2 39) fun x23 =>
 bnd (m_coresecref03_parser_bytes x23.2 x23.1) fun x24 =>
 loopL (R := (Go.Gk.Tr × S_diag_parser)) (S := UInt64) (α := UInt8) (fun _ s26 =>
 some ((Tr.mk 8 s26 [] []), x24.2))
 (fun x27 _ s29 self30 =>
 bnd ((shlK .u64 (s29 : UInt64) (UInt64.toNat 8 : Int) : Option UInt64)) fun (x31 : UInt64) =>
 letm ((toU64 (UInt8.toNat x27 : Int))) fun x32 =>
 letm ((bitK .or .u64 (x31 : UInt64) (x32 : UInt64) : UInt64)) fun x33 =>
 self30 x33) x24.1 0 0)
 (bnd (m_coresecref03_parser_take x22.2 [45]) fun x34 =>
 cond x34.1 (bnd (m_coresecref03_parser_number x34.2) fun x35 =>
 letm ((x35.1 - 1)) fun x36 =>
 some ((Tr.mk 1 x36 [] []), x35.2))
 (bnd (m_coresecref03_parser_number x34.2) fun x37 =>
 bnd (m_coresecref03_parser_take x37.2 [40]) fun x38 =>
 letm ((!x38.1)) fun x39 =>
 cond x39 (some ((Tr.mk 0 x37.1 [] []), x38.2))
 (letm ((w64 (a1 + 1))) fun x40 =>
 bnd (rec x38.2 x40) fun x41 =>
 bnd (β := S_diag_parser) (cond x41.2.2.2 (some (x41.2.1, (x41.2.2.1, true)))
 (bnd (m_coresecref03_parser_take x41.2 [41]) fun x42 =>
 letm ((!x42.1)) fun x43 =>
 some (x42.2.1, (x42.2.2.1, x43)))) fun v44 =>
 some ((Tr.mk 6 x37.1 [] [x41.1]), v44)))))))))
theorem rit_def (rec) (a0 : S_diag_parser) (a1 : Int) : b_coresecref03_parser_item rec a0 a1 = bnd (β := S_diag_parser) (bnd (β := Bool) (letm (decide (9 < a1)) fun x2 => cond x2 (some true) (letm (decide ((a0.1.length : Int) ≤ a0.2.1)) fun x3 => some x3)) fun v4 => cond v4 (some (a0.1, (a0.2.1, true))) (some a0)) fun v5 =>
  cond v5.2.2 (some ((Tr.mk 0 0 [] []), v5)) (loopL (R := (Go.Gk.Tr × S_diag_parser)) (S := (S_diag_parser × Go.Gk.Tr)) (α := (List UInt8)) (fun _ s7 => rtl rec a1 s7.1) (fun x45 k46 s47 self48 =>
   bnd (m_coresecref03_parser_take s47.1 x45) fun x49 =>
   cond x49.1 (letm ((w64 (20 + (k46 : Int)))) fun x50 =>
   letm ((toU64 x50)) fun x51 =>
   some ((Tr.mk 7 x51 [] []), x49.2))
   (self48 (x49.2, s47.2))) nmL 0 (v5, (Tr.mk 0 0 [] []))) := rfl
def RtQ (s : List UInt8) (a : Nat) (r : Tr × S_diag_parser) : Prop := ∃ (a' : Nat) (b' : Bool), r.2 = (s, ((a' : Int), b')) ∧ a ≤ a' ∧ a' ≤ s.length ∧ (b' = false → a < a')
theorem rlist_ex (rec : S_diag_parser → Int → Option (Tr × S_diag_parser)) (lv : Int) (h0 : 0 ≤ lv) (h1 : lv ≤ 100) (s : List UInt8) (hs : s.length ≤ 9000000) (hr : ∀ (a : Nat) (bad : Bool), a ≤ s.length → ∃ r, rec (s, ((a : Int), bad)) (lv + 1) = some r ∧ RtQ s a r) (k : Int) (e : List UInt8) (a : Nat) (bad : Bool) (ha : a ≤ s.length) :
  ∃ r, b_coresecref03_parser_list rec (s, ((a : Int), bad)) k e lv = some r ∧ ∃ (a' : Nat) (b' : Bool), r.2 = (s, ((a' : Int), b')) ∧ a ≤ a' ∧ a' ≤ s.length := by
 rw [rls_def]
 refine bex2 (fun v => ∃ (a' : Nat) (b' : Bool), v.2 = (s, ((a' : Int), b')) ∧ a ≤ a' ∧ a' ≤ s.length) ?_ fun v hv => ⟨_, rfl, hv⟩
 refine loopF_ex (S := List Tr × S_diag_parser) (R := List Tr × S_diag_parser) (b := rlsB rec k e lv) (fun n x => ∃ (t : Nat) (bd : Bool), x.2 = (s, ((t : Int), bd)) ∧ t + n = s.length + (bif bd then 0 else 1) ∧ a ≤ t ∧ x.1.length ≤ 1000 ∧ t ≤ s.length) (fun v => ∃ (a' : Nat) (b' : Bool), v.2 = (s, ((a' : Int), b')) ∧ a ≤ a' ∧ a' ≤ s.length) (fun n x self hI ih => ?_) FUEL (s.length - a + (bif bad then 0 else 1)) ([], (s, ((a : Int), bad))) (by rw [fuel_eq]; cases bad <;> simp <;> omega) ⟨a, bad, rfl, by omega, Nat.le_refl _, by simp, ha⟩
 obtain ⟨l, st⟩ := x
 obtain ⟨t, bd, hst, hn, hat, hl, hts⟩ := hI
 have hst : st = (s, ((t : Int), bd)) := hst
 have hl : l.length ≤ 1000 := hl
 subst hst
 unfold rlsB
 dsimp only
 have done : ∀ (l' : List Tr) (t' : Nat) (b' : Bool), a ≤ t' → t' ≤ s.length → ∃ r, (some (l', (s, ((t' : Int), b'))) : Option (List Tr × S_diag_parser)) = some r ∧ ∃ (a' : Nat) (b' : Bool), r.2 = (s, ((a' : Int), b')) ∧ a ≤ a' ∧ a' ≤ s.length := fun l' t' b' g1 g2 => ⟨_, rfl, t', b', rfl, g1, g2⟩
 cases bd with
 | true =>
  exact done l t true hat hts
 | false =>
  have hn : t + n = s.length + 1 := hn
  ·obtain ⟨v, t1, e1, l1, l2, _⟩ := take_ex hts hs e false
   refine bex2 (fun v9 => v9.2 = (s, ((t1 : Int), false))) ?_ fun v9 hv9 => ?_
   ·rw [letm_e, show (!false) = true from rfl, cd_t, e1, bnd_s]
    exact lex2 ⟨_, rfl, rfl⟩
   obtain ⟨ok, q⟩ := v9
   have hv9 : q = (s, ((t1 : Int), false)) := hv9
   subst hv9
   refine cex2 (fun _ => ?_) (fun _ => done l t1 false (by omega) l2)
   refine bex2 (fun w => w.length = 2) ?_ fun w hw => ?_
   ·simp only [letm_e, rem2, bnd_s, cd_and]
    exact cex2 (fun _ => ⟨_, rfl, rfl⟩) (fun _ => ⟨_, rfl, rfl⟩)
   refine bex2 (fun v20 => ∃ t2 : Nat, v20.2 = (s, ((t2 : Int), false)) ∧ t1 ≤ t2 ∧ t2 ≤ s.length ∧ (v20.1 = false → l.length ≤ 256)) ?_ fun v20 hv20 => ?_
   ·refine lex2 (cex2 (fun _ => ?_) (fun _ => lex2 ⟨_, rfl, t1, rfl, Nat.le_refl _, l2, fun h => by
     have h : decide ((256 : Int) < (l.length : Int)) = false := h
     rw [decide_eq_false_iff_not] at h; omega⟩))
    obtain ⟨v2, t2, e2, g1, g2, _⟩ := take_ex l2 hs w false
    show ∃ r, bnd (m_coresecref03_parser_take (s, ((t1 : Int), false)) w) _ = some r ∧ _
    rw [e2, bnd_s]
    refine lex2 (cex2 (fun _ => ⟨_, rfl, t2, rfl, g1, g2, fun h => Bool.noConfusion h⟩) (fun _ => lex2 ⟨_, rfl, t2, rfl, g1, g2, fun h => by
     have h : decide ((256 : Int) < (l.length : Int)) = false := h
     rw [decide_eq_false_iff_not] at h; omega⟩))
   obtain ⟨ok2, q2⟩ := v20
   obtain ⟨t2, hq2, g1, g2, g3⟩ := hv20
   have hq2 : q2 = (s, ((t2 : Int), false)) := hq2
   have g3 : ok2 = false → l.length ≤ 256 := g3
   subst hq2
   refine cex2 (fun _ => done l t2 true (by omega) g2) (fun hc => ?_)
   have hl256 := g3 hc
   rw [letm_e, w64_of (by omega) (by omega)]
   obtain ⟨⟨x3, q3⟩, e3, t3, b3, hq3, p1, p2, p3⟩ := hr t2 false g2
   have hq3 : q3 = (s, ((t3 : Int), b3)) := hq3
   subst hq3
   rw [e3, bnd_s]
   dsimp only
   rw [app_some' (by simp only [List.length_cons, List.length_nil]; omega), bnd_s]
   refine ih (s.length - t3 + (bif b3 then 0 else 1)) _ ?_ ⟨t3, b3, rfl, by omega, by omega, by show (l ++ [x3]).length ≤ _; rw [List.length_append]; simp only [List.length_cons, List.length_nil]; omega, p2⟩
   cases b3 with
   | true => simp; omega
   | false => have := p3 rfl; simp; omega
theorem fold_ex (st : S_diag_parser) : ∀ (l : List UInt8) (i : Nat) (v : UInt64), ∃ n, loopL (R := (Go.Gk.Tr × S_diag_parser)) (S := UInt64) (α := UInt8) (fun _ s26 => some ((Tr.mk 8 s26 [] []), st)) (fun x27 _ s29 self30 =>
  bnd ((shlK .u64 (s29 : UInt64) (UInt64.toNat 8 : Int) : Option UInt64)) fun (x31 : UInt64) =>
  letm ((toU64 (UInt8.toNat x27 : Int))) fun x32 =>
  letm ((bitK .or .u64 (x31 : UInt64) (x32 : UInt64) : UInt64)) fun x33 =>
  self30 x33) l i v = some (Tr.mk 8 n [] [], st)
 | [], i, v => ⟨v, rfl⟩
 | c :: l, i, v => by
  obtain ⟨y, hy⟩ := sl_ex v 8
  obtain ⟨n, hn⟩ := fold_ex st l (i + 1) (bitK .or .u64 y (toU64 (UInt8.toNat c : Int)))
  exact ⟨n, by rw [loopL_cons]; exact bnd_of hy hn⟩
theorem rtl_ex (rec : S_diag_parser → Int → Option (Tr × S_diag_parser)) (lv : Int) (h0 : 0 ≤ lv) (h1 : lv ≤ 100) (s : List UInt8) (hs : s.length ≤ 9000000) (hr : ∀ (a : Nat) (bad : Bool), a ≤ s.length → ∃ r, rec (s, ((a : Int), bad)) (lv + 1) = some r ∧ RtQ s a r) (a : Nat) (ha : a ≤ s.length) :
  ∃ r, rtl rec lv (s, ((a : Int), false)) = some r ∧ RtQ s a r := by
 unfold rtl
 have done : ∀ (x : Tr) (t' : Nat) (b' : Bool), a < t' → t' ≤ s.length → ∃ r, (some (x, (s, ((t' : Int), b'))) : Option (Tr × S_diag_parser)) = some r ∧ RtQ s a r := fun x t' b' g1 g2 => ⟨_, rfl, t', b', rfl, by omega, g2, fun _ => g1⟩
 obtain ⟨v1, a1, e1, l1, m1, g1⟩ := take_ex ha hs [91] false
 rw [e1, bnd_s]
 refine cex2 (fun hc => ?_) (fun _ => ?_)
 ·have g1 := g1 hc
  simp only [List.length_cons, List.length_nil] at g1
  obtain ⟨⟨x, q⟩, e, t, b', hq, p1, p2⟩ := rlist_ex rec lv h0 h1 s hs hr 4 [93] a1 false m1
  have hq : q = (s, ((t : Int), b')) := hq
  subst hq
  show ∃ r, bnd (b_coresecref03_parser_list rec (s, ((a1 : Int), false)) 4 [93] lv) _ = some r ∧ _
  rw [e, bnd_s]
  exact done _ t b' (by omega) p2
 obtain ⟨v2, a2, e2, l2, m2, g2⟩ := take_ex m1 hs [123] false
 show ∃ r, bnd (m_coresecref03_parser_take (s, ((a1 : Int), false)) [123]) _ = some r ∧ _
 rw [e2, bnd_s]
 refine cex2 (fun hc => ?_) (fun _ => ?_)
 ·have g2 := g2 hc
  simp only [List.length_cons, List.length_nil] at g2
  obtain ⟨⟨x, q⟩, e, t, b', hq, p1, p2⟩ := rlist_ex rec lv h0 h1 s hs hr 5 [125] a2 false m2
  have hq : q = (s, ((t : Int), b')) := hq
  subst hq
  show ∃ r, bnd (b_coresecref03_parser_list rec (s, ((a2 : Int), false)) 5 [125] lv) _ = some r ∧ _
  rw [e, bnd_s]
  exact done _ t b' (by omega) p2
 obtain ⟨v3, a3, e3, l3, m3, g3⟩ := take_ex m2 hs [104, 39] false
 show ∃ r, bnd (m_coresecref03_parser_take (s, ((a2 : Int), false)) [104, 39]) _ = some r ∧ _
 rw [e3, bnd_s]
 refine cex2 (fun hc => ?_) (fun _ => ?_)
 ·have g3 := g3 hc
  simp only [List.length_cons, List.length_nil] at g3
  obtain ⟨dd, t, b', e, p1, p2, p3⟩ := until_ex m3 hs 39 false
  show ∃ r, bnd (m_coresecref03_parser_until (s, ((a3 : Int), false)) 39) _ = some r ∧ _
  rw [e, bnd_s]
  obtain ⟨q, b2, e', _, _⟩ := rby_ex s (t : Int) b' dd (by omega)
  show ∃ r, bnd (m_coresecref03_parser_bytes (s, ((t : Int), b')) dd) _ = some r ∧ _
  rw [e', bnd_s]
  exact done _ t b2 (by omega) p2
 obtain ⟨v4, a4, e4, l4, m4, g4⟩ := take_ex m3 hs [34] false
 show ∃ r, bnd (m_coresecref03_parser_take (s, ((a3 : Int), false)) [34]) _ = some r ∧ _
 rw [e4, bnd_s]
 refine cex2 (fun hc => ?_) (fun _ => ?_)
 ·have g4 := g4 hc
  simp only [List.length_cons, List.length_nil] at g4
  obtain ⟨q, t, b', e, p1, p2⟩ := rquo_ex m4 hs false
  show ∃ r, bnd (m_coresecref03_parser_quoted (s, ((a4 : Int), false))) _ = some r ∧ _
  rw [e, bnd_s]
  exact done _ t b' (by omega) p2
 obtain ⟨v5, a5, e5, l5, m5, g5⟩ := take_ex m4 hs [115, 105, 109, 112, 108, 101, 40] false
 show ∃ r, bnd (m_coresecref03_parser_take (s, ((a4 : Int), false)) [115, 105, 109, 112, 108, 101, 40]) _ = some r ∧ _
 rw [e5, bnd_s]
 refine cex2 (fun hc => ?_) (fun _ => ?_)
 ·have g5 := g5 hc
  simp only [List.length_cons, List.length_nil] at g5
  obtain ⟨n, t, b', e, p1, p2, _, _⟩ := rnum_ex m5 hs false
  show ∃ r, bnd (m_coresecref03_parser_number (s, ((a5 : Int), false))) _ = some r ∧ _
  rw [e, bnd_s]
  refine bex2 (fun p => ∃ (t' : Nat) (b' : Bool), p = (s, ((t' : Int), b')) ∧ a < t' ∧ t' ≤ s.length) ?_ fun p hp => ?_
  ·refine cex2 (fun _ => ⟨_, rfl, t, true, rfl, by omega, p2⟩) (fun hb => ?_)
   obtain ⟨v6, a6, e6, l6, m6, _⟩ := take_ex p2 hs [41] b'
   show ∃ r, bnd (m_coresecref03_parser_take (s, ((t : Int), b')) [41]) _ = some r ∧ _
   rw [e6, bnd_s]
   exact lex2 ⟨_, rfl, a6, _, rfl, by omega, m6⟩
  ·obtain ⟨t', b'', rfl, q1, q2⟩ := hp
   exact done _ t' b'' q1 q2
 obtain ⟨v6, a6, e6, l6, m6, g6⟩ := take_ex m5 hs [102, 108, 111, 97, 116, 39] false
 show ∃ r, bnd (m_coresecref03_parser_take (s, ((a5 : Int), false)) [102, 108, 111, 97, 116, 39]) _ = some r ∧ _
 rw [e6, bnd_s]
 refine cex2 (fun hc => ?_) (fun _ => ?_)
 ·have g6 := g6 hc
  simp only [List.length_cons, List.length_nil] at g6
  obtain ⟨dd, t, b', e, p1, p2, p3⟩ := until_ex m6 hs 39 false
  show ∃ r, bnd (m_coresecref03_parser_until (s, ((a6 : Int), false)) 39) _ = some r ∧ _
  rw [e, bnd_s]
  obtain ⟨q, b2, e', _, _⟩ := rby_ex s (t : Int) b' dd (by omega)
  show ∃ r, bnd (m_coresecref03_parser_bytes (s, ((t : Int), b')) dd) _ = some r ∧ _
  rw [e', bnd_s]
  obtain ⟨n, hn⟩ := fold_ex (s, ((t : Int), b2)) q 0 0
  refine ⟨_, hn, t, b2, rfl, by omega, p2, fun _ => by omega⟩
 obtain ⟨v7, a7, e7, l7, m7, g7⟩ := take_ex m6 hs [45] false
 show ∃ r, bnd (m_coresecref03_parser_take (s, ((a6 : Int), false)) [45]) _ = some r ∧ _
 rw [e7, bnd_s]
 refine cex2 (fun hc => ?_) (fun _ => ?_)
 ·have g7 := g7 hc
  simp only [List.length_cons, List.length_nil] at g7
  obtain ⟨n, t, b', e, p1, p2, _, _⟩ := rnum_ex m7 hs false
  show ∃ r, bnd (m_coresecref03_parser_number (s, ((a7 : Int), false))) _ = some r ∧ _
  rw [e, bnd_s]
  exact lex2 (done _ t b' (by omega) p2)
 obtain ⟨n, t, b', e, p1, p2, p3, p4⟩ := rnum_ex m7 hs false
 show ∃ r, bnd (m_coresecref03_parser_number (s, ((a7 : Int), false))) _ = some r ∧ _
 rw [e, bnd_s]
 obtain ⟨v8, a8, e8, l8, m8, g8⟩ := take_ex p2 hs [40] b'
 show ∃ r, bnd (m_coresecref03_parser_take (s, ((t : Int), b')) [40]) _ = some r ∧ _
 rw [e8, bnd_s]
 refine lex2 (cex2 (fun _ => ⟨_, rfl, a8, b', rfl, by omega, m8, fun hb => by have := p3 hb; omega⟩) (fun hc => ?_))
 have g8 := g8 (by revert hc; cases v8 <;> simp)
 simp only [List.length_cons, List.length_nil] at g8
 rw [letm_e, w64_of (by omega) (by omega)]
 obtain ⟨⟨x3, q3⟩, e3, t3, b3, hq3, r1, r2, r3⟩ := hr a8 b' m8
 have hq3 : q3 = (s, ((t3 : Int), b3)) := hq3
 subst hq3
 show ∃ r, bnd (rec (s, ((a8 : Int), b')) (lv + 1)) _ = some r ∧ _
 rw [e3, bnd_s]
 refine bex2 (fun p => ∃ (t' : Nat) (b' : Bool), p = (s, ((t' : Int), b')) ∧ a < t' ∧ t' ≤ s.length) ?_ fun p hp => ?_
 ·refine cex2 (fun _ => ⟨_, rfl, t3, true, rfl, by omega, r2⟩) (fun hb => ?_)
  obtain ⟨v9, a9, e9, l9, m9, _⟩ := take_ex r2 hs [41] b3
  show ∃ r, bnd (m_coresecref03_parser_take (s, ((t3 : Int), b3)) [41]) _ = some r ∧ _
  rw [e9, bnd_s]
  exact lex2 ⟨_, rfl, a9, _, rfl, by omega, m9⟩
 ·obtain ⟨t', b'', rfl, q1, q2⟩ := hp
  exact done _ t' b'' q1 q2
theorem ritem_step (rec : S_diag_parser → Int → Option (Tr × S_diag_parser)) (lv : Int) (h0 : 0 ≤ lv) (h1 : lv ≤ 100) (s : List UInt8) (hs : s.length ≤ 9000000) (hr : lv ≤ 9 → ∀ (a : Nat) (bad : Bool), a ≤ s.length → ∃ r, rec (s, ((a : Int), bad)) (lv + 1) = some r ∧ RtQ s a r) (a : Nat) (bad : Bool) (ha : a ≤ s.length) :
  ∃ r, b_coresecref03_parser_item rec (s, ((a : Int), bad)) lv = some r ∧ RtQ s a r := by
 rw [rit_def]
 refine bex2 (fun v => ∃ b', v = (s, ((a : Int), b')) ∧ (b' = false → lv ≤ 9)) ?_ fun v5 hv5 => ?_
 ·rw [letm_e, letm_e, cd_or, bnd_s]
  refine cex2 (fun _ => ⟨_, rfl, true, rfl, fun h => Bool.noConfusion h⟩) (fun hc => ⟨_, rfl, bad, rfl, fun _ => ?_⟩)
  simp only [Bool.or_eq_false_iff, decide_eq_false_iff_not] at hc
  omega
 obtain ⟨b', rfl, hlv⟩ := hv5
 refine cex2 (fun hc => ⟨_, rfl, a, b', rfl, Nat.le_refl _, ha, fun h => by have hc : b' = true := hc; rw [hc] at h; cases h⟩) (fun hc => ?_)
 have hc : b' = false := hc
 subst hc
 have hr := hr (hlv rfl)
 have key : ∀ (l : List (List UInt8)) (k t : Nat), (∀ w, w ∈ l → 1 ≤ w.length) → a ≤ t → t ≤ s.length → ∃ r, loopL (R := (Go.Gk.Tr × S_diag_parser)) (S := (S_diag_parser × Go.Gk.Tr)) (α := (List UInt8)) (fun _ s7 => rtl rec lv s7.1) (fun x45 k46 s47 self48 =>
   bnd (m_coresecref03_parser_take s47.1 x45) fun x49 =>
   cond x49.1 (letm ((w64 (20 + (k46 : Int)))) fun x50 =>
   letm ((toU64 x50)) fun x51 =>
   some ((Tr.mk 7 x51 [] []), x49.2))
   (self48 (x49.2, s47.2))) l k ((s, ((t : Int), false)), Tr.mk 0 0 [] []) = some r ∧ RtQ s a r := by
  intro l
  induction l with
  | nil =>
   intro k t _ h2 h3
   rw [loopL_nil]
   obtain ⟨r, hr1, a', b', hq, p1, p2, p3⟩ := rtl_ex rec lv h0 h1 s hs hr t h3
   exact ⟨r, hr1, a', b', hq, by omega, p2, fun hb => by have := p3 hb; omega⟩
  | cons w l ih =>
   intro k t hw h2 h3
   obtain ⟨v, t1, e1, l1, m1, g1⟩ := take_ex h3 hs w false
   rw [loopL_cons]
   show ∃ r, bnd (m_coresecref03_parser_take (s, ((t : Int), false)) w) _ = some r ∧ _
   rw [e1, bnd_s]
   refine cex2 (fun hc => ?_) (fun _ => ih (k + 1) t1 (fun x hx => hw x (by simp [hx])) (by omega) m1)
   have g1 := g1 hc
   have := hw w (by simp)
   exact lex2 (lex2 ⟨_, rfl, t1, false, rfl, by omega, m1, fun _ => by omega⟩)
 exact key nmL 0 a (fun w hw => by
  simp only [nmL, List.mem_cons, List.not_mem_nil, or_false] at hw
  rcases hw with rfl | rfl | rfl | rfl <;> simp) (Nat.le_refl _) ha
theorem ritem_ex (s : List UInt8) (hs : s.length ≤ 9000000) (j : Nat) : ∀ (d : Nat) (lv : Int), d ≤ 10 → lv = 10 - (d : Int) → ∀ (a : Nat) (bad : Bool), a ≤ s.length → ∃ r, n_coresecref03_parser_item (j + d + 1) (s, ((a : Int), bad)) lv = some r ∧ RtQ s a r
 | 0, lv, hd, hlv, a, bad, ha => ritem_step _ lv (by omega) (by omega) s hs (fun h => absurd h (by omega)) a bad ha
 | d + 1, lv, hd, hlv, a, bad, ha => ritem_step _ lv (by omega) (by omega) s hs (fun _ a bad ha => ritem_ex s hs j d (lv + 1) (by omega) (by omega) a bad ha) a bad ha
theorem rparse_shape (s : List UInt8) (hs : s.length ≤ 9000000) : (∃ x, m_coresecref03_Parse s = some (x, 0) ∧ okT x = true ∧ txT x = s) ∨ m_coresecref03_Parse s = some (Tr.mk 0 0 [] [], 17) := by
 obtain ⟨⟨x, q⟩, e, a', b', hq, _⟩ := ritem_ex s hs 29 10 0 (by omega) (by omega) 0 false (Nat.zero_le _)
 have hq : q = (s, ((a' : Int), b')) := hq
 subst hq
 have e : m_coresecref03_parser_item (s, (0, false)) 0 = some (x, (s, ((a' : Int), b'))) := e
 unfold m_coresecref03_Parse
 rw [e, bnd_s]
 dsimp only
 rw [letm_e]
 have h2 : cond b' (some true) (some (decide ((a' : Int) < (s.length : Int)))) = some (b' || decide ((a' : Int) < (s.length : Int))) := cd_or _ _
 rw [h2, bnd_s]
 cases hv : (b' || decide ((a' : Int) < (s.length : Int))) with
 | true => exact .inr rfl
 | false =>
  rw [cd_f, print_ref, bnd_s, letm_e, letm_e, cd_or, bnd_s]
  unfold prS
  by_cases hok : okT x = true
  ·rw [if_pos hok]
   dsimp only
   by_cases ht : txT x = s
   ·rw [show ((0 : Int) != 0 || txT x != s) = false by rw [ht]; simp, cd_f]
    exact .inl ⟨x, rfl, hok, ht⟩
   ·rw [show ((0 : Int) != 0 || txT x != s) = true by rw [Bool.or_eq_true]; exact .inr (by rw [bne_iff_ne]; exact ht), cd_t]
    exact .inr rfl
  ·rw [if_neg hok]
   exact .inr rfl
def RrQ (rec : S_diag_parser → Int → Option (Tr × S_diag_parser)) (lv : Int) (d : Nat) : Prop :=
 ∀ (y : Tr) (s : List UInt8) (a : Nat) (r : List UInt8), vT y d = true → cntT y ≤ 256 → folB r → Vw s a (txT y ++ r) → ∃ a' : Nat, rec (s, ((a : Int), false)) lv = some (y, (s, ((a' : Int), false))) ∧ Vw s a' r
theorem rls_end (rec) (k : Int) (e : UInt8) (lv : Int) (acc : List Tr) {s r : List UInt8} {a : Nat} (h : Vw s a (e :: r)) (f : Nat) : loopF (rlsB rec k [e] lv) (f + 1) (acc, (s, ((a : Int), false))) = some (acc, (s, (((a + 1 : Nat) : Int), false))) := by
 rw [loopF_succ]
 unfold rlsB
 dsimp only
 refine bnd_of (y := (false, (s, (((a + 1 : Nat) : Int), false)))) ?_ rfl
 rw [letm_e, show (!false) = true from rfl, cd_t, take_yes (w := [e]) h, bnd_s]
 rfl
theorem rls_run (rec) (k : Int) (lv : Int) (h0 : -100 ≤ lv) (h1 : lv ≤ 100) (d : Nat) (hr : RrQ rec (lv + 1) d) (e : UInt8) (he : startB e = false) (he44 : e ≠ 44) (he58 : e ≠ 58) (heD : isD e = false) (he40 : e ≠ 40) : ∀ (l acc : List Tr) (s r : List UInt8) (a f : Nat), vL l d = true → cntL l ≤ 255 → l.length < f → acc.length + l.length ≤ 256 → Vw s a (txL l (k == 5) acc.length ++ e :: r) →
  ∃ a' : Nat, loopF (rlsB rec k [e] lv) f (acc, (s, ((a : Int), false))) = some (acc ++ l, (s, ((a' : Int), false))) ∧ Vw s a' r
 | [], acc, s, r, a, f, _, _, hf, _, hv => by
  obtain ⟨f, rfl⟩ : ∃ f', f = f' + 1 := ⟨f - 1, by simp at hf; omega⟩
  rw [txL_nil, List.nil_append] at hv
  exact ⟨a + 1, by rw [rls_end rec k e lv acc hv f, List.append_nil], hv.one⟩
 | x :: l, acc, s, r, a, f, hl, hc, hf, ha, hv => by
  obtain ⟨f, rfl⟩ : ∃ f', f = f' + 1 := ⟨f - 1, by simp at hf; omega⟩
  rw [vL_cons, Bool.and_eq_true] at hl
  rw [cntL_cons] at hc
  rw [List.length_cons] at ha hf
  have e0 : txL (x :: l) (k == 5) acc.length ++ e :: r = sepT (k == 5) acc.length ++ (txT x ++ (txL l (k == 5) (acc.length + 1) ++ e :: r)) := by rw [txL_cons]; simp
  rw [e0] at hv
  have hno : preB (sepT (k == 5) acc.length ++ (txT x ++ (txL l (k == 5) (acc.length + 1) ++ e :: r))) [e] = false := by
   unfold sepT
   split
   ·exact txt_no x d hl.1 _ e he []
   ·split
    ·exact preB_ne (Ne.symm he58) _ _
    ·exact preB_ne (Ne.symm he44) _ _
  have hitem : ∀ a1 : Nat, Vw s a1 (txT x ++ (txL l (k == 5) (acc.length + 1) ++ e :: r)) → ∃ a' : Nat, (bnd (rec (s, ((a1 : Int), false)) (w64 (lv + 1))) fun x22 => bnd (app acc [x22.1]) fun x23 => loopF (rlsB rec k [e] lv) f (x23, x22.2)) = some (acc ++ x :: l, (s, ((a' : Int), false))) ∧ Vw s a' r := by
   intro a1 hv1
   obtain ⟨a2, e2, hv2⟩ := hr x s a1 _ hl.1 (by omega) (fol_rest l (k == 5) _ (by omega) e r heD he40) hv1
   rw [w64_of (by omega) (by omega), e2, bnd_s, app_some' (by simp only [List.length_cons, List.length_nil]; omega), bnd_s]
   have ih := rls_run rec k lv h0 h1 d hr e he he44 he58 heD he40 l (acc ++ [x]) s r a2 f hl.2 (by omega) (by omega) (by rw [List.length_append]; simp only [List.length_cons, List.length_nil]; omega) (by rw [show (acc ++ [x]).length = acc.length + 1 by simp]; exact hv2)
   obtain ⟨a3, e3, hv3⟩ := ih
   exact ⟨a3, by rw [e3]; simp, hv3⟩
  have start : loopF (rlsB rec k [e] lv) (f + 1) (acc, (s, ((a : Int), false))) = bnd (β := (List UInt8)) (bnd (β := Bool) (letm ((k == 5)) fun x10 => cond x10 (bnd (Gk.rem (acc.length : Int) 2) fun x11 => letm ((x11 == 1)) fun x12 => some x12) (some false)) fun v13 => cond v13 (some [58, 32]) (some [44, 32])) fun v14 =>
    bnd (β := (Bool × S_diag_parser)) (letm (decide (0 < (acc.length : Int))) fun x15 => cond x15 (bnd (m_coresecref03_parser_take (s, ((a : Int), false)) v14) fun x16 => letm ((!x16.1)) fun x17 => cond x17 (some (true, x16.2)) (letm (decide (256 < (acc.length : Int))) fun x18 => some (x18, x16.2))) (letm (decide (256 < (acc.length : Int))) fun x19 => some (x19, (s, ((a : Int), false))))) fun v20 =>
    cond v20.1 (some (acc, (v20.2.1, (v20.2.2.1, true)))) (letm ((w64 (lv + 1))) fun x21 => bnd (rec v20.2 x21) fun x22 => bnd (app acc [x22.1]) fun x23 => loopF (rlsB rec k [e] lv) f (x23, x22.2)) := by
   rw [loopF_succ]
   unfold rlsB
   dsimp only
   refine bnd_of (y := (true, (s, ((a : Int), false)))) ?_ rfl
   rw [letm_e, show (!false) = true from rfl, cd_t, take_no hv hno, bnd_s]
   rfl
  rw [start]
  simp only [letm_e, rem2, bnd_s, cd_and, i1, pos_dec]
  by_cases h00 : acc.length = 0
  ·rw [show decide (0 < acc.length) = false from decide_eq_false (by omega)]
   have hs0 : sepT (k == 5) acc.length = [] := by unfold sepT; rw [if_pos h00]
   rw [hs0, List.nil_append] at hv
   have h256 : decide ((256 : Int) < (acc.length : Int)) = false := decide_eq_false (by omega)
   obtain ⟨a', e1, hv'⟩ := hitem a hv
   refine ⟨a', ?_, hv'⟩
   cases hk : (k == 5 && acc.length % 2 == 1) with
   | true => rw [cd_t, bnd_s, cd_f, h256, bnd_s]; exact e1
   | false => rw [cd_f, bnd_s, cd_f, h256, bnd_s]; exact e1
  ·have hs1 : sepT (k == 5) acc.length = cond (k == 5 && acc.length % 2 == 1) [58, 32] [44, 32] := by
    unfold sepT
    rw [if_neg h00]
    cases (k == 5 && acc.length % 2 == 1) <;> rfl
   have h256 : decide ((256 : Int) < (acc.length : Int)) = false := decide_eq_false (by omega)
   rw [show decide (0 < acc.length) = true from decide_eq_true (by omega)]
   rw [hs1] at hv
   cases hk : (k == 5 && acc.length % 2 == 1) with
   | true =>
    rw [hk, cond_true] at hv
    obtain ⟨a', e1, hv'⟩ := hitem (a + 2) hv.adv
    refine ⟨a', ?_, hv'⟩
    rw [cd_t, bnd_s, cd_t, take_yes hv, bnd_s]
    dsimp only
    rw [show (!true) = false from rfl, cd_f, h256, bnd_s]
    exact e1
   | false =>
    rw [hk, cond_false] at hv
    obtain ⟨a', e1, hv'⟩ := hitem (a + 2) hv.adv
    refine ⟨a', ?_, hv'⟩
    rw [cd_f, bnd_s, cd_t, take_yes hv, bnd_s]
    dsimp only
    rw [show (!true) = false from rfl, cd_f, h256, bnd_s]
    exact e1
theorem rit_names (rec) (lv : Int) (hlv : lv ≤ 9) {s v : List UInt8} {a : Nat} (h : Vw s a v) (hne : v ≠ []) (h1 : preB v [102, 97, 108, 115, 101] = false) (h2 : preB v [116, 114, 117, 101] = false) (h3 : preB v [110, 117, 108, 108] = false) (h4 : preB v [117, 110, 100, 101, 102, 105, 110, 101, 100] = false) :
  b_coresecref03_parser_item rec (s, ((a : Int), false)) lv = rtl rec lv (s, ((a : Int), false)) := by
 have hl := h.len
 have hv : 1 ≤ v.length := by cases v with | nil => exact absurd rfl hne | cons _ _ => simp
 rw [rit_def]
 refine bnd_of (y := (s, ((a : Int), false))) ?_ ?_
 ·rw [letm_e, decide_eq_false (by omega), cd_f, letm_e, show decide (((s, ((a : Int), false)) : S_diag_parser).1.length ≤ ((s, ((a : Int), false)) : S_diag_parser).2.1) = false from decide_eq_false (by show ¬ (s.length : Int) ≤ (a : Int); omega), bnd_s]
  rfl
 dsimp only
 unfold nmL
 rw [cd_f, loopL_cons, take_no h h1, bnd_s]
 dsimp only
 rw [cd_f, loopL_cons, take_no h h2, bnd_s]
 dsimp only
 rw [cd_f, loopL_cons, take_no h h3, bnd_s]
 dsimp only
 rw [cd_f, loopL_cons, take_no h h4, bnd_s]
 rfl
theorem rit_c (rec) (lv : Int) (hlv : lv ≤ 9) {s v : List UInt8} {c : UInt8} {a : Nat} (h : Vw s a (c :: v)) (h1 : c ≠ 102) (h2 : c ≠ 116) (h3 : c ≠ 110) (h4 : c ≠ 117) : b_coresecref03_parser_item rec (s, ((a : Int), false)) lv = rtl rec lv (s, ((a : Int), false)) :=
 rit_names rec lv hlv h (by simp) (preB_ne h1 _ _) (preB_ne h2 _ _) (preB_ne h3 _ _) (preB_ne h4 _ _)
theorem rit_word (rec) (lv : Int) (hlv : lv ≤ 9) (n : UInt64) (h1 : 20 ≤ n.toNat) (h2 : n.toNat < 24) {s r : List UInt8} {a : Nat} (h : Vw s a (nmL.getD (n.toNat - 20) [] ++ r)) : ∃ a' : Nat, b_coresecref03_parser_item rec (s, ((a : Int), false)) lv = some (Tr.mk 7 n [] [], (s, ((a' : Int), false))) ∧ Vw s a' r := by
 have hn : ∀ v : Nat, n.toNat = v → n = UInt64.ofNat v := fun v h => by rw [← h]; simp
 have hl := h.len
 have hpos : 1 ≤ (nmL.getD (n.toNat - 20) [] ++ r).length := by
  have : n.toNat - 20 = 0 ∨ n.toNat - 20 = 1 ∨ n.toNat - 20 = 2 ∨ n.toNat - 20 = 3 := by omega
  rcases this with e | e | e | e <;> rw [e] <;> simp [nmL]
 rw [rit_def]
 have pre : ∀ (K : S_diag_parser → Option (Tr × S_diag_parser)), bnd (β := S_diag_parser) (bnd (β := Bool) (letm (decide (9 < lv)) fun x2 => cond x2 (some true) (letm (decide (((s, ((a : Int), false)) : S_diag_parser).1.length ≤ ((s, ((a : Int), false)) : S_diag_parser).2.1)) fun x3 => some x3)) fun v4 => cond v4 (some (s, ((a : Int), true))) (some (s, ((a : Int), false)))) K = K (s, ((a : Int), false)) := by
  intro K
  rw [letm_e, decide_eq_false (by omega), cd_f, letm_e, show decide (((s, ((a : Int), false)) : S_diag_parser).1.length ≤ ((s, ((a : Int), false)) : S_diag_parser).2.1) = false from decide_eq_false (by show ¬ (s.length : Int) ≤ (a : Int); omega), bnd_s]
  rfl
 refine ⟨a + (nmL.getD (n.toNat - 20) []).length, ?_, h.adv⟩
 refine (pre _).trans ?_
 dsimp only
 have : n.toNat - 20 = 0 ∨ n.toNat - 20 = 1 ∨ n.toNat - 20 = 2 ∨ n.toNat - 20 = 3 := by omega
 rcases this with e | e | e | e
 ·rw [e] at h ⊢
  rw [hn 20 (by omega)]
  have h : Vw s a ([102, 97, 108, 115, 101] ++ r) := h
  unfold nmL
  rw [cd_f, loopL_cons, take_yes h, bnd_s]
  rfl
 ·rw [e] at h ⊢
  rw [hn 21 (by omega)]
  have h : Vw s a ([116, 114, 117, 101] ++ r) := h
  unfold nmL
  rw [cd_f, loopL_cons, take_no h rfl, bnd_s]
  dsimp only
  rw [cd_f, loopL_cons, take_yes h, bnd_s]
  rfl
 ·rw [e] at h ⊢
  rw [hn 22 (by omega)]
  have h : Vw s a ([110, 117, 108, 108] ++ r) := h
  unfold nmL
  rw [cd_f, loopL_cons, take_no h rfl, bnd_s]
  dsimp only
  rw [cd_f, loopL_cons, take_no h rfl, bnd_s]
  dsimp only
  rw [cd_f, loopL_cons, take_yes h, bnd_s]
  rfl
 ·rw [e] at h ⊢
  rw [hn 23 (by omega)]
  have h : Vw s a ([117, 110, 100, 101, 102, 105, 110, 101, 100] ++ r) := h
  unfold nmL
  rw [cd_f, loopL_cons, take_no h rfl, bnd_s]
  dsimp only
  rw [cd_f, loopL_cons, take_no h rfl, bnd_s]
  dsimp only
  rw [cd_f, loopL_cons, take_no h rfl, bnd_s]
  dsimp only
  rw [cd_f, loopL_cons, take_yes h, bnd_s]
  rfl
theorem rk4 (rec) (lv : Int) (h0 : -100 ≤ lv) (hlv : lv ≤ 9) (d : Nat) (hr : RrQ rec (lv + 1) d) (l : List Tr) (hl : vL l d = true) (hc : cntL l ≤ 255) {s r : List UInt8} {a : Nat} (h : Vw s a (91 :: (txL l false 0 ++ 93 :: r))) : ∃ a' : Nat, b_coresecref03_parser_item rec (s, ((a : Int), false)) lv = some (Tr.mk 4 0 [] l, (s, ((a' : Int), false))) ∧ Vw s a' r := by
 have hll := cntL_len l
 rw [rit_c rec lv hlv h (by decide) (by decide) (by decide) (by decide)]
 obtain ⟨a', e, hv⟩ := rls_run rec 4 lv h0 (by omega) d hr 93 rfl (by decide) (by decide) rfl (by decide) l [] s r (a + 1) FUEL hl hc (by rw [fuel_eq]; omega) (by rw [List.length_nil]; omega) h.one
 refine ⟨a', ?_, hv⟩
 unfold rtl
 rw [take_yes (w := [91]) h, bnd_s]
 dsimp only
 rw [cd_t, rls_def, show ([91] : List UInt8).length = 1 from rfl, e, bnd_s, bnd_s]
 rfl
theorem rk5 (rec) (lv : Int) (h0 : -100 ≤ lv) (hlv : lv ≤ 9) (d : Nat) (hr : RrQ rec (lv + 1) d) (l : List Tr) (hl : vL l d = true) (hc : cntL l ≤ 255) {s r : List UInt8} {a : Nat} (h : Vw s a (123 :: (txL l true 0 ++ 125 :: r))) : ∃ a' : Nat, b_coresecref03_parser_item rec (s, ((a : Int), false)) lv = some (Tr.mk 5 0 [] l, (s, ((a' : Int), false))) ∧ Vw s a' r := by
 have hll := cntL_len l
 rw [rit_c rec lv hlv h (by decide) (by decide) (by decide) (by decide)]
 obtain ⟨a', e, hv⟩ := rls_run rec 5 lv h0 (by omega) d hr 125 rfl (by decide) (by decide) rfl (by decide) l [] s r (a + 1) FUEL hl hc (by rw [fuel_eq]; omega) (by rw [List.length_nil]; omega) h.one
 refine ⟨a', ?_, hv⟩
 unfold rtl
 rw [take_no h (preB_ne (by decide) _ _), bnd_s]
 dsimp only
 rw [cd_f, take_yes (w := [123]) h, bnd_s]
 dsimp only
 rw [cd_t, rls_def, show ([123] : List UInt8).length = 1 from rfl, e, bnd_s, bnd_s]
 rfl
theorem rk2 (rec) (lv : Int) (hlv : lv ≤ 9) (b : List UInt8) {s r : List UInt8} {a : Nat} (h : Vw s a ([104, 39] ++ (hexS b ++ 39 :: r))) : ∃ a' : Nat, b_coresecref03_parser_item rec (s, ((a : Int), false)) lv = some (Tr.mk 2 0 b [], (s, ((a' : Int), false))) ∧ Vw s a' r := by
 have hl := h.len
 have hz := h.sz
 rw [List.length_append, List.length_append] at hl
 rw [rit_c rec lv hlv h (by decide) (by decide) (by decide) (by decide)]
 have h2 := h.adv
 refine ⟨a + 2 + (hexS b).length + 1, ?_, h2.adv.one⟩
 unfold rtl
 rw [take_no h (preB_ne (by decide) _ _), bnd_s]
 dsimp only
 rw [cd_f, take_no h (preB_ne (by decide) _ _), bnd_s]
 dsimp only
 rw [cd_f, take_yes h, bnd_s]
 dsimp only
 rw [cd_t, until_at h2 (fun hh => hex_no39 (hexS_mem hh)), bnd_s]
 dsimp only
 rw [rby_at _ b (by omega), bnd_s]
 rfl
theorem rk3 (rec) (lv : Int) (hlv : lv ≤ 9) (b : List UInt8) (hb : b.length ≤ 4096) {s r : List UInt8} {a : Nat} (h : Vw s a (34 :: (b.flatMap qc ++ 34 :: r))) : ∃ a' : Nat, b_coresecref03_parser_item rec (s, ((a : Int), false)) lv = some (Tr.mk 3 0 b [], (s, ((a' : Int), false))) ∧ Vw s a' r := by
 rw [rit_c rec lv hlv h (by decide) (by decide) (by decide) (by decide)]
 obtain ⟨a', e, hv⟩ := quo_at h.one (by omega)
 refine ⟨a', ?_, hv⟩
 unfold rtl
 rw [take_no h (preB_ne (by decide) _ _), bnd_s]
 dsimp only
 rw [cd_f, take_no h (preB_ne (by decide) _ _), bnd_s]
 dsimp only
 rw [cd_f, take_no h (preB_ne (by decide) _ _), bnd_s]
 dsimp only
 rw [cd_f, take_yes (w := [34]) h, bnd_s]
 dsimp only
 rw [cd_t, show ([34] : List UInt8).length = 1 from rfl, e, bnd_s]
theorem rk7 (rec) (lv : Int) (hlv : lv ≤ 9) (n : UInt64) {s r : List UInt8} {a : Nat} (h : Vw s a ([115, 105, 109, 112, 108, 101, 40] ++ (dig n ++ ([41] ++ r)))) : ∃ a' : Nat, b_coresecref03_parser_item rec (s, ((a : Int), false)) lv = some (Tr.mk 7 n [] [], (s, ((a' : Int), false))) ∧ Vw s a' r := by
 rw [rit_c rec lv hlv h (by decide) (by decide) (by decide) (by decide)]
 have h2 := h.adv
 have h3 := h2.adv
 refine ⟨_, ?_, h3.adv⟩
 unfold rtl
 rw [take_no h (preB_ne (by decide) _ _), bnd_s]
 dsimp only
 rw [cd_f, take_no h (preB_ne (by decide) _ _), bnd_s]
 dsimp only
 rw [cd_f, take_no h (preB_ne (by decide) _ _), bnd_s]
 dsimp only
 rw [cd_f, take_no h (preB_ne (by decide) _ _), bnd_s]
 dsimp only
 rw [cd_f, take_yes h, bnd_s]
 dsimp only
 rw [cd_t, rnum_dig n h2 (fun c t e => by cases e; rfl), bnd_s]
 dsimp only
 rw [cd_f, take_yes h3, bnd_s]
 rfl
theorem fold8 (n : UInt64) (j : Nat) (_ : j ≤ 56) (v : UInt64) (hv : v.toNat = n.toNat / 2 ^ (j + 8)) (c : UInt8) (hc : c.toNat = n.toNat / 2 ^ j % 256) : ∃ y : UInt64, @Eq (Option UInt64) (shlK .u64 v (UInt64.toNat 8 : Int)) (some y) ∧ (bitK .or .u64 y (toU64 (UInt8.toNat c : Int)) : UInt64).toNat = n.toNat / 2 ^ j := by
 have hn := n.toNat_lt
 have hle : n.toNat / 2 ^ (j + 8) ≤ n.toNat / 2 ^ 8 := Nat.div_le_div_left (Nat.pow_le_pow_right (by omega) (by omega)) (by omega)
 have hd : n.toNat / 2 ^ (j + 8) = n.toNat / 2 ^ j / 256 := by rw [Nat.pow_add, ← Nat.div_div_eq_div_mul]
 have hle2 : n.toNat / 2 ^ j ≤ n.toNat := Nat.div_le_self _ _
 have hcl := UInt8.toNat_lt c
 refine ⟨_, sl64 v 8 (by omega), ?_⟩
 have e1 : (UInt64.ofNat (v.toNat * 2 ^ 8 % 18446744073709551616)).toNat = 2 ^ 8 * v.toNat := by
  rw [nat64 (by omega)]; omega
 have e2 : (toU64 (UInt8.toNat c : Int)).toNat = c.toNat := toU64_toNat (by omega)
 rw [or_add _ _ 8 v.toNat e1 (by rw [e2]; omega), e1, e2, nat64 (by omega)]
 omega
theorem fold_be (st : S_diag_parser) (n : UInt64) : loopL (R := (Go.Gk.Tr × S_diag_parser)) (S := UInt64) (α := UInt8) (fun _ s26 => some ((Tr.mk 8 s26 [] []), st)) (fun x27 _ s29 self30 =>
  bnd ((shlK .u64 (s29 : UInt64) (UInt64.toNat 8 : Int) : Option UInt64)) fun (x31 : UInt64) =>
  letm ((toU64 (UInt8.toNat x27 : Int))) fun x32 =>
  letm ((bitK .or .u64 (x31 : UInt64) (x32 : UInt64) : UInt64)) fun x33 =>
  self30 x33) (be8 n) 0 0 = some (Tr.mk 8 n [] [], st) := by
 have hn := n.toNat_lt
 have hb : ∀ k : Nat, (toU8 (((UInt64.ofNat (n.toNat / 2 ^ k)).toNat : Nat) : Int)).toNat = n.toNat / 2 ^ k % 256 := by
  intro k
  have : n.toNat / 2 ^ k ≤ n.toNat := Nat.div_le_self _ _
  rw [nat64 (by omega), u8nat, UInt8.toNat_ofNat']
 have st1 : ∀ (j : Nat) (_ : j ≤ 56) (v : UInt64) (_ : v.toNat = n.toNat / 2 ^ (j + 8)) (l : List UInt8) (i : Nat) (R : Option (Tr × S_diag_parser)),
   (∀ v' : UInt64, v'.toNat = n.toNat / 2 ^ j → loopL (R := (Go.Gk.Tr × S_diag_parser)) (S := UInt64) (α := UInt8) (fun _ s26 => some ((Tr.mk 8 s26 [] []), st)) (fun x27 _ s29 self30 =>
    bnd ((shlK .u64 (s29 : UInt64) (UInt64.toNat 8 : Int) : Option UInt64)) fun (x31 : UInt64) =>
    letm ((toU64 (UInt8.toNat x27 : Int))) fun x32 =>
    letm ((bitK .or .u64 (x31 : UInt64) (x32 : UInt64) : UInt64)) fun x33 =>
    self30 x33) l (i + 1) v' = R) →
   loopL (R := (Go.Gk.Tr × S_diag_parser)) (S := UInt64) (α := UInt8) (fun _ s26 => some ((Tr.mk 8 s26 [] []), st)) (fun x27 _ s29 self30 =>
    bnd ((shlK .u64 (s29 : UInt64) (UInt64.toNat 8 : Int) : Option UInt64)) fun (x31 : UInt64) =>
    letm ((toU64 (UInt8.toNat x27 : Int))) fun x32 =>
    letm ((bitK .or .u64 (x31 : UInt64) (x32 : UInt64) : UInt64)) fun x33 =>
    self30 x33) (toU8 (((UInt64.ofNat (n.toNat / 2 ^ j)).toNat : Nat) : Int) :: l) i v = R := by
  intro j hj v hv l i R h
  obtain ⟨y, hy, hv'⟩ := fold8 n j hj v hv _ (hb j)
  rw [loopL_cons]
  refine bnd_of hy ?_
  rw [letm_e, letm_e]
  exact h _ hv'
 unfold be8
 refine st1 56 (by omega) 0 (Nat.div_eq_of_lt (by simpa using hn)).symm _ _ _ fun v hv => ?_
 refine st1 48 (by omega) v hv _ _ _ fun v hv => ?_
 refine st1 40 (by omega) v hv _ _ _ fun v hv => ?_
 refine st1 32 (by omega) v hv _ _ _ fun v hv => ?_
 refine st1 24 (by omega) v hv _ _ _ fun v hv => ?_
 refine st1 16 (by omega) v hv _ _ _ fun v hv => ?_
 refine st1 8 (by omega) v hv _ _ _ fun v hv => ?_
 refine st1 0 (by omega) v hv _ _ _ fun v hv => ?_
 rw [Nat.pow_zero, Nat.div_one] at hv
 rw [loopL_nil, UInt64.toNat_inj.1 hv]
theorem rk8 (rec) (lv : Int) (hlv : lv ≤ 9) (n : UInt64) {s r : List UInt8} {a : Nat} (h : Vw s a ([102, 108, 111, 97, 116, 39] ++ (hexS (be8 n) ++ 39 :: r))) : ∃ a' : Nat, b_coresecref03_parser_item rec (s, ((a : Int), false)) lv = some (Tr.mk 8 n [] [], (s, ((a' : Int), false))) ∧ Vw s a' r := by
 have hlen : (hexS (be8 n)).length = 16 := by rw [hexS_len]; rfl
 rw [rit_names rec lv hlv h (by simp) rfl rfl rfl rfl]
 have h2 := h.adv
 refine ⟨_, ?_, h2.adv.one⟩
 unfold rtl
 rw [take_no h rfl, bnd_s]
 dsimp only
 rw [cd_f, take_no h rfl, bnd_s]
 dsimp only
 rw [cd_f, take_no h rfl, bnd_s]
 dsimp only
 rw [cd_f, take_no h rfl, bnd_s]
 dsimp only
 rw [cd_f, take_no h rfl, bnd_s]
 dsimp only
 rw [cd_f, take_yes h, bnd_s]
 dsimp only
 rw [cd_t, until_at h2 (fun hh => hex_no39 (hexS_mem hh)), bnd_s]
 dsimp only
 rw [rby_at _ (be8 n) (by omega), bnd_s]
 exact fold_be _ n
theorem rtl_num (rec) (lv : Int) {s v : List UInt8} {c : UInt8} {a : Nat} (h : Vw s a (c :: v)) (h1 : c ≠ 91) (h2 : c ≠ 123) (h3 : c ≠ 104) (h4 : c ≠ 34) (h5 : c ≠ 115) (h6 : c ≠ 102) : rtl rec lv (s, ((a : Int), false)) = bnd (m_coresecref03_parser_take (s, ((a : Int), false)) [45]) fun x34 =>
  cond x34.1 (bnd (m_coresecref03_parser_number x34.2) fun x35 =>
  letm ((x35.1 - 1)) fun x36 =>
  some ((Tr.mk 1 x36 [] []), x35.2))
  (bnd (m_coresecref03_parser_number x34.2) fun x37 =>
  bnd (m_coresecref03_parser_take x37.2 [40]) fun x38 =>
  letm ((!x38.1)) fun x39 =>
  cond x39 (some ((Tr.mk 0 x37.1 [] []), x38.2))
  (letm ((w64 (lv + 1))) fun x40 =>
  bnd (rec x38.2 x40) fun x41 =>
  bnd (β := S_diag_parser) (cond x41.2.2.2 (some (x41.2.1, (x41.2.2.1, true)))
  (bnd (m_coresecref03_parser_take x41.2 [41]) fun x42 =>
  letm ((!x42.1)) fun x43 =>
  some (x42.2.1, (x42.2.2.1, x43)))) fun v44 =>
  some ((Tr.mk 6 x37.1 [] [x41.1]), v44))) := by
 unfold rtl
 rw [take_no h (preB_ne h1 _ _), bnd_s]
 dsimp only
 rw [cd_f, take_no h (preB_ne h2 _ _), bnd_s]
 dsimp only
 rw [cd_f, take_no h (preB_ne h3 _ _), bnd_s]
 dsimp only
 rw [cd_f, take_no h (preB_ne h4 _ _), bnd_s]
 dsimp only
 rw [cd_f, take_no h (preB_ne h5 _ _), bnd_s]
 dsimp only
 rw [cd_f, take_no h (preB_ne h6 _ _), bnd_s]
 rfl
theorem rk0 (rec) (lv : Int) (hlv : lv ≤ 9) (n : UInt64) {s r : List UInt8} (hf : folB r) {a : Nat} (h : Vw s a (dig n ++ r)) : ∃ a' : Nat, b_coresecref03_parser_item rec (s, ((a : Int), false)) lv = some (Tr.mk 0 n [] [], (s, ((a' : Int), false))) ∧ Vw s a' r := by
 obtain ⟨c, t, e, hcD⟩ := dig_cons n
 have h' : Vw s a (c :: (t ++ r)) := by rw [e] at h; exact h
 have hn := rnum_dig n h (fun c t e => (hf c t e).1)
 have h2 := h.adv
 refine ⟨_, ?_, h2⟩
 rw [rit_c rec lv hlv h' (isD_ne hcD rfl) (isD_ne hcD rfl) (isD_ne hcD rfl) (isD_ne hcD rfl), rtl_num rec lv h' (isD_ne hcD rfl) (isD_ne hcD rfl) (isD_ne hcD rfl) (isD_ne hcD rfl) (isD_ne hcD rfl) (isD_ne hcD rfl), take_no h' (preB_ne (isD_ne hcD rfl) _ _), bnd_s]
 dsimp only
 rw [cd_f, hn, bnd_s]
 dsimp only
 have h40 : preB r [40] = false := by
  match r, hf with
  | [], _ => rfl
  | c' :: t', hf => exact preB_ne (hf c' t' rfl).2 _ _
 rw [take_no h2 h40, bnd_s]
 rfl
theorem rk6 (rec) (lv : Int) (h0 : -100 ≤ lv) (hlv : lv ≤ 9) (d : Nat) (hr : RrQ rec (lv + 1) d) (n : UInt64) (y : Tr) (gy : vT y d = true) (hc : cntT y ≤ 256) {s r : List UInt8} {a : Nat} (h : Vw s a (dig n ++ ([40] ++ (txT y ++ ([41] ++ r))))) : ∃ a' : Nat, b_coresecref03_parser_item rec (s, ((a : Int), false)) lv = some (Tr.mk 6 n [] [y], (s, ((a' : Int), false))) ∧ Vw s a' r := by
 obtain ⟨c, t, e, hcD⟩ := dig_cons n
 have h' : Vw s a (c :: (t ++ ([40] ++ (txT y ++ ([41] ++ r))))) := by rw [e] at h; exact h
 have hn := rnum_dig n h (fun c t e => by cases e; rfl)
 have h2 := h.adv
 have h3 := h2.adv
 obtain ⟨a4, e4, h4⟩ := hr y s _ ([41] ++ r) gy hc (folB_c 41 r rfl (by decide)) h3
 refine ⟨_, ?_, h4.adv⟩
 rw [rit_c rec lv hlv h' (isD_ne hcD rfl) (isD_ne hcD rfl) (isD_ne hcD rfl) (isD_ne hcD rfl), rtl_num rec lv h' (isD_ne hcD rfl) (isD_ne hcD rfl) (isD_ne hcD rfl) (isD_ne hcD rfl) (isD_ne hcD rfl) (isD_ne hcD rfl), take_no h' (preB_ne (isD_ne hcD rfl) _ _), bnd_s]
 dsimp only
 rw [cd_f, hn, bnd_s]
 dsimp only
 rw [take_yes h2, bnd_s]
 dsimp only
 rw [letm_e, show (!true) = false from rfl, cd_f, letm_e, w64_of (by omega) (by omega), e4, bnd_s]
 dsimp only
 rw [cd_f, take_yes h4, bnd_s]
 rfl
theorem rk1 (rec) (lv : Int) (hlv : lv ≤ 9) (n : UInt64) {s r : List UInt8} (hf : folB r) {a : Nat} (h : Vw s a (txT (Tr.mk 1 n [] []) ++ r)) : ∃ a' : Nat, b_coresecref03_parser_item rec (s, ((a : Int), false)) lv = some (Tr.mk 1 n [] [], (s, ((a' : Int), false))) ∧ Vw s a' r := by
 rw [tx1] at h
 have hcons : (if n.toNat = 18446744073709551615 then bigT else 45 :: dig (n + 1)) ++ r = 45 :: ((if n.toNat = 18446744073709551615 then bigD else dig (n + 1)) ++ r) := by split <;> rfl
 rw [hcons] at h
 have h1 := h.one
 rw [rit_c rec lv hlv h (by decide) (by decide) (by decide) (by decide), rtl_num rec lv h (by decide) (by decide) (by decide) (by decide) (by decide) (by decide), take_yes (w := [45]) h, bnd_s]
 dsimp only
 rw [cd_t, show ([45] : List UInt8).length = 1 from rfl]
 by_cases hm : n.toNat = 18446744073709551615
 ·rw [if_pos hm] at h1
  refine ⟨_, ?_, h1.adv⟩
  rw [rnum_at h1 (by decide) (fun c t e => (hf c t e).1), bnd_s, letm_e]
  have hnm : n = 18446744073709551615 := UInt64.toNat_inj.1 hm
  rw [hnm]; rfl
 ·rw [if_neg hm] at h1
  refine ⟨_, ?_, h1.adv⟩
  have hn2 : n + 1 - 1 = n := UInt64.add_sub_cancel n 1
  rw [rnum_dig (n + 1) h1 (fun c t e => (hf c t e).1), bnd_s, letm_e]
  dsimp only
  rw [hn2]
theorem rread_step (rec) (d : Nat) (hd : d ≤ 8) (hr : 1 ≤ d → RrQ rec (8 - (d : Int) + 1) (d - 1)) : RrQ (b_coresecref03_parser_item rec) (8 - (d : Int)) d := by
 intro y s a r hv hc hf h
 have hlv : (8 : Int) - (d : Int) ≤ 9 := by omega
 obtain ⟨k, n, b, l⟩ := y
 rw [cntT_mk] at hc
 rcases vT_inv hv with ⟨hk, rfl, rfl⟩ | ⟨rfl, rfl, rfl, hbl⟩ | ⟨rfl, rfl, rfl, hbl, _⟩ | ⟨rfl, rfl, rfl, hn⟩ | ⟨rfl, rfl, rfl, _⟩ | ⟨rfl, rfl, rfl, g1, gl⟩ | ⟨rfl, rfl, rfl, g1, g2, gl, _⟩ | ⟨rfl, rfl, g1, y, rfl, gy⟩
 ·rcases hk with rfl | rfl
  ·rw [tx0] at h
   exact rk0 rec _ hlv n hf h
  ·exact rk1 rec _ hlv n hf h
 ·rw [tx2] at h
  exact rk2 rec _ hlv b (by simpa using h)
 ·rw [tx3] at h
  exact rk3 rec _ hlv b hbl (by simpa using h)
 ·rw [tx7] at h
  by_cases c : 20 ≤ n.toNat ∧ n.toNat < 24
  ·rw [if_pos c] at h
   exact rit_word rec _ hlv n c.1 c.2 h
  ·rw [if_neg c] at h
   have e : [115, 105, 109, 112, 108, 101, 40] ++ dig n ++ [41] ++ r = [115, 105, 109, 112, 108, 101, 40] ++ (dig n ++ ([41] ++ r)) := by simp
   rw [e] at h
   exact rk7 rec _ hlv n h
 ·rw [tx8] at h
  have e : [102, 108, 111, 97, 116, 39] ++ hexS (be8 n) ++ [39] ++ r = [102, 108, 111, 97, 116, 39] ++ (hexS (be8 n) ++ 39 :: r) := by simp
  rw [e] at h
  exact rk8 rec _ hlv n h
 ·rw [tx4] at h
  exact rk4 rec _ (by omega) hlv (d - 1) (hr g1) l gl (by omega) (by simpa using h)
 ·rw [tx5] at h
  exact rk5 rec _ (by omega) hlv (d - 1) (hr g1) l gl (by omega) (by simpa using h)
 ·rw [tx6] at h
  rw [cntL_cons, cntL_nil] at hc
  have e : dig n ++ [40] ++ txL [y] false 0 ++ [41] ++ r = dig n ++ ([40] ++ (txT y ++ ([41] ++ r))) := by rw [txL_cons, txL_nil]; simp [sepT]
  rw [e] at h
  exact rk6 rec _ (by omega) hlv (d - 1) (hr g1) n y gy (by omega) h
theorem rread_eq (j : Nat) : ∀ (d : Nat), d ≤ 8 → RrQ (n_coresecref03_parser_item (j + d + 1)) (8 - (d : Int)) d
 | 0, hd => rread_step _ 0 hd (fun h => absurd h (by omega))
 | d + 1, hd => rread_step _ (d + 1) hd (fun _ => by
  have := rread_eq j d (by omega)
  rw [show (8 : Int) - ((d + 1 : Nat) : Int) + 1 = 8 - (d : Int) by omega]
  exact this)
theorem rparse_back {x : Tr} (h : okT x = true) : m_coresecref03_Parse (txT x) = some (x, 0) := by
 obtain ⟨h1, h2⟩ := okT_split h
 have hl := prS_len x
 unfold prS at hl
 rw [if_pos h] at hl
 have hl : (txT x).length ≤ 163840 := hl
 obtain ⟨a', e, hv⟩ := rread_eq 31 8 (by omega) x (txT x) 0 [] h1 h2 (fun c t e => by cases e) (by rw [List.append_nil]; exact vw_start (by omega))
 have hvl := hv.len
 rw [List.length_nil] at hvl
 have e : m_coresecref03_parser_item (txT x, (0, false)) 0 = some (x, (txT x, ((a' : Int), false))) := e
 unfold m_coresecref03_Parse
 rw [e, bnd_s]
 dsimp only
 rw [cd_f, letm_e, decide_eq_false (by omega), bnd_s, cd_f, print_ref, bnd_s, letm_e, letm_e, cd_or, bnd_s]
 unfold prS
 rw [if_pos h]
 dsimp only
 rw [show ((0 : Int) != 0 || txT x != txT x) = false by simp, cd_f]
theorem parse_same (s : List UInt8) (hs : s.length ≤ 9000000) : ∃ x e, m_diag_Parse s = some (x, e) ∧ m_coresecref03_Parse s = some (x, e) ∧ (okT x = true ∨ x = Tr.mk 0 0 [] []) := by
 rcases parse_shape s hs with ⟨x, h1, hok, ht⟩ | h1
 ·have := rparse_back hok
  rw [ht] at this
  exact ⟨x, 0, h1, this, .inl hok⟩
 ·rcases rparse_shape s hs with ⟨x, h2, hok, ht⟩ | h2
  ·have := parse_back hok
   rw [ht, h1] at this
   cases this
  ·exact ⟨_, 17, h1, h2, .inr rfl⟩
theorem cmp_self : ∀ l : List UInt8, Lib.compareBytes l l = 0
 | [] => rfl
 | c :: l => by rw [Lib.compareBytes, if_neg (by simp), if_neg (by simp), cmp_self l]
theorem same_step (rec : Tr → Tr → Option Bool) (d : Nat) (hr : 1 ≤ d → ∀ y, vT y (d - 1) = true → rec y y = some true) (x : Tr) (h : vT x d = true) : b_coresecref01_Same rec x x = some true := by
 have hb : x.b.length ≤ 4096 := by obtain ⟨k, n, b, l⟩ := x; exact vT_blen h
 have hk : x.l = [] ∨ 1 ≤ d ∧ vL x.l (d - 1) = true := by obtain ⟨k, n, b, l⟩ := x; exact vT_kids h
 unfold b_coresecref01_Same
 refine bnd_of (y := false) ?_ ?_
 ·rw [letm_e, show (x.k != x.k) = false by simp, cd_f, letm_e, show (((UInt64.toNat x.n : Nat) : Int) != ((UInt64.toNat x.n : Nat) : Int)) = false by simp, cd_f, compare_eq _ _ (by omega) (by omega), bnd_s, letm_e, cmp_self, show ((0 : Int) != 0) = false from rfl, cd_f, letm_e, show ((x.l.length : Int) != (x.l.length : Int)) = false by simp]
 rw [cd_f]
 have key : ∀ (m : Nat) (k : Nat), m + k = x.l.length → loopL (R := Bool) (S := Unit) (α := Go.Gk.Tr) (fun _ _ => some true) (fun x10 k11 _ self13 => bnd (idx x.l (k11 : Int)) fun x14 => bnd (rec x10 x14) fun x15 => letm ((!x15)) fun x16 => cond x16 (some false) (self13 ())) (x.l.drop k) k () = some true := by
  intro m
  induction m with
  | zero => intro k hk; rw [List.drop_of_length_le (by omega)]; rfl
  | succ m ih =>
   intro k hkm
   have hlt : k < x.l.length := by omega
   have hv : vT x.l[k] (d - 1) = true := by
    rcases hk with e | ⟨_, hv⟩
    ·rw [e] at hlt; simp at hlt
    ·exact vL_get hv k hlt
   have hd1 : 1 ≤ d := by
    rcases hk with e | ⟨h1, _⟩
    ·rw [e] at hlt; simp at hlt
    ·exact h1
   rw [List.drop_eq_getElem_cons hlt, loopL_cons, idx_some' (List.getElem?_eq_getElem hlt), bnd_s, hr hd1 _ hv, bnd_s, letm_e, show (!true) = false from rfl, cd_f]
   exact ih (k + 1) (by omega)
 exact key x.l.length 0 (by omega)
theorem same_eq (j : Nat) : ∀ (d : Nat) (x : Tr), vT x d = true → n_coresecref01_Same (j + d + 1) x x = some true
 | 0, x, h => same_step _ 0 (fun h => absurd h (by omega)) x h
 | d + 1, x, h => same_step _ (d + 1) (fun _ y hy => same_eq j d y hy) x h
theorem same_self {x : Tr} (h : okT x = true ∨ x = Tr.mk 0 0 [] []) : m_coresecref01_Same x x = some true := by
 rcases h with h | rfl
 ·exact same_eq 31 8 x (okT_split h).1
 ·exact same_eq 31 8 _ (by kernel_rfl)
theorem round_ok (s : List UInt8) (hs : s.length ≤ 9000000) (K : Option Bool) : (bnd (m_diag_Parse s) fun x19 => bnd (m_coresecref03_Parse s) fun x20 => bnd (β := Bool) (bnd (m_coresecref01_Same x19.1 x20.1) fun x21 => letm ((!x21)) fun x22 => cond x22 (some true) (letm ((x19.2 != x20.2)) fun x23 => some x23)) fun v24 => cond v24 (some false) K) = K := by
 obtain ⟨x, e, h1, h2, h3⟩ := parse_same s hs
 rw [h1, bnd_s, h2, bnd_s]
 dsimp only
 rw [same_self h3, bnd_s, letm_e, show (!true) = false from rfl, cd_f, letm_e, bnd_s, show (e != e) = false by simp, cd_f]
theorem DiagParses_true (a0 : List UInt8) (a1 : List Int) (a2 a3 : Int) (h : a1.length ≤ maxLen) : m_coreseclaw03_DiagParses a0 a1 a2 a3 = some true := by
 unfold m_coreseclaw03_DiagParses
 rw [letm_e, show decide ((600 : Int) < (a0.length : Int)) = decide (600 < a0.length) from lt_dec 600 _]
 by_cases c : 600 < a0.length
 ·rw [decide_eq_true c, cd_t, awake_true]; rfl
 rw [decide_eq_false c, cd_f]
 obtain ⟨r, hr⟩ := deck_item h 4 (by omega)
 have hr : m_coresecmake_Deck_Item (a1, 0) 4 = some r := hr
 have hl := prS_len r.1
 rw [show m_coresecmake_New a1 = some (a1, 0) from rfl, bnd_s, hr, bnd_s, print_ref, bnd_s, app_some' (by rw [List.length_nil]; omega), bnd_s, List.nil_append]
 obtain ⟨t, ht, htl⟩ := spoilt_ex (prS r.1).1 a2 a3 (by omega)
 rw [ht, bnd_s, app_some' (by omega), bnd_s]
 rw [loopL_cons, round_ok a0 (by omega), loopL_cons, round_ok _ (by omega), loopL_cons, round_ok t (by omega), loopL_cons, round_ok _ (by rw [List.length_append]; omega), loopL_nil, awake_true]
 rfl
theorem rng_of {n : Nat} (h : n ≤ 1000) : rng (n : Int) = some n := by
 unfold rng
 rw [if_pos (by omega)]
 exact congrArg some (Int.toNat_natCast n)
theorem rounds (bn : Nat → Unit → Option Bool) (v : Bool) (hb : ∀ k, bn k () = some v) : ∀ (l : List (List UInt8)) (k : Nat), (∀ s, s ∈ l → s.length ≤ 9000000) → loopL (R := Bool) (S := Unit) (α := (List UInt8)) bn (fun x48 k49 s50 self51 =>
  bnd (m_diag_Parse x48) fun x52 =>
  bnd (m_coresecref03_Parse x48) fun x53 =>
  bnd (β := Bool) (bnd (m_coresecref01_Same x52.1 x53.1) fun x54 =>
  letm ((!x54)) fun x55 =>
  cond x55 (some true)
   (letm ((x52.2 != x53.2)) fun x56 =>
  some x56)) fun v57 =>
  cond v57 (some false)
   (self51 ())) l k () = some v
 | [], k, _ => hb k
 | s :: l, k, h => by
  rw [loopL_cons, round_ok s (h s (by simp))]
  exact rounds bn v hb l (k + 1) (fun x hx => h x (by simp [hx]))
theorem loopN_app {R : Type} (c : UInt8) (bn : Nat → List UInt8 → Option R) : ∀ (m k : Nat) (s : List UInt8), s.length + m ≤ 1000000 → loopN (R := R) (S := (List UInt8)) bn (fun k38 s39 self40 => bnd (app s39 [c]) fun x41 => self40 x41) m k s = bn (k + m) (s ++ List.replicate m c)
 | 0, k, s, _ => by rw [loopN_zero]; simp
 | m + 1, k, s, h => by
  rw [loopN_succ, app_some' (by simp only [List.length_cons, List.length_nil]; omega), bnd_s, loopN_app c bn m (k + 1) _ (by rw [List.length_append]; simp only [List.length_cons, List.length_nil]; omega), List.replicate_succ, List.append_assoc, show k + 1 + m = k + (m + 1) by omega]
  rfl
theorem DiagShapes_true (a0 : Int) (a1 : List Int) (h : a1.length ≤ maxLen) : m_coreseclaw03_DiagShapes a0 a1 = some true := by
 unfold m_coreseclaw03_DiagShapes
 obtain ⟨r, hr⟩ := deck_item h 2 (by omega)
 have hr : m_coresecmake_Deck_Item (a1, 0) 2 = some r := hr
 have hl := prS_len r.1
 rw [show m_coresecmake_New a1 = some (a1, 0) from rfl, bnd_s, hr, bnd_s, print_ref, bnd_s]
 generalize (prS r.1).1 = s at hl
 have happ : ∀ x y : List UInt8, x.length + y.length ≤ 1000000 → app x y = some (x ++ y) := fun x y h => app_some' (by omega)
 rw [happ [91] s (by simp; omega), bnd_s, bnd_s, happ ([91] ++ s) [44, 93] (by simp; omega), bnd_s, bnd_s, happ ([91] ++ s) [44] (by simp; omega), bnd_s, happ ([91] ++ s ++ [44]) s (by simp; omega), bnd_s, happ ([91] ++ s ++ [44] ++ s) [93] (by simp; omega), bnd_s, bnd_s, happ ([91] ++ s) [44, 32] (by simp; omega), bnd_s, happ ([91] ++ s ++ [44, 32]) s (by simp; omega), bnd_s, happ ([91] ++ s ++ [44, 32] ++ s) [93] (by simp; omega), bnd_s,
  happ [123] s (by simp; omega), bnd_s, happ ([123] ++ s) [58, 32] (by simp; omega), bnd_s, happ ([123] ++ s ++ [58, 32]) s (by simp; omega), bnd_s, happ ([123] ++ s ++ [58, 32] ++ s) [125] (by simp; omega), bnd_s, bnd_s, happ ([123] ++ s) [125] (by simp; omega), bnd_s]
 refine rounds _ true ?_ _ 0 ?_
 ·intro k
  obtain ⟨v, hv, v0, v1⟩ := mod_some a0 (m := 3) (by omega) (by omega)
  obtain ⟨n, hn⟩ : ∃ n : Nat, 7 + v = (n : Int) := ⟨(7 + v).toNat, by omega⟩
  rw [hv, bnd_s, letm_e, w64_of (by omega) (by omega), hn, rng_of (by omega), bnd_s]
  rw [loopN_app 91 _ n 0 [] (by simp; omega), bnd_s, letm_e, w64_of (by omega) (by omega), hn, rng_of (by omega), bnd_s, loopN_app 93 _ n 0 _ (by simp; omega)]
  obtain ⟨x, e, h1, h2, h3⟩ := parse_same ([] ++ List.replicate n 91 ++ List.replicate n 93) (by simp; omega)
  rw [h1, bnd_s, h2, bnd_s]
  dsimp only
  rw [same_self h3, bnd_s, cd_t, letm_e, show (e == e) = true by simp, cd_t, awake_true]
  rfl
 ·intro t ht
  simp only [List.mem_cons, List.not_mem_nil, or_false] at ht
  rcases ht with rfl | rfl | rfl | rfl | rfl | rfl | rfl | rfl | rfl | rfl | rfl | rfl | rfl | rfl | rfl | rfl | rfl | rfl | rfl | rfl | rfl | rfl | rfl | rfl | rfl | rfl | rfl <;> simp <;> omega
end Go.Proofs.YtbfkbakadpkgoaaGreatDoor
