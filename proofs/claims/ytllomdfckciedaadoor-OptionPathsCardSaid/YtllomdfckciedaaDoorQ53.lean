/-
  Options, plain facts: a path that was set is read (OptionBack). Of the models alone; no program; no condition but the length told.
-/
import Derived.Test.YtllomdfckciedaaDoorQ52
namespace Go.Proofs.YtllomdfckciedaaDoor
open Go.Gk Go.RowKit
/-! ### Cut at slashes -/
theorem indexByte_pre : ∀ (p r : List UInt8), (47 : UInt8) ∉ p → Lib.indexByte (p ++ 47 :: r) 47 = (p.length : Int)
  | [], r, _ => by unfold Lib.indexByte; rfl
  | c :: p, r, h => by
    have hc : (c == 47) = false := by rw [beq_eq_false_iff_ne]; rintro rfl; simp at h
    have ih := indexByte_pre p r (fun hp => h (by simp [hp]))
    show (if (c == 47) = true then (0 : Int) else if Lib.indexByte (p ++ 47 :: r) 47 == -1 then -1 else Lib.indexByte (p ++ 47 :: r) 47 + 1) = _
    rw [hc, ih, if_neg (by simp), if_neg (by rw [beq_iff_eq]; omega)]
    simp
theorem split_no {p : List UInt8} (h : (47 : UInt8) ∉ p) : Lib.split p [47] = [p] := by
  unfold Lib.split
  rw [Lib.count_one, List.count_eq_zero.2 h]; rfl
theorem split_cons {p : List UInt8} (r : List UInt8) (h : (47 : UInt8) ∉ p) : Lib.split (p ++ 47 :: r) [47] = p :: Lib.split r [47] := by
  unfold Lib.split
  rw [Lib.count_one, Lib.count_one, List.count_append, List.count_eq_zero.2 h, List.count_cons_self, Nat.zero_add]
  have e : Lib.index (p ++ 47 :: r) [47] = (p.length : Int) := by rw [Lib.index_one, indexByte_pre p r h]
  show (if Lib.index (p ++ 47 :: r) [47] == -1 then [p ++ 47 :: r] else (p ++ 47 :: r).take ((Lib.index (p ++ 47 :: r) [47]).toNat + 0) :: Lib.splitK [47] 0 (r.count 47) ((p ++ 47 :: r).drop ((Lib.index (p ++ 47 :: r) [47]).toNat + [(47 : UInt8)].length))) = _
  rw [e, if_neg (by rw [beq_iff_eq]; omega)]
  simp
theorem at_slash : ∀ s : List UInt8, (47 : UInt8) ∉ s ∨ ∃ p r, (47 : UInt8) ∉ p ∧ s = p ++ 47 :: r
  | [] => .inl (by simp)
  | c :: s => by
    by_cases hc : c = 47
    · exact .inr ⟨[], s, by simp, by rw [hc]; rfl⟩
    · rcases at_slash s with h | ⟨p, r, h, e⟩
      · refine .inl fun hm => ?_
        rcases List.mem_cons.1 hm with rfl | hm
        · exact hc rfl
        · exact h hm
      · refine .inr ⟨c :: p, r, fun hm => ?_, by rw [e]; rfl⟩
        rcases List.mem_cons.1 hm with rfl | hm
        · exact hc rfl
        · exact h hm
theorem split_facts : ∀ (n : Nat) (s : List UInt8), s.length ≤ n → (Lib.split s [47]).length ≤ s.length + 1 ∧ (∀ x ∈ Lib.split s [47], x.length ≤ s.length) ∧ (Lib.split s [47]).flatMap (fun v => 47 :: v) = 47 :: s
  | n, s, hn => by
    rcases at_slash s with h | ⟨p, r, h, rfl⟩
    · rw [split_no h]; simp
    · match n, hn with
      | 0, hn => simp at hn
      | n + 1, hn =>
        simp only [List.length_append, List.length_cons] at hn
        obtain ⟨h1, h2, h3⟩ := split_facts n r (by omega)
        rw [split_cons r h]
        refine ⟨by simp; omega, fun x hx => ?_, by rw [List.flatMap_cons, h3]; simp⟩
        rcases List.mem_cons.1 hx with rfl | hx
        · simp
        · have := h2 x hx
          simp; omega
theorem cut_one (c : UInt8) (t : List UInt8) : Gk.cut (c :: t) 1 ((c :: t).length : Int) = some t := by
  unfold Gk.cut
  rw [if_pos (by simp only [List.length_cons]; omega)]; simp
/-! ### Segments -/
def segsL : List (List UInt8) → Option (List (List UInt8))
  | [] => some []
  | x :: r => match segS x with
    | none => none
    | some v => (segsL r).map fun l => v :: l
def segsS : List UInt8 → Option (List (List UInt8))
  | [] => some []
  | c :: t => if c = 47 then segsL (Lib.split t [47]) else none
def segsR : Option (List (List UInt8)) → List (List UInt8) × Bool
  | some l => (l, true)
  | none => ([], false)
theorem segsL_enc : ∀ l : List (List UInt8), segsL (l.map encV) = some l
  | [] => rfl
  | v :: l => by rw [List.map_cons, segsL, segS_enc, segsL_enc l]; rfl
theorem enc_segsL : ∀ {xs l : List (List UInt8)}, segsL xs = some l → l.map encV = xs
  | [], l, h => by cases h; rfl
  | x :: xs, l, h => by
    rw [segsL] at h
    cases hx : segS x with
    | none => rw [hx] at h; cases h
    | some v =>
      rw [hx] at h
      obtain ⟨w, hw, rfl⟩ := Option.map_eq_some_iff.1 h
      rw [List.map_cons, enc_segsL hw, enc_segS _ x v (Nat.le_refl _) hx]
theorem split_enc : ∀ (v : List UInt8) (vs : List (List UInt8)), Lib.split (encV v ++ encP vs) [47] = encV v :: vs.map encV
  | v, [] => by
    have : encP [] = [] := rfl
    rw [this, List.append_nil, split_no (encV_no v)]; rfl
  | v, w :: ws => by
    have : encP (w :: ws) = 47 :: (encV w ++ encP ws) := by unfold encP; rw [List.flatMap_cons]; rfl
    rw [this, split_cons _ (encV_no v), split_enc w ws]; rfl
theorem segsS_enc (l : List (List UInt8)) : segsS (encP l) = some l := by
  cases l with
  | nil => rfl
  | cons v vs =>
    have : encP (v :: vs) = 47 :: (encV v ++ encP vs) := by unfold encP; rw [List.flatMap_cons]; rfl
    rw [this, segsS, if_pos rfl, split_enc]
    exact segsL_enc (v :: vs)
theorem encP_map (l : List (List UInt8)) : encP l = (l.map encV).flatMap fun v => 47 :: v := by unfold encP; rw [List.flatMap_map]
theorem enc_segsS {s : List UInt8} {l : List (List UInt8)} (h : segsS s = some l) : encP l = s := by
  match s, h with
  | [], h => cases h; rfl
  | c :: t, h =>
    rw [segsS] at h
    by_cases hc : c = 47
    · rw [if_pos hc] at h
      rw [encP_map, enc_segsL h, (split_facts _ t (Nat.le_refl _)).2.2, hc]
    · rw [if_neg hc] at h; cases h
theorem segs_go : ∀ (xs : List (List UInt8)) (k : Nat) (s : List (List UInt8)), s.length + xs.length ≤ 4000000 → (∀ x ∈ xs, x.length ≤ 1000000) →
    loopL (R := ((List (List UInt8)) × Bool)) (S := (List (List UInt8))) (α := (List UInt8)) (fun _ s7 => some (s7, true)) (fun x8 _ s10 self11 => bnd (m_option_segment x8) fun x12 => letm ((!x12.2)) fun x13 => cond x13 (some ([], false)) (bnd (app s10 [x12.1]) fun x14 => self11 x14)) xs k s
     = some (segsR ((segsL xs).map fun l => s ++ l))
  | [], k, s, _, _ => by rw [loopL_nil, segsL, Option.map_some, List.append_nil]; rfl
  | x :: xs, k, s, hl, hx => by
    rw [loopL_cons, segment_eq (hx x (by simp)), bnd_s, letm_e, segsL]
    cases hs : segS x with
    | none => rfl
    | some v =>
      simp only [List.length_cons] at hl
      have ih := segs_go xs (k + 1) (s ++ [v]) (by simp; omega) (fun y hy => hx y (by simp [hy]))
      simp only [segR, Bool.not_true, cd_f]
      rw [app_some' (by simp; omega), bnd_s, ih]
      cases segsL xs <;> simp
theorem segments_eq {s : List UInt8} (h : s.length ≤ 1000000) : m_option_segments s = some (segsR (segsS s)) := by
  unfold m_option_segments
  match s, h with
  | [], _ => rfl
  | c :: t, h =>
    simp only [List.length_cons] at h
    have e1 : ((c :: t : List UInt8) == []) = false := rfl
    have e2 : idx (c :: t) (0 : Int) = some c := idx_some' (i := 0) rfl
    have ec : ((UInt8.toNat c : Int) != (UInt8.toNat 47 : Int)) = !(decide (c = 47)) := by
      rw [Bool.eq_iff_iff]
      simp only [bne_iff_ne, ne_eq, Bool.not_eq_true', decide_eq_false_iff_not]
      rw [Int.natCast_inj, UInt8.toNat_inj]
    rw [letm_e, e1, cd_f, e2, bnd_s, letm_e, ec, segsS]
    by_cases hc : c = 47
    · rw [decide_eq_true hc, Bool.not_true, cd_f, if_pos hc]
      have e3 : Gk.cut (c :: t) 1 ((c :: t).length : Int) = some t := cut_one c t
      have e4 : m_strings_Split t [47] = some (Lib.split t [47]) := by
        unfold m_strings_Split
        rw [show (Nat.blt 0 [(47 : UInt8)].length && Nat.blt t.length 4294967281) = true by
          rw [Bool.and_eq_true]; exact ⟨rfl, Nat.ble_eq_true_of_le (by omega)⟩, cond_true]
      obtain ⟨f1, f2, _⟩ := split_facts _ t (Nat.le_refl _)
      rw [e3, bnd_s, e4, bnd_s, segs_go _ 0 [] (by simp; omega) (fun x hx => by have := f2 x hx; omega)]
      cases segsL (Lib.split t [47]) <;> simp
    · rw [decide_eq_false hc, Bool.not_false, cd_t, if_neg hc]; rfl
/-! ### Numbers, there and back -/
def valN : List UInt8 → Nat
  | [] => 0
  | c :: l => c.toNat * 256 ^ l.length + valN l
theorem uintN_val : ∀ (l : List UInt8) (s : Nat), s * 256 ^ l.length + valN l ≤ 4294967295 → uintN s l = (((s * 256 ^ l.length + valN l : Nat) : Int), 0)
  | [], s, _ => by rw [uintN, valN]; simp
  | c :: l, s, h => by
    rw [valN, List.length_cons, Nat.pow_succ] at h ⊢
    have e : s * (256 ^ l.length * 256) + (c.toNat * 256 ^ l.length + valN l) = (s * 256 + c.toNat) * 256 ^ l.length + valN l := by
      rw [Nat.add_mul, Nat.mul_assoc, Nat.mul_comm 256 (256 ^ l.length)]; omega
    rw [e] at h ⊢
    have hp : 1 ≤ 256 ^ l.length := Nat.pow_pos (by omega)
    have := Nat.mul_le_mul_left (s * 256 + c.toNat) hp
    rw [uintN, decide_eq_false (by omega), cond_false, uintN_val l _ h]
theorem from_go : ∀ (j k f : Nat) (l : List UInt8), k < 256 ^ j → j < f → l.length + j ≤ 10 → ∃ r, loopF (R := (List UInt8)) (S := S_api_Option) (fun self4 s3 => letm (decide (0 < s3.1)) fun x5 => cond x5 (letm ((toU8 s3.1)) fun x6 => bnd (app [x6] s3.2) fun x7 => bnd (Gk.shr s3.1 (UInt64.toNat 8 : Int)) fun x8 => self4 (x8, x7)) (some s3.2)) f ((k : Int), l) = some r ∧ valN r = k * 256 ^ l.length + valN l := by
  intro j
  induction j with
  | zero =>
    intro k f l hk hf hl
    obtain ⟨f, rfl⟩ : ∃ g, f = g + 1 := ⟨f - 1, by omega⟩
    obtain rfl : k = 0 := by simpa using hk
    exact ⟨l, rfl, by simp⟩
  | succ j ih =>
    intro k f l hk hf hl
    obtain ⟨f, rfl⟩ : ∃ g, f = g + 1 := ⟨f - 1, by omega⟩
    rcases Nat.eq_zero_or_pos k with rfl | hk0
    · exact ⟨l, rfl, by simp⟩
    · rw [Nat.pow_succ] at hk
      obtain ⟨r, h1, h2⟩ := ih (k / 256) f (toU8 (k : Int) :: l) (Nat.div_lt_of_lt_mul (by rw [Nat.mul_comm]; exact hk)) (by omega) (by simp; omega)
      refine ⟨r, ?_, ?_⟩
      · rw [loopF_succ, letm_e]
        simp only [show decide ((0 : Int) < (k : Int)) = true from decide_eq_true (by omega), cd_t]
        rw [letm_e, app_some' (by simp; omega), bnd_s, shr8, bnd_s, show (k : Int) / 256 = ((k / 256 : Nat) : Int) by omega]
        exact h1
      · rw [h2, List.length_cons, Nat.pow_succ, valN]
        have h3 := toU8_toNat (k : Int)
        have h4 : (toU8 (k : Int)).toNat = k % 256 := by omega
        have h5 := Nat.div_add_mod k 256
        rw [h4, Nat.mul_comm (256 ^ l.length) 256, ← Nat.mul_assoc, ← Nat.add_assoc, ← Nat.add_mul, Nat.mul_comm (k / 256) 256, h5]
/-! ### Messages with a path -/
theorem rawS_len (m : S_api_Message) : (rawS m).length ≤ 4 + m.2.2.2.1.length + szO m.2.2.2.2.1 + 1 + m.2.2.2.2.2.length := by
  have h1 := rawO_len m.2.2.2.2.1 0
  have h2 : (rawT m.2.2.2.2.2).length ≤ 1 + m.2.2.2.2.2.length := by
    unfold rawT; cases decide (0 < (m.2.2.2.2.2.length : Int)) <;> simp; omega
  unfold rawS
  simp only [List.length_append, List.length_cons, List.length_nil]
  omega
theorem Mg.snd {k b : Nat} {m : S_api_Message} (h : Mg k b m) (hk : k ≤ 32) (hb : b ≤ 1034) : sndM m = true := by
  have h1 := h.t0; have h2 := h.t1; have h3 := h.i0; have h4 := h.i1; have h5 := h.tok; have h6 := h.ol; have h7 := h.pay
  have hc : 0 ≤ m.2.1 ∧ m.2.1 ≤ 255 ∧ clsB (m.2.1 / 32) = true ∧ (m.2.1 == 0) = false := by
    have : ∀ c ∈ ([1, 2, 5, 69, 132] : List Int), 0 ≤ c ∧ c ≤ 255 ∧ clsB (c / 32) = true ∧ (c == 0) = false := by decide
    exact this _ h.cd
  have ho : optsB 0 m.2.2.2.2.1 = true := h.srt.opts hb (fun o ho => (h.srt.num o ho).1)
  have t3 : (m.1 == 3) = false := by rw [beq_eq_false_iff_ne]; omega
  unfold sndM
  rw [hc.2.2.1, hc.2.2.2, ho, t3, decide_eq_false (show ¬ m.1 < 0 by omega), decide_eq_false (show ¬ 3 < m.1 by omega), decide_eq_false (show ¬ m.2.1 < 0 by omega), decide_eq_false (show ¬ 255 < m.2.1 by omega), decide_eq_false (show ¬ m.2.2.1 < 0 by omega), decide_eq_false (show ¬ 65535 < m.2.2.1 by omega), decide_eq_false (show ¬ 8 < (m.2.2.2.1.length : Int) by omega), decide_eq_false (show ¬ 32 < (m.2.2.2.2.1.length : Int) by omega), decide_eq_true (show (m.2.2.2.2.2.length : Int) ≤ 4096 by omega)]
  rfl
theorem Mg.val {k b : Nat} {m : S_api_Message} (h : Mg k b m) (hk : k * (b + 5) ≤ 4000) (hk2 : k ≤ 32) (hb : b ≤ 1034) : valM m = true := by
  have h1 := rawS_len m
  have h2 := szO_le (fun o ho => h.srt.val o ho)
  have h3 := Nat.mul_le_mul_right (b + 5) h.ol
  have h5 := h.tok; have h7 := h.pay
  unfold valM
  rw [h.snd hk2 hb, Bool.true_and]
  exact decide_eq_true (by omega)
theorem encP_nil (l : List (List UInt8)) : (encP l == []) = (((l.length : Nat) : Int) == 0) := by
  cases l with
  | nil => rfl
  | cons v l => unfold encP; rw [List.flatMap_cons]; rfl
theorem loopL_same2 {R : Type} {bn : Nat → Unit → Option R} {v : Option R} (l : List (List UInt8)) : ∀ (rest : List (List UInt8)) (k : Nat), l.drop k = rest →
    loopL (R := R) (S := Unit) (α := List UInt8) bn (fun x31 k32 _ self34 => bnd (idx l (k32 : Int)) fun x35 => letm ((x35 != x31)) fun x36 => cond x36 v (self34 ())) rest k () = bn (k + rest.length) ()
  | [], k, _ => rfl
  | x :: r, k, h => by
    have hk : l[k]? = some x := by have := congrArg (fun l => l[0]?) h; simpa using this
    have hd : l.drop (k + 1) = r := by have := congrArg (fun l => l.drop 1) h; simpa using this
    rw [loopL_cons, idx_some' hk, bnd_s, letm_e, bne_self_eq_false, cd_f, loopL_same2 l r (k + 1) hd]
    simp only [List.length_cons]
    rw [show k + 1 + r.length = k + (r.length + 1) by omega]
end Go.Proofs.YtllomdfckciedaaDoor
