/-
  Cache keys, plain facts: the key of a message by both texts, and what it does not hang on (OptionKeys, OptionSame). Of the models alone; no program; no condition but the length told.
-/
import Derived.Test.YtllomdfckciedaaDoorQ59
namespace Go.Proofs.YtllomdfckciedaaDoor
open Go.Gk Go.RowKit
theorem encO_len (o : S_api_Option) : (encO o).length ≤ 9 + o.2.length := by
  unfold encO
  have h1 := (headS_len 4 2).2; have h2 := (headS_len 0 o.1.toNat).2; have h3 := (headS_len 2 o.2.length).2
  simp only [List.length_append, List.length_nil]
  omega
theorem flat_len {b : Nat} : ∀ {l : List S_api_Option}, (∀ o ∈ l, o.2.length ≤ b) → (l.flatMap encO).length ≤ l.length * (9 + b)
  | [], _ => by simp
  | o :: l, h => by
    have := flat_len (l := l) fun q hq => h q (by simp [hq])
    have h1 := encO_len o; have h2 := h o (by simp)
    rw [List.flatMap_cons, List.length_append, List.length_cons, Nat.succ_mul]
    omega
theorem keyE_len {m : S_api_Message} {b : Nat} (h : ∀ o ∈ m.2.2.2.2.1, o.2.length ≤ b) : (keyE m).length ≤ 12 + m.2.2.2.2.1.length * (9 + b) + m.2.2.2.2.2.length := by
  have h1 := (headS_len 4 (keyL m).length).2; have h2 := (headS_len 0 m.2.1.toNat).2; have h3 := (headS_len 4 ((m.2.2.2.2.1.filter keepN).map itO).length).2
  have h4 := flat_len (b := b) (l := m.2.2.2.2.1.filter keepN) fun o ho => h o (List.mem_filter.1 ho).1
  have h5 : (m.2.2.2.2.1.filter keepN).length * (9 + b) ≤ m.2.2.2.2.1.length * (9 + b) := Nat.mul_le_mul_right _ (List.length_filter_le _ _)
  have h6 : (payE m).length ≤ 3 + m.2.2.2.2.2.length := by
    unfold payE
    have := (headS_len 2 m.2.2.2.2.2.length).2
    cases m.2.1 == 5
    · simp
    · simp only [cond_true, List.length_append, List.length_nil]; omega
  unfold keyE
  simp only [List.length_append]
  omega
theorem keyE_len1 {m : S_api_Message} (h : OkK m) : (keyE m).length ≤ 900000 := by
  have h1 := keyE_len (m := m) (b := 4096) fun o ho => (h.oo.2 o ho).2.2
  have h2 := h.oo.1; have h3 := h.pay
  have : m.2.2.2.2.1.length * (9 + 4096) ≤ 60 * (9 + 4096) := Nat.mul_le_mul_right _ h2
  omega
/-- The key. -/
def keyS (m : S_api_Message) : List UInt8 := bif decide (((keyE m).length : Int) ≤ 4096) then keyE m else []
theorem array_itO {o : S_api_Option} (h0 : 0 ≤ o.1) (h1 : o.1 ≤ 65535) (h2 : o.2.length ≤ 4096) : m_cbor_Array [itU o.1.toNat, itB o.2] = some (itO o) :=
  array_eq (fun y hy => by
    simp only [List.mem_cons, List.not_mem_nil, or_false] at hy
    rcases hy with rfl | rfl
    · exact copied_enc 39 1 _ _ _ (encU (k := 0) (by omega))
    · exact copied_enc 39 1 _ _ _ (encB (k := 0) h2)) (by simp)
theorem keep_bool {R : Type} (o : S_api_Option) (k : Bool → Option R) : (bnd (β := Bool) (letm (!nckB o.1) fun x15 => cond x15 (letm (o.1 != 4) fun x16 => cond x16 (letm (o.1 != 6) fun x17 => some x17) (some false)) (some false)) k) = k (keepN o) := by
  unfold keepN
  simp only [letm_e]
  cases nckB o.1 <;> cases (o.1 != 4) <;> rfl
theorem key_loop {R : Type} {bn : Nat → (Tr × List Tr) → Option R} (z : Tr) : ∀ (l : List S_api_Option) (k : Nat) (acc : List Tr), (∀ o ∈ l, 0 ≤ o.1 ∧ o.1 ≤ 65535 ∧ o.2.length ≤ 4096) → acc.length + l.length ≤ 1000 →
    loopL (R := R) (S := (Tr × List Tr)) (α := S_api_Option) bn (fun x10 _ s12 self13 => bnd (β := (Tr × List Tr)) (bnd (β := Bool) (bnd (m_option_NoCacheKey x10.1) fun x14 => letm ((!x14)) fun x15 => cond x15 (letm ((x10.1 != 4)) fun x16 => cond x16 (letm ((x10.1 != 6)) fun x17 => some x17) (some false)) (some false)) fun v18 =>
      cond v18 (bnd (m_cbor_Int x10.1) fun x19 => bnd (m_cbor_Bytes x10.2) fun x20 => bnd (m_cbor_Array [x19, x20]) fun x21 => bnd (app s12.2 [x21]) fun x22 => some (s12.1, x22)) (some (s12.1, s12.2))) fun v23 => self13 (v23.1, v23.2)) l k (z, acc) = bn (k + l.length) (z, acc ++ (l.filter keepN).map itO)
  | [], k, acc, _, _ => by rw [loopL_nil]; simp
  | o :: l, k, acc, h, hl => by
    obtain ⟨a, b, c⟩ := h o (by simp)
    simp only [List.length_cons] at hl
    rw [loopL_cons, nck_eq, bnd_s, keep_bool]
    have ih := fun acc (ha : acc.length + l.length ≤ 1000) => key_loop (bn := bn) z l (k + 1) acc (fun q hq => h q (by simp [hq])) ha
    cases hk : keepN o with
    | true =>
      rw [cd_t, int_eq a, bnd_s, bytes_eq (by omega), bnd_s, array_itO a b c, bnd_s, app_some' (by simp; omega), bnd_s, bnd_s]
      rw [ih (acc ++ [itO o]) (by simp; omega), List.filter_cons_of_pos hk, List.map_cons, List.length_cons, List.append_assoc, List.singleton_append, Nat.add_assoc, Nat.add_comm 1]
    | false =>
      rw [cd_f, bnd_s]
      rw [ih acc (by omega), List.filter_cons_of_neg (by simp [hk]), List.length_cons, Nat.add_assoc, Nat.add_comm 1]
theorem key_loop_ref {R : Type} {bn : Nat → List Tr → Option R} : ∀ (l : List S_api_Option) (k : Nat) (acc : List Tr), (∀ o ∈ l, 0 ≤ o.1 ∧ o.1 ≤ 65535 ∧ o.2.length ≤ 4096) → acc.length + l.length ≤ 1000 →
    loopL (R := R) (S := List Tr) (α := S_api_Option) bn (fun x10 _ s12 self13 => bnd (β := (List Tr)) (bnd (β := Bool) (bnd (m_coresecref16_NoCacheKey x10.1) fun x14 => letm ((!x14)) fun x15 => cond x15 (letm ((x10.1 != 4)) fun x16 => cond x16 (letm ((x10.1 != 6)) fun x17 => some x17) (some false)) (some false)) fun v18 =>
      cond v18 (bnd (m_coresecref01_Int x10.1) fun x19 => bnd (m_coresecref01_Bytes x10.2) fun x20 => bnd (app s12 [(Tr.mk 4 0 [] [x19, x20])]) fun x21 => some x21) (some s12)) fun v22 => self13 v22) l k acc = bn (k + l.length) (acc ++ (l.filter keepN).map itO)
  | [], k, acc, _, _ => by rw [loopL_nil]; simp
  | o :: l, k, acc, h, hl => by
    obtain ⟨a, b, c⟩ := h o (by simp)
    simp only [List.length_cons] at hl
    rw [loopL_cons, nck_ref, bnd_s, keep_bool]
    have ih := fun acc (ha : acc.length + l.length ≤ 1000) => key_loop_ref (bn := bn) l (k + 1) acc (fun q hq => h q (by simp [hq])) ha
    cases hk : keepN o with
    | true =>
      rw [cd_t, int_ref a, bnd_s, bytes_ref (by omega), bnd_s, app_some' (by simp; omega), bnd_s, bnd_s]
      refine (ih (acc ++ [itO o]) (by simp; omega)).trans ?_
      rw [List.filter_cons_of_pos hk, List.map_cons, List.length_cons, List.append_assoc, List.singleton_append, Nat.add_assoc, Nat.add_comm 1]
    | false =>
      rw [cd_f, bnd_s]
      rw [ih acc (by omega), List.filter_cons_of_neg (by simp [hk]), List.length_cons, Nat.add_assoc, Nat.add_comm 1]
theorem keyL_copied {m : S_api_Message} (h : OkK m) : ∀ y ∈ keyL m, m_cbor_copied y = some y := by
  obtain ⟨f1, f2⟩ := h.flt
  have hc0 := h.c0; have hc1 := h.c1
  intro y hy
  unfold keyL at hy
  rcases List.mem_cons.1 hy with rfl | hy
  · exact copied_enc 39 1 _ _ _ (encU (k := 0) (by omega))
  rcases List.mem_cons.1 hy with rfl | hy
  · exact copied_enc 37 3 _ _ _ (.inr (.inr ⟨_, _, _, rfl, by rw [List.length_map]; omega, enc_opts f2, rfl, rfl⟩))
  · unfold payL at hy
    cases hb : m.2.1 == 5 with
    | false => rw [hb] at hy; simp at hy
    | true =>
      rw [hb, cond_true] at hy
      rw [List.mem_singleton.1 hy]
      exact copied_enc 39 1 _ _ _ (encB (k := 0) h.pay)
theorem encS4_1 (e : List UInt8) : (encS4 e).1 = bif decide ((e.length : Int) ≤ 4096) then e else [] := by
  unfold encS4; cases decide ((e.length : Int) ≤ 4096) <;> rfl
theorem key_eq {m : S_api_Message} (h : OkK m) : m_option_CacheKey m = some (keyS m) := by
  obtain ⟨c, hc, he⟩ := enc_key h
  have hl := keyE_len1 h
  unfold m_option_CacheKey
  refine (key_loop _ _ 0 [] h.oo.2 (by have := h.oo.1; simp; omega)).trans ?_
  rw [List.nil_append]
  have ha : m_cbor_Array (keyL m) = some (.mk 4 0 [] (keyL m)) := array_eq (keyL_copied h) (by
    obtain ⟨f1, _⟩ := h.flt
    unfold keyL payL
    cases m.2.1 == 5 <;> simp)
  have hi : m_cbor_Int m.2.1 = some (itU m.2.1.toNat) := int_eq h.c0
  rw [hi, bnd_s]
  have hb : m_cbor_Bytes m.2.2.2.2.2 = some (itB m.2.2.2.2.2) := bytes_eq (by have := h.pay; omega)
  have fin : ∀ l, l = keyL m → (bnd (m_cbor_Array l) fun x8 => bnd (m_cbor_Encode x8) fun x9 => some x9.1) = some (keyS m) := by
    rintro _ rfl
    rw [ha, bnd_s, encode_eq he hc hl, bnd_s, encS4_1]; rfl
  rw [letm_e]
  cases hq : m.2.1 == 5 with
  | true =>
    rw [cd_t, hb, bnd_s, app_some' (by simp), bnd_s, bnd_s]
    refine fin _ ?_
    unfold keyL payL
    rw [hq]; rfl
  | false =>
    rw [cd_f, bnd_s]
    refine fin _ ?_
    unfold keyL payL
    rw [hq]; rfl
theorem key_ref {m : S_api_Message} (h : OkK m) : m_coresecref16_CacheKey m = some (keyS m) := by
  obtain ⟨c, hc, he⟩ := enc_key h
  have hl := keyE_len1 h
  unfold m_coresecref16_CacheKey
  refine (key_loop_ref _ 0 [] h.oo.2 (by have := h.oo.1; simp; omega)).trans ?_
  rw [List.nil_append]
  have hi : m_coresecref01_Int m.2.1 = some (itU m.2.1.toNat) := int_ref h.c0
  rw [hi, bnd_s]
  have hb : m_coresecref01_Bytes m.2.2.2.2.2 = some (itB m.2.2.2.2.2) := bytes_ref (by have := h.pay; omega)
  have fin : ∀ l, l = keyL m → (bnd (m_coresecref01_Encode (Tr.mk 4 0 [] l)) fun x8 => letm ((x8.2 != 0)) fun x9 => cond x9 (some []) (some x8.1)) = some (keyS m) := by
    rintro _ rfl
    rw [encode_ref he hc hl, bnd_s, letm_e]
    unfold encS4 keyS
    cases decide (((keyE m).length : Int) ≤ 4096) <;> rfl
  rw [letm_e]
  cases hq : m.2.1 == 5 with
  | true =>
    rw [cd_t, hb, bnd_s, app_some' (by simp), bnd_s, bnd_s]
    refine fin _ ?_
    unfold keyL payL
    rw [hq]; rfl
  | false =>
    rw [cd_f, bnd_s]
    refine fin _ ?_
    unfold keyL payL
    rw [hq]; rfl
theorem Mg.okK {k b : Nat} {m : S_api_Message} (h : Mg k b m) (hk : k ≤ 60) (hb : b ≤ 4096) : OkK m :=
  ⟨by have : ∀ c ∈ ([1, 2, 5, 69, 132] : List Int), 0 ≤ c := by decide
      exact this _ h.cd, by have : ∀ c ∈ ([1, 2, 5, 69, 132] : List Int), c ≤ 255 := by decide
                            exact this _ h.cd,
   ⟨by have := h.ol; omega, fun o ho => by
      have h1 := h.srt.num o ho; have h2 := h.srt.val o ho
      exact ⟨h1.1, h1.2, by omega⟩⟩, by have := h.pay; omega⟩
theorem mk0 (n : Nat) (h : n ≤ 65536) : mkl (n : Int) (0 : UInt8) = some (List.replicate n 0) := by
  unfold mkl
  rw [show (decide (0 ≤ (n : Int)) && decide ((n : Int) ≤ 65536)) = true by simp; omega]; rfl
theorem OptionKeys_true (a0 : List Int) (h0 : a0.length ≤ maxLen) : m_coreseclaw16_OptionKeys a0 = some true := by
  obtain ⟨m, em, gm⟩ := message_some h0
  obtain ⟨p, e1, lp⟩ : ∃ p, mkl (1000 : Int) (0 : UInt8) = some p ∧ p.length = 1000 := ⟨_, mk0 1000 (by omega), List.length_replicate ..⟩
  obtain ⟨q, e2, lq⟩ : ∃ p, mkl (900 : Int) (0 : UInt8) = some p ∧ p.length = 900 := ⟨_, mk0 900 (by omega), List.length_replicate ..⟩
  have hs : (setO m.2.2.2.2.1 4000 [p, p, p, q]).length ≤ 11 := by
    have := setO_len m.2.2.2.2.1 4000 [p, p, p, q]
    have := gm.ol
    simp only [List.length_cons, List.length_nil] at *
    omega
  obtain ⟨s1, s2⟩ := (gm.mono (Nat.le_refl 7) (show 256 ≤ 1000 by omega)).set (n := 4000) (vs := [p, p, p, q]) (j := 11) (by omega) (by omega) (by omega) (by omega) (by simp) hs (fun v hv => by
    simp only [List.mem_cons, List.not_mem_nil, or_false] at hv
    rcases hv with rfl | rfl | rfl | rfl <;> omega)
  have hk := gm.okK (by omega) (by omega)
  have hk2 := s2.okK (by omega) (by omega)
  unfold m_coreseclaw16_OptionKeys
  rw [em, bnd_s, e1, bnd_s, bnd_s, bnd_s, e2, bnd_s, s1, bnd_s, key_eq hk, bnd_s, key_ref hk, bnd_s, letm_e, beq_self_eq_true, cd_t, ref_valid_eq, bnd_s, letm_e, awake16]
  cases valM (withO m (setO m.2.2.2.2.1 4000 [p, p, p, q])) with
  | false => rfl
  | true => rw [Bool.not_true, cd_f, key_eq hk2, bnd_s, key_ref hk2, bnd_s, letm_e, beq_self_eq_true]; rfl
end Go.Proofs.YtllomdfckciedaaDoor
