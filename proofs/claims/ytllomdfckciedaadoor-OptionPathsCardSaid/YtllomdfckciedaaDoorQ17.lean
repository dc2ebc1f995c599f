/-
  Messages, plain facts: which are valid, by both texts; the length of their bytes. Of the models alone; no program; no condition.
-/
import Derived.Test.YtllomdfckciedaaDoorQ16
namespace Go.Proofs.YtllomdfckciedaaDoor
open Go.Gk Go.RowKit
theorem coap_valid_cond (m : S_api_Message) : m_coap_Valid m = cond (sndM m) (bnd (m_coap_encode m) fun x => some (decide ((x.length : Int) ≤ 4096))) (some false) := by
  unfold m_coap_Valid
  rw [sound_eq, bnd_s]; first | rfl | (cases sndM m <;> first | rfl | (cases m_coap_encode m <;> rfl))
theorem ref_valid_cond (m : S_api_Message) : m_coresecref15_Valid m = cond (sndM m) (bnd (m_coresecref15_Raw m) fun x => some (decide ((x.length : Int) ≤ 4096))) (some false) := by
  unfold m_coresecref15_Valid sndM clsB
  have hp : decide ((m.2.2.2.2.2.length : Int) ≤ 4096) = !(decide (4096 < (m.2.2.2.2.2.length : Int))) := by
    by_cases h : (m.2.2.2.2.2.length : Int) ≤ 4096
    · rw [decide_eq_true h, decide_eq_false (by omega)]; rfl
    · rw [decide_eq_false h, decide_eq_true (by omega)]; rfl
  rw [hp]
  simp only [letm_e, cd_or, cd_and, bnd_s, opts_loop, bne]
  by_cases hneg : m.2.1 < 0
  · simp only [decide_eq_true hneg, Bool.true_or, Bool.or_true, Bool.not_true, Bool.and_false, Bool.false_and, cd_f, cd_t]
  obtain ⟨c, hc⟩ : ∃ c : Nat, m.2.1 = (c : Int) := ⟨m.2.1.toNat, by omega⟩
  by_cases hbig : 255 < m.2.1
  · simp only [decide_eq_true hbig, Bool.true_or, Bool.or_true, Bool.not_true, Bool.and_false, Bool.false_and, cd_f, cd_t]
  have hq : quo m.2.1 32 = some (m.2.1 / 32) := by
    rw [hc]
    have := quo_nat (a := c) (b := 32) (by omega) (by omega)
    rw [show ((32 : Nat) : Int) = 32 from rfl] at this
    rw [this]; congr 1
  rw [hq]
  simp only [bnd_s]
  generalize m.2.1 / 32 = x1
  generalize (bnd (m_coresecref15_Raw m) fun x => some (decide ((x.length : Int) ≤ 4096))) = R
  simp only [decide_eq_false hneg, decide_eq_false hbig]
  generalize decide (m.1 < 0) = b1
  generalize decide (3 < m.1) = b2
  generalize decide (m.2.2.1 < 0) = b5
  generalize decide (65535 < m.2.2.1) = b6
  generalize decide (8 < (m.2.2.2.1.length : Int)) = b7
  generalize decide (32 < (m.2.2.2.2.1.length : Int)) = b8
  generalize optsB 0 m.2.2.2.2.1 = b9
  generalize decide (4096 < (m.2.2.2.2.2.length : Int)) = b10
  simp only [Bool.false_or, Bool.not_false, Bool.and_true]
  cases b1 <;> simp only [Bool.not_true, Bool.not_false, Bool.false_and, Bool.true_and, Bool.true_or, Bool.false_or, cd_t, cd_f]
  cases b2 <;> simp only [Bool.not_true, Bool.not_false, Bool.false_and, Bool.true_and, Bool.true_or, Bool.false_or, cd_t, cd_f]
  cases b5 <;> simp only [Bool.not_true, Bool.not_false, Bool.false_and, Bool.and_true, Bool.and_false, Bool.true_or, Bool.false_or, cd_t, cd_f]
  cases b6 <;> simp only [Bool.not_true, Bool.not_false, Bool.false_and, Bool.and_true, Bool.and_false, Bool.true_or, Bool.false_or, cd_t, cd_f]
  cases b7 <;> simp only [Bool.not_true, Bool.not_false, Bool.false_and, Bool.and_true, Bool.and_false, Bool.true_or, Bool.false_or, cd_t, cd_f]
  cases b8 <;> simp only [Bool.not_true, Bool.not_false, Bool.false_and, Bool.and_true, Bool.and_false, Bool.true_or, Bool.false_or, cd_t, cd_f]
  cases b10 <;> simp only [Bool.not_true, Bool.not_false, Bool.and_true, Bool.and_false, cd_t, cd_f]
  cases b9 <;> simp only [Bool.false_and, Bool.and_true, Bool.and_false, cd_t, cd_f]
  · cases x1 == 0 <;> cases x1 == 2 <;> cases x1 == 4 <;> cases x1 == 5 <;> rfl
  · cases x1 == 0 <;> cases x1 == 2 <;> cases x1 == 4 <;> cases x1 == 5 <;> cases m.2.1 == 0 <;> cases m.1 == 3 <;> cases decide (0 < w64 (w64 ((m.2.2.2.1.length : Int) + (m.2.2.2.2.1.length : Int)) + (m.2.2.2.2.2.length : Int))) <;> rfl
/-- What is known of a message that may be. -/
theorem optsB_len : ∀ {l : List S_api_Option} {n : Int}, optsB n l = true → ∀ o ∈ l, o.2.length ≤ 1034 ∧ 0 ≤ o.1 - n ∧ o.1 ≤ 65535
  | [], _, _, o, ho => by simp at ho
  | x :: l, n, h, o, ho => by
    simp only [optsB, Bool.and_eq_true, Bool.not_eq_true', decide_eq_false_iff_not] at h
    obtain ⟨⟨⟨h1, h2⟩, h3⟩, h4⟩ := h
    rcases List.mem_cons.1 ho with rfl | ho
    · exact ⟨by omega, by omega, by omega⟩
    · obtain ⟨a, b, c⟩ := optsB_len h4 o ho
      exact ⟨a, by omega, c⟩
structure SndM (m : S_api_Message) : Prop where
  t0 : 0 ≤ m.1
  t3 : m.1 ≤ 3
  c0 : 0 ≤ m.2.1
  c255 : m.2.1 ≤ 255
  i0 : 0 ≤ m.2.2.1
  i65535 : m.2.2.1 ≤ 65535
  tok : m.2.2.2.1.length ≤ 8
  ol : m.2.2.2.2.1.length ≤ 32
  ob : optsB 0 m.2.2.2.2.1 = true
  pay : m.2.2.2.2.2.length ≤ 4096
theorem sndM_facts {m : S_api_Message} (h : sndM m = true) : SndM m := by
  unfold sndM at h
  simp only [Bool.and_eq_true, Bool.not_eq_true', decide_eq_false_iff_not, decide_eq_true_eq] at h
  obtain ⟨⟨⟨⟨⟨⟨⟨⟨⟨⟨⟨⟨h1, h2⟩, h3⟩, h4⟩, _⟩, h5⟩, h6⟩, h7⟩, h8⟩, h9⟩, _⟩, _⟩, h10⟩ := h
  exact ⟨by omega, by omega, by omega, by omega, by omega, by omega, by omega, by omega, h9, by omega⟩
theorem SndM.len {m : S_api_Message} (h : SndM m) : LenM m := ⟨by have := h.tok; omega, ⟨by have := h.ol; omega, fun o ho => by have := (optsB_len h.ob o ho).1; omega⟩, by have := h.pay; omega⟩
theorem valid_same (m : S_api_Message) : m_coap_Valid m = m_coresecref15_Valid m := by
  rw [coap_valid_cond, ref_valid_cond]
  cases h : sndM m with
  | false => rfl
  | true =>
    have := sndM_facts h
    rw [encode_raw m this.t0 this.t3 this.tok]
/-! ### The bytes -/
def extS (d : Int) : S_api_Option := bif decide (d < 13) then (d, []) else bif decide (d < 269) then (13, [toU8 (w64 (d - 13))]) else (14, [toU8 (w64 (d - 269) / 256), toU8 (w64 (d - 269))])
theorem ext_eq (d : Int) : m_coresecref15_extended d = some (extS d) := by
  unfold m_coresecref15_extended extS
  simp only [letm_e, shr8, bnd_s]
  cases decide (d < 13) <;> cases decide (d < 269) <;> rfl
theorem extS_len (d : Int) : (extS d).2.length ≤ 2 := by
  unfold extS
  cases decide (d < 13) <;> cases decide (d < 269) <;> simp
def rawO : Int → List S_api_Option → List UInt8
  | _, [] => []
  | n, o :: r => toU8 (w64 (w64 (16 * (extS (w64 (o.1 - n))).1) + (extS (o.2.length : Int)).1)) :: ((extS (w64 (o.1 - n))).2 ++ ((extS (o.2.length : Int)).2 ++ (o.2 ++ rawO o.1 r)))
def rawT (p : List UInt8) : List UInt8 := bif decide (0 < (p.length : Int)) then 255 :: p else []
def rawS (m : S_api_Message) : List UInt8 :=
  [toU8 (w64 (w64 (64 + w64 (16 * m.1)) + (m.2.2.2.1.length : Int))), toU8 m.2.1, toU8 (m.2.2.1 / 256), toU8 m.2.2.1] ++ (m.2.2.2.1 ++ (rawO 0 m.2.2.2.2.1 ++ rawT m.2.2.2.2.2))
def szO (l : List S_api_Option) : Nat := (l.map fun o => o.2.length + 5).sum
theorem szO_cons (o : S_api_Option) (l : List S_api_Option) : szO (o :: l) = o.2.length + 5 + szO l := by unfold szO; simp
theorem szO_le {l : List S_api_Option} {b : Nat} (h : ∀ o ∈ l, o.2.length ≤ b) : szO l ≤ l.length * (b + 5) := by
  induction l with
  | nil => simp [szO]
  | cons o l ih =>
    have h1 := h o (by simp)
    have h2 := ih fun x hx => h x (by simp [hx])
    rw [szO_cons, List.length_cons, Nat.succ_mul]; omega
theorem rawO_len : ∀ (l : List S_api_Option) (n : Int), (rawO n l).length ≤ szO l
  | [], _ => by simp [rawO]
  | o :: l, n => by
    have h1 := extS_len (w64 (o.1 - n))
    have h2 := extS_len (o.2.length : Int)
    have h3 := rawO_len l o.1
    rw [szO_cons]
    simp only [rawO, List.length_cons, List.length_append]; omega
theorem raw_loop (p : List UInt8) (hp : p.length ≤ 1000000) : ∀ (xs : List S_api_Option) (k : Nat) (b : List UInt8) (n : Int), b.length + szO xs ≤ 1000000000 → loopL (R := (List UInt8)) (S := ((List UInt8) × Int)) (α := S_api_Option)
    (fun _ s11 => bnd (β := (List UInt8)) (letm (decide (0 < (p.length : Int))) fun x12 => cond x12 (bnd (app s11.1 [255]) fun x13 => bnd (app x13 p) fun x14 => some x14) (some s11.1)) fun v15 => some v15)
    (fun x16 _ s18 self19 => letm ((w64 (x16.1 - s18.2))) fun x20 => bnd (m_coresecref15_extended x20) fun x21 => bnd (m_coresecref15_extended (x16.2.length : Int)) fun x22 => letm ((w64 (16 * x21.1))) fun x23 => letm ((w64 (x23 + x22.1))) fun x24 => letm ((toU8 x24)) fun x25 =>
      bnd (app s18.1 [x25]) fun x26 => bnd (app x26 x21.2) fun x27 => bnd (app x27 x22.2) fun x28 => bnd (app x28 x16.2) fun x29 => self19 (x29, x16.1)) xs k (b, n) = some (b ++ (rawO n xs ++ rawT p))
  | [], k, b, n, h => by
    rw [loopL_nil, letm_e]
    unfold rawT
    cases hd : decide (0 < (p.length : Int)) with
    | false => simp [rawO, bnd_s, cd_f]
    | true =>
      rw [cd_t, app_some' (by simp; simp [szO] at h; omega), bnd_s, app_some' (by simp; simp [szO] at h; omega)]
      simp [rawO, bnd_s]
  | x :: xs, k, b, n, h => by
    rw [szO_cons] at h
    have h1 := extS_len (w64 (x.1 - n))
    have h2 := extS_len (x.2.length : Int)
    rw [loopL_cons]
    simp only [letm_e, ext_eq, bnd_s]
    rw [app_some' (by simp; omega), bnd_s, app_some' (by simp; omega), bnd_s, app_some' (by simp; omega), bnd_s, app_some' (by simp; omega), bnd_s]
    have ih := raw_loop p hp xs (k + 1) (b ++ [toU8 (w64 (w64 (16 * (extS (w64 (x.1 - n))).1) + (extS (x.2.length : Int)).1))] ++ (extS (w64 (x.1 - n))).2 ++ (extS (x.2.length : Int)).2 ++ x.2) x.1 (by simp; omega)
    simp only [letm_e, ext_eq, bnd_s] at ih
    rw [ih]
    simp [rawO]
theorem raw_eq {m : S_api_Message} (h1 : m.2.2.2.1.length ≤ 1000000) (h2 : szO m.2.2.2.2.1 ≤ 900000000) (h3 : m.2.2.2.2.2.length ≤ 1000000) : m_coresecref15_Raw m = some (rawS m) := by
  unfold m_coresecref15_Raw
  simp only [letm_e, shr8, bnd_s]
  rw [app_some' (by simp; omega), bnd_s]
  have := raw_loop m.2.2.2.2.2 h3 m.2.2.2.2.1 0 ([toU8 (w64 (w64 (64 + w64 (16 * m.1)) + (m.2.2.2.1.length : Int))), toU8 m.2.1, toU8 (m.2.2.1 / 256), toU8 m.2.2.1] ++ m.2.2.2.1) 0 (by simp; omega)
  simp only [letm_e] at this
  rw [this]
  unfold rawS
  simp
theorem SndM.sz {m : S_api_Message} (h : SndM m) : szO m.2.2.2.2.1 ≤ 33248 := by
  have h1 := szO_le (l := m.2.2.2.2.1) (b := 1034) fun o ho => (optsB_len h.ob o ho).1
  have h2 := Nat.mul_le_mul_right 1039 h.ol
  omega
theorem SndM.raw {m : S_api_Message} (h : SndM m) : m_coresecref15_Raw m = some (rawS m) := raw_eq (by have := h.tok; omega) (by have := h.sz; omega) (by have := h.pay; omega)
/-- Valid messages. -/
def valM (m : S_api_Message) : Bool := sndM m && decide (((rawS m).length : Int) ≤ 4096)
theorem ref_valid_eq (m : S_api_Message) : m_coresecref15_Valid m = some (valM m) := by
  rw [ref_valid_cond]
  unfold valM
  cases h : sndM m with
  | false => rfl
  | true => rw [cd_t, (sndM_facts h).raw, bnd_s, Bool.true_and]
theorem coap_valid_eq (m : S_api_Message) : m_coap_Valid m = some (valM m) := by rw [valid_same, ref_valid_eq]
theorem valM_snd {m : S_api_Message} (h : valM m = true) : SndM m := by
  unfold valM at h; rw [Bool.and_eq_true] at h; exact sndM_facts h.1
/-- A valid message of a code but 0 stays valid without type, number and token. -/
theorem valM_bare {m : S_api_Message} (h : valM m = true) (hc : (m.2.1 == 0) = false) : valM (0, (m.2.1, (0, ([], (m.2.2.2.2.1, m.2.2.2.2.2))))) = true := by
  unfold valM at h ⊢
  rw [Bool.and_eq_true] at h ⊢
  obtain ⟨h1, h2⟩ := h
  refine ⟨?_, ?_⟩
  · unfold sndM at h1 ⊢
    simp only [Bool.and_eq_true, Bool.not_eq_true', decide_eq_false_iff_not, decide_eq_true_eq] at h1 ⊢
    obtain ⟨⟨⟨⟨⟨⟨⟨⟨⟨⟨⟨⟨h1, h2⟩, h3⟩, h4⟩, h11⟩, h5⟩, h6⟩, h7⟩, h8⟩, h9⟩, _⟩, _⟩, h10⟩ := h1
    refine ⟨⟨⟨⟨⟨⟨⟨⟨⟨⟨⟨⟨by decide, by decide⟩, h3⟩, h4⟩, h11⟩, by decide⟩, by decide⟩, by simp⟩, h8⟩, h9⟩, ?_⟩, by rfl⟩, h10⟩
    rw [hc]; rfl
  · simp only [decide_eq_true_eq] at h2 ⊢
    have e : (rawS (0, (m.2.1, (0, ([], (m.2.2.2.2.1, m.2.2.2.2.2)))))).length ≤ (rawS m).length := by
      unfold rawS; simp
    omega
end Go.Proofs.YtllomdfckciedaaDoor
