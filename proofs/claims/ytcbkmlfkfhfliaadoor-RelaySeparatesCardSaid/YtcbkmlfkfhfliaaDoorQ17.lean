/-
  Messages, plain facts: which are valid, by both texts; the length of their bytes. Of the models alone; no program; no condition.
-/
import Derived.Test.YtcbkmlfkfhfliaaDoorQ16
namespace Go.Proofs.YtcbkmlfkfhfliaaDoor
open Go.Gk Go.RowKit
theorem coap_valid_cond (m : S_api_Message) : m_coap_Valid m = cond (sndM m) (bnd (m_coap_encode m) fun x => some (decide ((x.length : Int) ≤ 4096))) (some false) := by
  unfold m_coap_Valid
  rw [sound_eq, bnd_s]; first | rfl | (cases sndM m <;> first | rfl | (cases m_coap_encode m <;> rfl))
/-- What is known of a message that may be. -/
theorem optsB_len : ∀ {l : List S_api_Option} {n : Int}, optsB n l = true → ∀ o ∈ l, o.2.length ≤ 1034 ∧ 0 ≤ o.1 - n ∧ o.1 ≤ 65535
  | [], _, _, o, ho => by simp at ho
  | x :: l, n, h, o, ho => by
    simp only [optsB, Bool.and_eq_true, Bool.not_eq_true', decide_eq_false_iff_not] at h
    obtain ⟨⟨⟨h1, h2⟩, h3⟩, h4⟩ := h
    rcases List.mem_cons.1 ho with rfl | ho
    · exact ⟨by omega, by omega, by omega⟩
    · obtain ⟨a, b, c⟩ := optsB_len h4 o ho
      exact ⟨a, by omega, c⟩
structure SndM (m : S_api_Message) : Prop where
  t0 : 0 ≤ m.1
  t3 : m.1 ≤ 3
  c0 : 0 ≤ m.2.1
  c255 : m.2.1 ≤ 255
  i0 : 0 ≤ m.2.2.1
  i65535 : m.2.2.1 ≤ 65535
  tok : m.2.2.2.1.length ≤ 8
  ol : m.2.2.2.2.1.length ≤ 32
  ob : optsB 0 m.2.2.2.2.1 = true
  pay : m.2.2.2.2.2.length ≤ 4096
theorem sndM_facts {m : S_api_Message} (h : sndM m = true) : SndM m := by
  unfold sndM at h
  simp only [Bool.and_eq_true, Bool.not_eq_true', decide_eq_false_iff_not, decide_eq_true_eq] at h
  obtain ⟨⟨⟨⟨⟨⟨⟨⟨⟨⟨⟨⟨h1, h2⟩, h3⟩, h4⟩, _⟩, h5⟩, h6⟩, h7⟩, h8⟩, h9⟩, _⟩, _⟩, h10⟩ := h
  exact ⟨by omega, by omega, by omega, by omega, by omega, by omega, by omega, by omega, h9, by omega⟩
theorem SndM.len {m : S_api_Message} (h : SndM m) : LenM m := ⟨by have := h.tok; omega, ⟨by have := h.ol; omega, fun o ho => by have := (optsB_len h.ob o ho).1; omega⟩, by have := h.pay; omega⟩
/-! ### The bytes -/
def extS (d : Int) : S_api_Option := bif decide (d < 13) then (d, []) else bif decide (d < 269) then (13, [toU8 (w64 (d - 13))]) else (14, [toU8 (w64 (d - 269) / 256), toU8 (w64 (d - 269))])
theorem extS_len (d : Int) : (extS d).2.length ≤ 2 := by
  unfold extS
  cases decide (d < 13) <;> cases decide (d < 269) <;> simp
def rawO : Int → List S_api_Option → List UInt8
  | _, [] => []
  | n, o :: r => toU8 (w64 (w64 (16 * (extS (w64 (o.1 - n))).1) + (extS (o.2.length : Int)).1)) :: ((extS (w64 (o.1 - n))).2 ++ ((extS (o.2.length : Int)).2 ++ (o.2 ++ rawO o.1 r)))
def rawT (p : List UInt8) : List UInt8 := bif decide (0 < (p.length : Int)) then 255 :: p else []
def rawS (m : S_api_Message) : List UInt8 :=
  [toU8 (w64 (w64 (64 + w64 (16 * m.1)) + (m.2.2.2.1.length : Int))), toU8 m.2.1, toU8 (m.2.2.1 / 256), toU8 m.2.2.1] ++ (m.2.2.2.1 ++ (rawO 0 m.2.2.2.2.1 ++ rawT m.2.2.2.2.2))
def szO (l : List S_api_Option) : Nat := (l.map fun o => o.2.length + 5).sum
theorem szO_cons (o : S_api_Option) (l : List S_api_Option) : szO (o :: l) = o.2.length + 5 + szO l := by unfold szO; simp
theorem szO_le {l : List S_api_Option} {b : Nat} (h : ∀ o ∈ l, o.2.length ≤ b) : szO l ≤ l.length * (b + 5) := by
  induction l with
  | nil => simp [szO]
  | cons o l ih =>
    have h1 := h o (by simp)
    have h2 := ih fun x hx => h x (by simp [hx])
    rw [szO_cons, List.length_cons, Nat.succ_mul]; omega
theorem rawO_len : ∀ (l : List S_api_Option) (n : Int), (rawO n l).length ≤ szO l
  | [], _ => by simp [rawO]
  | o :: l, n => by
    have h1 := extS_len (w64 (o.1 - n))
    have h2 := extS_len (o.2.length : Int)
    have h3 := rawO_len l o.1
    rw [szO_cons]
    simp only [rawO, List.length_cons, List.length_append]; omega
theorem SndM.sz {m : S_api_Message} (h : SndM m) : szO m.2.2.2.2.1 ≤ 33248 := by
  have h1 := szO_le (l := m.2.2.2.2.1) (b := 1034) fun o ho => (optsB_len h.ob o ho).1
  have h2 := Nat.mul_le_mul_right 1039 h.ol
  omega
/-- Valid messages. -/
def valM (m : S_api_Message) : Bool := sndM m && decide (((rawS m).length : Int) ≤ 4096)
theorem valM_snd {m : S_api_Message} (h : valM m = true) : SndM m := by
  unfold valM at h; rw [Bool.and_eq_true] at h; exact sndM_facts h.1
/-- A valid message of a code but 0 stays valid without type, number and token. -/
theorem valM_bare {m : S_api_Message} (h : valM m = true) (hc : (m.2.1 == 0) = false) : valM (0, (m.2.1, (0, ([], (m.2.2.2.2.1, m.2.2.2.2.2))))) = true := by
  unfold valM at h ⊢
  rw [Bool.and_eq_true] at h ⊢
  obtain ⟨h1, h2⟩ := h
  refine ⟨?_, ?_⟩
  · unfold sndM at h1 ⊢
    simp only [Bool.and_eq_true, Bool.not_eq_true', decide_eq_false_iff_not, decide_eq_true_eq] at h1 ⊢
    obtain ⟨⟨⟨⟨⟨⟨⟨⟨⟨⟨⟨⟨h1, h2⟩, h3⟩, h4⟩, h11⟩, h5⟩, h6⟩, h7⟩, h8⟩, h9⟩, _⟩, _⟩, h10⟩ := h1
    refine ⟨⟨⟨⟨⟨⟨⟨⟨⟨⟨⟨⟨by decide, by decide⟩, h3⟩, h4⟩, h11⟩, by decide⟩, by decide⟩, by simp⟩, h8⟩, h9⟩, ?_⟩, by rfl⟩, h10⟩
    rw [hc]; rfl
  · simp only [decide_eq_true_eq] at h2 ⊢
    have e : (rawS (0, (m.2.1, (0, ([], (m.2.2.2.2.1, m.2.2.2.2.2)))))).length ≤ (rawS m).length := by
      unfold rawS; simp
    omega
end Go.Proofs.YtcbkmlfkfhfliaaDoor
