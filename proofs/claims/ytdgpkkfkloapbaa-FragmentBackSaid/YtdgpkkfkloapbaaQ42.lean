/-
  Blocks inside messages, plain facts: the law FragmentPuts. Of the models alone; no program; no condition but that a list of numbers is not longer than memory.
-/
import Derived.Test.YtdgpkkfkloapbaaQ41
namespace Go.Proofs.Ytdgpkkfkloapbaa
open Go.Gk Go.RowKit
theorem awake33 : m_coreseclaw33_awake = some true := by kernel_rfl
theorem small_eq (l : List UInt8) : m_coresecmake2_Small l = some (decide ((l.length : Int) ≤ 900)) := rfl
def smallM (m : S_api_Message) : Bool := (m.2.2.2.2.1.all fun o => decide ((o.2.length : Int) ≤ 900)) && (decide ((m.2.2.2.2.1.length : Int) ≤ 20) && (decide ((m.2.2.2.1.length : Int) ≤ 900) && decide ((m.2.2.2.2.2.length : Int) ≤ 900)))
theorem message_go (c : Bool) : ∀ (l : List S_api_Option) (k : Nat), loopL (R := Bool) (S := Unit) (α := S_api_Option) (fun _ _ => some c) (fun x6 _ _ self9 => cond (!decide ((x6.2.length : Int) ≤ 900)) (some false) (self9 ())) l k () = some ((l.all fun o => decide ((o.2.length : Int) ≤ 900)) && c)
  | [], _ => rfl
  | o :: l, k => by
    rw [loopL_cons, message_go c l (k + 1), List.all_cons]
    cases decide ((o.2.length : Int) ≤ 900) <;> rfl
theorem message_eq (m : S_api_Message) : m_coresecmake2_Message m = some (smallM m) := by
  unfold m_coresecmake2_Message smallM
  simp only [letm_e, small_eq, bnd_s, cd_and, message_go]
theorem smallM_len {m : S_api_Message} (h : smallM m = true) : LenM m ∧ m.2.2.2.2.1.length ≤ 20 ∧ m.2.2.2.2.2.length ≤ 900 := by
  unfold smallM at h
  simp only [Bool.and_eq_true, List.all_eq_true, decide_eq_true_eq] at h
  obtain ⟨h1, h2, h3, h4⟩ := h
  exact ⟨⟨by omega, ⟨by omega, fun o ho => by have := h1 o ho; omega⟩, by omega⟩, by omega, by omega⟩
def lightB (l : List S_api_Partial) : Bool := (l.all fun p => decide ((p.2.1.length : Int) ≤ 900) && decide ((p.2.2.1.length : Int) ≤ 900)) && decide ((l.length : Int) ≤ 20)
theorem light_go (c : Bool) : ∀ (l : List S_api_Partial) (k : Nat), loopL (R := Bool) (S := Unit) (α := S_api_Partial) (fun _ _ => some c) (fun x4 _ _ self7 => cond (!decide ((x4.2.1.length : Int) ≤ 900) || !decide ((x4.2.2.1.length : Int) ≤ 900)) (some false) (self7 ())) l k () = some ((l.all fun p => decide ((p.2.1.length : Int) ≤ 900) && decide ((p.2.2.1.length : Int) ≤ 900)) && c)
  | [], _ => rfl
  | o :: l, k => by
    rw [loopL_cons, light_go c l (k + 1), List.all_cons]
    cases decide ((o.2.1.length : Int) ≤ 900) <;> cases decide ((o.2.2.1.length : Int) ≤ 900) <;> rfl
theorem light_eq (l : List S_api_Partial) : m_coreseclaw33_light l = some (lightB l) := by
  unfold m_coreseclaw33_light lightB
  simp only [letm_e, small_eq, bnd_s, cd_or, light_go]
theorem light_len {l : List S_api_Partial} (h : lightB l = true) : LenP l := by
  unfold lightB at h
  simp only [Bool.and_eq_true, List.all_eq_true, decide_eq_true_eq] at h
  obtain ⟨h1, h2⟩ := h
  exact ⟨by omega, fun p hp => by have := h1 p hp; omega⟩
/-- A block of a body, its number and its size told. -/
def cutS (p : List UInt8) (n s : Nat) : List UInt8 × (Bool × Int) :=
  if p.length ≤ n * (16 * 2 ^ s) ∧ 0 < n * (16 * 2 ^ s) + p.length then ([], (false, 10))
  else ((p.take (min p.length (n * (16 * 2 ^ s) + 16 * 2 ^ s))).drop (n * (16 * 2 ^ s)), (decide (n * (16 * 2 ^ s) + 16 * 2 ^ s < p.length), 0))
theorem cut_both (p : List UInt8) (n s : Nat) (hp : p.length ≤ 100000) (hn : n ≤ 1000000) (hs : s ≤ 6) : m_block_Cut p n s = some (cutS p n s) ∧ m_coresecref18_Cut p n s = some (cutS p n s) := by
  have hsnd : sndB ((n : Int), (false, (s : Int))) = true := sndB_iff.2 ⟨by show (0 : Int) ≤ (n : Int); omega, by show (n : Int) ≤ 1048575; omega, by show (0 : Int) ≤ (s : Int); omega, by show (s : Int) ≤ 6; omega⟩
  obtain ⟨b1, b2⟩ := blength hs
  have h2 : 2 ^ s ≤ 2 ^ 6 := Nat.pow_le_pow_right (by omega) hs
  unfold m_block_Cut m_coresecref18_Cut cutS
  rw [bsound_eq, bvalid18_eq, hsnd, b1, b2]
  have hL : 16 * 2 ^ s ≤ 1024 := by omega
  generalize 16 * 2 ^ s = L at hL ⊢
  have hnL : n * L ≤ 1000000 * 1024 := Nat.mul_le_mul hn hL
  have w1 : w64 ((n : Int) * (L : Int)) = ((n * L : Nat) : Int) := by rw [← Int.natCast_mul, w64_of (by omega) (by omega)]
  simp only [letm_e, bnd_s, Bool.not_true, cd_f, w1, cd_and]
  have w2 : w64 (((n * L : Nat) : Int) + (p.length : Int)) = ((n * L + p.length : Nat) : Int) := by rw [w64_of (by omega) (by omega)]; omega
  have w3 : w64 (((n * L : Nat) : Int) + (L : Int)) = ((n * L + L : Nat) : Int) := by rw [w64_of (by omega) (by omega)]; omega
  rw [w2, w3]
  by_cases h : p.length ≤ n * L ∧ 0 < n * L + p.length
  · rw [if_pos h, decide_eq_true (show (p.length : Int) ≤ ((n * L : Nat) : Int) by omega), decide_eq_true (show 0 < ((n * L + p.length : Nat) : Int) by omega)]
    exact ⟨rfl, rfl⟩
  · rw [if_neg h]
    have hb : (decide ((p.length : Int) ≤ ((n * L : Nat) : Int)) && decide (0 < ((n * L + p.length : Nat) : Int))) = false := by
      cases h1 : decide ((p.length : Int) ≤ ((n * L : Nat) : Int)) with
      | false => rfl
      | true =>
        have := of_decide_eq_true h1
        rw [decide_eq_false (show ¬ 0 < ((n * L + p.length : Nat) : Int) by omega)]; rfl
    rw [hb]
    have hm : min (p.length : Int) ((n * L + L : Nat) : Int) = ((min p.length (n * L + L) : Nat) : Int) := by omega
    have hc : Gk.cut p ((n * L : Nat) : Int) ((min p.length (n * L + L) : Nat) : Int) = some ((p.take (min p.length (n * L + L))).drop (n * L)) := cut_some' (by omega) (by omega)
    have hd : decide (((min p.length (n * L + L) : Nat) : Int) < (p.length : Int)) = decide (n * L + L < p.length) := decide_eq_decide.2 (by omega)
    rw [hm, hc]
    have hl : ((p.take (min p.length (n * L + L))).drop (n * L)).length ≤ 1000000 := by rw [List.length_drop, List.length_take]; omega
    simp only [cd_f, bnd_s, clone_some hl, app_nil_some hl, hd]
    exact ⟨trivial, trivial⟩
/-- A message of no great size. -/
structure ZOK (z : S_api_Message) : Prop where
  len : LenM z
  ol : z.2.2.2.2.1.length ≤ 400000
  pay : z.2.2.2.2.2.length ≤ 100000
theorem ZOK.zero : ZOK zM := ⟨⟨by simp [zM], ⟨by simp [zM], by simp [zM]⟩, by simp [zM]⟩, by simp [zM], by simp [zM]⟩
theorem Sz.zok {k : Nat} {m : S_api_Message} (h : Sz k m) (hk : k ≤ 400000) : ZOK m := ⟨h.len (by omega), by have := h.ol; omega, by have := h.pay; omega⟩
theorem cut33_ref {k : Nat} {m : S_api_Message} (h : Sz k m) (hk : k ≤ 1000) (n : Int) (a s : Nat) (ha : a ≤ 1000) (hs : s ≤ 6) : ∃ r, m_coresecref33_Cut m n a s = some r ∧ ZOK r.1 := by
  have hlen := h.len (by omega)
  unfold m_coresecref33_Cut
  have key : ∀ {K : Bool → Option (S_api_Message × Int)}, (∃ r, K true = some r ∧ ZOK r.1) → (∃ r, K false = some r ∧ ZOK r.1) → ∃ r, bnd (cond (!(n == 27)) (some (!(n == 23))) (some false) : Option Bool) K = some r ∧ ZOK r.1 := by
    intro K h1 h2
    rw [num_ref, bnd_s]
    cases numB n
    · exact h1
    · exact h2
  refine key ⟨_, rfl, ZOK.zero⟩ ?_
  show ∃ r, bnd (m_coresecref33_Sound m n) _ = some r ∧ _
  rw [sound33_ref hlen.2.1, bnd_s]
  cases (soundS (allS m.2.2.2.2.1 n)).2.1 with
  | true => exact ⟨_, rfl, ZOK.zero⟩
  | false =>
  have hp := h.pay
  rw [cd_f, (cut_both m.2.2.2.2.2 a s (by omega) (by omega) hs).2, bnd_s, letm_e]
  have hcl : (cutS m.2.2.2.2.2 a s).1.length ≤ 1000 := by
    unfold cutS
    split
    · simp
    · show (List.drop _ (List.take _ _)).length ≤ 1000
      rw [List.length_drop, List.length_take]; omega
  cases (cutS m.2.2.2.2.2 a s).2.2 != 0 with
  | true => exact ⟨_, rfl, ZOK.zero⟩
  | false =>
  obtain ⟨v, hv, hvl⟩ := value18_some ((a : Int), ((cutS m.2.2.2.2.2 a s).2.1, (s : Int)))
  obtain ⟨e1, z1⟩ := h.set n (vs := [v.1]) (j := 1) (by omega) (by simp) (by intro w hw; rw [List.mem_singleton.1 hw]; omega)
  rw [cd_f, hv, bnd_s, e1, bnd_s]
  refine ⟨_, rfl, ?_⟩
  have z := z1.zok (by omega)
  exact ⟨⟨z.len.1, z.len.2.1, by show (cutS m.2.2.2.2.2 a s).1.length ≤ 1000000; omega⟩, z.ol, by show (cutS m.2.2.2.2.2 a s).1.length ≤ 100000; omega⟩
/-- Bodies: requests without block options. -/
structure Body (m : S_api_Message) : Prop where
  ok : OkM 5 m
  no27 : allS m.2.2.2.2.1 27 = []
  no23 : allS m.2.2.2.2.1 23 = []
  pay : m.2.2.2.2.2.length ≤ 89
theorem body_ok {d : S_coresecmake_Deck} (h : DeckOK d) : ∃ m d', m_coreseclaw33_body d = some (m, d') ∧ DeckOK d' ∧ Body m := by
  unfold m_coreseclaw33_body
  obtain ⟨m, d1, e1, h1, z1⟩ := request_ok h
  have l27 := setO_len m.2.2.2.2.1 27 []
  have hol := z1.ol
  obtain ⟨e2, z2⟩ := z1.set (n := 27) (by omega) (by omega) (vs := []) (j := 5) (by omega) (by simp) (by simp at l27; omega) (by simp)
  have l23 := setO_len (setO m.2.2.2.2.1 27 []) 23 []
  obtain ⟨e3, z3⟩ := z2.set (n := 23) (by omega) (by omega) (vs := []) (j := 5) (by omega) (by simp) (by show (setO (setO m.2.2.2.2.1 27 []) 23 []).length ≤ 5; simp at l23 l27; omega) (by simp)
  obtain ⟨v4, d4, e4, _, _, h4⟩ := next_some h1 (n := 999) (by omega) (by omega)
  obtain ⟨v5, d5, e5, l5, u5, h5⟩ := next_some h4 (n := 90) (by omega) (by omega)
  obtain ⟨z, e6, l6⟩ := some_some v4 v5 (by omega)
  simp only [e1, e2, e3, e4, e5, e6, bnd_s]
  refine ⟨_, _, rfl, h5, ⟨z3.t0, z3.t1, z3.c0, z3.c1, z3.i0, z3.i1, z3.tok, z3.ol, z3.srt, by show z.length ≤ 100; omega⟩, ?_, ?_, by show z.length ≤ 89; omega⟩
  · show allS (setO (setO m.2.2.2.2.1 27 []) 23 []) 27 = []
    exact allS_set_other _ (by decide) [] (allS_set_same _ 27 [])
  · show allS (setO (setO m.2.2.2.2.1 27 []) 23 []) 23 = []
    exact allS_set_same _ 23 []
end Go.Proofs.Ytdgpkkfkloapbaa
