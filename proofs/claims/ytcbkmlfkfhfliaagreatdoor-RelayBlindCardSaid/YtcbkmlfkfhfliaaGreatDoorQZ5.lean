/-
  Proxies, plain facts: requests and responses by both texts. Of the models alone; no program; no condition but the ranges told.
-/
import Derived.Test.YtcbkmlfkfhfliaaGreatDoorQZ4
namespace Go.Proofs.YtcbkmlfkfhfliaaGreatDoor
open Go.Gk Go.RowKit
theorem cut34n {m : S_api_Message} (hm : LenM m) (hno : allS m.2.2.2.2.1 27 = []) (hol : m.2.2.2.2.1.length ≤ 400000) (hp : m.2.2.2.2.2.length ≤ 100000) (n s : Nat) (hn : n ≤ 1000000) (hs : s ≤ 6) :
    ∃ r, m_fragment_Cut m 27 n s = some r ∧ m_coresecref33_Cut m 27 n s = some r ∧ r.2 = (cutS m.2.2.2.2.2 n s).2.2 ∧ (r.2 = 0 → r.1.2.2.2.1 = m.2.2.2.1 ∧ r.1.2.2.2.2.2 = (cutS m.2.2.2.2.2 n s).1) := by
  have e1 : m_fragment_numbered 27 = some true := by kernel_rfl
  have d1 : ((27 : Int) != 27) = false := rfl
  obtain ⟨a, b, e2⟩ := sound_some hm 27
  obtain ⟨c1, c2⟩ := cut_both m.2.2.2.2.2 n s hp hn hs
  have hsnd : ∀ more, sndB ((n : Int), (more, (s : Int))) = true := fun more => sndB_iff.2 ⟨by show (0 : Int) ≤ (n : Int); omega, by show (n : Int) ≤ 1048575; omega, by show (0 : Int) ≤ (s : Int); omega, by show (s : Int) ≤ 6; omega⟩
  obtain ⟨v, v1, v2, v3⟩ := value_ok (hsnd (cutS m.2.2.2.2.2 n s).2.1)
  have s1 := set_eq (n := 27) (vs := [v]) hm hol (by simp) (by simp; omega)
  have s2 := set_ref (n := 27) (vs := [v]) hm hol (by simp) (by simp; omega)
  have hlm : LM (withO m (setO m.2.2.2.2.1 27 [v])) := by
    refine ⟨hm.1, ?_, fun o ho => ?_, hm.2.2⟩
    · have a1 := List.length_filter_le (fun o : S_api_Option => decide (o.1 < 27)) m.2.2.2.2.1
      have a2 := List.length_filter_le (fun o : S_api_Option => decide (27 < o.1)) m.2.2.2.2.1
      show (setO m.2.2.2.2.1 27 [v]).length ≤ 1000000
      unfold setO
      simp only [List.length_append, List.length_map, List.length_singleton]
      omega
    · rcases setO_mem ho with ho | ⟨w, hw, rfl⟩
      · exact hm.2.1.2 o ho
      · rw [List.mem_singleton.1 hw]; show v.length ≤ 1000000; omega
  have hcl : (cutS m.2.2.2.2.2 n s).1.length ≤ 1000000 := by
    unfold cutS
    split
    · simp
    · simp only [List.length_drop, List.length_take]; omega
  have hd : decide (0 < ((allS m.2.2.2.2.1 27).length : Int)) = !((allS m.2.2.2.2.1 27).length == 0) := by
    cases allS m.2.2.2.2.1 27 with
    | nil => rfl
    | cons x r => rw [decide_eq_true (by rw [List.length_cons]; omega)]; rfl
  unfold m_fragment_Cut m_coresecref33_Cut
  rw [e1, bnd_s, all_eq hm.2.1, e2]
  simp only [letm_e, d1, cd_f, bnd_s, Bool.not_true, hd]
  rw [hno]
  show ∃ r, cond false _ _ = _ ∧ cond false _ _ = _ ∧ _
  simp only [cd_f, c1, c2, bnd_s]
  cases hz : (cutS m.2.2.2.2.2 n s).2.2 != 0 with
  | true => exact ⟨_, rfl, rfl, rfl, fun h => by rw [show (cutS m.2.2.2.2.2 n s).2.2 = 0 from h] at hz; cases hz⟩
  | false =>
    simp only [cd_f, v1, v2, bnd_s, bne_self_eq_false, s1, s2, fmessage_some hlm, fcopied_some hcl]
    exact ⟨_, rfl, rfl, by show (0 : Int) = _; have := (bne_eq_false_iff_eq (a := (cutS m.2.2.2.2.2 n s).2.2) (b := 0)).1 hz; omega, fun _ => ⟨rfl, rfl⟩⟩
theorem blocks_eq (n s : Nat) (hn : n ≤ 100000) (hs : s ≤ 6) : m_coresecref18_Blocks (n : Int) (s : Int) = some ((max 1 ((n + 16 * 2 ^ s - 1) / (16 * 2 ^ s)) : Nat) : Int) := by
  have hp1 : 1 ≤ 2 ^ s := Nat.one_le_two_pow
  have hp2 : 2 ^ s ≤ 2 ^ 6 := Nat.pow_le_pow_right (by omega) hs
  unfold m_coresecref18_Blocks
  have hb := (blength (z := s) (by omega)).2
  simp only [letm_e, cd_or, bnd_s, hb]
  generalize hL : 16 * 2 ^ s = L
  have hL1 : 16 ≤ L := by omega
  have hL2 : L ≤ 1024 := by omega
  rw [decide_eq_false (show ¬ (n : Int) < 0 by omega), decide_eq_false (show ¬ 1073741824 < (n : Int) by omega), decide_eq_false (show ¬ (s : Int) < 0 by omega), decide_eq_false (show ¬ 6 < (s : Int) by omega)]
  simp only [Bool.or_self, cd_f]
  have w : w64 (w64 ((n : Int) + (L : Int)) - 1) = ((n + L - 1 : Nat) : Int) := by
    rw [w64_of (x := (n : Int) + (L : Int)) (by omega) (by omega), w64_of (by omega) (by omega)]; omega
  rw [w, quo_nat (by omega) (by omega), bnd_s]
  refine congrArg some ?_
  omega
theorem cutS_err {p : List UInt8} {n s : Nat} (h : p.length ≤ n * (16 * 2 ^ s)) (h0 : 0 < p.length) : (cutS p n s).2.2 = 10 := by
  unfold cutS
  rw [if_pos ⟨h, by omega⟩]
theorem cutS_ok {p : List UInt8} {n s : Nat} (h : n * (16 * 2 ^ s) < p.length) : (cutS p n s).2.2 = 0 := by
  unfold cutS
  rw [if_neg (by omega)]
theorem cutS_rest {p : List UInt8} {i s : Nat} (h : i * (16 * 2 ^ s) < p.length) : (cutS p i s).1 ++ p.drop ((i + 1) * (16 * 2 ^ s)) = p.drop (i * (16 * 2 ^ s)) := by
  unfold cutS
  rw [if_neg (by omega)]
  generalize 16 * 2 ^ s = L at h ⊢
  rw [show (i + 1) * L = i * L + L from Nat.succ_mul i L]
  generalize i * L = j at h ⊢
  show (p.take (min p.length (j + L))).drop j ++ p.drop (j + L) = p.drop j
  rw [show p.take (min p.length (j + L)) = p.take (j + L) from by
    rcases Nat.le_total p.length (j + L) with hc | hc
    · rw [Nat.min_eq_left hc, List.take_of_length_le (Nat.le_refl _), List.take_of_length_le hc]
    · rw [Nat.min_eq_right hc]]
  rw [List.drop_take, show j + L - j = L by omega, ← List.drop_drop, List.take_append_drop]
/-- What the blocks sent are. -/
structure SentB (m : S_api_Message) (pay : List UInt8) (n : Nat) (l : List S_api_Message) : Prop where
  len : l.length ≤ n
  tok : ∀ u ∈ l, u.2.2.2.1 = m.2.2.2.1
  pay : l.flatMap (fun u => u.2.2.2.2.2) = pay
theorem sent_go {m : S_api_Message} (hm : LenM m) (hno : allS m.2.2.2.2.1 27 = []) (hol : m.2.2.2.2.1.length ≤ 400000) (hp : m.2.2.2.2.2.length ≤ 100000) (hp0 : 0 < m.2.2.2.2.2.length) {s : Nat} (hs : s ≤ 6) {v : Int} (hv0 : 0 ≤ v) (hv1 : v < 65536) (P q : S_api_Proxy) {B : Nat} (hB : B = max 1 ((m.2.2.2.2.2.length + 16 * 2 ^ s - 1) / (16 * 2 ^ s))) :
    ∀ (k f : Nat) (acc : List S_api_Message) (i : Nat), i + k = B → k < f → acc.length + k ≤ 1000000 → (∀ u ∈ acc, u.2.2.2.1 = m.2.2.2.1) → ∃ r,
    loopF (R := (S_api_Proxy × ((List S_api_Message) × ((List S_relay_Sent) × Int)))) (S := ((List S_api_Message) × (Int × S_api_Proxy))) (fun self58 s57 =>
 bnd (m_fragment_Cut m 27 s57.2.1 (s : Int)) fun x59 =>
 letm ((x59.2 != 0)) fun x60 =>
 cond x60 (some (P, (s57.1, ([], 0))))
  (letm ((w64 (v + s57.2.1))) fun x61 =>
 bnd (Gk.rem x61 65536) fun x62 =>
 bnd (app s57.1 [(x59.1.1, (x59.1.2.1, (x62, x59.1.2.2.2)))]) fun x63 =>
 letm ((w64 (s57.2.1 + 1))) fun x64 =>
 self58 (x63, (x64, s57.2.2)))) f (acc, ((i : Int), q)) = some r ∧
    loopF (R := (S_api_Proxy × ((List S_api_Message) × ((List S_relay_Sent) × Int)))) (S := ((List S_api_Message) × Int)) (fun self54 s53 =>
 bnd (m_coresecref18_Blocks (m.2.2.2.2.2.length : Int) (s : Int)) fun x55 =>
 letm (decide (s53.2 < x55)) fun x56 =>
 cond x56 (bnd (m_coresecref33_Cut m 27 s53.2 (s : Int)) fun x57 =>
 letm ((w64 (v + s53.2))) fun x58 =>
 bnd (Gk.rem x58 65536) fun x59 =>
 bnd (app s53.1 [(x57.1.1, (x57.1.2.1, (x59, x57.1.2.2.2)))]) fun x60 =>
 letm ((w64 (s53.2 + 1))) fun x61 =>
 self54 (x60, x61))
  (some (P, (s53.1, ([], 0))))) f (acc, (i : Int)) = some r ∧ r.1 = P ∧ r.2.2 = ([], 0) ∧ SentB m (acc.flatMap (fun u => u.2.2.2.2.2) ++ m.2.2.2.2.2.drop (i * (16 * 2 ^ s))) (acc.length + k) r.2.1 := by
  have hb := blocks_eq m.2.2.2.2.2.length s hp hs
  rw [← hB] at hb
  have hp1 : 1 ≤ 2 ^ s := Nat.one_le_two_pow
  have hBle : B ≤ 100000 + 1 := by
    rw [hB]
    have : (m.2.2.2.2.2.length + 16 * 2 ^ s - 1) / (16 * 2 ^ s) ≤ 100001 := by
      refine Nat.div_le_of_le_mul ?_
      have : 16 * 2 ^ s * 1 ≤ 16 * 2 ^ s * 100000 := Nat.mul_le_mul_left _ (by omega)
      have h3 : 1 * 100000 ≤ 16 * 2 ^ s * 100000 := Nat.mul_le_mul_right _ (by omega)
      rw [Nat.mul_succ]
      omega
    omega
  have hup : m.2.2.2.2.2.length ≤ B * (16 * 2 ^ s) := by
    have h : 0 < 16 * 2 ^ s := by omega
    generalize 16 * 2 ^ s = L at hB h ⊢
    · have h1 := Nat.div_add_mod (m.2.2.2.2.2.length + L - 1) L
      have h2 := Nat.mod_lt (m.2.2.2.2.2.length + L - 1) h
      have h3 : L * ((m.2.2.2.2.2.length + L - 1) / L) ≤ L * B := Nat.mul_le_mul_left _ (by omega)
      rw [Nat.mul_comm B L]
      omega
  have hlow : ∀ i, i < B → i * (16 * 2 ^ s) < m.2.2.2.2.2.length := by
    intro i hi
    generalize hL : 16 * 2 ^ s = L at hB ⊢
    rcases Nat.eq_zero_or_pos i with h | h
    · subst h; simpa using hp0
    · have hi2 : i < (m.2.2.2.2.2.length + L - 1) / L := by omega
      have h1 := Nat.div_mul_le_self (m.2.2.2.2.2.length + L - 1) L
      have h2 : (i + 1) * L ≤ (m.2.2.2.2.2.length + L - 1) / L * L := Nat.mul_le_mul_right _ hi2
      rw [Nat.add_mul] at h2
      omega
  intro k
  induction k with
  | zero =>
    intro f acc i hi hf _ hat
    obtain ⟨f, rfl⟩ : ∃ g, f = g + 1 := ⟨f - 1, by omega⟩
    have hi : i = B := by omega
    subst hi
    obtain ⟨r, e1, _, e3, _⟩ := cut34n hm hno hol hp i s (by omega) hs
    rw [cutS_err hup hp0] at e3
    have d1 : decide ((i : Int) < (i : Int)) = false := decide_eq_false (by omega)
    rw [loopF_succ, loopF_succ]
    simp only [e1, bnd_s, letm_e, e3, hb, d1, cd_f]
    exact ⟨_, rfl, rfl, rfl, rfl, Nat.le_refl _, hat, by rw [List.drop_of_length_le hup, List.append_nil]⟩
  | succ k ih =>
    intro f acc i hi hf ha hat
    obtain ⟨f, rfl⟩ : ∃ g, f = g + 1 := ⟨f - 1, by omega⟩
    obtain ⟨r, e1, e2, e3, e5⟩ := cut34n hm hno hol hp i s (by omega) hs
    rw [cutS_ok (hlow i (by omega))] at e3
    have d1 : decide ((i : Int) < (B : Int)) = true := decide_eq_true (by omega)
    obtain ⟨a, rfl⟩ : ∃ a : Nat, v = (a : Int) := ⟨v.toNat, by omega⟩
    have w1 : w64 ((a : Int) + (i : Int)) = ((a + i : Nat) : Int) := by rw [w64_of (by omega) (by omega)]; omega
    have w2 : Gk.rem ((a + i : Nat) : Int) 65536 = some (((a + i) % 65536 : Nat) : Int) := rem_nat (b := 65536) (by omega)
    have w3 : w64 ((i : Int) + 1) = ((i + 1 : Nat) : Int) := by rw [w64_of (by omega) (by omega)]; omega
    have e4 : ∀ x : S_api_Message, app acc [x] = some (acc ++ [x]) := fun x => app_some' (by simp; omega)
    rw [loopF_succ, loopF_succ]
    simp only [e1, e2, bnd_s, letm_e, e3, hb, d1, cd_t, bne_self_eq_false, cd_f, w1, w2, w3, e4]
    obtain ⟨e6, e7⟩ := e5 e3
    obtain ⟨r2, g1, g2, g3, g4, g5⟩ := ih f (acc ++ [(r.1.1, (r.1.2.1, ((((a + i) % 65536 : Nat) : Int), r.1.2.2.2)))]) (i + 1) (by omega) (by omega) (by simp; omega) (fun u hu => by
      rcases List.mem_append.1 hu with hu | hu
      · exact hat u hu
      · rw [List.mem_singleton.1 hu]; exact e6)
    simp only [letm_e, hb, bnd_s] at g1 g2
    refine ⟨r2, g1, g2, g3, g4, by have := g5.len; simp at this; omega, g5.tok, ?_⟩
    rw [g5.pay, List.flatMap_append, List.append_assoc]
    show _ ++ (([r.1.2.2.2.2.2] : List (List UInt8)).flatMap id ++ _) = _
    rw [e7, ← cutS_rest (hlow i (by omega))]
    simp
theorem time_eq (n : Int) : m_relay_time n = some (!(decide (n < 0) || decide (1073741824 < n))) := by
  unfold m_relay_time
  simp only [letm_e, cd_and, bnd_s]
  refine congrArg some ?_
  by_cases h : n < 0
  · rw [decide_eq_true h, decide_eq_false (show ¬ 0 ≤ n by omega)]; rfl
  · rw [decide_eq_false h, decide_eq_true (show 0 ≤ n by omega), Bool.true_and, Bool.false_or]
    by_cases h2 : 1073741824 < n
    · rw [decide_eq_true h2, decide_eq_false (by omega)]; rfl
    · rw [decide_eq_false h2, decide_eq_true (by omega)]; rfl
theorem get_all (l : List S_api_Option) (n : Int) : (!((allS l n).length == 0)) = (getS l n).2 := by
  rcases allS_get l n with ⟨h1, h2⟩ | ⟨v, r, h1, h2⟩
  · rw [h1, h2]; rfl
  · rw [h1, h2]; rfl
/-- The guard of a request, by both texts. -/
def grdF (p : S_api_Proxy) (peer : Int) (m : S_api_Message) (now : Int) : Bool := !validP p || (decide (peer < 0) || (decide (65536 < peer) || (decide (now < 0) || (decide (1073741824 < now) || ((encS m).2 != 0 || (decide (m.2.1 < 1) || decide (31 < m.2.1)))))))
theorem grdF_off {p : S_api_Proxy} {peer : Int} {m : S_api_Message} {now : Int} (h : grdF p peer m now = false) : validP p = true ∧ 0 ≤ now ∧ now ≤ 1073741824 ∧ valM m = true := by
  unfold grdF at h
  simp only [Bool.or_eq_false_iff, Bool.not_eq_false', decide_eq_false_iff_not] at h
  obtain ⟨h1, _, _, h4, h5, h6, _⟩ := h
  refine ⟨h1, by omega, by omega, ?_⟩
  cases hv : valM m with
  | true => rfl
  | false => unfold encS at h6; rw [hv] at h6; cases h6
theorem validP_facts {p : S_api_Proxy} (h : validP p = true) : 0 ≤ p.1 ∧ p.1 ≤ 65535 ∧ p.2.1.length ≤ 8 ∧ -1 ≤ p.2.2.2 ∧ p.2.2.2 ≤ 6 ∧ ValC p.2.2.1 ∧ goodH [] p.2.1 = true := by
  unfold validP at h
  simp only [Bool.and_eq_true, Bool.not_eq_true', decide_eq_false_iff_not] at h
  obtain ⟨⟨⟨⟨⟨⟨h1, h2⟩, h3⟩, h4⟩, h5⟩, h6⟩, h7⟩ := h
  exact ⟨by omega, by omega, by omega, by omega, by omega, validC_iff.1 h6, h7⟩
theorem goodH_in : ∀ {rest pre : List S_api_Hop}, goodH pre rest = true → ∀ h ∈ rest, h.2.2.1.length = 2
  | [], _, _, _, h => by cases h
  | x :: r, pre, hg, h, hm => by
    unfold goodH at hg
    simp only [Bool.and_eq_true] at hg
    rcases List.mem_cons.1 hm with rfl | hm
    · have := hg.1.1
      unfold hopB at this
      simp only [Bool.and_eq_true, Bool.not_eq_true', bne_eq_false_iff_eq] at this
      have := this.2
      omega
    · exact goodH_in hg.2 h hm
/-- What is done with a request that is not answered out of the cache. -/
def OutT (p : S_api_Proxy) (m : S_api_Message) (key : List UInt8) (ob : Bool) (peer : Int) (r : S_api_Proxy × ((List S_api_Message) × ((List S_relay_Sent) × Int))) : Prop :=
  (r = (p, ([], ([(peer, (m.1, (163, (m.2.2.1, (m.2.2.2.1, ([], []))))))], 0))) ∧ p.2.1.length = 8) ∨
  ∃ v : Int, 0 ≤ v ∧ v < 65536 ∧ (p.2.1.any fun h => h.2.2.1 == nbI v) = false ∧ p.2.1.length < 8 ∧ r.1 = ((v + 1) % 65536, (p.2.1 ++ [(peer, (m.2.2.2.1, (nbI v, (key, ob))))], (p.2.2.1, p.2.2.2))) ∧ r.2.2 = ([], 0) ∧ r.2.1 ≠ [] ∧ r.2.1.length ≤ 10000 ∧ (∀ u ∈ r.2.1, u.2.2.2.1 = nbI v) ∧ r.2.1.flatMap (fun u => u.2.2.2.2.2) = m.2.2.2.2.2
theorem OutT.lp {p : S_api_Proxy} {m : S_api_Message} {key : List UInt8} {ob : Bool} {peer : Int} {r : S_api_Proxy × ((List S_api_Message) × ((List S_relay_Sent) × Int))} (h : OutT p m key ob peer r) (hp : LP p) (hm : LenM m) (hkey : key.length ≤ 1000000) : LP r.1 ∧ r.2.1.length ≤ 10000 ∧ r.2.2.1.length ≤ 1 := by
  rcases h with ⟨rfl, h2⟩ | ⟨v, _, _, _, h4, h5, h6, _, h8, _⟩
  · exact ⟨hp, by simp, by simp⟩
  · refine ⟨?_, h8, by rw [h6]; simp⟩
    rw [h5]
    refine ⟨by show (p.2.1 ++ _).length ≤ 1000000; rw [List.length_append, List.length_singleton]; omega, fun h hh => ?_, hp.sl, hp.sv⟩
    rcases List.mem_append.1 hh with hh | hh
    · exact hp.hv h hh
    · obtain rfl := List.mem_singleton.1 hh
      exact ⟨hm.1, by show 2 ≤ 1000000; omega, hkey⟩
theorem tail_both {p : S_api_Proxy} {m : S_api_Message} (hp : LP p) (hm : LenM m) (hs : SndM m) (hv : validP p = true) (peer : Int) {key : List UInt8} (hkey : key.length ≤ 1000000) (ob : Bool) (v32 : S_api_Proxy) : ∃ r,
 (cond (decide (8 ≤ (p.2.1.length : Int))) (some ((p.1, (p.2.1, (p.2.2.1, p.2.2.2))), ([], ([(peer, (m.1, (163, (m.2.2.1, (m.2.2.2.1, ([], []))))))], (0 : Int)))))
  (bnd (β := Int) (loopF (R := Int) (S := Int) (fun self36 s35 =>
 bnd (m_relay_Forward_1_o (some s35)) fun x37 =>
 bnd (m_relay_find p.2.1 x37) fun x38 =>
 cond (decide (0 ≤ x38)) (
 bnd (Gk.rem (w64 (s35 + 1)) 65536) fun x41 =>
 self36 x41)
  (some s35)) FUEL p.1) fun v42 =>
 bnd (m_relay_Forward_1_o (some v42)) fun x44 =>
 bnd (app p.2.1 [(peer, (m.2.2.2.1, (x44, (key, ob))))]) fun x46 =>
 bnd (Gk.rem (w64 (v42 + 1)) 65536) fun x48 =>
 bnd (m_relay_Forward_1_o (some v42)) fun x50 =>
 bnd (β := Bool) (cond (p.2.2.2 == (-1)) (some true)
  (cond (getS m.2.2.2.2.1 27).2 (some true)
  (bnd (Gk.shl 16 (UInt64.toNat (toU64 p.2.2.2) : Int)) fun x54 =>
 some (decide ((m.2.2.2.2.2.length : Int) ≤ x54))))) fun v56 =>
 cond v56 (some ((x48, (x46, (p.2.2.1, p.2.2.2))), ([(1, (m.2.1, (v42, (x50, m.2.2.2.2))))], ([], 0))))
  (loopF (R := (S_api_Proxy × ((List S_api_Message) × ((List S_relay_Sent) × Int)))) (S := ((List S_api_Message) × (Int × S_api_Proxy))) (fun self58 s57 =>
 bnd (m_fragment_Cut (1, (m.2.1, (v42, (x50, m.2.2.2.2)))) 27 s57.2.1 p.2.2.2) fun x59 =>
 cond (x59.2 != 0) (some ((x48, (x46, (p.2.2.1, p.2.2.2))), (s57.1, ([], 0))))
  (
 bnd (Gk.rem (w64 (v42 + s57.2.1)) 65536) fun x62 =>
 bnd (app s57.1 [(x59.1.1, (x59.1.2.1, (x62, x59.1.2.2.2)))]) fun x63 =>
 self58 (x63, (w64 (s57.2.1 + 1), s57.2.2)))) FUEL ([], (0, v32)))) : Option (S_api_Proxy × ((List S_api_Message) × ((List S_relay_Sent) × Int)))) = some r ∧
 (cond ((p.2.1.length : Int) == 8) (some ((p.1, (p.2.1, (p.2.2.1, p.2.2.2))), ([], ([(peer, (m.1, (163, (m.2.2.1, (m.2.2.2.1, ([], []))))))], (0 : Int)))))
  (bnd (m_coresecref34_free p p.1) fun x31 =>
 bnd (quo x31 256) fun x32 =>
 bnd (Gk.rem x31 256) fun x34 =>
 bnd (app p.2.1 [(peer, (m.2.2.2.1, ([toU8 x32, toU8 x34], (key, ob))))]) fun x42 =>
 bnd (Gk.rem (w64 (x31 + 1)) 65536) fun x44 =>
 bnd (m_coresecref26_Copy [toU8 x32, toU8 x34]) fun x46 =>
 bnd (m_coresecref33_Sound m 27) fun x47 =>
 bnd (β := Bool) (cond (p.2.2.2 == (-1)) (some true)
  (cond x47.2.1 (some true)
  (bnd (Gk.shl 16 (UInt64.toNat (toU64 p.2.2.2) : Int)) fun x50 =>
 some (decide ((m.2.2.2.2.2.length : Int) ≤ x50))))) fun v52 =>
 cond v52 (some ((x44, (x42, (p.2.2.1, p.2.2.2))), ([(1, (m.2.1, (x31, (x46, m.2.2.2.2))))], ([], 0))))
  (loopF (R := (S_api_Proxy × ((List S_api_Message) × ((List S_relay_Sent) × Int)))) (S := ((List S_api_Message) × Int)) (fun self54 s53 =>
 bnd (m_coresecref18_Blocks (m.2.2.2.2.2.length : Int) p.2.2.2) fun x55 =>
 cond (decide (s53.2 < x55)) (bnd (m_coresecref33_Cut (1, (m.2.1, (x31, (x46, m.2.2.2.2)))) 27 s53.2 p.2.2.2) fun x57 =>
 bnd (Gk.rem (w64 (x31 + s53.2)) 65536) fun x59 =>
 bnd (app s53.1 [(x57.1.1, (x57.1.2.1, (x59, x57.1.2.2.2)))]) fun x60 =>
 self54 (x60, w64 (s53.2 + 1)))
  (some ((x44, (x42, (p.2.2.1, p.2.2.2))), (s53.1, ([], 0))))) FUEL ([], 0))) : Option (S_api_Proxy × ((List S_api_Message) × ((List S_relay_Sent) × Int)))) = some r ∧ OutT p m key ob peer r := by
  obtain ⟨f1, f2, f3, f4, f5, f6, f7⟩ := validP_facts hv
  have h8 : decide (8 ≤ (p.2.1.length : Int)) = ((p.2.1.length : Int) == 8) := by
    by_cases h : (p.2.1.length : Int) = 8
    · rw [h]; rfl
    · rw [decide_eq_false (by omega)]; exact (beq_eq_false_iff_ne.2 h).symm
  rw [h8]
  cases hq : (p.2.1.length : Int) == 8 with
  | true => exact ⟨_, rfl, rfl, .inl ⟨rfl, by have := beq_iff_eq.1 hq; omega⟩⟩
  | false =>
    have h8n := beq_eq_false_iff_ne.1 hq
    obtain ⟨v, e1, v0, v1, vn⟩ := free_some f3 f1 (show p.1 < 65536 by omega)
    have r1 := free_relay p.2.1 FUEL p.1 f1 (by omega)
    rw [e1] at r1
    have r2 : m_coresecref34_free p p.1 = some v := (free_ref p.2.1 (goodH_in f7) FUEL p.1 f1 (by omega)).trans e1
    obtain ⟨a, rfl⟩ : ∃ a : Nat, v = (a : Int) := ⟨v.toNat, by omega⟩
    have q1 : quo (a : Int) 256 = some ((a / 256 : Nat) : Int) := quo_nat (b := 256) (by omega) (by omega)
    have q2 : Gk.rem (a : Int) 256 = some ((a % 256 : Nat) : Int) := rem_nat (b := 256) (by omega)
    have q3 : [toU8 ((a / 256 : Nat) : Int), toU8 ((a % 256 : Nat) : Int)] = nbI (a : Int) := by
      unfold nbI
      rw [show ((a / 256 : Nat) : Int) = (a : Int) / 256 by omega, toU8_eq (x := ((a % 256 : Nat) : Int)) (y := (a : Int)) (by omega)]
    have q4 : m_coresecref26_Copy (nbI (a : Int)) = some (nbI (a : Int)) := copy26_some (by show 2 ≤ 1000000; omega)
    have q5 : ∀ h : S_api_Hop, app p.2.1 [h] = some (p.2.1 ++ [h]) := fun h => app_some' (by simp; omega)
    obtain ⟨sa, sb, q6⟩ := sound_some hm 27
    have one : ∀ sz : Int, p.2.2.2 = sz → OutT p m key ob peer ((((a : Int) + 1) % 65536, (p.2.1 ++ [(peer, (m.2.2.2.1, (nbI (a : Int), (key, ob))))], (p.2.2.1, sz))), ([(1, (m.2.1, ((a : Int), (nbI (a : Int), m.2.2.2.2))))], ([], 0))) := fun sz hsz =>
      .inr ⟨(a : Int), v0, v1, vn, by omega, by rw [hsz], rfl, by simp, by simp, by simp, by simp⟩
    rw [get_all] at q6
    simp only [letm_e] at r1
    rw [cd_f, cd_f, r1, bnd_s, r2, bnd_s]
    simp only [bnd_s, inner1, q1, q2, q3, q4, q5, q6, nx_eq v0 v1]
    cases hz : p.2.2.2 == (-1) with
    | true => simp only [cd_t, bnd_s]; exact ⟨_, rfl, rfl, one _ rfl⟩
    | false =>
      cases hb : (getS m.2.2.2.2.1 27).2 with
      | true => simp only [cd_t, cd_f, bnd_s]; exact ⟨_, rfl, rfl, one _ rfl⟩
      | false =>
        have hz2 : p.2.2.2 ≠ -1 := beq_eq_false_iff_ne.1 hz
        obtain ⟨s, hse⟩ : ∃ s : Nat, p.2.2.2 = (s : Int) := ⟨p.2.2.2.toNat, by omega⟩
        have hs6 : s ≤ 6 := by omega
        have hp2 : 2 ^ s ≤ 2 ^ 6 := Nat.pow_le_pow_right (by omega) hs6
        have sh : Gk.shl 16 (UInt64.toNat (toU64 (s : Int)) : Int) = some ((16 * 2 ^ s : Nat) : Int) := by
          rw [toU64_natI (by omega), shl16, Nat.min_eq_left (by omega)]
          have : ((16 : Int) * 2 ^ s) = ((16 * 2 ^ s : Nat) : Int) := by push_cast; rfl
          rw [this, w64_of (by omega) (by omega)]
        have one' := one _ hse
        rw [hse]
        simp only [cd_f, sh, bnd_s]
        cases hd : decide ((m.2.2.2.2.2.length : Int) ≤ ((16 * 2 ^ s : Nat) : Int)) with
        | true => simp only [cd_t]; exact ⟨_, rfl, rfl, one'⟩
        | false =>
          have hd := of_decide_eq_false hd
          have hno : allS m.2.2.2.2.1 27 = [] := by
            rcases allS_get m.2.2.2.2.1 27 with ⟨h1, _⟩ | ⟨v, r, _, h2⟩
            · exact h1
            · rw [h2] at hb; cases hb
          have hX : LenM (1, (m.2.1, ((a : Int), (nbI (a : Int), m.2.2.2.2)))) := ⟨by show 2 ≤ 1000000; omega, hm.2.1, hm.2.2⟩
          have hBl : max 1 ((m.2.2.2.2.2.length + 16 * 2 ^ s - 1) / (16 * 2 ^ s)) ≤ 6000 := by
            have h1 := hs.pay
            have hp1 : 1 ≤ 2 ^ s := Nat.one_le_two_pow
            have : (m.2.2.2.2.2.length + 16 * 2 ^ s - 1) / (16 * 2 ^ s) ≤ m.2.2.2.2.2.length + 16 * 2 ^ s - 1 := Nat.div_le_self _ _
            have hp3 : 2 ^ 6 = 64 := rfl
            omega
          obtain ⟨r, g1, g2, g3, g4, g5⟩ := sent_go hX hno (by have := hs.ol; show m.2.2.2.2.1.length ≤ 400000; omega) (by have := hs.pay; show m.2.2.2.2.2.length ≤ 100000; omega) (by show 0 < m.2.2.2.2.2.length; omega) hs6 v0 v1 (((a : Int) + 1) % 65536, (p.2.1 ++ [(peer, (m.2.2.2.1, (nbI (a : Int), (key, ob))))], (p.2.2.1, (s : Int)))) v32 rfl (max 1 ((m.2.2.2.2.2.length + 16 * 2 ^ s - 1) / (16 * 2 ^ s))) FUEL [] 0 (Nat.zero_add _) (by rw [fuel_eq]; omega) (by rw [List.length_nil, Nat.zero_add]; omega) (by simp)
          simp only [letm_e] at g1 g2
          simp only [cd_f]
          have g6 := g5.pay
          rw [Nat.zero_mul, List.drop_zero] at g6
          have g7 : r.2.1.flatMap (fun u => u.2.2.2.2.2) = m.2.2.2.2.2 := g6
          refine ⟨r, g1, g2, .inr ⟨(a : Int), v0, v1, vn, by omega, by rw [g3, hse], g4, fun h => ?_, by have := g5.len; simp at this; omega, g5.tok, g7⟩⟩
          rw [h] at g7
          have g8 := congrArg List.length g7
          simp at g8
          omega
theorem keyS_len (m : S_api_Message) : (keyS m).length ≤ 1000000 := by
  unfold keyS
  try rw [encS4_1]
  cases hd : decide (((keyE m).length : Int) ≤ 4096) with
  | true => have := of_decide_eq_true hd; simp; omega
  | false => simp
/-- What is known of what a proxy does with a request. -/
structure FwdQ (p : S_api_Proxy) (m : S_api_Message) (peer now : Int) (r : S_api_Proxy × ((List S_api_Message) × ((List S_relay_Sent) × Int))) : Prop where
  lp : LP r.1
  ul : r.2.1.length ≤ 10000
  bl : r.2.2.1.length ≤ 1
  out : grdF p peer m now = false → (getS m.2.2.2.2.1 9).2 = true → OutT p m [] (getS m.2.2.2.2.1 6).2 peer r
theorem fq_no {p : S_api_Proxy} {m : S_api_Message} {peer now : Int} {X Y : Option (S_api_Proxy × ((List S_api_Message) × ((List S_relay_Sent) × Int)))} (hm : LenM m) (hpr : (getS m.2.2.2.2.1 9).2 = false) (hp : LP p) {ob : Bool} (h : ∃ r, X = some r ∧ Y = some r ∧ OutT p m (keyS m) ob peer r) : ∃ r, X = some r ∧ Y = some r ∧ FwdQ p m peer now r := by
  obtain ⟨r, t1, t2, t3⟩ := h
  obtain ⟨a, b, c⟩ := t3.lp hp hm (keyS_len m)
  exact ⟨r, t1, t2, a, b, c, fun _ h => by rw [hpr] at h; cases h⟩
theorem fq_cache {p : S_api_Proxy} {m : S_api_Message} {peer now : Int} (hpr : (getS m.2.2.2.2.1 9).2 = false) (hp : LP p) {s : S_relay_Sent} : FwdQ p m peer now (p, ([], ([s], 0))) :=
  ⟨hp, by simp, by simp, fun _ h => by rw [hpr] at h; cases h⟩
theorem forward_both {p : S_api_Proxy} {m : S_api_Message} (hp : LP p) (hm : LenM m) (peer now : Int) : ∃ r, m_relay_Forward p peer m now = some r ∧ m_coresecref34_Forward p peer m now = some r ∧ FwdQ p m peer now r := by
  unfold m_relay_Forward m_coresecref34_Forward
  rw [coap_encS, ref_encS, valid34_eq, rvalid34_eq hp, time_eq]
  simp only [bnd_s, letm_e, cd_or, Bool.not_not, Bool.or_assoc]
  have hG : (!validP p || (decide (peer < 0) || (decide (65536 < peer) || (decide (now < 0) || (decide (1073741824 < now) || ((encS m).2 != 0 || (decide (m.2.1 < 1) || decide (31 < m.2.1)))))))) = grdF p peer m now := rfl
  rw [hG]
  cases hg : grdF p peer m now with
  | true => exact ⟨_, rfl, rfl, ⟨by simp, by simp, by simp, by simp⟩, by simp, by simp, fun h => by rw [hg] at h; cases h⟩
  | false =>
    obtain ⟨g1, g2, g3, g4⟩ := grdF_off hg
    obtain ⟨f1, f2, f3, f4, f5, f6, f7⟩ := validP_facts g1
    have hs := valM_snd g4
    have hk := hs.okK
    obtain ⟨r, l1, l2, l3⟩ := lookup_both f6 (keyS m) now
    have hml := hm.lm
    simp only [cd_f, clonedo_some hp, copyo_some hp, prot_eq hm, prot_ref hm, has_eq hm, get_ref hm.2.1, key_eq hk, key_ref hk, bnd_s, message_some hml, copied_some hml.tok, copy26_some hml.tok, copy15_eq hm]
    cases hpr : (getS m.2.2.2.2.1 9).2 with
    | true =>
      simp only [Bool.not_true, cd_f, bnd_s, bndS_r]
      obtain ⟨r, t1, t2, t3⟩ := tail_both hp hm hs g1 peer (key := []) (by simp) (getS m.2.2.2.2.1 6).2 _
      obtain ⟨a, b, c⟩ := t3.lp hp hm (by simp)
      exact ⟨r, t1, t2, a, b, c, fun _ _ => t3⟩
    | false =>
      have hno := fun v32 => fq_no (now := now) hm hpr hp (tail_both hp hm hs g1 peer (keyS_len m) (getS m.2.2.2.2.1 6).2 v32)
      simp only [Bool.not_false, cd_t, bnd_s, l1, l2]
      cases h1 : m.2.1 == 1 <;> cases h5 : m.2.1 == 5 <;> cases ho : (getS m.2.2.2.2.1 6).2 <;> rw [ho] at hno <;> simp only [cd_t, cd_f, bnd_s, bndS_r, Bool.not_true, Bool.not_false] <;> first | exact hno _ | (cases hr : r.2 <;> simp only [cd_t, cd_f, bnd_s, bndS_r, bndS_l, message_some l3] <;> first | exact hno _ | exact ⟨_, rfl, rfl, fq_cache hpr hp⟩)
theorem awake34 : m_coreseclaw34_awake = some true := by kernel_rfl
theorem drop_go (a1 : Int) (q : S_api_Proxy) : ∀ (xs : List S_api_Hop) (k : Nat) (acc : List S_api_Hop), acc.length + xs.length ≤ 1000000 →
    loopL (R := S_api_Proxy) (S := (S_api_Proxy × (List S_api_Hop))) (α := S_api_Hop) (fun _ s5 => some (s5.1.1, (s5.2, s5.1.2.2)))
  (fun x6 _ s8 self9 =>
 bnd (β := (S_api_Proxy × (List S_api_Hop))) (letm ((x6.1 != a1)) fun x10 =>
 cond x10 (bnd (app s8.2 [x6]) fun x11 =>
 some (s8.1, x11))
  (some (s8.1, s8.2))) fun v12 =>
 self9 (v12.1, v12.2)) xs k (q, acc) = some (q.1, (acc ++ xs.filter (fun h => h.1 != a1), q.2.2))
  | [], k, acc, _ => by rw [loopL_nil, List.filter_nil, List.append_nil]
  | x :: xs, k, acc, h => by
    rw [List.length_cons] at h
    rw [loopL_cons, letm_e, List.filter_cons]
    cases hx : x.1 != a1 with
    | true =>
      have e : app acc [x] = some (acc ++ [x]) := app_some' (by simp; omega)
      have ih := drop_go a1 q xs (k + 1) (acc ++ [x]) (by simp; omega)
      simp only [cd_t, e, bnd_s, if_true]
      rw [ih, List.append_assoc]; rfl
    | false =>
      have ih := drop_go a1 q xs (k + 1) acc (by omega)
      simp only [cd_f, bnd_s]
      rw [ih]; rfl
theorem drop_both {p : S_api_Proxy} (hp : LP p) (a1 : Int) : ∃ r, m_relay_Drop p a1 = some r ∧ m_coresecref34_Drop p a1 = some r ∧ LP r := by
  refine ⟨(p.1, (p.2.1.filter (fun h => h.1 != a1), p.2.2)), ?_, ?_, ?_⟩
  · unfold m_relay_Drop
    rw [cloned_some hp, bnd_s, bnd_s, drop_go _ _ _ _ [] (by have := hp.hl; simp; omega)]; rfl
  · unfold m_coresecref34_Drop
    rw [copy_some hp, bnd_s, drop_go _ _ _ _ [] (by have := hp.hl; simp; omega)]; rfl
  · exact ⟨Nat.le_trans (List.length_filter_le _ _) hp.hl, fun h hh => hp.hv h (List.mem_filter.1 hh).1, hp.sl, hp.sv⟩
theorem equal_self {a : List UInt8} (h : a.length ≤ 1000000) : m_coresecref26_Equal a a = some true := by
  rw [equal26 (by omega)]; simp
theorem csame_go : ∀ (rem pre : List S_api_Cached), loopL (R := Bool) (S := Unit) (α := S_api_Cached) (fun _ _ => some true)
  (fun x5 k6 _ self8 =>
 bnd (β := Bool) (bnd (idx (pre ++ rem) (k6 : Int)) fun x9 =>
 letm ((x5.1 != x9.1)) fun x10 =>
 cond x10 (some true)
  (bnd (idx (pre ++ rem) (k6 : Int)) fun x11 =>
 letm ((x5.2.2.1 != x11.2.2.1)) fun x12 =>
 cond x12 (some true)
  (bnd (idx (pre ++ rem) (k6 : Int)) fun x13 =>
 letm ((x5.2.2.2 != x13.2.2.2)) fun x14 =>
 cond x14 (some true)
  (bnd (idx (pre ++ rem) (k6 : Int)) fun x15 =>
 bnd (m_coresecref15_Same x5.2.1 x15.2.1) fun x16 =>
 letm ((!x16)) fun x17 =>
 some x17)))) fun v18 =>
 cond v18 (some false)
  (self8 ())) rem pre.length () = some true
  | [], _ => rfl
  | x :: rem, pre => by
    have ih := csame_go rem (pre ++ [x])
    rw [List.append_assoc, List.singleton_append, List.length_append, List.length_singleton] at ih
    have e : idx (pre ++ x :: rem) ((pre.length : Nat) : Int) = some x := idx_some' (by simp)
    rw [loopL_cons]
    simp only [e, bnd_s, letm_e, bne_self_eq_false, cd_f, same15, Bool.not_true]
    simp only [letm_e] at ih
    exact ih
theorem csame_self (l : List S_api_Cached) : m_coresecref20_Same l l = some true := by
  have h := csame_go l []
  rw [List.nil_append, List.length_nil] at h
  unfold m_coresecref20_Same
  rw [letm_e, bne_self_eq_false, cd_f]
  exact h
theorem hsame_go : ∀ (rem pre : List S_api_Hop), (∀ h ∈ rem, h.2.1.length ≤ 1000000 ∧ h.2.2.1.length ≤ 1000000 ∧ h.2.2.2.1.length ≤ 1000000) → loopL (R := Bool) (S := Unit) (α := S_api_Hop) (fun _ _ => some true)
  (fun x10 k11 _ self13 =>
 bnd (idx (pre ++ rem) (k11 : Int)) fun x14 =>
 bnd (β := Bool) (letm ((x10.1 != x14.1)) fun x15 =>
 cond x15 (some true)
  (bnd (m_coresecref26_Equal x10.2.1 x14.2.1) fun x16 =>
 letm ((!x16)) fun x17 =>
 cond x17 (some true)
  (bnd (m_coresecref26_Equal x10.2.2.1 x14.2.2.1) fun x18 =>
 letm ((!x18)) fun x19 =>
 cond x19 (some true)
  (bnd (m_coresecref26_Equal x10.2.2.2.1 x14.2.2.2.1) fun x20 =>
 letm ((!x20)) fun x21 =>
 cond x21 (some true)
  (letm ((x10.2.2.2.2 != x14.2.2.2.2)) fun x22 =>
 some x22))))) fun v23 =>
 cond v23 (some false)
  (self13 ())) rem pre.length () = some true
  | [], _, _ => rfl
  | x :: rem, pre, h => by
    have ih := hsame_go rem (pre ++ [x]) fun y hy => h y (by simp [hy])
    rw [List.append_assoc, List.singleton_append, List.length_append, List.length_singleton] at ih
    have e : idx (pre ++ x :: rem) ((pre.length : Nat) : Int) = some x := idx_some' (by simp)
    obtain ⟨h1, h2, h3⟩ := h x (by simp)
    rw [loopL_cons]
    simp only [e, bnd_s, letm_e, bne_self_eq_false, cd_f, equal_self h1, equal_self h2, equal_self h3, Bool.not_true]
    simp only [letm_e] at ih
    exact ih
theorem psame_self {p : S_api_Proxy} (hp : LP p) : m_coresecref34_Same p p = some true := by
  have h := hsame_go p.2.1 [] hp.hv
  rw [List.nil_append, List.length_nil] at h
  unfold m_coresecref34_Same
  rw [csame_self]
  simp only [letm_e, bne_self_eq_false, cd_f, bnd_s, Bool.not_true]
  simp only [letm_e] at h
  exact h
def lastS (tok : List UInt8) : List S_api_Hop → Nat → Int → Int
  | [], _, s => s
  | x :: xs, k, s => lastS tok xs (k + 1) (bif x.2.2.1 == tok then (k : Int) else s)
theorem at_go {R : Type} (K : Int → Option R) (tok : List UInt8) : ∀ (xs : List S_api_Hop) (k : Nat) (s : Int), (∀ h ∈ xs, h.2.2.1.length ≤ 1000000) → loopL (R := R) (S := Int) (α := S_api_Hop) (fun _ s12 => K s12)
  (fun x37 k38 s39 self40 =>
 bnd (β := Int) (bnd (m_coresecref26_Equal x37.2.2.1 tok) fun x41 =>
 cond x41 (some (k38 : Int))
  (some s39)) fun v42 =>
 self40 v42) xs k s = K (lastS tok xs k s)
  | [], k, s, _ => rfl
  | x :: xs, k, s, h => by
    have ih := at_go K tok xs (k + 1) (bif x.2.2.1 == tok then (k : Int) else s) fun q hq => h q (by simp [hq])
    have hx := h x (by simp)
    rw [loopL_cons, equal26 (by omega), bnd_s]
    unfold lastS
    rw [← ih]
    cases x.2.2.1 == tok <;> rfl
theorem lastS_none {tok : List UInt8} : ∀ {xs : List S_api_Hop} {k : Nat} {s : Int}, (∀ h ∈ xs, (h.2.2.1 == tok) = false) → lastS tok xs k s = s
  | [], _, _, _ => rfl
  | x :: xs, k, s, h => by
    unfold lastS
    rw [h x (by simp)]
    exact lastS_none fun q hq => h q (by simp [hq])
theorem lastS_fnd {tok : List UInt8} : ∀ {xs : List S_api_Hop} (k : Nat), (xs.map (·.2.2.1)).Nodup → lastS tok xs k (-1) = match xs.findIdx? (fun h => h.2.2.1 == tok) with | some i => ((k + i : Nat) : Int) | none => -1
  | [], _, _ => rfl
  | x :: xs, k, h => by
    rw [List.map_cons, List.nodup_cons] at h
    unfold lastS
    rw [List.findIdx?_cons]
    cases hx : x.2.2.1 == tok with
    | true =>
      have hx := beq_iff_eq.1 hx
      rw [cond_true, lastS_none fun q hq => beq_eq_false_iff_ne.2 fun e => h.1 (List.mem_map.2 ⟨q, hq, by rw [e, hx]⟩)]
      simp
    | false =>
      rw [cond_false, lastS_fnd (k + 1) h.2]
      cases hf : xs.findIdx? (fun h => h.2.2.1 == tok) with
      | none => simp
      | some i => simp only [Option.map_some]; rw [show k + 1 + i = k + (i + 1) by omega]; rfl
theorem goodH_nd : ∀ {rest pre : List S_api_Hop}, goodH pre rest = true → (∀ c ∈ rest, ∀ d ∈ pre, d.2.2.1 ≠ c.2.2.1) ∧ (rest.map (·.2.2.1)).Nodup
  | [], pre, _ => by simp
  | c :: rest, pre, h => by
    unfold goodH at h
    simp only [Bool.and_eq_true, Bool.not_eq_true', List.any_eq_false, beq_iff_eq] at h
    obtain ⟨⟨_, h2⟩, h3⟩ := h
    obtain ⟨h4, h5⟩ := goodH_nd h3
    refine ⟨?_, ?_⟩
    · intro x hx d hd
      rcases List.mem_cons.1 hx with rfl | hx
      · exact h2 d hd
      · exact h4 x hx d (by simp [hd])
    · rw [List.map_cons, List.nodup_cons]
      refine ⟨?_, h5⟩
      intro hm
      obtain ⟨x, hx, e⟩ := List.mem_map.1 hm
      exact h4 x hx c (by simp) e.symm
theorem lastS_eq {l : List S_api_Hop} (h : goodH [] l = true) (tok : List UInt8) : lastS tok l 0 (-1) = fndS l tok := by
  rw [lastS_fnd 0 (goodH_nd h).2]
  unfold fndS
  cases l.findIdx? (fun h => h.2.2.1 == tok) <;> simp
theorem fnd_cases (l : List S_api_Hop) (tok : List UInt8) : (fndS l tok = -1 ∧ (l.any fun h => h.2.2.1 == tok) = false) ∨ ∃ (i : Nat) (h : S_api_Hop), fndS l tok = (i : Int) ∧ l[i]? = some h ∧ i < l.length ∧ h ∈ l := by
  have ha := fndS_any l tok
  unfold fndS at ha ⊢
  cases h : l.findIdx? (fun h => h.2.2.1 == tok) with
  | none => rw [h] at ha; exact .inl ⟨rfl, ha.symm⟩
  | some i =>
    obtain ⟨hi, _⟩ := List.findIdx?_eq_some_iff_getElem.1 h
    exact .inr ⟨i, l[i], rfl, List.getElem?_eq_getElem hi, hi, List.getElem_mem hi⟩
/-- The guard of a response, by both texts. -/
def grdR (p : S_api_Proxy) (m : S_api_Message) (now : Int) : Bool := !validP p || (decide (now < 0) || (decide (1073741824 < now) || ((encS m).2 != 0 || decide (m.2.1 < 64))))
theorem grdR_off {p : S_api_Proxy} {m : S_api_Message} {now : Int} (h : grdR p m now = false) : validP p = true ∧ 0 ≤ now ∧ now ≤ 1073741824 ∧ valM m = true := by
  unfold grdR at h
  simp only [Bool.or_eq_false_iff, Bool.not_eq_false', decide_eq_false_iff_not] at h
  obtain ⟨h1, h4, h5, h6, _⟩ := h
  refine ⟨h1, by omega, by omega, ?_⟩
  cases hv : valM m with
  | true => rfl
  | false => unfold encS at h6; rw [hv] at h6; cases h6
theorem ValC.lists {l : List S_api_Cached} (h : ValC l) : l.length ≤ 1000000 ∧ ∀ c ∈ l, c.1.length ≤ 1000000 ∧ LM c.2.1 := by
  refine ⟨by have := h.len; omega, fun c hc => ?_⟩
  have he := elemB_iff.1 (h.el c hc)
  have := keyB_len he.key
  exact ⟨by omega, he.len.lm⟩
/-- What is known of what a proxy does with a response. -/
structure RetQ (p : S_api_Proxy) (m : S_api_Message) (now : Int) (r : S_api_Proxy × ((List S_relay_Sent) × Int)) : Prop where
  lp : LP r.1
  bl : r.2.1.length ≤ 1
  out : grdR p m now = false → (getS m.2.2.2.2.1 9).2 = true → (p.2.1.any fun h => h.2.2.1 == m.2.2.2.1) = true → r.2.2 = 0 ∧ r.1.2.2.1 = p.2.2.1
theorem return_both {p : S_api_Proxy} {m : S_api_Message} (hp : LP p) (hm : LenM m) (now : Int) : ∃ r, m_relay_Return p m now = some r ∧ m_coresecref34_Return p m now = some r ∧ RetQ p m now r := by
  have hz : LP ((0, ([], ([], 0))) : S_api_Proxy) := ⟨by simp, by simp, by simp, by simp⟩
  unfold m_relay_Return m_coresecref34_Return
  rw [coap_encS, ref_encS, valid34_eq, rvalid34_eq hp, time_eq, fnd_eq]
  simp only [bnd_s, letm_e, cd_or, Bool.not_not, Bool.or_assoc]
  have hG : (!validP p || (decide (now < 0) || (decide (1073741824 < now) || ((encS m).2 != 0 || decide (m.2.1 < 64))))) = grdR p m now := rfl
  rw [hG]
  cases hg : grdR p m now with
  | true => exact ⟨_, rfl, rfl, hz, by simp, fun h => by rw [hg] at h; cases h⟩
  | false =>
    obtain ⟨g1, g2, g3, g4⟩ := grdR_off hg
    obtain ⟨f1, f2, f3, f4, f5, f6, f7⟩ := validP_facts g1
    have hml := hm.lm
    have hat := fun K => at_go (R := S_api_Proxy × ((List S_relay_Sent) × Int)) K m.2.2.2.1 p.2.1 0 (-1) (fun h hh => (hp.hv h hh).2.1)
    simp only [cd_f]
    rw [hat, lastS_eq f7]
    rcases fnd_cases p.2.1 m.2.2.2.1 with ⟨h1, h2⟩ | ⟨i, h, h1, h2, h3, h4⟩
    · rw [h1]
      exact ⟨_, rfl, rfl, hz, by simp, fun _ _ h => by rw [h2] at h; cases h⟩
    · rw [h1, decide_eq_false (show ¬ (i : Int) < 0 by omega)]
      obtain ⟨k1, k2, k3⟩ := hp.hv h h4
      simp only [cd_f, clonedo_some hp, copy_some hp, idx_some' h2, bnd_s, message_some hml, copied_some k1, copy26_some k1, copy15_eq hm, has_eq hm, get_ref hm.2.1, prot_eq hm, prot_ref hm, stor_eq, stor_ref, insert_eq]
      cases h95 : m.2.1 == 95 with
      | true => exact ⟨_, rfl, rfl, hp, by simp, fun _ _ _ => ⟨rfl, rfl⟩⟩
      | false =>
        have w1 : w64 ((i : Int) + 1) = ((i + 1 : Nat) : Int) := by rw [w64_of (by omega) (by omega)]; omega
        have c1 : Gk.cut p.2.1 0 (i : Int) = some (p.2.1.take i) := by
          have := cut_some' (xs := p.2.1) (lo := 0) (hi := i) (by omega) (by omega)
          exact this
        have c2 : Gk.cut p.2.1 ((i + 1 : Nat) : Int) (p.2.1.length : Int) = some (p.2.1.drop (i + 1)) := by
          rw [cut_some' (by omega) (Nat.le_refl _), List.take_length]
        have c3 : app (p.2.1.take i) (p.2.1.drop (i + 1)) = some (p.2.1.take i ++ p.2.1.drop (i + 1)) := app_some' (by simp; omega)
        have c4 : app [] (p.2.1.take i) = some (p.2.1.take i) := by rw [app_some' (by simp; omega)]; rfl
        simp only [cd_f, w1, c1, c2, c3, c4, bnd_s]
        have hsub : ∀ q ∈ p.2.1.take i ++ p.2.1.drop (i + 1), q ∈ p.2.1 := fun q hq => by
          rcases List.mem_append.1 hq with hq | hq
          · exact List.mem_of_mem_take hq
          · exact List.mem_of_mem_drop hq
        have hlen : (p.2.1.take i ++ p.2.1.drop (i + 1)).length ≤ 1000000 := by simp; omega
        have lpA : ∀ (l : List S_api_Cached), (l.length ≤ 1000000 ∧ ∀ c ∈ l, c.1.length ≤ 1000000 ∧ LM c.2.1) → LP (p.1, (p.2.1.take i ++ p.2.1.drop (i + 1), (l, p.2.2.2))) ∧ LP (p.1, (p.2.1, (l, p.2.2.2))) := fun l hl =>
          ⟨⟨hlen, fun q hq => hp.hv q (hsub q hq), hl.1, hl.2⟩, ⟨hp.hl, hp.hv, hl.1, hl.2⟩⟩
        have lp0 := lpA p.2.2.1 ⟨hp.sl, hp.sv⟩
        have lp1 := fun hi => lpA (insS p.2.2.1 h.2.2.2.1 m now).1 (ValC.lists (insS_valid hi))
        generalize p.2.1.take i ++ p.2.1.drop (i + 1) = H at lp0 lp1 ⊢
        generalize hpr : (getS m.2.2.2.2.1 9).2 = b9
        generalize (getS m.2.2.2.2.1 6).2 = b6
        generalize storB m = bs
        generalize decide (0 < (h.2.2.2.1.length : Int)) = bk
        generalize h.2.2.2.2 = bo
        cases hi : (insS p.2.2.1 h.2.2.2.1 m now).2 == 0 with
        | false => cases bo <;> cases b6 <;> cases bk <;> cases b9 <;> cases bs <;> simp only [hi, cd_t, cd_f, bnd_s, Bool.not_true, Bool.not_false] <;> first | exact ⟨_, rfl, rfl, lp0.1, Nat.le_refl _, fun _ _ _ => ⟨rfl, rfl⟩⟩ | exact ⟨_, rfl, rfl, lp0.2, Nat.le_refl _, fun _ _ _ => ⟨rfl, rfl⟩⟩
        | true =>
          have lp1 := lp1 (beq_iff_eq.1 hi)
          cases bo <;> cases b6 <;> cases bk <;> cases b9 <;> cases bs <;> simp only [hi, cd_t, cd_f, bnd_s, Bool.not_true, Bool.not_false] <;> first | exact ⟨_, rfl, rfl, lp0.1, Nat.le_refl _, fun _ _ _ => ⟨rfl, rfl⟩⟩ | exact ⟨_, rfl, rfl, lp0.2, Nat.le_refl _, fun _ _ _ => ⟨rfl, rfl⟩⟩ | exact ⟨_, rfl, rfl, lp1.1, Nat.le_refl _, fun _ h => by rw [hpr] at h; cases h⟩ | exact ⟨_, rfl, rfl, lp1.2, Nat.le_refl _, fun _ h => by rw [hpr] at h; cases h⟩
/-- Drawn messages. -/
structure OkQ (cs : List Int) (k : Nat) (m : S_api_Message) : Prop where
  t0 : 0 ≤ m.1
  t1 : m.1 ≤ 2
  cl : m.2.1 ∈ cs
  i0 : 0 ≤ m.2.2.1
  i1 : m.2.2.1 ≤ 65535
  tok : m.2.2.2.1.length ≤ 8
  ol : m.2.2.2.2.1.length ≤ k
  srt : SrtB 20 m.2.2.2.2.1
  pay : m.2.2.2.2.2.length ≤ 100
theorem OkQ.sz {cs : List Int} {k : Nat} {m : S_api_Message} (h : OkQ cs k m) : Sz k m :=
  ⟨by have := h.tok; omega, h.ol, fun o ho => by have := h.srt.val o ho; omega, by have := h.pay; omega⟩
theorem OkQ.len {cs : List Int} {k : Nat} {m : S_api_Message} (h : OkQ cs k m) (hk : k ≤ 1000) : LenM m := h.sz.len (by omega)
theorem OkQ.set {cs : List Int} {k j : Nat} {m : S_api_Message} (h : OkQ cs k m) {n : Int} (h0 : 0 ≤ n) (h1 : n ≤ 65535) {vs : List (List UInt8)} (hk : k ≤ 1000) (hj : k + vs.length ≤ j) (hj2 : j ≤ 1000) (hv : ∀ v ∈ vs, v.length ≤ 20) :
    m_coresecref16_Set m n vs = some (withO m (setO m.2.2.2.2.1 n vs)) ∧ OkQ cs j (withO m (setO m.2.2.2.2.1 n vs)) :=
  ⟨(h.sz.set n (j := vs.length) (by omega) (Nat.le_refl _) fun v hv' => by have := hv v hv'; omega).1, h.t0, h.t1, h.cl, h.i0, h.i1, h.tok, by have := setO_len m.2.2.2.2.1 n vs; have := h.ol; show (setO m.2.2.2.2.1 n vs).length ≤ j; omega, h.srt.set h0 h1 hv, h.pay⟩
theorem OkQ.up {cs : List Int} {k j : Nat} {m : S_api_Message} (h : OkQ cs k m) (hk : k ≤ j) : OkQ cs j m := ⟨h.t0, h.t1, h.cl, h.i0, h.i1, h.tok, by have := h.ol; omega, h.srt, h.pay⟩
/-- Such messages are valid. -/
theorem OkQ.val {cs : List Int} {m : S_api_Message} (h : OkQ cs 5 m) (hcs : ∀ y ∈ cs, 1 ≤ y ∧ y ≤ 191 ∧ clsB (y / 32) = true) : valM m = true := by
  have ho : optsB 0 m.2.2.2.2.1 = true := h.srt.opts (by omega) fun o ho => (h.srt.num o ho).1
  have hc := hcs _ h.cl
  have h1 := h.t0; have h2 := h.t1; have h3 := h.i0; have h4 := h.i1; have h5 := h.tok; have h6 := h.ol; have h7 := h.pay
  have e1 : (m.2.1 == 0) = false := by rw [beq_eq_false_iff_ne]; omega
  have e2 : (m.1 == 3) = false := by rw [beq_eq_false_iff_ne]; omega
  have e3 := szO_le h.srt.val
  have e4 := rawO_len m.2.2.2.2.1 0
  unfold valM
  rw [Bool.and_eq_true]
  constructor
  · unfold sndM
    rw [ho, hc.2.2, e1, e2]
    simp only [Bool.false_and, Bool.not_false, Bool.and_true, Bool.and_eq_true, Bool.not_eq_true', decide_eq_false_iff_not, decide_eq_true_eq]
    omega
  · refine decide_eq_true ?_
    have e5 : (rawT m.2.2.2.2.2).length ≤ 101 := by
      unfold rawT
      cases decide (0 < (m.2.2.2.2.2.length : Int)) with
      | true => rw [cond_true, List.length_cons]; omega
      | false => simp
    have e6 := Nat.mul_le_mul_right 25 h6
    unfold rawS
    simp only [List.length_append, List.length_cons, List.length_nil]
    omega
theorem some5 {n : Int} (h : n ∈ ([0, 3, 40] : List Int)) : ∃ z, m_coresecmake_Some 5 n = some z ∧ z.length ≤ 40 := by
  have hn : 0 ≤ n ∧ n ≤ 40 := by
    have : ∀ y ∈ ([0, 3, 40] : List Int), 0 ≤ y ∧ y ≤ 40 := by decide
    exact this n h
  obtain ⟨z, e, hz⟩ := some_some 5 n (by omega)
  exact ⟨z, e, by omega⟩
def reqC : List Int := [1, 1, 1, 2, 5, 3]
theorem request34 {d : S_coresecmake_Deck} (h : DeckOK d) : ∃ m d', m_coreseclaw34_request d = some (m, d') ∧ DeckOK d' ∧ OkQ reqC 2 m := by
  unfold m_coreseclaw34_request
  obtain ⟨v1, d1, e1, l1, u1, h1⟩ := next_some h (n := 2) (by omega) (by omega)
  obtain ⟨v2, d2, e2, l2, u2, h2⟩ := next_some h1 (n := 6) (by omega) (by omega)
  obtain ⟨x3, e3, hx3⟩ := idx_lit ([1, 1, 1, 2, 5, 3] : List Int) l2 (by show v2 < 6; omega)
  obtain ⟨v4, d4, e4, l4, u4, h4⟩ := next_some h2 (n := 65536) (by omega) (by omega)
  obtain ⟨b5, d5, e5, l5, h5⟩ := bytes_le h4 (n := 2) (by omega)
  have e5' : m_coresecmake_Deck_Bytes d4 2 = some (b5, d5) := e5
  obtain ⟨v6, d6, e6, l6, u6, h6⟩ := next_some h5 (n := 3) (by omega) (by omega)
  obtain ⟨x7, e7, hx7⟩ := idx_lit ([0, 3, 40] : List Int) l6 (by show v6 < 3; omega)
  obtain ⟨z8, e8, l8⟩ := some5 hx7
  obtain ⟨v9, d9, e9, l9, u9, h9⟩ := next_some h6 (n := 2) (by omega) (by omega)
  have hm : OkQ reqC 0 (v1, (x3, (v4, (b5, ([], z8))))) := ⟨l1, by show v1 ≤ 2; omega, hx3, l4, by show v4 ≤ 65535; omega, by show b5.length ≤ 8; omega, by simp, ⟨List.Pairwise.nil, by simp, by simp⟩, by show z8.length ≤ 100; omega⟩
  obtain ⟨e10, z10⟩ := hm.set (n := 11) (j := 1) (vs := [[toU8 (w64 (97 + v9))]]) (by omega) (by omega) (by omega) (by simp) (by omega) (by simp)
  obtain ⟨v13, d13, e13, l13, u13, h13⟩ := next_some h9 (n := 4) (by omega) (by omega)
  simp only [e1, e2, e3, e4, e5', e6, e7, e8, e9, e10, e13, bnd_s, letm_e]
  cases v13 == 0 with
  | true =>
    obtain ⟨v15, d15, e15, _, _, h15⟩ := next_some h13 (n := 9) (by omega) (by omega)
    obtain ⟨e16, z16⟩ := z10.set (n := 9) (j := 2) (vs := [[9, toU8 v15]]) (by omega) (by omega) (by omega) (by simp) (by omega) (by simp)
    simp only [cd_t, e15, e16, bnd_s]
    exact ⟨_, _, rfl, h15, z16⟩
  | false =>
    cases v13 == 1 with
    | true =>
      obtain ⟨e16, z16⟩ := z10.set (n := 6) (j := 2) (vs := [[]]) (by omega) (by omega) (by omega) (by simp) (by omega) (by simp)
      simp only [cd_t, cd_f, e16, bnd_s]
      exact ⟨_, _, rfl, h13, z16⟩
    | false =>
      simp only [cd_f, bnd_s]
      exact ⟨_, _, rfl, h13, z10.up (by omega)⟩
def resC : List Int := [69, 69, 69, 132, 68]
theorem response34 {d : S_coresecmake_Deck} (h : DeckOK d) : ∃ m d', m_coresecmake_Deck_Response d = some (m, d') ∧ DeckOK d' ∧ OkQ resC 3 m := by
  unfold m_coresecmake_Deck_Response
  obtain ⟨v1, d1, e1, l1, u1, h1⟩ := next_some h (n := 3) (by omega) (by omega)
  rw [e1, bnd_s]
  obtain ⟨v2, d2, e2, l2, u2, h2⟩ := next_some h1 (n := 5) (by omega) (by omega)
  rw [e2, bnd_s]
  obtain ⟨x3, e3, hx3⟩ := idx_lit ([69, 69, 69, 132, 68] : List Int) l2 (by show v2 < 5; omega)
  rw [e3, bnd_s]
  obtain ⟨v4, d4, e4, l4, u4, h4⟩ := next_some h2 (n := 99) (by omega) (by omega)
  rw [e4, bnd_s]
  obtain ⟨b5, d5, e5, l5, h5⟩ := bytes_le h4 (n := 2) (by omega)
  have e5' : m_coresecmake_Deck_Bytes d4 2 = some (b5, d5) := e5
  rw [e5', bnd_s]
  obtain ⟨b6, d6, e6, l6, h6⟩ := bytes_le h5 (n := 6) (by omega)
  have e6' : m_coresecmake_Deck_Bytes d5 6 = some (b6, d6) := e6
  rw [e6', bnd_s]
  have z0 : OkQ resC 0 (v1, (x3, (v4, (b5, (([] : List S_api_Option), b6))))) := ⟨l1, by show v1 ≤ 2; omega, hx3, l4, by show v4 ≤ 65535; omega, by show b5.length ≤ 8; omega, by simp, ⟨List.Pairwise.nil, by simp, by simp⟩, by show b6.length ≤ 100; omega⟩
  -- Max-Age
  obtain ⟨v7, d7, e7, _, _, h7⟩ := next_some h6 (n := 2) (by omega) (by omega)
  simp only [e7, bnd_s, letm_e]
  obtain ⟨d8, m8, e8, h8, z8⟩ : ∃ d8 m8, (cond (v7 == 0) (bnd (m_coresecmake_Deck_Next d7 5) fun x9 => bnd (idx [0, 1, 5, 40, 300] x9.1) fun x10 => bnd (m_coresecref16_FromUint x10) fun x11 => bnd (m_coresecref16_Set (v1, (x3, (v4, (b5, ([], b6))))) 14 [x11]) fun x12 => some (x9.2, x12)) (some (d7, (v1, (x3, (v4, (b5, ([], b6)))))))) = some (d8, m8) ∧ DeckOK d8 ∧ OkQ resC 1 m8 := by
    cases v7 == 0 with
    | false => exact ⟨_, _, rfl, h7, z0.up (by omega)⟩
    | true =>
      obtain ⟨v9, d9, e9, l9, u9, h9⟩ := next_some h7 (n := 5) (by omega) (by omega)
      rw [cd_t, e9, bnd_s]
      obtain ⟨x10, e10, _⟩ := idx_lit ([0, 1, 5, 40, 300] : List Int) l9 (by show v9 < 5; omega)
      rw [e10, bnd_s]
      obtain ⟨l11, _, e11, l11l⟩ := fromUint_any x10
      obtain ⟨e12, z12⟩ := z0.set (n := 14) (vs := [l11]) (j := 1) (by omega) (by omega) (by omega) (by simp) (by omega) (by simp; omega)
      rw [e11, bnd_s, e12, bnd_s]
      exact ⟨_, _, rfl, h9, z12⟩
  rw [e8, bnd_s]
  -- a tag
  obtain ⟨v14, d14, e14, _, _, h14⟩ := next_some h8 (n := 2) (by omega) (by omega)
  simp only [e14, bnd_s]
  obtain ⟨d15, m15, e15, h15, z15⟩ : ∃ d15 m15, (cond (v14 == 0) (bnd (m_coresecmake_Deck_Next d14 3) fun x16 => bnd (m_coresecref16_Set m8 4 [[toU8 x16.1]]) fun x18 => some (x16.2, x18)) (some (d14, m8))) = some (d15, m15) ∧ DeckOK d15 ∧ OkQ resC 2 m15 := by
    cases v14 == 0 with
    | false => exact ⟨_, _, rfl, h14, z8.up (by omega)⟩
    | true =>
      obtain ⟨v16, d16, e16, _, _, h16⟩ := next_some h14 (n := 3) (by omega) (by omega)
      obtain ⟨e17, z17⟩ := z8.set (n := 4) (vs := [[toU8 v16]]) (j := 2) (by omega) (by omega) (by omega) (by simp) (by omega) (by simp)
      rw [cd_t, e16, bnd_s, e17, bnd_s]
      exact ⟨_, _, rfl, h16, z17⟩
  rw [e15, bnd_s]
  obtain ⟨v20, d20, e20, _, _, h20⟩ := next_some h15 (n := 8) (by omega) (by omega)
  simp only [e20, bnd_s]
  cases v20 == 0 with
  | true =>
    obtain ⟨e22, z22⟩ := z15.set (n := 6) (vs := [[1]]) (j := 3) (by omega) (by omega) (by omega) (by simp) (by omega) (by simp)
    rw [cd_t, e22, bnd_s, bnd_s]
    exact ⟨_, _, rfl, h20, z22⟩
  | false =>
    rw [cd_f]
    cases v20 == 1 with
    | false => exact ⟨_, _, rfl, h20, z15.up (by omega)⟩
    | true =>
      obtain ⟨v24, d24, e24, _, _, h24⟩ := next_some h20 (n := 2) (by omega) (by omega)
      obtain ⟨v25, d25, e25, _, _, h25⟩ := next_some h24 (n := 2) (by omega) (by omega)
      obtain ⟨r, er, lr⟩ := value18_some (v24, (v25 == 0, 2))
      obtain ⟨e28, z28⟩ := z15.set (n := 23) (vs := [r.1]) (j := 3) (by omega) (by omega) (by omega) (by simp) (by omega) (by simp; omega)
      rw [cd_t, e24, bnd_s, e25, bnd_s, er, bnd_s, e28, bnd_s, bnd_s]
      exact ⟨_, _, rfl, h25, z28⟩
theorem answer34 {d : S_coresecmake_Deck} (h : DeckOK d) {p : S_api_Proxy} (hp : LP p) : ∃ m d', m_coreseclaw34_answer d p = some (m, d') ∧ DeckOK d' ∧ LenM m := by
  unfold m_coreseclaw34_answer
  obtain ⟨m1, d1, e1, h1, z1⟩ := response34 h
  obtain ⟨v3, d3, e3, _, _, h3⟩ := next_some h1 (n := 4) (by omega) (by omega)
  simp only [e1, e3, bnd_s, letm_e]
  obtain ⟨d6, m6, e6, h6, z6⟩ : ∃ d6 m6, (cond (v3 == 0) (bnd (m_coresecref16_Set m1 9 [[]]) fun x5 => some (d3, x5)) (some (d3, m1))) = some (d6, m6) ∧ DeckOK d6 ∧ OkQ resC 4 m6 := by
    cases v3 == 0 with
    | false => exact ⟨_, _, rfl, h3, z1.up (by omega)⟩
    | true =>
      obtain ⟨e5, z5⟩ := z1.set (n := 9) (vs := [[]]) (j := 4) (by omega) (by omega) (by omega) (by simp) (by omega) (by simp)
      rw [cd_t, e5, bnd_s]
      exact ⟨_, _, rfl, h3, z5⟩
  rw [e6, bnd_s]
  obtain ⟨b7, d7, e7, l7, h7⟩ := bytes_le h6 (n := 2) (by omega)
  have e7' : m_coresecmake_Deck_Bytes d6 2 = some (b7, d7) := e7
  have z := z6.len (by omega)
  simp only [e7', bnd_s]
  cases hl : decide (0 < (p.2.1.length : Int)) with
  | false =>
    simp only [cd_f, bnd_s]
    exact ⟨_, _, rfl, h7, by show b7.length ≤ 1000000; omega, z.2⟩
  | true =>
    have hl := of_decide_eq_true hl
    have := hp.hl
    obtain ⟨v9, d9, e9, l9, u9, h9⟩ := next_some h7 (n := (p.2.1.length : Int)) hl (by omega)
    obtain ⟨x10, e10, hx10⟩ := idx_lit p.2.1 l9 u9
    have hx := hp.hv x10 hx10
    have e11 : app [] x10.2.2.1 = some x10.2.2.1 := by rw [app_some' (by simp; omega)]; rfl
    simp only [cd_t, e9, e10, e11, bnd_s]
    exact ⟨_, _, rfl, h9, hx.2.1, z.2⟩
theorem worked_go : ∀ (k f : Nat) (now : Int) (d : S_coresecmake_Deck) (p : S_api_Proxy), k < f → k ≤ 20 → DeckOK d → LP p → 0 ≤ now → now + 30 * (k : Int) ≤ 1000000 → ∃ q t d',
    loopF (R := (S_api_Proxy × (Int × S_coresecmake_Deck))) (S := (Int × (Int × (S_coresecmake_Deck × S_api_Proxy)))) (fun self7 s6 =>
 letm (decide (0 < s6.2.1)) fun x8 =>
 cond x8 (bnd (β := (Int × (S_coresecmake_Deck × S_api_Proxy))) (bnd (m_coresecmake_Deck_Next s6.2.2.1 30) fun x9 =>
 letm ((w64 (s6.1 + x9.1))) fun x10 =>
 bnd (β := (Bool × S_coresecmake_Deck)) (bnd (m_coresecmake_Deck_Next x9.2 2) fun x11 =>
 letm ((x11.1 == 0)) fun x12 =>
 cond x12 (some (true, x11.2))
  (letm (((s6.2.2.2.2.1.length : Int) == 0)) fun x13 =>
 some (x13, x11.2))) fun v14 =>
 cond v14.1 (bnd (m_coresecmake_Deck_Next v14.2 4) fun x15 =>
 bnd (m_coreseclaw34_request x15.2) fun x16 =>
 bnd (m_coresecref34_Forward s6.2.2.2 x15.1 x16.1 x10) fun x17 =>
 some (x10, (x16.2, x17.1)))
  (bnd (m_coreseclaw34_answer v14.2 s6.2.2.2) fun x18 =>
 bnd (m_coresecref34_Return s6.2.2.2 x18.1 x10) fun x19 =>
 some (x10, (x18.2, x19.1)))) fun v20 =>
 letm ((w64 (s6.2.1 - 1))) fun x21 =>
 self7 (v20.1, (x21, (v20.2.1, v20.2.2))))
  (some (s6.2.2.2, (s6.1, s6.2.2.1)))) f (now, ((k : Int), (d, p))) = some (q, (t, d')) ∧ DeckOK d' ∧ LP q ∧ 0 ≤ t ∧ t ≤ 1000000 := by
  intro k
  induction k with
  | zero =>
    intro f now d p hf _ hd hp h0 h1
    obtain ⟨f, rfl⟩ : ∃ g, f = g + 1 := ⟨f - 1, by omega⟩
    exact ⟨p, now, d, rfl, hd, hp, h0, by omega⟩
  | succ k ih =>
    intro f now d p hf hk hd hp hn0 hn1
    obtain ⟨f, rfl⟩ : ∃ g, f = g + 1 := ⟨f - 1, by omega⟩
    have dk : decide ((0 : Int) < ((k + 1 : Nat) : Int)) = true := decide_eq_true (by omega)
    have wk : w64 (((k + 1 : Nat) : Int) - 1) = (k : Int) := by rw [w64_of (by omega) (by omega)]; omega
    obtain ⟨v9, d9, e9, l9, u9, h9⟩ := next_some hd (n := 30) (by omega) (by omega)
    have wn : w64 (now + v9) = now + v9 := w64_of (by omega) (by omega)
    obtain ⟨v11, d11, e11, _, _, h11⟩ := next_some h9 (n := 2) (by omega) (by omega)
    rw [loopF_succ]
    simp only [letm_e, dk, cd_t, e9, e11, bnd_s, wn, wk]
    obtain ⟨b, d14, e14, h14⟩ : ∃ b d14, (cond (v11 == 0) (some (true, d11)) (some ((p.2.1.length : Int) == 0, d11))) = some (b, d14) ∧ DeckOK d14 := by
      cases v11 == 0
      · exact ⟨_, _, rfl, h11⟩
      · exact ⟨_, _, rfl, h11⟩
    simp only [e14, bnd_s]
    cases b with
    | true =>
      obtain ⟨v15, d15, e15, _, _, h15⟩ := next_some h14 (n := 4) (by omega) (by omega)
      obtain ⟨m16, d16, e16, h16, z16⟩ := request34 h15
      obtain ⟨r, _, e17, hq⟩ := forward_both hp (z16.len (by omega)) v15 (now + v9)
      simp only [cd_t, e15, e16, e17, bnd_s]
      have := ih f (now + v9) d16 r.1 (by omega) (by omega) h16 hq.lp (by omega) (by omega)
      simp only [letm_e] at this
      exact this
    | false =>
      obtain ⟨m18, d18, e18, h18, z18⟩ := answer34 h14 hp
      obtain ⟨r, _, e19, hq⟩ := return_both hp z18 (now + v9)
      simp only [cd_f, e18, e19, bnd_s]
      have := ih f (now + v9) d18 r.1 (by omega) (by omega) h18 hq.lp (by omega) (by omega)
      simp only [letm_e] at this
      exact this
theorem worked_some {d : S_coresecmake_Deck} (h : DeckOK d) : ∃ q t d', m_coreseclaw34_worked d = some (q, (t, d')) ∧ DeckOK d' ∧ LP q ∧ 0 ≤ t ∧ t ≤ 1000000 := by
  unfold m_coreseclaw34_worked
  obtain ⟨v1, d1, e1, l1, u1, h1⟩ := next_some h (n := 3) (by omega) (by omega)
  obtain ⟨x2, e2, _⟩ := idx_lit ([0, 65534, 9] : List Int) l1 (by show v1 < 3; omega)
  obtain ⟨v3, d3, e3, l3, u3, h3⟩ := next_some h1 (n := 4) (by omega) (by omega)
  obtain ⟨v5, d5, e5, l5, u5, h5⟩ := next_some h3 (n := 14) (by omega) (by omega)
  obtain ⟨k, rfl⟩ : ∃ k : Nat, v5 = (k : Int) := ⟨v5.toNat, by omega⟩
  rw [e1, bnd_s, e2, bnd_s, e3, bnd_s, letm_e, e5, bnd_s]
  exact worked_go k FUEL 1 d5 (x2, ([], ([], w64 (v3 - 1)))) (by rw [fuel_eq]; omega) (by omega) h5 ⟨by simp, by simp, by simp, by simp⟩ (by omega) (by omega)
/-! ### Lists compared with themselves -/
theorem slist_go (l : List S_api_Message) : ∀ (r k : Nat), k + r = l.length → loopN (R := Bool) (S := Unit) (fun _ _ => some true)
  (fun k5 _ self7 =>
 bnd (idx l (k5 : Int)) fun x8 =>
 bnd (idx l (k5 : Int)) fun x9 =>
 bnd (m_coresecref15_Same x8 x9) fun x10 =>
 letm ((!x10)) fun x11 =>
 cond x11 (some false)
  (self7 ())) r k () = some true
  | 0, _, _ => rfl
  | r + 1, k, h => by
    have hk : k < l.length := by omega
    have ih := slist_go l r (k + 1) (by omega)
    rw [loopN_succ]
    simp only [idx_some' (List.getElem?_eq_getElem hk), bnd_s, same15, letm_e, Bool.not_true, cd_f]
    simp only [letm_e] at ih
    exact ih
theorem slist_self {l : List S_api_Message} (h : l.length ≤ 1000000) : m_coreseclaw34_sameList l l = some true := by
  unfold m_coreseclaw34_sameList
  rw [letm_e, bne_self_eq_false, cd_f, rng_some' (by omega), bnd_s, Int.toNat_natCast]
  exact slist_go l l.length 0 (by omega)
theorem ssent_go (l : List S_relay_Sent) : ∀ (r k : Nat), k + r = l.length → loopN (R := Bool) (S := Unit) (fun _ _ =>
 some true)
  (fun k5 _ self7 =>
 bnd (β := Bool) (bnd (idx l (k5 : Int)) fun x8 =>
 bnd (idx l (k5 : Int)) fun x9 =>
 letm ((x8.1 != x9.1)) fun x10 =>
 cond x10 (some true)
  (bnd (idx l (k5 : Int)) fun x11 =>
 bnd (idx l (k5 : Int)) fun x12 =>
 bnd (m_coresecref15_Same x11.2 x12.2) fun x13 =>
 letm ((!x13)) fun x14 =>
 some x14)) fun v15 =>
 cond v15 (some false)
  (self7 ())) r k () = some true
  | 0, _, _ => rfl
  | r + 1, k, h => by
    have hk : k < l.length := by omega
    have ih := ssent_go l r (k + 1) (by omega)
    rw [loopN_succ]
    simp only [idx_some' (List.getElem?_eq_getElem hk), bnd_s, same15, letm_e, Bool.not_true, cd_f, bne_self_eq_false]
    simp only [letm_e] at ih
    exact ih
theorem ssent_self {l : List S_relay_Sent} (h : l.length ≤ 1000000) : m_coreseclaw34_sameSent l l = some true := by
  unfold m_coreseclaw34_sameSent
  rw [letm_e, bne_self_eq_false, cd_f, rng_some' (by omega), bnd_s, Int.toNat_natCast]
  exact ssent_go l l.length 0 (by omega)
/-! ### Small proxies and messages -/
theorem loopL_allB {R α : Type} {bs : α → Nat → Unit → (Unit → Option R) → Option R} (p : α → Bool) (v Z : Option R) : ∀ (xs : List α) (k : Nat), (∀ x k self, bs x k () self = cond (!(p x)) v (self ())) →
    loopL (R := R) (S := Unit) (fun _ _ => Z) bs xs k () = cond (xs.all p) Z v
  | [], _, _ => rfl
  | x :: xs, k, h => by
    rw [loopL_cons, h, loopL_allB p v Z xs (k + 1) h, List.all_cons]
    cases p x <;> rfl
def smB (b : List UInt8) : Bool := decide ((b.length : Int) ≤ 900)
theorem small_eq (b : List UInt8) : m_coresecmake2_Small b = some (smB b) := by unfold m_coresecmake2_Small; rw [letm_e]; rfl
def msgB (m : S_api_Message) : Bool := m.2.2.2.2.1.all (fun o => smB o.2) && (decide ((m.2.2.2.2.1.length : Int) ≤ 20) && (smB m.2.2.2.1 && smB m.2.2.2.2.2))
theorem msgB_eq (m : S_api_Message) : m_coresecmake2_Message m = some (msgB m) := by
  unfold m_coresecmake2_Message msgB
  rw [loopL_allB (fun o : S_api_Option => smB o.2) (some false) _ _ 0 (fun x k self => by rw [small_eq, bnd_s, letm_e])]
  simp only [small_eq, letm_e, bnd_s]
  cases m.2.2.2.2.1.all (fun o => smB o.2) <;> cases decide ((m.2.2.2.2.1.length : Int) ≤ 20) <;> cases smB m.2.2.2.1 <;> rfl
theorem msgB_len {m : S_api_Message} (h : msgB m = true) : LenM m := by
  unfold msgB smB at h
  simp only [Bool.and_eq_true, List.all_eq_true, decide_eq_true_eq] at h
  obtain ⟨h1, h2, h3, h4⟩ := h
  exact ⟨by omega, ⟨by omega, fun o ho => by have := h1 o ho; omega⟩, by omega⟩
def allB (l : List (List UInt8)) : Bool := l.all smB && decide ((l.length : Int) ≤ 20)
theorem all_eq2 (l : List (List UInt8)) : m_coresecmake2_All l = some (allB l) := by
  unfold m_coresecmake2_All allB
  rw [loopL_allB smB (some false) _ _ 0 (fun x k self => by rw [small_eq, bnd_s, letm_e])]
  cases l.all smB <;> rfl
def lightB (p : S_api_Proxy) : Bool := p.2.1.all (fun h => allB [h.2.1, h.2.2.1, h.2.2.2.1]) && (p.2.2.1.all (fun c => smB c.1 && msgB c.2.1) && (decide ((p.2.1.length : Int) ≤ 12) && decide ((p.2.2.1.length : Int) ≤ 20)))
theorem light_eq (p : S_api_Proxy) : m_coreseclaw34_light p = some (lightB p) := by
  unfold m_coreseclaw34_light lightB
  rw [loopL_allB (fun h : S_api_Hop => allB [h.2.1, h.2.2.1, h.2.2.2.1]) (some false) _ _ 0 (fun x k self => by rw [all_eq2, bnd_s, letm_e])]
  rw [loopL_allB (fun c : S_api_Cached => smB c.1 && msgB c.2.1) (some false) _ _ 0 (fun x k self => by
    rw [small_eq, bnd_s, letm_e, msgB_eq, bnd_s, letm_e]
    cases smB x.1 <;> cases msgB x.2.1 <;> rfl)]
  simp only [letm_e, bnd_s]
  cases p.2.1.all (fun h => allB [h.2.1, h.2.2.1, h.2.2.2.1]) <;> cases p.2.2.1.all (fun c => smB c.1 && msgB c.2.1) <;> cases decide ((p.2.1.length : Int) ≤ 12) <;> rfl
theorem lightB_lp {p : S_api_Proxy} (h : lightB p = true) : LP p := by
  unfold lightB allB at h
  simp only [Bool.and_eq_true, List.all_eq_true, decide_eq_true_eq] at h
  obtain ⟨h1, h2, h3, h4⟩ := h
  refine ⟨by omega, fun q hq => ?_, by omega, fun c hc => ?_⟩
  · have := (h1 q hq).1
    have a1 := this q.2.1 (by simp); have a2 := this q.2.2.1 (by simp); have a3 := this q.2.2.2.1 (by simp)
    unfold smB at a1 a2 a3
    simp only [decide_eq_true_eq] at a1 a2 a3
    exact ⟨by omega, by omega, by omega⟩
  · obtain ⟨a1, a2⟩ := h2 c hc
    unfold smB at a1
    simp only [decide_eq_true_eq] at a1
    exact ⟨by omega, (msgB_len a2).lm⟩
end Go.Proofs.YtcbkmlfkfhfliaaGreatDoor
