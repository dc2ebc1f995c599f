/-
  Blocks inside messages, plain facts: the law FragmentBack. Of the models alone; no program; no condition but that a list of numbers is not longer than memory.
-/
import Derived.Test.YtdgpkkfkloapbaaQ44
namespace Go.Proofs.Ytdgpkkfkloapbaa
open Go.Gk Go.RowKit
/-- The list behind i blocks. -/
def lstS (K p : List UInt8) (L i : Nat) : List S_api_Partial := if i = 0 then [] else [(3, (K, (p.take (i * L), ((137 + i : Nat) : Int))))]
theorem lstS_pos {K p : List UInt8} {L i : Nat} (h : 0 < i) : lstS K p L i = [(3, (K, (p.take (i * L), ((137 + i : Nat) : Int))))] := by
  unfold lstS; rw [if_neg (by omega)]
theorem lstS_len {K p : List UInt8} (hK : K.length ≤ 200) (hp : p.length ≤ 100) (L i : Nat) : LenP (lstS K p L i) := by
  unfold lstS
  split
  · exact ⟨by simp, by simp⟩
  · refine ⟨by simp, fun q hq => ?_⟩
    rw [List.mem_singleton.1 hq]
    exact ⟨by show K.length ≤ 4096; omega, by show (p.take (i * L)).length ≤ 4096; rw [List.length_take]; omega⟩
theorem lstS_valid {K p : List UInt8} (hK : K.length ≤ 200) (hp : p.length ≤ 100) (L i : Nat) : validB (lstS K p L i) = true := by
  unfold lstS
  split
  · rfl
  · exact valid_one (by omega) (by omega) (by omega) (by rw [List.length_take]; omega) (by omega)
theorem own_self {p : Int} {k c : List UInt8} {u : Int} : own p k (p, (k, (c, u))) = true := by unfold own; simp
section
variable {K p c : List UInt8} {s i L : Nat}
theorem keep_lst (hi : 0 < i) (j : Nat) (hj : j ≤ i) : (lstS K p L i).filter (keepB 3 K false ((10 + j : Nat) : Int)) = lstS K p L i := by
  rw [lstS_pos hi, List.filter_cons, keepB_new (by omega)]; rfl
theorem find_lst (hi : 0 < i) : (lstS K p L i).find? (own 3 K) = some (3, (K, (p.take (i * L), ((137 + i : Nat) : Int)))) ∧ (lstS K p L i).findIdx? (own 3 K) = some 0 := by
  rw [lstS_pos hi, List.find?_cons, List.findIdx?_cons, own_self]
  exact ⟨rfl, rfl⟩
theorem put_mid (hL : L = 16 * 2 ^ s) (hs : s < 3) (hi : i < 6) (hK : K.length ≤ 200) (hp : p.length ≤ 100) (hc : c = (p.take (i * L + L)).drop (i * L)) (hcl : c.length = L) (hm : i * L + L < p.length) :
    putS (lstS K p L i) 3 K ((i : Int), (true, (s : Int))) c ((10 + i : Nat) : Int) = (lstS K p L (i + 1), ([], (false, 0))) := by
  rw [putS_ok (lstS_valid hK hp L i) (by omega) (by omega) (by omega) (sndB_ok (by omega) hs true) (by omega) (by omega)]
  show putC (lstS K p L i) 3 K (i : Int).toNat ((i : Int) == 0) true (16 * 2 ^ (s : Int).toNat) c _ = _
  rw [Int.toNat_natCast, Int.toNat_natCast, ← hL]
  have happ : p.take (i * L) ++ c = p.take ((i + 1) * L) := by
    have e : (p.take (i * L + L)).take (i * L) = p.take (i * L) := by rw [List.take_take, Nat.min_eq_left (by omega)]
    rw [hc, ← e, List.take_append_drop, Nat.succ_mul]
  by_cases h0 : i = 0
  · subst h0
    have hz : putC (lstS K p L 0) 3 K 0 (((0 : Nat) : Int) == 0) true L c ((10 + 0 : Nat) : Int) = _ := putC_new (ys := []) rfl hcl (by omega) rfl (by simp)
    rw [hz, lstS_pos (by omega)]
    have : c = p.take (1 * L) := by simpa using happ
    rw [← this]; rfl
  · have hz : ((i : Int) == 0) = false := by rw [beq_eq_false_iff_ne]; omega
    obtain ⟨f1, f2⟩ := find_lst (K := K) (p := p) (L := L) (i := i) (by omega)
    have hx : (p.take (i * L)).length = i * L := by rw [List.length_take]; omega
    rw [hz, putC_old (keep_lst (by omega) i (Nat.le_refl _)) (by omega) hcl f1 f2 hx (by show (p.take (i * L)).length + L ≤ 4096; omega)]
    rw [lstS_pos (i := i) (by omega), lstS_pos (by omega)]
    show ([((3 : Int), (K, (p.take (i * L) ++ c, ((10 + i : Nat) : Int) + 128)))], _) = _
    rw [happ, show ((10 + i : Nat) : Int) + 128 = ((137 + (i + 1) : Nat) : Int) by omega]
theorem put_last (hL : L = 16 * 2 ^ s) (hs : s < 3) (hi : i < 6) (hK : K.length ≤ 200) (hp : p.length ≤ 100) (hc : c = p.drop (i * L)) (hcl : c.length ≤ L) (hm : i = 0 ∨ i * L < p.length) :
    putS (lstS K p L i) 3 K ((i : Int), (false, (s : Int))) c ((10 + i : Nat) : Int) = ([], (p, (true, 0))) := by
  have hp2 : 2 ^ s ≤ 2 ^ 3 := Nat.pow_le_pow_right (by omega) (by omega)
  rw [putS_ok (lstS_valid hK hp L i) (by omega) (by omega) (by omega) (sndB_ok (by omega) hs false) (by omega) (by omega)]
  show putC (lstS K p L i) 3 K (i : Int).toNat ((i : Int) == 0) false (16 * 2 ^ (s : Int).toNat) c _ = _
  rw [Int.toNat_natCast, Int.toNat_natCast, ← hL]
  have happ : p.take (i * L) ++ c = p := by rw [hc, List.take_append_drop]
  by_cases h0 : i = 0
  · subst h0
    have hz : putC (lstS K p L 0) 3 K 0 (((0 : Nat) : Int) == 0) false L c ((10 + 0 : Nat) : Int) = _ := putC_one (ys := []) rfl hcl (by omega) rfl
    rw [hz]
    have : c = p := by simpa using happ
    rw [this]
  · have hz : ((i : Int) == 0) = false := by rw [beq_eq_false_iff_ne]; omega
    obtain ⟨f1, f2⟩ := find_lst (K := K) (p := p) (L := L) (i := i) (by omega)
    have hx : (p.take (i * L)).length = i * L := by rw [List.length_take]; omega
    have hcc : c.length = p.length - i * L := by rw [hc, List.length_drop]
    rw [hz, putC_last (keep_lst (by omega) i (Nat.le_refl _)) (by omega) hcl (by omega) f1 f2 hx (by show (p.take (i * L)).length + L ≤ 4096; omega)]
    rw [lstS_pos (i := i) (by omega)]
    show (_, (p.take (i * L) ++ c, _)) = _
    rw [happ]; rfl
theorem put_again (hL : L = 16 * 2 ^ s) (hs : s < 3) (h0 : 0 < i) (hi : i < 6) (hK : K.length ≤ 200) (hp : p.length ≤ 100) (hcl : c.length = L) (hm : i * L + L < p.length) :
    putS (lstS K p L (i + 1)) 3 K ((i : Int), (true, (s : Int))) c ((10 + i : Nat) : Int) = ([], ([], (false, 15))) := by
  have hp1 : 1 ≤ 2 ^ s := Nat.one_le_two_pow
  rw [putS_ok (lstS_valid hK hp L (i + 1)) (by omega) (by omega) (by omega) (sndB_ok (by omega) hs true) (by omega) (by omega)]
  show putC (lstS K p L (i + 1)) 3 K (i : Int).toNat ((i : Int) == 0) true (16 * 2 ^ (s : Int).toNat) c _ = _
  rw [Int.toNat_natCast, Int.toNat_natCast, ← hL]
  have hz : ((i : Int) == 0) = false := by rw [beq_eq_false_iff_ne]; omega
  obtain ⟨f1, _⟩ := find_lst (K := K) (p := p) (L := L) (i := i + 1) (by omega)
  rw [hz, putC_state (keep_lst (by omega) i (by omega)) h0 hcl fun x hx => ?_]
  rw [f1] at hx
  cases hx
  show (p.take ((i + 1) * L)).length ≠ i * L
  rw [List.length_take, Nat.succ_mul]
  omega
end
theorem outer_cut {m : S_api_Message} (bx : Body m) {v : List UInt8} {b : S_api_Block} (hv : parseS v = (b, 0)) (hvl : v.length ≤ 4) {c : List UInt8} (hc : c.length ≤ 100) {l : List S_api_Partial} (hl : LenP l) (t : Int) (h0 : 0 ≤ posS b) (h9 : posS b ≤ 500) :
    m_fragment_Outer l 3 (cutM m v c) t = some (fputK (cutM m v c) 27 (putS l 3 (keyK m) b c t)) := by
  rw [outer_eq hl (cutM_len bx.ok hvl hc).1 (by show c.length ≤ 100000; omega)]
  unfold outS
  have : allS (cutM m v c).2.2.2.2.1 23 = [] := allS_set_other m.2.2.2.2.1 (n := 27) (k := 23) (by decide) [v] bx.no23
  rw [this, fput_cut bx.ok bx.no27 hv c l 3 1024 t (by omega) h0 (by omega) (by omega)]; rfl
theorem whole_eq {m : S_api_Message} (bx : Body m) (v c : List UInt8) : fputK (cutM m v c) 27 ([], (m.2.2.2.2.2, (true, 0))) = ([], (m, (true, 0))) := by
  unfold fputK
  show ([], ((m.1, (m.2.1, (m.2.2.1, (m.2.2.2.1, (noO (setO m.2.2.2.2.1 27 [v]) 27, m.2.2.2.2.2))))), (true, 0))) = _
  rw [noO_set, setO_no (bx.ok.srt.no 27).srt, allS_no bx.no27]
theorem blocks_eq (n s : Nat) (hn : n ≤ 100) (hs : s < 3) : m_coresecref18_Blocks (n : Int) (s : Int) = some ((max 1 ((n + 16 * 2 ^ s - 1) / (16 * 2 ^ s)) : Nat) : Int) := by
  have hp1 : 1 ≤ 2 ^ s := Nat.one_le_two_pow
  have hp2 : 2 ^ s ≤ 2 ^ 3 := Nat.pow_le_pow_right (by omega) (by omega)
  unfold m_coresecref18_Blocks
  have hb := (blength (z := s) (by omega)).2
  simp only [letm_e, cd_or, bnd_s, hb]
  generalize hL : 16 * 2 ^ s = L
  have hL1 : 16 ≤ L := by omega
  have hL2 : L ≤ 128 := by omega
  rw [decide_eq_false (show ¬ (n : Int) < 0 by omega), decide_eq_false (show ¬ 1073741824 < (n : Int) by omega), decide_eq_false (show ¬ (s : Int) < 0 by omega), decide_eq_false (show ¬ 6 < (s : Int) by omega)]
  simp only [Bool.or_self, cd_f]
  have w : w64 (w64 ((n : Int) + (L : Int)) - 1) = ((n + L - 1 : Nat) : Int) := by
    rw [w64_of (x := (n : Int) + (L : Int)) (by omega) (by omega), w64_of (by omega) (by omega)]; omega
  rw [w, quo_nat (by omega) (by omega), bnd_s]
  refine congrArg some ?_
  omega
theorem FragmentBack_true (a0 : List Int) (a1 : Int) (h0 : List.length a0 ≤ maxLen) : m_coreseclaw33_FragmentBack a0 a1 = some true := by
  unfold m_coreseclaw33_FragmentBack m_coresecmake_New
  rw [bnd_s]
  obtain ⟨m, d, em, hd, bx⟩ := body_ok (new_ok h0)
  obtain ⟨s, es, s0, s1⟩ := mod_some a1 (m := 3) (by omega) (by omega)
  obtain ⟨s, rfl⟩ : ∃ k : Nat, s = (k : Int) := ⟨s.toNat, by omega⟩
  have hs : s < 3 := by omega
  have hpl := bx.pay
  have hp1 : 1 ≤ 2 ^ s := Nat.one_le_two_pow
  have hp2 : 2 ^ s ≤ 2 ^ 2 := Nat.pow_le_pow_right (by omega) (by omega)
  have hK : (keyK m).length ≤ 200 := (key_valid bx.ok 27).2
  refine bnd_of em (bnd_of es (bnd_of (blocks_eq m.2.2.2.2.2.length s (by omega) hs) ?_))
  generalize hp : m.2.2.2.2.2 = p at hpl ⊢
  generalize hL : 16 * 2 ^ s = L
  have hL1 : 16 ≤ L := by omega
  have hL2 : L ≤ 64 := by omega
  generalize hn : max 1 ((p.length + L - 1) / L) = n
  have hn1 : 1 ≤ n := by omega
  have hdm := Nat.div_add_mod (p.length + L - 1) L
  have hml := Nat.mod_lt (p.length + L - 1) (show 0 < L by omega)
  have hn6 : n ≤ 6 := by
    have : (p.length + L - 1) / L ≤ 6 := by
      refine Nat.le_of_lt_succ ((Nat.div_lt_iff_lt_mul (by omega)).2 ?_)
      omega
    omega
  -- where the blocks lie
  have hmid : ∀ i, i + 1 < n → i * L + L < p.length := by
    intro i hi
    have hq : i + 2 ≤ (p.length + L - 1) / L := by omega
    have h1 : (i + 2) * L ≤ p.length + L - 1 := Nat.le_trans (Nat.mul_le_mul_right L hq) (Nat.div_mul_le_self _ _)
    rw [Nat.add_mul] at h1
    omega
  have hend : p.length ≤ (n - 1) * L + L ∧ (n - 1 = 0 ∨ (n - 1) * L < p.length) := by
    refine ⟨?_, ?_⟩
    · have hq : (p.length + L - 1) / L ≤ n := by omega
      have h1 : (p.length + L - 1) / L * L ≤ n * L := Nat.mul_le_mul_right L hq
      have h2 : (n - 1) * L + L = n * L := by rw [← Nat.succ_mul]; congr 1; omega
      rw [Nat.mul_comm] at hdm
      omega
    · by_cases h : n = 1
      · left; omega
      · right
        have := hmid (n - 2) (by omega)
        have h2 : (n - 2) * L + L = (n - 1) * L := by rw [← Nat.succ_mul]; congr 1; omega
        omega
  refine loopF_inv (I := fun r st => ∃ i : Nat, i + 1 + r = n ∧ st.2.1 = (i : Int) ∧ st.1 = lstS (keyK m) p L i ∧ DeckOK st.2.2) true ?_ ?_ (n - 1) FUEL _ (by rw [fuel_eq]; omega) ⟨0, by omega, rfl, rfl, hd⟩
  · -- the last block
    rintro ⟨l, i', d'⟩ self ⟨i, hi, h1, h2, hd'⟩
    have h1' : i' = (i : Int) := h1
    have h2' : l = lstS (keyK m) p L i := h2
    subst h1' h2'
    have hin : i = n - 1 := by omega
    obtain ⟨hE1, hE2⟩ := hend
    rw [← hin] at hE1 hE2
    have hE3 : i * L = 0 ∨ i * L < p.length := by
      rcases hE2 with h | h
      · left; rw [h, Nat.zero_mul]
      · right; exact h
    have hcut : cutS p i s = (p.drop (i * L), (false, 0)) := by
      unfold cutS
      rw [hL, if_neg (by omega), Nat.min_eq_left hE1, List.take_length, decide_eq_false (by omega)]
    obtain ⟨v, v1, v2, fc⟩ := fcut_eq bx.ok bx.no27 (n := i) (s := s) (by omega) hs (by rw [hp, hcut])
    rw [hp, hcut] at v1 fc
    have hcl : (p.drop (i * L)).length ≤ L := by rw [List.length_drop]; omega
    have hpos := posS_eq (n := i) (s := s) (by omega) hs false
    rw [hL] at hpos
    have hiL : i * L ≤ 6 * 64 := Nat.mul_le_mul (by omega) hL2
    have ho := outer_cut bx v1 v2 (c := p.drop (i * L)) (by omega) (lstS_len hK (show p.length ≤ 100 by omega) L i) ((10 + i : Nat) : Int) (by show 0 ≤ posS ((i : Int), (false, (s : Int))); rw [hpos]; omega) (by show posS ((i : Int), (false, (s : Int))) ≤ 500; rw [hpos]; omega)
    have hput := put_last (K := keyK m) hL.symm hs (by omega) hK (show p.length ≤ 100 by omega) (c := p.drop (i * L)) rfl hcl (by omega)
    have hw := whole_eq bx v (p.drop (i * L))
    rw [hp] at hw
    have ho' : m_fragment_Outer (lstS (keyK m) p L i) 3 (cutM m v (p.drop (i * L))) ((10 + i : Nat) : Int) = some ([], (m, (true, 0))) := by
      rw [ho]
      show some (fputK _ 27 (putS (lstS (keyK m) p L i) 3 (keyK m) ((i : Int), (false, (s : Int))) (p.drop (i * L)) ((10 + i : Nat) : Int))) = _
      rw [hput, hw]
    have di : decide ((i : Int) < (n : Int)) = true := decide_eq_true (by omega)
    have w1 : w64 (10 + (i : Int)) = ((10 + i : Nat) : Int) := by rw [w64_of (by omega) (by omega)]; omega
    have w2 : w64 ((n : Int) - 1) = (i : Int) := by rw [w64_of (by omega) (by omega)]; omega
    have fc' : m_fragment_Cut m 27 (i : Int) (s : Int) = some (cutM m v (p.drop (i * L)), 0) := fc
    have hu : ((cutM m v (p.drop (i * L))).1, ((cutM m v (p.drop (i * L))).2.1, (m.2.2.1, (m.2.2.2.1, (cutM m v (p.drop (i * L))).2.2.2.2)))) = cutM m v (p.drop (i * L)) := rfl
    simp only [letm_e, di, cd_t, fc', bnd_s, bne_self_eq_false, cd_f, w1, w2, hu, ho', beq_self_eq_true, same15_self, awake33]
    rfl
  · -- a block before
    rintro r ⟨l, i', d'⟩ self ⟨i, hi, h1, h2, hd'⟩ hself
    have h1' : i' = (i : Int) := h1
    have h2' : l = lstS (keyK m) p L i := h2
    subst h1' h2'
    have hM := hmid i (by omega)
    have hcut : cutS p i s = ((p.take (i * L + L)).drop (i * L), (true, 0)) := by
      unfold cutS
      rw [hL, if_neg (by omega), Nat.min_eq_right (by omega), decide_eq_true hM]
    obtain ⟨v, v1, v2, fc⟩ := fcut_eq bx.ok bx.no27 (n := i) (s := s) (by omega) hs (by rw [hp, hcut])
    rw [hp, hcut] at v1 fc
    have hcl : ((p.take (i * L + L)).drop (i * L)).length = L := by rw [List.length_drop, List.length_take]; omega
    generalize hc : (p.take (i * L + L)).drop (i * L) = c at v1 fc hcl
    have hpos := posS_eq (n := i) (s := s) (by omega) hs true
    rw [hL] at hpos
    have hiL : i * L ≤ 6 * 64 := Nat.mul_le_mul (by omega) hL2
    have p0 : 0 ≤ posS ((i : Int), (true, (s : Int))) := by rw [hpos]; omega
    have p9 : posS ((i : Int), (true, (s : Int))) ≤ 500 := by rw [hpos]; omega
    have ho := outer_cut bx v1 v2 (c := c) (by omega) (lstS_len hK (show p.length ≤ 100 by omega) L i) ((10 + i : Nat) : Int) p0 p9
    have hput := put_mid (K := keyK m) hL.symm hs (by omega) hK (show p.length ≤ 100 by omega) hc.symm hcl hM
    have ho' : m_fragment_Outer (lstS (keyK m) p L i) 3 (cutM m v c) ((10 + i : Nat) : Int) = some (lstS (keyK m) p L (i + 1), (zM, (false, 0))) := by
      rw [ho]
      show some (fputK _ 27 (putS (lstS (keyK m) p L i) 3 (keyK m) ((i : Int), (true, (s : Int))) c ((10 + i : Nat) : Int))) = _
      rw [hput]; rfl
    have di : decide ((i : Int) < (n : Int)) = true := decide_eq_true (by omega)
    have w1 : w64 (10 + (i : Int)) = ((10 + i : Nat) : Int) := by rw [w64_of (by omega) (by omega)]; omega
    have w2 : w64 ((n : Int) - 1) = ((n - 1 : Nat) : Int) := by rw [w64_of (by omega) (by omega)]; omega
    have w3 : w64 ((i : Int) + 1) = ((i + 1 : Nat) : Int) := by rw [w64_of (by omega) (by omega)]; omega
    have de : ((i : Int) == ((n - 1 : Nat) : Int)) = false := by rw [beq_eq_false_iff_ne]; omega
    have fc' : m_fragment_Cut m 27 (i : Int) (s : Int) = some (cutM m v c, 0) := fc
    have hu : ((cutM m v c).1, ((cutM m v c).2.1, (m.2.2.1, (m.2.2.2.1, (cutM m v c).2.2.2.2)))) = cutM m v c := rfl
    obtain ⟨vn, d2, e2, _, _, hd2⟩ := next_some hd' (n := 3) (by omega) (by omega)
    have fin : ∀ D, DeckOK D → self (lstS (keyK m) p L (i + 1), (((i + 1 : Nat) : Int), D)) = some true := fun D hD => hself _ ⟨i + 1, by omega, rfl, rfl, hD⟩
    simp only [letm_e, di, cd_t, fc', bnd_s, bne_self_eq_false, cd_f, w1, w2, w3, hu, ho', de, e2]
    have again : 0 < i → m_fragment_Outer (lstS (keyK m) p L (i + 1)) 3 (cutM m v c) ((10 + i : Nat) : Int) = some ([], (zM, (false, 15))) := fun hi0 => by
      rw [outer_cut bx v1 v2 (c := c) (by omega) (lstS_len hK (show p.length ≤ 100 by omega) L (i + 1)) ((10 + i : Nat) : Int) p0 p9]
      show some (fputK _ 27 (putS (lstS (keyK m) p L (i + 1)) 3 (keyK m) ((i : Int), (true, (s : Int))) c ((10 + i : Nat) : Int))) = _
      rw [put_again (K := keyK m) hL.symm hs hi0 (by omega) hK (show p.length ≤ 100 by omega) hcl hM]; rfl
    cases vn == 0 with
    | false =>
      simp only [cd_f, bnd_s, bndS_r]
      exact fin d2 hd2
    | true =>
      by_cases hi0 : 0 < i
      · rw [decide_eq_true (show 0 < (i : Int) by omega)]
        simp only [cd_t, bnd_s, again hi0, bne_self_eq_false, cd_f, bndS_r]
        exact fin d2 hd2
      · rw [decide_eq_false (show ¬ 0 < (i : Int) by omega)]
        simp only [cd_t, bnd_s, cd_f, bndS_r]
        exact fin d2 hd2
end Go.Proofs.Ytdgpkkfkloapbaa
