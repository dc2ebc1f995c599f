/-
  Blocks inside messages, plain facts: messages that are cut, and the law FragmentApart. Of the models alone; no program; no condition but that a list of numbers is not longer than memory.
-/
import Derived.Test.YtdgpkkfkloapbaaQ43
namespace Go.Proofs.Ytdgpkkfkloapbaa
open Go.Gk Go.RowKit
/-- The bytes that the blocks of a body have in common. -/
def keyK (m : S_api_Message) : List UInt8 := rawS (keyM m 27)
theorem key_valid {m : S_api_Message} (h : OkM 5 m) (n : Int) : valM (keyM m n) = true ∧ (rawS (keyM m n)).length ≤ 200 := by
  have hs := h.srt.no n
  have hl : (noO m.2.2.2.2.1 n).length ≤ 5 := Nat.le_trans (List.length_filter_le _ _) h.ol
  have hr : (rawS (keyM m n)).length ≤ 200 := by
    have h1 := rawO_len (noO m.2.2.2.2.1 n) 0
    have h2 := szO_le (l := noO m.2.2.2.2.1 n) (b := 20) hs.val
    have h3 : (noO m.2.2.2.2.1 n).length * (20 + 5) ≤ 5 * (20 + 5) := Nat.mul_le_mul hl (Nat.le_refl _)
    have e : (rawS (keyM m n)).length = 4 + (rawO 0 (noO m.2.2.2.2.1 n)).length := by
      unfold rawS keyM
      simp only [List.length_append, List.length_cons, List.length_nil]
      have : (rawT ([] : List UInt8)).length = 0 := rfl
      omega
    omega
  refine ⟨?_, hr⟩
  have ho := hs.opts (n := 0) fun o ho => (hs.num o ho).1
  have c0 := h.c0
  have c1 := h.c1
  have hq : m.2.1 / 32 = 0 := by omega
  unfold valM sndM
  have k1 : (keyM m n).2.1 = m.2.1 := rfl
  have k2 : (keyM m n).2.2.2.2.1 = noO m.2.2.2.2.1 n := rfl
  rw [k1, k2, ho, hq, decide_eq_false (show ¬ m.2.1 < 0 by omega), decide_eq_false (show ¬ 255 < m.2.1 by omega), decide_eq_false (show ¬ 32 < ((noO m.2.2.2.2.1 n).length : Int) by omega), beq_eq_false_iff_ne.2 (show m.2.1 ≠ 0 by omega), decide_eq_true (show ((rawS (keyM m n)).length : Int) ≤ 4096 by omega)]
  rfl
theorem key_body {m : S_api_Message} (h : OkM 5 m) : keyS m 27 = (keyK m, 0) := by
  unfold keyS encS keyK
  rw [(key_valid h 27).1]; rfl
/-- A value and the block that it tells. -/
def chkV (n s : Nat) (more : Bool) : Bool := match m_block_Value ((n : Int), (more, (s : Int))) with
  | some r => r.2 == 0 && (parseS r.1 == (((n : Int), (more, (s : Int))), 0) && decide (r.1.length ≤ 4))
  | none => false
theorem chk_all : ((List.range 7).all fun n => (List.range 3).all fun s => chkV n s true && chkV n s false) = true := by kernel_rfl
theorem value_parse {n s : Nat} (hn : n < 7) (hs : s < 3) (more : Bool) : ∃ v, m_block_Value ((n : Int), (more, (s : Int))) = some (v, 0) ∧ parseS v = (((n : Int), (more, (s : Int))), 0) ∧ v.length ≤ 4 := by
  have h1 := List.all_eq_true.1 chk_all n (List.mem_range.2 hn)
  have h2 := List.all_eq_true.1 h1 s (List.mem_range.2 hs)
  rw [Bool.and_eq_true] at h2
  have h3 : chkV n s more = true := by
    cases more
    · exact h2.2
    · exact h2.1
  unfold chkV at h3
  cases hv : m_block_Value ((n : Int), (more, (s : Int))) with
  | none => rw [hv] at h3; cases h3
  | some r =>
    rw [hv] at h3
    simp only [Bool.and_eq_true, beq_iff_eq, decide_eq_true_eq] at h3
    obtain ⟨a, b, c⟩ := h3
    exact ⟨r.1, congrArg some (Prod.ext rfl a), b, c⟩
/-- A message cut: its block option is v, its payload c. -/
def cutM (m : S_api_Message) (v c : List UInt8) : S_api_Message := (m.1, (m.2.1, (m.2.2.1, (m.2.2.2.1, (setO m.2.2.2.2.1 27 [v], c)))))
theorem cutM_len {m : S_api_Message} (h : OkM 5 m) {v c : List UInt8} (hv : v.length ≤ 4) (hc : c.length ≤ 100) : LenM (cutM m v c) ∧ (cutM m v c).2.2.2.2.1.length ≤ 6 := by
  have hl := setO_len m.2.2.2.2.1 27 [v]
  have hol := h.ol
  simp only [List.length_singleton] at hl
  refine ⟨⟨by have := h.tok; show m.2.2.2.1.length ≤ 1000000; omega, ⟨by show (setO m.2.2.2.2.1 27 [v]).length ≤ 1000000; omega, fun o ho => ?_⟩, by show c.length ≤ 1000000; omega⟩, by show (setO m.2.2.2.2.1 27 [v]).length ≤ 6; omega⟩
  rcases setO_mem ho with ho | ⟨w, hw, rfl⟩
  · have := h.srt.val o ho; omega
  · rw [List.mem_singleton.1 hw]; show v.length ≤ 1000000; omega
theorem fcut_eq {m : S_api_Message} (h : OkM 5 m) (hno : allS m.2.2.2.2.1 27 = []) {n s : Nat} (hn : n < 7) (hs : s < 3) (hc : (cutS m.2.2.2.2.2 n s).2.2 = 0) :
    ∃ v, parseS v = (((n : Int), ((cutS m.2.2.2.2.2 n s).2.1, (s : Int))), 0) ∧ v.length ≤ 4 ∧ m_fragment_Cut m 27 n s = some (cutM m v (cutS m.2.2.2.2.2 n s).1, 0) := by
  obtain ⟨v, e1, e2, e3⟩ := value_parse hn hs (cutS m.2.2.2.2.2 n s).2.1
  refine ⟨v, e2, e3, ?_⟩
  have hp := h.pay
  have hlen := h.len (by omega)
  have hcl : (cutS m.2.2.2.2.2 n s).1.length ≤ 100 := by
    unfold cutS
    split
    · simp
    · show (List.drop _ (List.take _ _)).length ≤ 100
      rw [List.length_drop, List.length_take]; omega
  unfold m_fragment_Cut
  have hset : m_option_Set m 27 [v] = some (withO m (setO m.2.2.2.2.1 27 [v])) := set_eq hlen (by have := h.ol; omega) (by simp) (by intro w hw; rw [List.mem_singleton.1 hw]; omega)
  have hms : m_fragment_message (withO m (setO m.2.2.2.2.1 27 [v])) = some (withO m (setO m.2.2.2.2.1 27 [v])) := by
    refine message33 ?_
    have := (cutM_len h e3 (c := m.2.2.2.2.2) hp).1
    exact this
  rw [numbered_eq, bnd_s, letm_e, show numB 27 = true from rfl, Bool.not_true, cd_f, all_eq hlen.2.1, hno, bnd_s]
  simp only [letm_e]
  rw [show decide (0 < (([] : List (List UInt8)).length : Int)) = false from rfl, cd_f, (cut_both m.2.2.2.2.2 n s (by omega) (by omega) (by omega)).1, bnd_s, hc, show ((0 : Int) != 0) = false from rfl, cd_f, e1, bnd_s, show (((v, (0 : Int)) : List UInt8 × Int).2 != 0) = false from rfl, cd_f, hset, bnd_s, hms, bnd_s, fcopied (by omega)]
  rfl
/-- A cut message is put with its block under the body's key. -/
theorem fput_cut {m : S_api_Message} (h : OkM 5 m) (hno : allS m.2.2.2.2.1 27 = []) {v : List UInt8} {b : S_api_Block} (hv : parseS v = (b, 0)) (c : List UInt8) (l : List S_api_Partial) (p most t : Int) (hpos : posS b + (c.length : Int) ≤ most) (h0 : 0 ≤ posS b) (h9 : posS b ≤ 100000) (hcl : c.length ≤ 100000) :
    fputS l p (cutM m v c) 27 most t = fputK (cutM m v c) 27 (putS l p (keyK m) b c t) := by
  have hs : soundS (allS (cutM m v c).2.2.2.2.1 27) = (b, (true, true)) := by
    show soundS (allS (setO m.2.2.2.2.1 27 [v]) 27) = _
    rw [allS_set_same, soundS_one, hv]; rfl
  have hk : keyM (cutM m v c) 27 = keyM m 27 := by
    show (0, (m.2.1, (0, ([], (noO (setO m.2.2.2.2.1 27 [v]) 27, []))))) = (0, (m.2.1, (0, ([], (noO m.2.2.2.2.1 27, [])))))
    rw [noO_set, setO_no (h.srt.no 27).srt]
  have hk2 : keyS (cutM m v c) 27 = (keyK m, 0) := by
    have := key_body h
    unfold keyS at this ⊢
    rw [hk]; exact this
  unfold fputS
  rw [show numB 27 = true from rfl, hs]
  show fputB l p (cutM m v c) 27 b most t = _
  unfold fputB
  have w : w64 (posS b + ((cutM m v c).2.2.2.2.2.length : Int)) = posS b + (c.length : Int) := w64_of (by show -9223372036854775808 ≤ posS b + (c.length : Int); omega) (by show posS b + (c.length : Int) < 9223372036854775808; omega)
  rw [w, decide_eq_false (by omega), hk2]; rfl
theorem posS_eq {n s : Nat} (hn : n < 7) (hs : s < 3) (more : Bool) : posS ((n : Int), (more, (s : Int))) = ((n * (16 * 2 ^ s) : Nat) : Int) := by
  have h2 : 2 ^ s ≤ 2 ^ 6 := Nat.pow_le_pow_right (by omega) (by omega)
  unfold posS
  show w64 ((n : Int) * w64 (16 * 2 ^ min (UInt64.toNat (toU64 (s : Int))) 64)) = _
  have e : UInt64.toNat (toU64 (s : Int)) = s := by have := toU64_nat (n := s) (by omega); omega
  rw [e, Nat.min_eq_left (by omega)]
  have e2 : ((16 : Int) * 2 ^ s) = ((16 * 2 ^ s : Nat) : Int) := by push_cast; rfl
  have h3 : n * (16 * 2 ^ s) ≤ 7 * (16 * 2 ^ 6) := Nat.mul_le_mul (by omega) (by omega)
  have e3 : w64 ((16 * 2 ^ s : Nat) : Int) = ((16 * 2 ^ s : Nat) : Int) := w64_of (by omega) (by omega)
  rw [e2, e3, ← Int.natCast_mul, w64_of (by omega) (by omega)]
theorem keepB_new {p' : Int} {k' : List UInt8} {t u p : Int} {k c : List UInt8} (h : t < u) : keepB p' k' false t (p, (k, (c, u))) = true := by
  unfold keepB
  rw [Bool.and_false, Bool.or_false, decide_eq_false (by show ¬ u ≤ t; omega)]; rfl
theorem valid_one {p : Int} {k c : List UInt8} {u : Int} (h0 : 0 ≤ p) (h1 : p ≤ 65536) (hk : k.length ≤ 4096) (hc : c.length ≤ 4096) (hu : 0 ≤ u) : validB [(p, (k, (c, u)))] = true := by
  unfold validB validL goodP
  show (decide (1 ≤ 4) && (!(decide (p < 0) || (decide (65536 < p) || (decide (4096 < (k.length : Int)) || (decide (4096 < (c.length : Int)) || decide (u < 0))))) && (!false && true))) = true
  rw [decide_eq_false (show ¬ p < 0 by omega), decide_eq_false (show ¬ 65536 < p by omega), decide_eq_false (show ¬ 4096 < (k.length : Int) by omega), decide_eq_false (show ¬ 4096 < (c.length : Int) by omega), decide_eq_false (show ¬ u < 0 by omega)]; rfl
theorem sndB_ok {n s : Nat} (hn : n < 7) (hs : s < 3) (more : Bool) : sndB ((n : Int), (more, (s : Int))) = true :=
  sndB_iff.2 ⟨by show (0 : Int) ≤ (n : Int); omega, by show (n : Int) ≤ 1048575; omega, by show (0 : Int) ≤ (s : Int); omega, by show (s : Int) ≤ 6; omega⟩
theorem cut_mid {p : List UInt8} {n s : Nat} (h : n * (16 * 2 ^ s) + 16 * 2 ^ s < p.length) : (cutS p n s).2 = (true, 0) ∧ (cutS p n s).1.length = 16 * 2 ^ s := by
  unfold cutS
  generalize 16 * 2 ^ s = L at h ⊢
  rw [if_neg (by omega)]
  refine ⟨?_, ?_⟩
  · show (decide _, (0 : Int)) = _
    rw [decide_eq_true h]
  · show (List.drop _ (List.take _ _)).length = _
    rw [List.length_drop, List.length_take]; omega
/-- The same with another payload. -/
def withP (m : S_api_Message) (c : List UInt8) : S_api_Message := (m.1, (m.2.1, (m.2.2.1, (m.2.2.2.1, (m.2.2.2.2.1, c)))))
theorem OkM.pl {k : Nat} {m : S_api_Message} (h : OkM k m) {c : List UInt8} (hc : c.length ≤ 100) : OkM k (withP m c) := ⟨h.t0, h.t1, h.c0, h.c1, h.i0, h.i1, h.tok, h.ol, h.srt, hc⟩
theorem FragmentApart_true (a0 : List Int) (a1 : Int) (h0 : List.length a0 ≤ maxLen) : m_coreseclaw33_FragmentApart a0 a1 = some true := by
  unfold m_coreseclaw33_FragmentApart m_coresecmake_New
  rw [bnd_s]
  obtain ⟨x, dx, ex, hdx, bx⟩ := body_ok (new_ok h0)
  obtain ⟨y, dy, ey, hdy, by'⟩ := body_ok hdx
  obtain ⟨px, e5, l5⟩ := some_some 1 40 (by omega)
  obtain ⟨py, e6, l6⟩ := some_some 2 40 (by omega)
  obtain ⟨p, e7, p0, p1⟩ := mod_some a1 (m := 2) (by omega) (by omega)
  have l5 : px.length = 40 := l5
  have l6 : py.length = 40 := l6
  have ox : OkM 5 (withP x px) := bx.ok.pl (by omega)
  have oy : OkM 5 (withP y py) := by'.ok.pl (by omega)
  have nx : allS (withP x px).2.2.2.2.1 27 = [] := bx.no27
  have ny : allS (withP y py).2.2.2.2.1 27 = [] := by'.no27
  have kx := key_eq (ox.len (by omega)) 27
  have ky := key_eq (oy.len (by omega)) 27
  rw [key_body ox] at kx
  rw [key_body oy] at ky
  obtain ⟨cx1, cx2⟩ := cut_mid (p := (withP x px).2.2.2.2.2) (n := 0) (s := 0) (by show 0 * (16 * 2 ^ 0) + 16 * 2 ^ 0 < px.length; omega)
  obtain ⟨cy1, cy2⟩ := cut_mid (p := (withP y py).2.2.2.2.2) (n := 1) (s := 0) (by show 1 * (16 * 2 ^ 0) + 16 * 2 ^ 0 < py.length; omega)
  obtain ⟨vx, vx1, vx2, fx⟩ := fcut_eq ox nx (n := 0) (s := 0) (by omega) (by omega) (by rw [cx1])
  obtain ⟨vy, vy1, vy2, fy⟩ := fcut_eq oy ny (n := 1) (s := 0) (by omega) (by omega) (by rw [cy1])
  rw [cx1] at vx1
  rw [cy1] at vy1
  generalize (cutS (withP x px).2.2.2.2.2 0 0).1 = u at cx2 fx
  generalize (cutS (withP y py).2.2.2.2.2 1 0).1 = w at cy2 fy
  have lu : u.length = 16 := cx2
  have lw : w.length = 16 := cy2
  have lx := (key_valid ox 27).2
  have ly := (key_valid oy 27).2
  -- the first block
  have i1 : m_fragment_Inner [] 0 (cutM (withP x px) vx u) 1 = some ([(0, (keyK (withP x px), (u, 129)))], (zM, (false, 0))) := by
    rw [inner_eq ⟨by simp, by simp⟩ (cutM_len ox vx2 (by omega)).1 (by show u.length ≤ 100000; omega)]
    rw [fput_cut ox nx vx1 u [] 0 4096 1 (by rw [posS_eq (n := 0) (s := 0) (by omega) (by omega)]; omega) (by rw [posS_eq (n := 0) (s := 0) (by omega) (by omega)]; omega) (by rw [posS_eq (n := 0) (s := 0) (by omega) (by omega)]; omega) (by omega)]
    have hput : putS [] 0 (keyK (withP x px)) (((0 : Nat) : Int), (true, ((0 : Nat) : Int))) u 1 = ([(0, (keyK (withP x px), (u, 129)))], ([], (false, 0))) := by
      rw [putS_ok rfl (by omega) (by omega) (by show (rawS _).length ≤ 4096; omega) (sndB_ok (n := 0) (s := 0) (by omega) (by omega) true) (by omega) (by omega)]
      show putC [] 0 (keyK (withP x px)) 0 true true 16 u 1 = _
      rw [putC_new (ys := []) rfl lu (by omega) rfl (by simp)]; rfl
    rw [hput]; rfl
  -- the second block
  have i2 : m_fragment_Inner [(0, (keyK (withP x px), (u, 129)))] p (cutM (withP y py) vy w) 2 = some (bif own p (keyK (withP y py)) (0, (keyK (withP x px), (u, 129))) then ([(p, (keyK (withP y py), (u ++ w, 130)))], (zM, (false, 0))) else ([], (zM, (false, 15)))) := by
    rw [inner_eq ⟨by simp, by intro q hq; rw [List.mem_singleton.1 hq]; exact ⟨by show (rawS _).length ≤ 4096; omega, by show u.length ≤ 4096; omega⟩⟩ (cutM_len oy vy2 (by omega)).1 (by show w.length ≤ 100000; omega)]
    rw [fput_cut oy ny vy1 w _ p 4096 2 (by rw [posS_eq (n := 1) (s := 0) (by omega) (by omega)]; omega) (by rw [posS_eq (n := 1) (s := 0) (by omega) (by omega)]; omega) (by rw [posS_eq (n := 1) (s := 0) (by omega) (by omega)]; omega) (by omega)]
    have hput : putS [(0, (keyK (withP x px), (u, 129)))] p (keyK (withP y py)) (((1 : Nat) : Int), (true, ((0 : Nat) : Int))) w 2 = bif own p (keyK (withP y py)) (0, (keyK (withP x px), (u, 129))) then ([(p, (keyK (withP y py), (u ++ w, 130)))], ([], (false, 0))) else ([], ([], (false, 15))) := by
      rw [putS_ok (valid_one (by omega) (by omega) (by show (rawS _).length ≤ 4096; omega) (by omega) (by omega)) (by omega) (by omega) (by show (rawS _).length ≤ 4096; omega) (sndB_ok (n := 1) (s := 0) (by omega) (by omega) true) (by omega) (by omega)]
      show putC [(0, (keyK (withP x px), (u, 129)))] p (keyK (withP y py)) 1 false true 16 w 2 = _
      have hy : [(0, (keyK (withP x px), (u, 129)))].filter (keepB p (keyK (withP y py)) false 2) = [((0 : Int), (keyK (withP x px), (u, (129 : Int))))] := by
        rw [List.filter_cons, keepB_new (by omega)]; rfl
      cases ho : own p (keyK (withP y py)) (0, (keyK (withP x px), (u, 129))) with
      | true =>
        rw [putC_old (i := 0) (x := (0, (keyK (withP x px), (u, 129)))) hy (by omega) lw (by rw [List.find?_cons, ho]) (by rw [List.findIdx?_cons, ho]; rfl) (by show u.length = 1 * 16; omega) (by show u.length + 16 ≤ 4096; omega)]; rfl
      | false =>
        rw [putC_state hy (by omega) lw (fun z hz => by rw [List.find?_cons, ho] at hz; cases hz)]; rfl
    rw [hput]
    cases own p (keyK (withP y py)) (0, (keyK (withP x px), (u, 129))) <;> rfl
  have kx' : m_fragment_Key (x.1, (x.2.1, (x.2.2.1, (x.2.2.2.1, (x.2.2.2.2.1, px))))) 27 = some (keyK (withP x px), 0) := kx
  have ky' : m_fragment_Key (y.1, (y.2.1, (y.2.2.1, (y.2.2.2.1, (y.2.2.2.2.1, py))))) 27 = some (keyK (withP y py), 0) := ky
  have fx' : m_fragment_Cut (x.1, (x.2.1, (x.2.2.1, (x.2.2.2.1, (x.2.2.2.2.1, px))))) 27 0 0 = some (cutM (withP x px) vx u, 0) := fx
  have fy' : m_fragment_Cut (y.1, (y.2.1, (y.2.2.1, (y.2.2.2.1, (y.2.2.2.2.1, py))))) 27 1 0 = some (cutM (withP y py) vy w, 0) := fy
  have heq : m_coresecref26_Equal (keyK (withP x px)) (keyK (withP y py)) = some (keyK (withP x px) == keyK (withP y py)) := equal26 (by show (rawS _).length ≤ 1000000000; omega)
  have hown : own p (keyK (withP y py)) (0, (keyK (withP x px), (u, 129))) = ((p == 0) && (keyK (withP x px) == keyK (withP y py))) := by
    show (((0 : Int) == p) && (keyK (withP x px) == keyK (withP y py))) = _
    rw [show ((0 : Int) == p) = (p == 0) from Bool.beq_comm ..]
  simp only [ex, ey, e5, e6, e7, bnd_s, kx', ky', fx', fy', letm_e, i1, i2, heq, cd_and, cd_or]
  rw [hown]
  have e32 : ((u ++ w).length : Int) = 32 := by rw [List.length_append]; omega
  cases (p == 0) && (keyK (withP x px) == keyK (withP y py)) with
  | true =>
    simp [idx, bnd_s]
    omega
  | false => rfl
end Go.Proofs.Ytdgpkkfkloapbaa
