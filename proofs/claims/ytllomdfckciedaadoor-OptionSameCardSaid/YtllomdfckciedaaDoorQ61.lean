/-
  Cache keys, plain facts: what a key does not hang on (OptionSame). Of the models alone; no program; no condition but the lengths told.
-/
import Derived.Test.YtllomdfckciedaaDoorQ60
namespace Go.Proofs.YtllomdfckciedaaDoor
open Go.Gk Go.RowKit
theorem keep_set {l : List S_api_Option} {n : Int} {vs : List (List UInt8)} (hn : ∀ v : List UInt8, keepN (n, v) = false) (hs : l.Pairwise (fun a b => a.1 ≤ b.1)) : (setO l n vs).filter keepN = l.filter keepN := by
  have h1 : (setO l n vs).filter keepN = (setO l n []).filter keepN := by
    unfold setO
    have : (vs.map (fun v => ((n, v) : S_api_Option))).filter keepN = [] := by
      rw [List.filter_eq_nil_iff]
      intro o ho
      obtain ⟨v, _, rfl⟩ := List.mem_map.1 ho
      rw [hn v]; simp
    simp only [List.filter_append, this, List.map_nil, List.filter_nil]
  rw [h1, setO_no (hs.filter _)]
  unfold noO
  rw [List.filter_filter]
  congr 1
  funext o
  by_cases ho : o.1 = n
  · have : keepN o = false := by
      have := hn o.2
      rw [← ho] at this
      exact this
    rw [this]; simp
  · simp [ho]
theorem keyS_set {m : S_api_Message} {a c : Int} {t : List UInt8} {n : Int} {vs : List (List UInt8)} (hn : ∀ v : List UInt8, keepN (n, v) = false) (hs : m.2.2.2.2.1.Pairwise (fun a b => a.1 ≤ b.1)) : keyS (withO (a, (m.2.1, (c, (t, m.2.2.2.2)))) (setO m.2.2.2.2.1 n vs)) = keyS m := by
  have h := keep_set (vs := vs) hn hs
  have e1 : keyL (withO (a, (m.2.1, (c, (t, m.2.2.2.2)))) (setO m.2.2.2.2.1 n vs)) = keyL m := by
    show itU m.2.1.toNat :: .mk 4 0 [] (((setO m.2.2.2.2.1 n vs).filter keepN).map itO) :: payL m = _
    rw [h]; rfl
  have e2 : keyE (withO (a, (m.2.1, (c, (t, m.2.2.2.2)))) (setO m.2.2.2.2.1 n vs)) = keyE m := by
    unfold keyE
    rw [e1]
    show headS 4 (keyL m).length ++ (headS 0 m.2.1.toNat ++ ((headS 4 (((setO m.2.2.2.2.1 n vs).filter keepN).map itO).length ++ ((setO m.2.2.2.2.1 n vs).filter keepN).flatMap encO) ++ payE m)) = _
    rw [h]
  unfold keyS
  rw [e2]
theorem cut_min {a : List UInt8} : Gk.cut a 0 (min (a.length : Int) 8) = some (a.take 8) := by
  obtain ⟨k, hk, h1, h2⟩ : ∃ k : Nat, min (a.length : Int) 8 = (k : Int) ∧ k ≤ a.length ∧ a.take 8 = a.take k := by
    by_cases h : a.length ≤ 8
    · exact ⟨a.length, by omega, by omega, by rw [List.take_of_length_le h, List.take_of_length_le (Nat.le_refl _)]⟩
    · exact ⟨8, by omega, by omega, rfl⟩
  rw [hk, h2]
  unfold Gk.cut
  simp
  omega
theorem OptionSame_true (a0 : List Int) (a1 : Int) (a2 : List UInt8) (a3 : List UInt8) (a4 : Int) (h0 : a0.length ≤ maxLen) : m_coreseclaw16_OptionSame a0 a1 a2 a3 a4 = some true := by
  obtain ⟨m, em, gm⟩ := message_some h0
  obtain ⟨x8, h8, _, _⟩ := mod_some a1 (m := 2) (by omega) (by omega)
  obtain ⟨x9, h9, _, _⟩ := mod_some a1 (m := 65536) (by omega) (by omega)
  obtain ⟨x13, h13, l13, u13⟩ := mod_some a4 (m := 5) (by omega) (by omega)
  obtain ⟨n, e14, mn⟩ := idx_lit ([4, 6, 60, 28, 92] : List Int) l13 (by show x13 < 5; omega)
  have hk := gm.okK (by omega) (by omega)
  have hL := gm.len (by omega) (by omega)
  have hL2 : LenM (x8, (m.2.1, (x9, (a2.take 8, m.2.2.2.2)))) := ⟨by show (a2.take 8).length ≤ _; rw [List.length_take]; omega, hL.2⟩
  have hol := gm.ol
  have es : m_coresecref16_Set (x8, (m.2.1, (x9, (a2.take 8, m.2.2.2.2)))) n [a3.take 8] = some (withO (x8, (m.2.1, (x9, (a2.take 8, m.2.2.2.2)))) (setO m.2.2.2.2.1 n [a3.take 8])) :=
    set_ref hL2 (by show m.2.2.2.2.1.length ≤ _; omega) (by simp) (fun v hv => by rw [List.mem_singleton.1 hv, List.length_take]; omega)
  have hn0 : 0 ≤ n ∧ n ≤ 65535 := by
    have : ∀ y ∈ ([4, 6, 60, 28, 92] : List Int), 0 ≤ y ∧ y ≤ 65535 := by decide
    exact this n mn
  have hkn : ∀ v : List UInt8, keepN (n, v) = false := by
    have : ∀ y ∈ ([4, 6, 60, 28, 92] : List Int), keepN (y, []) = false := by decide
    exact fun v => this n mn
  have hk2 : OkK (withO (x8, (m.2.1, (x9, (a2.take 8, m.2.2.2.2)))) (setO m.2.2.2.2.1 n [a3.take 8])) := by
    have s := gm.srt.set (vs := [a3.take 8]) hn0.1 hn0.2 (fun v hv => by rw [List.mem_singleton.1 hv, List.length_take]; omega)
    have sl := setO_len m.2.2.2.2.1 n [a3.take 8]
    refine ⟨hk.c0, hk.c1, ⟨?_, fun o ho => ?_⟩, hk.pay⟩
    · show (setO m.2.2.2.2.1 n [a3.take 8]).length ≤ 60
      simp only [List.length_singleton] at sl; omega
    · have h1 := s.num o ho; have h2 := s.val o ho
      exact ⟨h1.1, h1.2, by omega⟩
  have hkey : 0 < (keyS m).length := by
    have h1 := keyE_len (m := m) gm.srt.val
    have h2 := gm.pay
    have h3 : m.2.2.2.2.1.length * (9 + 256) ≤ 7 * (9 + 256) := Nat.mul_le_mul_right _ hol
    unfold keyS
    rw [decide_eq_true (by omega), cond_true]
    unfold keyE
    have := (headS_len 4 (keyL m).length).1
    rw [List.length_append]
    omega
  unfold m_coreseclaw16_OptionSame
  rw [em, bnd_s, key_eq hk, bnd_s, copy15 hL, bnd_s, h8, bnd_s, h9, bnd_s, letm_e, cut_min, bnd_s, app_nil_some (by rw [List.length_take]; omega), bnd_s, h13, bnd_s, e14, bnd_s, letm_e, cut_min, bnd_s, es, bnd_s, key_eq hk2, keyS_set hkn gm.srt.srt, bnd_s, letm_e, beq_self_eq_true, cd_t, letm_e, decide_eq_true (by omega), cd_t, awake16]
  rfl
end Go.Proofs.YtllomdfckciedaaDoor
