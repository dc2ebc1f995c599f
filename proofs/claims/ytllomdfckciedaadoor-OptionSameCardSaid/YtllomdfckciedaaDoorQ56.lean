/-
  Cache keys, plain facts: which items of a few kinds are valid, by both texts. Of the models alone; no program; no condition but the sizes told.
-/
import Derived.Test.YtllomdfckciedaaDoorQ55
namespace Go.Proofs.YtllomdfckciedaaDoor
open Go.Gk Go.RowKit
theorem Enc.pos : ∀ {k : Nat} {x : Tr} {c : Nat} {e : List UInt8}, Enc k x c e → 1 ≤ c
  | 0, _, _, _, h => h.elim
  | k + 1, _, _, _, h => by
    rcases h with ⟨_, _, _, rfl, _⟩ | ⟨_, _, _, rfl, _⟩ | ⟨_, _, _, _, _, _, rfl, _⟩ <;> omega
theorem EncL.len {k : Nat} {l : List Tr} {d : Nat} {f : List UInt8} (h : EncL (Enc k) l d f) : l.length ≤ d := by
  induction h with
  | nil => exact Nat.le_refl _
  | cons hx _ ih => have := hx.pos; simp; omega
theorem plain0 (n : UInt64) : m_cbor_plain (.mk 0 n [] []) = some (true, true) := rfl
theorem plain2 (b : List UInt8) : m_cbor_plain (.mk 2 0 b []) = some (true, true) := rfl
theorem plain4 (l : List Tr) : m_cbor_plain (.mk 4 0 [] l) = some (false, false) := rfl
theorem spend0 {n s : Nat} {i : Int} (hn : n < 65536) (hs : s ≤ 1000000) : m_cbor_checker_spend (i, (s : Int)) (.mk 0 (UInt64.ofNat n) [] []) = some (decide (((s + (headS 0 n).length : Nat) : Int) ≤ 4096), (i, ((s + (headS 0 n).length : Nat) : Int))) := by
  have hh := headS_len 0 n
  unfold m_cbor_checker_spend m_cbor_major
  simp only [Tr.k, Tr.n, Tr.b, Tr.l, letm_e, bnd_s]
  show bnd (bnd (m_cbor_head (UInt8.ofNat 0) (UInt64.ofNat n)) fun x10 => _) _ = _
  rw [hd0 hn, bnd_s, bnd_s]
  have W : w64 ((s : Int) + w64 (((headS 0 n).length : Int) + ((0 : Nat) : Int))) = ((s + (headS 0 n).length : Nat) : Int) := by
    rw [w64_of (x := ((headS 0 n).length : Int) + ((0 : Nat) : Int)) (by omega) (by omega), w64_of (by omega) (by omega)]; omega
  show some (decide (w64 ((s : Int) + w64 (((headS 0 n).length : Int) + ((0 : Nat) : Int))) ≤ 4096), (i, w64 ((s : Int) + w64 (((headS 0 n).length : Int) + ((0 : Nat) : Int))))) = _
  rw [W]
theorem spend2 {s : Nat} {i : Int} {b : List UInt8} (hb : b.length ≤ 4096) (hs : s ≤ 1000000) : m_cbor_checker_spend (i, (s : Int)) (.mk 2 0 b []) = some (decide (((s + (headS 2 b.length ++ b).length : Nat) : Int) ≤ 4096), (i, ((s + (headS 2 b.length ++ b).length : Nat) : Int))) := by
  have hh := headS_len 2 b.length
  unfold m_cbor_checker_spend m_cbor_major
  simp only [Tr.k, Tr.n, Tr.b, Tr.l, letm_e, bnd_s, toU64_nat]
  show bnd (bnd (m_cbor_head (UInt8.ofNat 2) (UInt64.ofNat b.length)) fun x10 => _) _ = _
  rw [hd2 (by omega : b.length < 65536), bnd_s, bnd_s]
  have W : w64 ((s : Int) + w64 (((headS 2 b.length).length : Int) + (b.length : Int))) = ((s + (headS 2 b.length ++ b).length : Nat) : Int) := by
    rw [w64_of (x := ((headS 2 b.length).length : Int) + (b.length : Int)) (by omega) (by omega), w64_of (by omega) (by omega), List.length_append]; omega
  show some (decide (w64 ((s : Int) + w64 (((headS 2 b.length).length : Int) + (b.length : Int))) ≤ 4096), (i, w64 ((s : Int) + w64 (((headS 2 b.length).length : Int) + (b.length : Int))))) = _
  rw [W]
theorem spend4 {s : Nat} {i : Int} {l : List Tr} (hl : l.length ≤ 256) (hs : s ≤ 1000000) : m_cbor_checker_spend (i, (s : Int)) (.mk 4 0 [] l) = some (decide (((s + (headS 4 l.length).length : Nat) : Int) ≤ 4096), (i, ((s + (headS 4 l.length).length : Nat) : Int))) := by
  have hh := headS_len 4 l.length
  unfold m_cbor_checker_spend m_cbor_major
  simp only [Tr.k, Tr.n, Tr.b, Tr.l, letm_e, bnd_s, toU64_nat]
  show bnd (bnd (m_cbor_head (UInt8.ofNat 4) (UInt64.ofNat l.length)) fun x10 => _) _ = _
  rw [hd4 (by omega : l.length < 65536), bnd_s, bnd_s]
  have W : w64 ((s : Int) + w64 (((headS 4 l.length).length : Int) + ((0 : Nat) : Int))) = ((s + (headS 4 l.length).length : Nat) : Int) := by
    rw [w64_of (x := ((headS 4 l.length).length : Int) + ((0 : Nat) : Int)) (by omega) (by omega), w64_of (by omega) (by omega)]; omega
  show some (decide (w64 ((s : Int) + w64 (((headS 4 l.length).length : Int) + ((0 : Nat) : Int))) ≤ 4096), (i, w64 ((s : Int) + w64 (((headS 4 l.length).length : Int) + ((0 : Nat) : Int))))) = _
  rw [W]
theorem b_item0 {m : S_cbor_checker → Tr → Int → Option (Bool × S_cbor_checker)} {n s i : Nat} {lev : Int} (hn : n < 65536) (hs : s ≤ 1000000) (hi : i + 1 ≤ 256) :
    b_cbor_checker_item m ((i : Int), (s : Int)) (.mk 0 (UInt64.ofNat n) [] []) lev = some (decide (((s + (headS 0 n).length : Nat) : Int) ≤ 4096), (((i + 1 : Nat) : Int), ((s + (headS 0 n).length : Nat) : Int))) := by
  unfold b_cbor_checker_item
  have w : w64 ((i : Int) + 1) = ((i + 1 : Nat) : Int) := by rw [w64_of (by omega) (by omega)]; omega
  have d : decide ((256 : Int) < ((i + 1 : Nat) : Int)) = false := decide_eq_false (by omega)
  simp only [letm_e, w, d, cd_f, Tr.b, Tr.l, plain0, bnd_s, spend0 hn hs]
  rfl
theorem b_item2 {m : S_cbor_checker → Tr → Int → Option (Bool × S_cbor_checker)} {s i : Nat} {lev : Int} {b : List UInt8} (hb : b.length ≤ 4096) (hs : s ≤ 1000000) (hi : i + 1 ≤ 256) :
    b_cbor_checker_item m ((i : Int), (s : Int)) (.mk 2 0 b []) lev = some (decide (((s + (headS 2 b.length ++ b).length : Nat) : Int) ≤ 4096), (((i + 1 : Nat) : Int), ((s + (headS 2 b.length ++ b).length : Nat) : Int))) := by
  unfold b_cbor_checker_item
  have w : w64 ((i : Int) + 1) = ((i + 1 : Nat) : Int) := by rw [w64_of (by omega) (by omega)]; omega
  have d : decide ((256 : Int) < ((i + 1 : Nat) : Int)) = false := decide_eq_false (by omega)
  have d2 : decide ((4096 : Int) < ((Tr.mk 2 0 b []).b.length : Int)) = false := decide_eq_false (by show ¬ (4096 : Int) < (b.length : Int); omega)
  simp only [letm_e, w, d, cd_f]
  rw [d2]
  simp only [cd_f, Tr.l, plain2, bnd_s, spend2 hb hs]
  rfl
/-- An item costs its encoding's length; it is valid where the sum stays within the limit. -/
theorem item_enc (j : Nat) : ∀ (k : Nat) (x : Tr) (c : Nat) (e : List UInt8), Enc k x c e → ∀ (i s lev : Nat), i + c ≤ 256 → s + e.length ≤ 1000000 → lev + k ≤ 8 →
    ∃ st, n_cbor_checker_item (j + k) ((i : Int), (s : Int)) x (lev : Int) = some (decide (((s + e.length : Nat) : Int) ≤ 4096), st) ∧ (s + e.length ≤ 4096 → st = (((i + c : Nat) : Int), ((s + e.length : Nat) : Int)))
  | 0, _, _, _, h, _, _, _, _, _, _ => h.elim
  | k + 1, x, c, e, h, i, s, lev, hi, hs, hl => by
    show ∃ st, b_cbor_checker_item (n_cbor_checker_item (j + k)) ((i : Int), (s : Int)) x (lev : Int) = _ ∧ _
    rcases h with ⟨n, hn, rfl, rfl, rfl⟩ | ⟨v, hv, rfl, rfl, rfl⟩ | ⟨l, d, f, rfl, hll, hE, rfl, rfl⟩
    · exact ⟨_, b_item0 hn (by omega) hi, fun _ => rfl⟩
    · exact ⟨_, b_item2 hv (by omega) hi, fun _ => rfl⟩
    · rw [List.length_append] at hs ⊢
      unfold b_cbor_checker_item
      have w : w64 ((i : Int) + 1) = ((i + 1 : Nat) : Int) := by rw [w64_of (by omega) (by omega)]; omega
      have d1 : decide ((256 : Int) < ((i + 1 : Nat) : Int)) = false := decide_eq_false (by omega)
      have d2 : decide ((256 : Int) < ((Tr.mk 4 0 [] l).l.length : Int)) = false := decide_eq_false (by show ¬ (256 : Int) < (l.length : Int); omega)
      have d3 : decide ((8 : Int) ≤ (lev : Int)) = false := decide_eq_false (by omega)
      have w2 : w64 ((lev : Int) + 1) = ((lev + 1 : Nat) : Int) := by rw [w64_of (by omega) (by omega)]; omega
      simp only [letm_e, w, d1, cd_f]
      rw [d2]
      simp only [letm_e, d3, cd_f, Tr.k, Tr.n, Tr.b, Tr.l, plain4, bnd_s, spend4 hll (show s ≤ 1000000 by omega), w2]
      have key : ∀ (l : List Tr) (d : Nat) (f : List UInt8), EncL (Enc k) l d f → ∀ (q i s : Nat) (r : S_cbor_checker → Option (Bool × S_cbor_checker)), (∀ st, r st = some (true, st)) → i + d ≤ 256 → s + f.length ≤ 1000000 → s ≤ 4096 →
          ∃ st, loopL (R := (Bool × S_cbor_checker)) (S := S_cbor_checker) (α := Tr) (fun _ s38 => r s38) (fun x42 _ s44 self45 => bnd (n_cbor_checker_item (j + k) s44 x42 ((lev + 1 : Nat) : Int)) fun x47 => cond (!x47.1) (some (false, x47.2)) (self45 x47.2)) l q ((i : Int), (s : Int)) = some (decide (((s + f.length : Nat) : Int) ≤ 4096), st) ∧ (s + f.length ≤ 4096 → st = (((i + d : Nat) : Int), ((s + f.length : Nat) : Int))) := by
        intro l d f h
        induction h with
        | nil =>
          intro q i s r hr _ _ hs
          refine ⟨((i : Int), (s : Int)), ?_, fun _ => rfl⟩
          rw [loopL_nil, hr, decide_eq_true (by simp; omega)]
        | @cons x c e l d f hx _ ih =>
          intro q i s r hr hi hs hs2
          rw [List.length_append] at hs ⊢
          obtain ⟨st, h1, h2⟩ := item_enc j k x c e hx i s (lev + 1) (by omega) (by omega) (by omega)
          rw [loopL_cons, h1, bnd_s]
          by_cases hq : s + e.length ≤ 4096
          · rw [decide_eq_true (by omega), Bool.not_true, cd_f, h2 hq]
            obtain ⟨st2, h3, h4⟩ := ih (q + 1) (i + c) (s + e.length) r hr (by omega) (by omega) hq
            refine ⟨st2, ?_, fun hh => ?_⟩
            · rw [h3]; congr 3; rw [Nat.add_assoc]
            · rw [h4 (by omega)]; congr 2 <;> omega
          · rw [decide_eq_false (by omega), Bool.not_false, cd_t]
            exact ⟨st, by rw [decide_eq_false (by omega)], fun hh => absurd hh (by omega)⟩
      by_cases hq : s + (headS 4 l.length).length ≤ 4096
      · have dq : decide (((s + (headS 4 l.length).length : Nat) : Int) ≤ 4096) = true := decide_eq_true (by omega)
        simp only [dq, Bool.not_true, cd_f]
        obtain ⟨st, h1, h2⟩ := key l d f hE 0 (i + 1) (s + (headS 4 l.length).length) (fun st => some (true, st)) (fun _ => rfl) (by omega) (by omega) hq
        refine ⟨st, ?_, fun hh => ?_⟩
        · rw [← Nat.add_assoc]; exact h1
        · rw [h2 (by omega)]; congr 2 <;> omega
      · have dq : decide (((s + (headS 4 l.length).length : Nat) : Int) ≤ 4096) = false := decide_eq_false (by omega)
        simp only [dq, Bool.not_false, cd_t]
        exact ⟨_, by rw [decide_eq_false (show ¬ ((s + ((headS 4 l.length).length + f.length) : Nat) : Int) ≤ 4096 by omega)]; rfl, fun hh => absurd hh (by omega)⟩
end Go.Proofs.YtllomdfckciedaaDoor
