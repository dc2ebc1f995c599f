/-
  Cache keys, plain facts: items of a few kinds, their encodings and their validity by both texts. Of the models alone; no program; no condition but the sizes told.
-/
import Derived.Test.YtllomdfckciedaaDoorQ54
namespace Go.Proofs.YtllomdfckciedaaDoor
open Go.Gk Go.RowKit
inductive EncL (R : Tr → Nat → List UInt8 → Prop) : List Tr → Nat → List UInt8 → Prop
  | nil : EncL R [] 0 []
  | cons {x c e l d f} : R x c e → EncL R l d f → EncL R (x :: l) (c + d) (e ++ f)
/-- An item of at most k levels, of numbers, bytes and lists; c: how many items; e: its encoding. -/
def Enc : Nat → Tr → Nat → List UInt8 → Prop
  | 0, _, _, _ => False
  | k + 1, x, c, e => (∃ n, n < 65536 ∧ x = .mk 0 (UInt64.ofNat n) [] [] ∧ c = 1 ∧ e = headS 0 n) ∨ (∃ b : List UInt8, b.length ≤ 4096 ∧ x = .mk 2 0 b [] ∧ c = 1 ∧ e = headS 2 b.length ++ b) ∨
    (∃ l d f, x = .mk 4 0 [] l ∧ l.length ≤ 256 ∧ EncL (Enc k) l d f ∧ c = d + 1 ∧ e = headS 4 l.length ++ f)
theorem toU64_nat (n : Nat) : toU64 (n : Int) = UInt64.ofNat n := by
  apply UInt64.toNat_inj.1
  unfold toU64
  simp only [UInt64.toNat_ofNat']
  omega
theorem hd0 {n : Nat} (h : n < 65536) : m_cbor_head (UInt8.ofNat 0) (UInt64.ofNat n) = some (headS 0 n) := head_eq 0 h
theorem hd2 {n : Nat} (h : n < 65536) : m_cbor_head (UInt8.ofNat 2) (UInt64.ofNat n) = some (headS 2 n) := head_eq 2 h
theorem hd4 {n : Nat} (h : n < 65536) : m_cbor_head (UInt8.ofNat 4) (UInt64.ofNat n) = some (headS 4 n) := head_eq 4 h
theorem rf0 {n : Nat} (h : n < 65536) : m_coresecref01_Head_o 0 (UInt64.ofNat n) = some (headS 0 n) := head_ref 0 h
theorem rf2 {n : Nat} (h : n < 65536) : m_coresecref01_Head_o 2 (UInt64.ofNat n) = some (headS 2 n) := head_ref 2 h
theorem rf4 {n : Nat} (h : n < 65536) : m_coresecref01_Head_o 4 (UInt64.ofNat n) = some (headS 4 n) := head_ref 4 h
theorem add_enc (j : Nat) : ∀ (k : Nat) (x : Tr) (c : Nat) (e b : List UInt8), Enc k x c e → b.length + e.length ≤ 1000000 → n_cbor_add_o (j + k) b x = some (b ++ e)
  | 0, _, _, _, _, h, _ => h.elim
  | k + 1, x, c, e, b, h, hl => by
    show b_cbor_add_o (n_cbor_add_o (j + k)) b x = _
    rcases h with ⟨n, hn, rfl, rfl, rfl⟩ | ⟨v, hv, rfl, rfl, rfl⟩ | ⟨l, d, f, rfl, hll, hE, rfl, rfl⟩
    · unfold b_cbor_add_o m_cbor_major
      simp only [Tr.k, Tr.n, Tr.b, Tr.l, letm_e, bnd_s]
      show (bnd (m_cbor_head (UInt8.ofNat 0) (UInt64.ofNat n)) fun x11 => _) = _
      rw [hd0 hn, bnd_s, app_some' (by omega), bnd_s, app_some' (by simp; omega), bnd_s, loopL_nil, List.append_nil]
    · rw [List.length_append] at hl
      unfold b_cbor_add_o m_cbor_major
      simp only [Tr.k, Tr.n, Tr.b, Tr.l, letm_e, bnd_s, toU64_nat]
      show (bnd (m_cbor_head (UInt8.ofNat 2) (UInt64.ofNat v.length)) fun x11 => _) = _
      rw [hd2 (by omega : v.length < 65536), bnd_s, app_some' (by omega), bnd_s, app_some' (by simp; omega), bnd_s, loopL_nil, List.append_assoc]
    · rw [List.length_append] at hl
      unfold b_cbor_add_o m_cbor_major
      simp only [Tr.k, Tr.n, Tr.b, Tr.l, letm_e, bnd_s, toU64_nat]
      show (bnd (m_cbor_head (UInt8.ofNat 4) (UInt64.ofNat l.length)) fun x11 => _) = _
      rw [hd4 (by omega : l.length < 65536), bnd_s, app_some' (by omega), bnd_s, app_some' (by simp; omega), bnd_s, List.append_nil]
      have key : ∀ (l : List Tr) (d : Nat) (f : List UInt8), EncL (Enc k) l d f → ∀ (i : Nat) (s : List UInt8), s.length + f.length ≤ 1000000 →
          loopL (R := (List UInt8)) (S := (List UInt8)) (α := Tr) (fun _ s15 => some s15) (fun x16 _ s18 self19 => bnd (n_cbor_add_o (j + k) s18 x16) fun x20 => self19 x20) l i s = some (s ++ f) := by
        intro l d f h
        induction h with
        | nil => intro i s _; rw [loopL_nil, List.append_nil]
        | cons hx _ ih =>
          intro i s hs
          rw [List.length_append] at hs
          rw [loopL_cons, add_enc j k _ _ _ s hx (by omega), bnd_s, ih (i + 1) _ (by rw [List.length_append]; omega), List.append_assoc]
      rw [← List.append_assoc]
      exact key l d f hE 0 _ (by rw [List.length_append]; omega)
theorem raw_enc (j : Nat) : ∀ (k : Nat) (x : Tr) (c : Nat) (e : List UInt8), Enc k x c e → e.length ≤ 1000000 → n_coresecref01_Raw (j + k) x = some e
  | 0, _, _, _, h, _ => h.elim
  | k + 1, x, c, e, h, hl => by
    show b_coresecref01_Raw (n_coresecref01_Raw (j + k)) x = _
    rcases h with ⟨n, hn, rfl, rfl, rfl⟩ | ⟨v, hv, rfl, rfl, rfl⟩ | ⟨l, d, f, rfl, hll, hE, rfl, rfl⟩
    · unfold b_coresecref01_Raw
      simp only [Tr.k, Tr.n, Tr.b, Tr.l, letm_e, bnd_s]
      show bndS (bnd (m_coresecref01_Head_o 0 (UInt64.ofNat n)) fun x4 => _) _ _ = _
      rw [rf0 hn, bnd_s, bndS_l]
    · rw [List.length_append] at hl
      unfold b_coresecref01_Raw
      simp only [Tr.k, Tr.n, Tr.b, Tr.l, letm_e, bnd_s, toU64_nat]
      show bndS (bnd (m_coresecref01_Head_o 2 (UInt64.ofNat v.length)) fun x9 => _) _ _ = _
      rw [rf2 (by omega : v.length < 65536), bnd_s, app_some' (by omega), bnd_s, bndS_l]
    · rw [List.length_append] at hl
      unfold b_coresecref01_Raw
      simp only [Tr.k, Tr.n, Tr.b, Tr.l, letm_e, bnd_s, toU64_nat]
      show bndS (bnd (m_coresecref01_Head_o 4 (UInt64.ofNat l.length)) fun x13 => _) _ _ = _
      rw [rf4 (by omega : l.length < 65536), bnd_s, bndS_r]
      have key : ∀ (l : List Tr) (d : Nat) (f : List UInt8), EncL (Enc k) l d f → ∀ (i : Nat) (s : List UInt8), s.length + f.length ≤ 1000000 →
          loopL (R := (List UInt8)) (S := (List UInt8)) (α := Tr) (fun _ s28 => some s28) (fun x29 _ s31 self32 => bnd (n_coresecref01_Raw (j + k) x29) fun x33 => bnd (app s31 x33) fun x34 => self32 x34) l i s = some (s ++ f) := by
        intro l d f h
        induction h with
        | nil => intro i s _; rw [loopL_nil, List.append_nil]
        | cons hx _ ih =>
          intro i s hs
          rw [List.length_append] at hs
          rw [loopL_cons, raw_enc j k _ _ _ hx (by omega), bnd_s, app_some' (by omega), bnd_s, ih (i + 1) _ (by rw [List.length_append]; omega), List.append_assoc]
      exact key l d f hE 0 _ (by omega)
end Go.Proofs.YtllomdfckciedaaDoor
