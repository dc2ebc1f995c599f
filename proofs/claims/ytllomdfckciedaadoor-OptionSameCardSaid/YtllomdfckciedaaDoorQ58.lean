/-
  Cache keys, plain facts: encodings by both texts, and copies. Of the models alone; no program; no condition but the sizes told.
-/
import Derived.Test.YtllomdfckciedaaDoorQ57
namespace Go.Proofs.YtllomdfckciedaaDoor
open Go.Gk Go.RowKit
def encS4 (e : List UInt8) : List UInt8 × Int := bif decide ((e.length : Int) ≤ 4096) then (e, 0) else ([], 1)
theorem encode_eq {x : Tr} {c : Nat} {e : List UInt8} (h : Enc 4 x c e) (hc : c ≤ 256) (hl : e.length ≤ 900000) : m_cbor_Encode x = some (encS4 e) := by
  obtain ⟨st, h1, _⟩ := item_enc 36 4 x c e h 0 0 0 (by omega) (by omega) (by omega)
  have hv : m_cbor_Valid x = some (decide ((e.length : Int) ≤ 4096)) := by
    unfold m_cbor_Valid
    refine bnd_of h1 ?_
    rw [Nat.zero_add]
  have ha : m_cbor_add [] x = some e := (add_enc 37 4 x c e [] h (by simp; omega))
  unfold m_cbor_Encode encS4
  rw [hv, bnd_s, letm_e, ha]
  cases decide ((e.length : Int) ≤ 4096) <;> rfl
theorem encode_ref {x : Tr} {c : Nat} {e : List UInt8} (h : Enc 4 x c e) (hc : c ≤ 256) (hl : e.length ≤ 900000) : m_coresecref01_Encode x = some (encS4 e) := by
  have h1 : m_coresecref01_left x 256 0 = some ((256 - c : Nat) : Int) := left_enc 36 4 x c e h 256 0 (by omega) (by omega) (by omega)
  have h2 : m_coresecref01_Raw x = some e := raw_enc 36 4 x c e h (by omega)
  have hv : m_coresecref01_Valid x = some (decide ((e.length : Int) ≤ 4096)) := by
    unfold m_coresecref01_Valid
    rw [h1, bnd_s, letm_e, decide_eq_true (by omega), cd_t, h2, bnd_s, letm_e, bnd_s]
  unfold m_coresecref01_Encode encS4
  rw [hv, bnd_s, letm_e, h2]
  cases decide ((e.length : Int) ≤ 4096) <;> rfl
theorem copied_enc (j : Nat) : ∀ (k : Nat) (x : Tr) (c : Nat) (e : List UInt8), Enc k x c e → n_cbor_copied (j + k) x = some x
  | 0, _, _, _, h => h.elim
  | k + 1, x, c, e, h => by
    show b_cbor_copied (n_cbor_copied (j + k)) x = _
    rcases h with ⟨v, hv, rfl, rfl, rfl⟩ | ⟨v, hv, rfl, rfl, rfl⟩ | ⟨l, d, f, rfl, hll, hE, rfl, rfl⟩
    · rfl
    · unfold b_cbor_copied
      simp only [Tr.k, Tr.n, Tr.b, Tr.l]
      rw [clone_some (by omega), bnd_s]; rfl
    · unfold b_cbor_copied
      simp only [Tr.k, Tr.n, Tr.b, Tr.l]
      have h0 : m_bytes_Clone ([] : List UInt8) = some [] := clone_some (by simp)
      have hm : mkl (l.length : Int) (Tr.mk 0 0 [] []) = some (List.replicate l.length (Tr.mk 0 0 [] [])) := by
        unfold mkl
        rw [show (decide (0 ≤ (l.length : Int)) && decide ((l.length : Int) ≤ 65536)) = true by simp; omega]; rfl
      have hx : ∀ y ∈ l, n_cbor_copied (j + k) y = some y := by
        have : ∀ (l : List Tr) (d : Nat) (f : List UInt8), EncL (Enc k) l d f → ∀ y ∈ l, n_cbor_copied (j + k) y = some y := by
          intro l d f h
          induction h with
          | nil => intro y hy; simp at hy
          | cons hx _ ih =>
            intro y hy
            rcases List.mem_cons.1 hy with rfl | hy
            · exact copied_enc j k _ _ _ hx
            · exact ih y hy
        exact this l d f hE
      rw [h0, bnd_s, hm, bnd_s]
      have key : ∀ (r p : List Tr) (z : List Tr), (∀ y ∈ r, n_cbor_copied (j + k) y = some y) → z.length = r.length →
          loopL (R := Tr) (S := (List Tr)) (α := Tr) (fun _ s4 => bnd (β := Tr) (letm (((s4.length : Int) == 0)) fun x5 => cond x5 (some (Tr.mk 4 0 [] [])) (some (Tr.mk 4 0 [] s4))) fun v6 => some v6)
            (fun x7 k8 s9 self10 => bnd (n_cbor_copied (j + k) x7) fun x11 => bnd (idx s9 (k8 : Int)) fun _ => bnd (idx s9 (((k8 : Int)).toNat : Int)) fun _ => letm ((s9.set ((k8 : Int)).toNat x11)) fun x14 => self10 x14) r p.length (p ++ z) = some (Tr.mk 4 0 [] (p ++ r)) := by
        intro r
        induction r with
        | nil =>
          intro p z _ hz
          obtain rfl := List.length_eq_zero_iff.1 hz
          rw [loopL_nil, letm_e]
          cases p with
          | nil => rfl
          | cons a p => rfl
        | cons y r ih =>
          intro p z hy hz
          obtain ⟨a, z, rfl⟩ : ∃ a z', z = a :: z' := by cases z with | nil => simp at hz | cons a z => exact ⟨a, z, rfl⟩
          have hi : idx (p ++ a :: z) (p.length : Int) = some a := idx_some' (by simp)
          have hi2 : idx (p ++ a :: z) (((p.length : Int)).toNat : Int) = some a := by rw [Int.toNat_natCast]; exact hi
          rw [loopL_cons, hy y (by simp), bnd_s, hi, bnd_s, hi2, bnd_s, letm_e, Int.toNat_natCast]
          have e1 : (p ++ a :: z).set p.length y = (p ++ [y]) ++ z := by
            rw [List.set_append_right _ _ (Nat.le_refl _), Nat.sub_self]; simp
          rw [e1]
          have := ih (p ++ [y]) z (fun q hq => hy q (by simp [hq])) (by simpa using hz)
          rw [List.length_append, List.length_singleton] at this
          rw [this]; simp
      exact key l [] _ hx (by simp)
end Go.Proofs.YtllomdfckciedaaDoor
