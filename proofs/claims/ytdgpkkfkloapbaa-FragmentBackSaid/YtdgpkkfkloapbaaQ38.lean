/-
  Bodies in blocks, plain facts: what Put computes, by both texts. Of the models alone; no program; no condition but that the payload is not huge.
-/
import Derived.Test.YtdgpkkfkloapbaaQ37
namespace Go.Proofs.Ytdgpkkfkloapbaa
open Go.Gk Go.RowKit
theorem kept_go (a1 : Int) (a2 : List UInt8) (z : Bool) (a5 : Int) : ∀ (rem : List S_api_Partial) (k : Nat) (acc : List S_api_Partial), acc.length + rem.length ≤ 100 → (∀ p ∈ rem, p.2.1.length ≤ 4096 ∧ p.2.2.1.length ≤ 4096) →
    loopL (R := (List S_api_Partial)) (S := (List S_api_Partial)) (α := S_api_Partial) (fun _ s6 => some s6) (fun x7 _ s9 self10 =>
      bnd (cond (decide (x7.2.2.2 ≤ a5) || (z && (x7.1 == a1 && x7.2.1 == a2))) (some s9) (bnd (m_bytes_Clone x7.2.1) fun x15 => bnd (m_bytes_Clone x7.2.2.1) fun x16 => bnd (app s9 [(x7.1, (x15, (x16, x7.2.2.2)))]) fun x17 => some x17)) fun v18 => self10 v18) rem k acc
    = some (acc ++ rem.filter (keepB a1 a2 z a5))
  | [], _, acc, _, _ => by simp [loopL_nil]
  | x :: rem, k, acc, hl, hb => by
    rw [loopL_cons]
    simp only [List.length_cons] at hl
    obtain ⟨hk, hd⟩ := hb x (by simp)
    have e : (decide (x.2.2.2 ≤ a5) || (z && (x.1 == a1 && x.2.1 == a2))) = !(keepB a1 a2 z a5 x) := by
      unfold keepB own
      cases decide (x.2.2.2 ≤ a5) <;> cases z <;> cases x.1 == a1 <;> cases x.2.1 == a2 <;> rfl
    rw [e, List.filter_cons]
    cases keepB a1 a2 z a5 x with
    | false =>
      simp only [Bool.not_false, cd_t, bnd_s]
      rw [kept_go a1 a2 z a5 rem (k + 1) acc (by omega) (fun p hp => hb p (by simp [hp]))]
      simp
    | true =>
      simp only [Bool.not_true, cd_f, clone_some (show x.2.1.length ≤ 1000000 by omega), clone_some (show x.2.2.1.length ≤ 1000000 by omega), bnd_s]
      rw [app_some' (by simp; omega), bnd_s, bnd_s, kept_go a1 a2 z a5 rem (k + 1) _ (by simp; omega) (fun p hp => hb p (by simp [hp]))]
      simp
theorem kept_eq (a1 : Int) (a2 : List UInt8) (z : Bool) (a5 : Int) (l : List S_api_Partial) (hl : l.length ≤ 100) (hb : ∀ p ∈ l, p.2.1.length ≤ 4096 ∧ p.2.2.1.length ≤ 4096) : m_block_kept_o l a1 a2 z a5 = some (l.filter (keepB a1 a2 z a5)) := by
  unfold m_block_kept_o m_bytes_Equal
  simp only [letm_e, bnd_s, cd_and, cd_or]
  rw [kept_go a1 a2 z a5 l 0 [] (by simp; omega) hb, List.nil_append]
/-- Where the element is, n behind; a: there is none. -/
def posAt (n : Nat) (a : Int) : Option Nat → Int
  | some i => ((n + i : Nat) : Int)
  | none => a
theorem rput_go {bn : Nat → (List S_api_Partial × Int) → Option PutR} (a1 : Int) (a2 : List UInt8) (z : Bool) (a5 : Int) : ∀ (rem : List S_api_Partial) (k : Nat) (acc : List S_api_Partial) (at_ : Int), acc.length + rem.length ≤ 100 → (∀ p ∈ rem, p.2.1.length ≤ 4096 ∧ p.2.2.1.length ≤ 4096) → rem.Pairwise (fun p q => own q.1 q.2.1 p = false) →
    loopL (R := PutR) (S := ((List S_api_Partial) × Int)) (α := S_api_Partial) bn (fun x64 _ s66 self67 =>
      bnd (cond (decide (x64.2.2.2 ≤ a5) || ((x64.1 == a1 && x64.2.1 == a2) && z)) (some (s66.1, s66.2))
        (bnd (cond (x64.1 == a1 && x64.2.1 == a2) (some (s66.1.length : Int)) (some s66.2)) fun v74 => bnd (app [] x64.2.1) fun x75 => bnd (app [] x64.2.2.1) fun x76 => bnd (app s66.1 [(x64.1, (x75, (x76, x64.2.2.2)))]) fun x77 => some (x77, v74))) fun v78 => self67 (v78.1, v78.2)) rem k (acc, at_)
    = bn (k + rem.length) (acc ++ rem.filter (keepB a1 a2 z a5), posAt acc.length at_ ((rem.filter (keepB a1 a2 z a5)).findIdx? (own a1 a2)))
  | [], _, acc, _, _, _, _ => by simp [loopL_nil, posAt]
  | x :: rem, k, acc, at_, hl, hb, hd => by
    rw [loopL_cons]
    simp only [List.length_cons] at hl
    obtain ⟨hk, hdl⟩ := hb x (by simp)
    obtain ⟨hd1, hd2⟩ := List.pairwise_cons.1 hd
    have ek : k + (x :: rem).length = k + 1 + rem.length := by simp; omega
    rw [ek]
    have e0 : (x.1 == a1 && x.2.1 == a2) = own a1 a2 x := rfl
    have e2 : (decide (x.2.2.2 ≤ a5) || (own a1 a2 x && z)) = !(keepB a1 a2 z a5 x) := by unfold keepB; rw [Bool.not_not]
    simp only [e0]
    rw [e2, List.filter_cons]
    cases keepB a1 a2 z a5 x with
    | false =>
      simp only [Bool.not_false, cd_t, bnd_s]
      simp only [Bool.false_eq_true, if_false]
      exact rput_go a1 a2 z a5 rem (k + 1) acc at_ (by omega) (fun p hp => hb p (by simp [hp])) hd2
    | true =>
      simp only [Bool.not_true, cd_f, if_true]
      have c1 : app [] x.2.1 = some x.2.1 := app_nil_some (by omega)
      have c2 : app [] x.2.2.1 = some x.2.2.1 := app_nil_some (by omega)
      have c3 : app acc [(x.1, (x.2.1, (x.2.2.1, x.2.2.2)))] = some (acc ++ [x]) := app_some' (by simp; omega)
      cases ho : own a1 a2 x with
      | true =>
        simp only [cd_t, bnd_s, c1, c2, c3]
        refine (rput_go a1 a2 z a5 rem (k + 1) (acc ++ [x]) _ (by simp; omega) (fun p hp => hb p (by simp [hp])) hd2).trans ?_
        have hn : (rem.filter (keepB a1 a2 z a5)).findIdx? (own a1 a2) = none := by
          rw [List.findIdx?_eq_none_iff]
          intro y hy
          exact own_dist ho (hd1 y (List.mem_filter.1 hy).1)
        rw [hn]
        simp [List.findIdx?_cons, ho, posAt]
      | false =>
        simp only [cd_f, bnd_s, c1, c2, c3]
        refine (rput_go a1 a2 z a5 rem (k + 1) (acc ++ [x]) _ (by simp; omega) (fun p hp => hb p (by simp [hp])) hd2).trans ?_
        simp only [List.findIdx?_cons, ho, Bool.false_eq_true, if_false, List.append_assoc, List.singleton_append, List.length_append, List.length_singleton]
        cases (rem.filter (keepB a1 a2 z a5)).findIdx? (own a1 a2) with
        | none => rfl
        | some i =>
          have : ((acc.length + 1 + i : Nat) : Int) = ((acc.length + (i + 1) : Nat) : Int) := by omega
          show bn _ (_, ((acc.length + 1 + i : Nat) : Int)) = _
          rw [this]; rfl
theorem toU64_nat {n : Nat} (h : n < 18446744073709551616) : ((toU64 (n : Int)).toNat : Int) = (n : Int) := by
  unfold toU64
  rw [show ((n : Int) % 18446744073709551616).toNat = n by omega]
  simp
  omega
theorem blength {z : Nat} (h : z ≤ 6) : m_block_length (z : Int) = some ((16 * 2 ^ z : Nat) : Int) ∧ m_coresecref18_length (z : Int) = some ((16 * 2 ^ z : Nat) : Int) := by
  have h2 : 2 ^ z ≤ 2 ^ 6 := Nat.pow_le_pow_right (by omega) h
  have e : Gk.shl 16 (z : Int) = some ((16 * 2 ^ z : Nat) : Int) := by
    rw [shl16, Nat.min_eq_left (by omega)]
    have : ((16 : Int) * 2 ^ z) = ((16 * 2 ^ z : Nat) : Int) := by push_cast; rfl
    rw [this, w64_of (by omega) (by omega)]
  refine ⟨?_, ?_⟩
  · unfold m_block_length; rw [e]; rfl
  · unfold m_coresecref18_length
    have : ((toU64 (z : Int)).toNat : Int) = (z : Int) := by
      rw [toU64_nat (by omega)]
    rw [letm_e, this, e]; rfl
end Go.Proofs.Ytdgpkkfkloapbaa
