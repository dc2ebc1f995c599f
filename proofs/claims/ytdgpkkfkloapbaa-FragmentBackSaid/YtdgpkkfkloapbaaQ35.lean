/-
  Bodies in blocks, plain facts: what a block that arrives does to a list of partial bodies, as one function. No model; no program; no condition.
-/
import Derived.Test.YtdgpkkfkloapbaaQ33
namespace Go.Proofs.Ytdgpkkfkloapbaa
open Go.Gk Go.RowKit
/-- The same peer and key. -/
def own (a1 : Int) (a2 : List UInt8) (p : S_api_Partial) : Bool := p.1 == a1 && p.2.1 == a2
theorem own_iff {a1 : Int} {a2 : List UInt8} {p : S_api_Partial} : own a1 a2 p = true ↔ p.1 = a1 ∧ p.2.1 = a2 := by unfold own; simp
def posOf : Option Nat → Int
  | some i => (i : Int)
  | none => -1
def goodP (p : S_api_Partial) : Bool := !(decide (p.1 < 0) || (decide (65536 < p.1) || (decide (4096 < (p.2.1.length : Int)) || (decide (4096 < (p.2.2.1.length : Int)) || decide (p.2.2.2 < 0)))))
def validL : List S_api_Partial → List S_api_Partial → Bool
  | _, [] => true
  | pre, x :: rem => goodP x && (!(pre.any (own x.1 x.2.1)) && validL (pre ++ [x]) rem)
/-- A list that may be. -/
def validB (l : List S_api_Partial) : Bool := decide (l.length ≤ 4) && validL [] l
theorem findIdx_any {xs : List S_api_Partial} {f : S_api_Partial → Bool} : decide (0 ≤ posOf (xs.findIdx? f)) = xs.any f := by
  cases h : xs.findIdx? f with
  | none =>
    rw [List.findIdx?_eq_none_iff] at h
    have : xs.any f = false := by
      rw [List.any_eq_false]; intro x hx; simp [h x hx]
    rw [this]; rfl
  | some i =>
    have := List.findIdx?_isSome (xs := xs) (p := f)
    rw [h] at this
    rw [← this]; simp [posOf]
theorem valid_dist : ∀ (rem pre : List S_api_Partial), validL pre rem = true → (∀ x ∈ rem, goodP x = true ∧ ∀ p ∈ pre, own x.1 x.2.1 p = false) ∧ rem.Pairwise (fun p q => own q.1 q.2.1 p = false)
  | [], _, _ => by simp
  | x :: rem, pre, h => by
    simp only [validL, Bool.and_eq_true, Bool.not_eq_true', List.any_eq_false, Bool.not_eq_true] at h
    obtain ⟨h1, h2, h3⟩ := h
    obtain ⟨i1, i2⟩ := valid_dist rem (pre ++ [x]) h3
    refine ⟨fun y hy => ?_, List.pairwise_cons.2 ⟨fun y hy => (i1 y hy).2 x (by simp), i2⟩⟩
    rcases List.mem_cons.1 hy with rfl | hy
    · exact ⟨h1, fun p hp => by simpa using h2 p hp⟩
    · exact ⟨(i1 y hy).1, fun p hp => (i1 y hy).2 p (by simp [hp])⟩
theorem own_dist {a1 : Int} {a2 : List UInt8} {x y : S_api_Partial} (hx : own a1 a2 x = true) (h : own y.1 y.2.1 x = false) : own a1 a2 y = false := by
  obtain ⟨h1, h2⟩ := own_iff.1 hx
  cases hy : own a1 a2 y with
  | false => rfl
  | true =>
    obtain ⟨h3, h4⟩ := own_iff.1 hy
    have : own y.1 y.2.1 x = true := own_iff.2 ⟨by rw [h1, h3], by rw [h2, h4]⟩
    rw [this] at h; cases h
theorem good_iff {p : S_api_Partial} (h : goodP p = true) : 0 ≤ p.1 ∧ p.1 ≤ 65536 ∧ p.2.1.length ≤ 4096 ∧ p.2.2.1.length ≤ 4096 ∧ 0 ≤ p.2.2.2 := by
  unfold goodP at h
  simp only [Bool.not_eq_true', Bool.or_eq_false_iff, decide_eq_false_iff_not] at h
  obtain ⟨h1, h2, h3, h4, h5⟩ := h
  exact ⟨by omega, by omega, by omega, by omega, by omega⟩
/-- Which elements stay. -/
def keepB (a1 : Int) (a2 : List UInt8) (z : Bool) (a5 : Int) (p : S_api_Partial) : Bool := !(decide (p.2.2.2 ≤ a5) || (own a1 a2 p && z))
def sndB (b : S_api_Block) : Bool := decide (0 ≤ b.1) && decide (b.1 ≤ 1048575) && decide (0 ≤ b.2.2) && decide (b.2.2 ≤ 6)
theorem sndB_iff {b : S_api_Block} : sndB b = true ↔ 0 ≤ b.1 ∧ b.1 ≤ 1048575 ∧ 0 ≤ b.2.2 ∧ b.2.2 ≤ 6 := by
  unfold sndB; simp only [Bool.and_eq_true, decide_eq_true_eq]
  constructor
  · rintro ⟨⟨⟨a, b⟩, c⟩, d⟩; exact ⟨a, b, c, d⟩
  · rintro ⟨a, b, c, d⟩; exact ⟨⟨⟨a, b⟩, c⟩, d⟩
/-- What comes out: the list, a body, whether it is whole, an error. -/
abbrev PutR := List S_api_Partial × (List UInt8 × (Bool × Int))
/-- Behind what is kept (ys). -/
def putY (ys : List S_api_Partial) (p : Int) (k : List UInt8) (m : Nat) (more : Bool) (L : Nat) (c : List UInt8) (t : Int) : PutR :=
    match (if 0 < m then (ys.find? (own p k)).bind fun x => if x.2.2.1.length = m * L then some x.2.2.1 else none else some [] : Option (List UInt8)) with
    | none => ([], ([], (false, 15)))
    | some D =>
      if 4096 < D.length + c.length then ([], ([], (false, 8))) else
      match more, ys.findIdx? (own p k) with
      | false, some i => (ys.eraseIdx i, (D ++ c, (true, 0)))
      | false, none => (ys, (D ++ c, (true, 0)))
      | true, some i => (ys.set i (p, (k, (D ++ c, t + 128))), ([], (false, 0)))
      | true, none => if 4 ≤ ys.length then ([], ([], (false, 16))) else (ys ++ [(p, (k, (D ++ c, t + 128)))], ([], (false, 0)))
/-- A block that may arrive: L bytes are a block's length, m its number. -/
def putC (l : List S_api_Partial) (p : Int) (k : List UInt8) (m : Nat) (z more : Bool) (L : Nat) (c : List UInt8) (t : Int) : PutR :=
    if (more = true ∧ c.length ≠ L) ∨ (more = false ∧ (L < c.length ∨ c.length = 0 ∧ 0 < m)) then ([], ([], (false, 4))) else
    putY (l.filter (keepB p k z t)) p k m more L c t
/-- What a block that arrives does to a list of partial bodies. -/
def putS (l : List S_api_Partial) (p : Int) (k : List UInt8) (b : S_api_Block) (c : List UInt8) (t : Int) : PutR :=
  if validB l = true ∧ 0 ≤ p ∧ p ≤ 65536 ∧ k.length ≤ 4096 ∧ sndB b = true ∧ 0 ≤ t ∧ t ≤ 1073741824 then putC l p k b.1.toNat (b.1 == 0) b.2.1 (16 * 2 ^ b.2.2.toNat) c t
  else ([], ([], (false, 1)))
theorem putS_ok {l : List S_api_Partial} {p : Int} {k : List UInt8} {b : S_api_Block} {c : List UInt8} {t : Int} (hv : validB l = true) (h1 : 0 ≤ p) (h2 : p ≤ 65536) (h3 : k.length ≤ 4096) (hs : sndB b = true) (h4 : 0 ≤ t) (h5 : t ≤ 1073741824) :
    putS l p k b c t = putC l p k b.1.toNat (b.1 == 0) b.2.1 (16 * 2 ^ b.2.2.toNat) c t := by
  unfold putS; rw [if_pos ⟨hv, h1, h2, h3, hs, h4, h5⟩]
section
variable {l ys : List S_api_Partial} {p : Int} {k : List UInt8} {c : List UInt8} {t : Int} {z : Bool} {L m : Nat}
theorem putC_new (hy : l.filter (keepB p k z t) = ys) (hc : c.length = L) (hL : L ≤ 4096) (hn : ys.findIdx? (own p k) = none) (hl : ys.length < 4) :
    putC l p k 0 z true L c t = (ys ++ [(p, (k, (c, t + 128)))], ([], (false, 0))) := by
  unfold putC putY
  rw [hy, if_neg (by simp [hc])]
  have h5 : ¬ 4096 < 0 + c.length := by omega
  have h6 : ¬ 4 ≤ ys.length := by omega
  simp only [Nat.lt_irrefl, if_false, List.length_nil, h5, hn, h6, List.nil_append]
theorem putC_state (hy : l.filter (keepB p k z t) = ys) (hm : 0 < m) (hc : c.length = L) (hn : ∀ x, ys.find? (own p k) = some x → x.2.2.1.length ≠ m * L) : putC l p k m z true L c t = ([], ([], (false, 15))) := by
  unfold putC putY
  rw [hy, if_neg (by simp [hc]), if_pos hm]
  cases hf : ys.find? (own p k) with
  | none => rfl
  | some x => rw [Option.bind_some, if_neg (hn x hf)]
theorem putC_old {i : Nat} {x : S_api_Partial} (hy : l.filter (keepB p k z t) = ys) (hm : 0 < m) (hc : c.length = L) (hf : ys.find? (own p k) = some x) (hi : ys.findIdx? (own p k) = some i) (hx : x.2.2.1.length = m * L) (hL : x.2.2.1.length + L ≤ 4096) :
    putC l p k m z true L c t = (ys.set i (p, (k, (x.2.2.1 ++ c, t + 128))), ([], (false, 0))) := by
  unfold putC putY
  have h5 : ¬ 4096 < x.2.2.1.length + c.length := by omega
  rw [hy, if_neg (by simp [hc]), if_pos hm, hf, Option.bind_some, if_pos hx, hi]
  simp only [h5, if_false]
theorem putC_one (hy : l.filter (keepB p k z t) = ys) (hc : c.length ≤ L) (hL : L ≤ 4096) (hn : ys.findIdx? (own p k) = none) :
    putC l p k 0 z false L c t = (ys, (c, (true, 0))) := by
  unfold putC putY
  have h4 : ¬ L < c.length := by omega
  have h5 : ¬ 4096 < 0 + c.length := by omega
  rw [hy, if_neg (by simp [h4]), hn]
  simp only [Nat.lt_irrefl, if_false, List.length_nil, h5, List.nil_append]
theorem putC_last {i : Nat} {x : S_api_Partial} (hy : l.filter (keepB p k z t) = ys) (hm : 0 < m) (hc : c.length ≤ L) (hc0 : 0 < c.length) (hf : ys.find? (own p k) = some x) (hi : ys.findIdx? (own p k) = some i) (hx : x.2.2.1.length = m * L) (hL : x.2.2.1.length + L ≤ 4096) :
    putC l p k m z false L c t = (ys.eraseIdx i, (x.2.2.1 ++ c, (true, 0))) := by
  unfold putC putY
  have h4 : ¬ L < c.length := by omega
  have h5 : ¬ 4096 < x.2.2.1.length + c.length := by omega
  have h7 : ¬ c.length = 0 := by omega
  rw [hy, if_neg (by simp [h4, hm]; intro h; simp [h] at hc0), if_pos hm, hf, Option.bind_some, if_pos hx, hi]
  simp only [h5, if_false]
end
/-- A list whose elements are no longer than told. -/
def LenP (l : List S_api_Partial) : Prop := l.length ≤ 20 ∧ ∀ p ∈ l, p.2.1.length ≤ 4096 ∧ p.2.2.1.length ≤ 4096
theorem putS_len {l : List S_api_Partial} {p : Int} {k : List UInt8} {b : S_api_Block} {c : List UInt8} {t : Int} : LenP (putS l p k b c t).1 ∧ (putS l p k b c t).2.1.length ≤ 4096 := by
  unfold putS
  split
  · rename_i h
    obtain ⟨hv, -, -, hk, -⟩ := h
    unfold validB at hv
    simp only [Bool.and_eq_true, decide_eq_true_eq] at hv
    obtain ⟨hl, hv⟩ := hv
    obtain ⟨hg, -⟩ := valid_dist l [] hv
    have hb : ∀ q ∈ l, q.2.1.length ≤ 4096 ∧ q.2.2.1.length ≤ 4096 := fun q hq => ⟨(good_iff (hg q hq).1).2.2.1, (good_iff (hg q hq).1).2.2.2.1⟩
    have nilP : LenP [] := ⟨by simp, by simp⟩
    unfold putC
    split
    · exact ⟨nilP, by simp⟩
    have hyl : (l.filter (keepB p k (b.1 == 0) t)).length ≤ 4 := Nat.le_trans (List.length_filter_le _ _) hl
    have hyb : ∀ q ∈ l.filter (keepB p k (b.1 == 0) t), q.2.1.length ≤ 4096 ∧ q.2.2.1.length ≤ 4096 := fun q hq => hb q (List.mem_filter.1 hq).1
    generalize l.filter (keepB p k (b.1 == 0) t) = ys at hyl hyb ⊢
    unfold putY
    split
    · exact ⟨nilP, by simp⟩
    rename_i D _
    split
    · exact ⟨nilP, by simp⟩
    rename_i h4
    have hD : (D ++ c).length ≤ 4096 := by rw [List.length_append]; omega
    split
    · exact ⟨⟨by have := List.length_eraseIdx_le (l := ys) (i := ‹Nat›); show (ys.eraseIdx _).length ≤ 20; omega, fun q hq => hyb q (List.mem_of_mem_eraseIdx hq)⟩, hD⟩
    · exact ⟨⟨by show ys.length ≤ 20; omega, hyb⟩, hD⟩
    · refine ⟨⟨by show (ys.set _ _).length ≤ 20; rw [List.length_set]; omega, fun q hq => ?_⟩, by simp⟩
      rcases List.mem_or_eq_of_mem_set hq with hq | rfl
      · exact hyb q hq
      · exact ⟨hk, hD⟩
    · split
      · exact ⟨nilP, by simp⟩
      · refine ⟨⟨by show (ys ++ _).length ≤ 20; rw [List.length_append, List.length_singleton]; omega, fun q hq => ?_⟩, by simp⟩
        rcases List.mem_append.1 hq with hq | hq
        · exact hyb q hq
        · rw [List.mem_singleton.1 hq]; exact ⟨hk, hD⟩
  · exact ⟨⟨by simp, by simp⟩, by simp⟩
end Go.Proofs.Ytdgpkkfkloapbaa
