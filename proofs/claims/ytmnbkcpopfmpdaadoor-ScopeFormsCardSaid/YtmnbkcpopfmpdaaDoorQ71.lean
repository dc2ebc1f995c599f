/-
  Scopes, plain facts: how a text is cut, how a permit is read, by both texts. Of the models alone; no program; no condition but the lengths told.
-/
import Derived.Test.YtmnbkcpopfmpdaaDoorQ70
namespace Go.Proofs.YtmnbkcpopfmpdaaDoor
open Go.Gk Go.RowKit
/-! ### A text cut at commas with a space -/
def hdc (a : UInt8) : List (List UInt8) → List (List UInt8)
  | [] => [[a]]
  | p :: r => (a :: p) :: r
def spl : List UInt8 → List (List UInt8)
  | [] => [[]]
  | [a] => [[a]]
  | a :: b :: s => if a == 44 && b == 32 then [] :: spl s else hdc a (spl (b :: s))
theorem spl_ne : ∀ s : List UInt8, ∃ p r, spl s = p :: r
  | [] => ⟨_, _, rfl⟩
  | [a] => ⟨_, _, rfl⟩
  | a :: b :: s => by
    unfold spl
    split
    · exact ⟨_, _, rfl⟩
    · obtain ⟨p, r, h⟩ := spl_ne (b :: s)
      rw [h]; exact ⟨_, _, rfl⟩
theorem pre2 (a b : UInt8) (s : List UInt8) : ([44, 32] : List UInt8).isPrefixOf (a :: b :: s) = (a == 44 && b == 32) := by
  show ((44 : UInt8) == a && ((32 : UInt8) == b && true)) = _
  rw [Bool.and_true, Bool.eq_iff_iff]
  simp only [Bool.and_eq_true, beq_iff_eq]
  exact ⟨fun h => ⟨h.1.symm, h.2.symm⟩, fun h => ⟨h.1.symm, h.2.symm⟩⟩
theorem spl_index : ∀ s : List UInt8, (Lib.index s [44, 32] = -1 ∧ spl s = [s]) ∨ ∃ i : Nat, Lib.index s [44, 32] = i ∧ spl s = s.take i :: spl (s.drop (i + 2))
  | [] => .inl ⟨rfl, rfl⟩
  | [a] => by
    refine .inl ⟨?_, rfl⟩
    show (if ([44, 32] : List UInt8).isPrefixOf [a] then (0 : Int) else if Lib.index [] [44, 32] == -1 then -1 else Lib.index [] [44, 32] + 1) = -1
    have : ([44, 32] : List UInt8).isPrefixOf [a] = false := by show ((44 : UInt8) == a && false) = false; rw [Bool.and_false]
    rw [this]; rfl
  | a :: b :: s => by
    have e : Lib.index (a :: b :: s) [44, 32] = if (a == 44 && b == 32) then 0 else if Lib.index (b :: s) [44, 32] == -1 then -1 else Lib.index (b :: s) [44, 32] + 1 := by
      rw [← pre2 a b s]; rfl
    have e2 : spl (a :: b :: s) = if a == 44 && b == 32 then [] :: spl s else hdc a (spl (b :: s)) := by rw [spl]
    rw [e, e2]
    cases hab : (a == 44 && b == 32) with
    | true => exact .inr ⟨0, rfl, rfl⟩
    | false =>
      rcases spl_index (b :: s) with ⟨h1, h2⟩ | ⟨i, h1, h2⟩
      · refine .inl ⟨?_, ?_⟩
        · rw [h1]; rfl
        · rw [h2]; rfl
      · refine .inr ⟨i + 1, ?_, ?_⟩
        · rw [h1, if_neg (by simp), if_neg (by rw [beq_iff_eq]; omega)]; omega
        · rw [if_neg (by simp), h2]; rfl
theorem split_spl : ∀ (n : Nat) (s : List UInt8), s.length ≤ n → Lib.split s [44, 32] = spl s
  | n, s, hn => by
    rcases spl_index s with ⟨h1, h2⟩ | ⟨i, h1, h2⟩
    · rw [h2]; unfold Lib.split; rw [Lib.count_miss h1]; rfl
    · have hr := Lib.index_room s [44, 32] (by omega)
      rw [h1] at hr
      have hr : (i : Int) + ((2 : Nat) : Int) ≤ (s.length : Int) := hr
      match n, hn with
      | 0, hn => omega
      | n + 1, hn =>
        have ih := split_spl n (s.drop (i + 2)) (by rw [List.length_drop]; omega)
        rw [h2, ← ih]
        unfold Lib.split
        rw [Lib.count_hit (by simp) h1, Nat.add_comm 1]
        show (if Lib.index s [44, 32] == -1 then [s] else s.take ((Lib.index s [44, 32]).toNat + 0) :: Lib.splitK [44, 32] 0 (Lib.count (s.drop (i + 2)) [44, 32]) (s.drop ((Lib.index s [44, 32]).toNat + 2))) = _
        rw [h1, if_neg (by rw [beq_iff_eq]; omega)]
        rfl
theorem spl_no : ∀ {p : List UInt8}, (44 : UInt8) ∉ p → spl p = [p]
  | [], _ => rfl
  | [a], _ => rfl
  | a :: b :: s, h => by
    have ha : (a == 44) = false := by rw [beq_eq_false_iff_ne]; rintro rfl; simp at h
    rw [spl, ha, Bool.false_and, if_neg (by simp), spl_no (p := b :: s) (fun hm => h (by simp [hm]))]
    rfl
theorem spl_cons : ∀ {p : List UInt8} (r : List UInt8), (44 : UInt8) ∉ p → spl (p ++ 44 :: 32 :: r) = p :: spl r
  | [], r, _ => by show spl (44 :: 32 :: r) = _; rw [spl]; rfl
  | [a], r, h => by
    have ha : (a == 44) = false := by rw [beq_eq_false_iff_ne]; rintro rfl; simp at h
    show spl (a :: 44 :: 32 :: r) = _
    rw [spl, ha, Bool.false_and, if_neg (by simp), spl]; rfl
  | a :: b :: s, r, h => by
    have ha : (a == 44) = false := by rw [beq_eq_false_iff_ne]; rintro rfl; simp at h
    have ih := spl_cons (p := b :: s) r (fun hm => h (by simp [hm]))
    show spl (a :: b :: (s ++ 44 :: 32 :: r)) = _
    rw [spl, ha, Bool.false_and, if_neg (by simp), show b :: (s ++ 44 :: 32 :: r) = (b :: s) ++ 44 :: 32 :: r from rfl, ih]
    rfl
/-! ### Letters -/
def letS : List UInt8 := [71, 80, 85, 68, 70, 65, 73]
def posI (c : UInt8) : Int := Lib.indexByte letS c
def ltr (j : Nat) : UInt8 := (letS[j]?).getD 0
theorem pos_fin : ∀ c : Fin 256, -1 ≤ posI (UInt8.ofNat c.1) ∧ posI (UInt8.ofNat c.1) ≤ 6 := by decide +kernel
theorem u8_of (x : UInt8) : UInt8.ofNat x.toNat = x := by simp
theorem pos_le (c : UInt8) : -1 ≤ posI c ∧ posI c ≤ 6 := by
  have h := pos_fin ⟨c.toNat, UInt8.toNat_lt c⟩
  rw [show (UInt8.ofNat ((⟨c.toNat, UInt8.toNat_lt c⟩ : Fin 256).1)) = c from u8_of c] at h
  exact h
theorem pos_ltr : ∀ (j : Fin 7) (c : Fin 256), (posI (UInt8.ofNat c.1) == (j.1 : Int)) = (UInt8.ofNat c.1 == ltr j.1) := by decide +kernel
theorem pos_eq (j : Fin 7) (c : UInt8) : (posI c == (j.1 : Int)) = (c == ltr j.1) := by
  have h := pos_ltr j ⟨c.toNat, UInt8.toNat_lt c⟩
  rw [show (UInt8.ofNat ((⟨c.toNat, UInt8.toNat_lt c⟩ : Fin 256).1)) = c from u8_of c] at h
  exact h
theorem ltr_ne : ∀ j : Fin 7, ltr j.1 ≠ 58 := by decide
theorem or_pow : ∀ (i : Fin 7) (m : Fin 128), m.1 < 2 ^ i.1 → (bnd (Gk.shl 1 (UInt64.toNat (toU64 (i.1 : Int)) : Int)) fun x => some (ibit .or (m.1 : Int) x)) = some ((m.1 + 2 ^ i.1 : Nat) : Int) := by decide +kernel
theorem add_pow : ∀ (i : Fin 7) (m : Fin 128), (bnd (Gk.shl 1 (UInt64.toNat (toU64 (w64 (((i.1 + 1 : Nat) : Int) - 1))) : Int)) fun x => some (w64 ((m.1 : Int) + x))) = some ((m.1 + 2 ^ i.1 : Nat) : Int) := by decide +kernel
/-- The letters at the head, in order, as both texts take them. -/
def Lt : Nat → List UInt8 → Nat → Nat × List UInt8
  | 0, s, m => (m, s)
  | k + 1, [], m => (m, [])
  | k + 1, c :: t, m => if c == ltr (6 - k) then Lt k t (m + 2 ^ (6 - k)) else Lt k (c :: t) m
theorem Lt_nil : ∀ (k m : Nat), Lt k [] m = (m, [])
  | 0, _ => rfl
  | _ + 1, _ => rfl
/-- As the loop of the program goes: from the letter's number. -/
def Ht : List UInt8 → Nat → Nat → Option (Nat × List UInt8)
  | [], _, m => some (m, [])
  | c :: t, j, m => if c == 58 then some (m, c :: t) else if posI c < (j : Int) then none else Ht t ((posI c).toNat + 1) (m + 2 ^ (posI c).toNat)
def chk (q : Nat × List UInt8) : Option (Nat × List UInt8) := match q.2 with | [] => some q | c :: _ => if c == 58 then some q else none
theorem Ht_Lt : ∀ (k : Nat), k ≤ 7 → ∀ (s : List UInt8) (m : Nat), Ht s (7 - k) m = chk (Lt k s m)
  | 0, _, [], m => rfl
  | 0, _, c :: t, m => by
    show (if c == 58 then some (m, c :: t) else if posI c < ((7 : Nat) : Int) then none else _) = (if c == 58 then some (m, c :: t) else none)
    have := (pos_le c).2
    rw [if_pos (show posI c < ((7 : Nat) : Int) by omega)]
  | k + 1, _, [], m => rfl
  | k + 1, hk, c :: t, m => by
    have e1 : Lt (k + 1) (c :: t) m = if c == ltr (6 - k) then Lt k t (m + 2 ^ (6 - k)) else Lt k (c :: t) m := rfl
    have e2 : ∀ j, Ht (c :: t) j m = if c == 58 then some (m, c :: t) else if posI c < (j : Int) then none else Ht t ((posI c).toNat + 1) (m + 2 ^ (posI c).toNat) := fun j => rfl
    have hp := pos_eq ⟨6 - k, by omega⟩ c
    have hp : (posI c == ((6 - k : Nat) : Int)) = (c == ltr (6 - k)) := hp
    rw [e1]
    cases hc : (c == ltr (6 - k)) with
    | true =>
      rw [hc] at hp
      have hp := beq_iff_eq.1 hp
      have h58 : (c == 58) = false := by
        rw [beq_eq_false_iff_ne, beq_iff_eq.1 hc]
        exact ltr_ne ⟨6 - k, by omega⟩
      rw [e2, h58, if_neg (by simp), if_neg (by omega), hp, Int.toNat_natCast, show 6 - k + 1 = 7 - k by omega, Ht_Lt k (by omega) t]
      rfl
    | false =>
      rw [hc] at hp
      have hp := beq_eq_false_iff_ne.1 hp
      rw [if_neg (by simp), ← Ht_Lt k (by omega) (c :: t) m, e2, e2]
      congr 1
      by_cases hq : posI c < ((7 - (k + 1) : Nat) : Int)
      · rw [if_pos hq, if_pos (by omega)]
      · rw [if_neg hq, if_neg (by omega)]
/-! ### A permit read -/
def finS (m : Nat) (t : List UInt8) : Option S_api_Permit :=
  let q : List UInt8 × Bool := if Lib.hasSuffix t [47, 42] then (t.take (t.length - 2), true) else (t, false)
  if wrS q.1 then some (q.1, (q.2, (m : Int))) else none
def pQ (m : Nat) : List UInt8 → Option S_api_Permit
  | [] => none
  | c :: t => if c == 58 && !(m == 0) then finS m t else none
def pS (s : List UInt8) : Option S_api_Permit := pQ (Lt 7 s 0).1 (Lt 7 s 0).2
theorem pQ_cons (m : Nat) (c : UInt8) (t : List UInt8) : pQ m (c :: t) = if c == 58 && !(m == 0) then finS m t else none := rfl
theorem chk_cons (m : Nat) (c : UInt8) (t : List UInt8) : chk (m, c :: t) = if c == 58 then some (m, c :: t) else none := rfl
end Go.Proofs.YtmnbkcpopfmpdaaDoor
