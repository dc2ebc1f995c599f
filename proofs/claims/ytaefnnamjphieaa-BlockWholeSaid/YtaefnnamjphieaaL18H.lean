/-
  Chapter 18, plain facts: the law BlockWhole. Of the models alone; no program; no condition but that a list of numbers is not longer than memory.
-/
import Derived.Test.YtaefnnamjphieaaL18K
import Derived.Test.YtaefnnamjphieaaWBlockWhole
namespace Go.Proofs.Ytaefnnamjphieaa
open Go.Gk Go.RowKit
/-- The body that arrives, and another one. -/
def pA (D : List UInt8) (u : Int) : S_api_Partial := { Peer := 1, Key := [7], Data := D, Until := u }
def pB (D : List UInt8) (u : Int) : S_api_Partial := { Peer := 2, Key := [7], Data := D, Until := u }
section
variable {D E : List UInt8} {u v t : Int} {z : Bool}
theorem oAA : own 1 [7] (pA D u) = true := rfl
theorem oAB : own 1 [7] (pB D u) = false := rfl
theorem oBA : own 2 [7] (pA D u) = false := rfl
theorem oBB : own 2 [7] (pB D u) = true := rfl
theorem kAA (h : t < u) : keepB 1 [7] z t (pA D u) = !z := by
  have : decide (u ≤ t) = false := decide_eq_false (by omega)
  simp only [keepB, oAA, Bool.true_and]
  show (!(decide (u ≤ t) || z)) = !z
  rw [this, Bool.false_or]
theorem kBB (h : t < u) : keepB 2 [7] z t (pB D u) = !z := by
  have : decide (u ≤ t) = false := decide_eq_false (by omega)
  simp only [keepB, oBB, Bool.true_and]
  show (!(decide (u ≤ t) || z)) = !z
  rw [this, Bool.false_or]
theorem kAB (h : t < u) : keepB 1 [7] z t (pB D u) = true := by
  have : decide (u ≤ t) = false := decide_eq_false (by omega)
  simp only [keepB, oAB, Bool.false_and]
  show (!(decide (u ≤ t) || false)) = true
  rw [this]; rfl
theorem kBA (h : t < u) : keepB 2 [7] z t (pA D u) = true := by
  have : decide (u ≤ t) = false := decide_eq_false (by omega)
  simp only [keepB, oBA, Bool.false_and]
  show (!(decide (u ≤ t) || false)) = true
  rw [this]; rfl
theorem gA (h : D.length ≤ 4096) (hu : 0 ≤ u) : goodP (pA D u) = true := by
  have h1 : decide (4096 < (D.length : Int)) = false := decide_eq_false (by omega)
  have h2 : decide (u < 0) = false := decide_eq_false (by omega)
  show (!(decide ((1 : Int) < 0) || (decide ((65536 : Int) < 1) || (decide (4096 < (([7] : List UInt8).length : Int)) || (decide (4096 < (D.length : Int)) || decide (u < 0)))))) = true
  rw [h1, h2]; rfl
theorem gB (h : D.length ≤ 4096) (hu : 0 ≤ u) : goodP (pB D u) = true := by
  have h1 : decide (4096 < (D.length : Int)) = false := decide_eq_false (by omega)
  have h2 : decide (u < 0) = false := decide_eq_false (by omega)
  show (!(decide ((2 : Int) < 0) || (decide ((65536 : Int) < 2) || (decide (4096 < (([7] : List UInt8).length : Int)) || (decide (4096 < (D.length : Int)) || decide (u < 0)))))) = true
  rw [h1, h2]; rfl
end
/-- The lists that may stand in the loop: with what of the body has arrived. -/
inductive Shp : List S_api_Partial → Option (List UInt8) → Prop where
  | e : Shp [] none
  | b (E v) (hE : E.length ≤ 32) (hv : 128 ≤ v) : Shp [pB E v] none
  | a (D u) (hu : 128 ≤ u) : Shp [pA D u] (some D)
  | ab (D u E v) (hu : 128 ≤ u) (hE : E.length ≤ 32) (hv : 128 ≤ v) : Shp [pA D u, pB E v] (some D)
  | ba (D u E v) (hu : 128 ≤ u) (hE : E.length ≤ 32) (hv : 128 ≤ v) : Shp [pB E v, pA D u] (some D)
theorem Shp.valid {l : List S_api_Partial} {o : Option (List UInt8)} (h : Shp l o) (ho : ∀ D, o = some D → D.length ≤ 4096) : validB l = true := by
  cases h with
  | e => rfl
  | b E v hE hv => simp [validB, validL, gB (show E.length ≤ 4096 by omega) (show 0 ≤ v by omega)]
  | a D u hu => simp [validB, validL, gA (ho D rfl) (show 0 ≤ u by omega)]
  | ab D u E v hu hE hv => simp [validB, validL, gA (ho D rfl) (show 0 ≤ u by omega), gB (show E.length ≤ 4096 by omega) (show 0 ≤ v by omega)]; rfl
  | ba D u E v hu hE hv => simp [validB, validL, gA (ho D rfl) (show 0 ≤ u by omega), gB (show E.length ≤ 4096 by omega) (show 0 ≤ v by omega)]; rfl
/-- A block of the other body. -/
theorem other {l : List S_api_Partial} {o : Option (List UInt8)} (h : Shp l o) (ho : ∀ D, o = some D → D.length ≤ 4096) (n : Nat) (hn : n ≤ 1) (c : List UInt8) (hc : c.length = 16) (t : Nat) (ht : t ≤ 60) :
    (putS l 2 [7] { Num := (n : Int), More := true, Size := 0 } c (t : Int)).2.2.2 = 0 → Shp (putS l 2 [7] { Num := (n : Int), More := true, Size := 0 } c (t : Int)).1 o := by
  have hsn : sndB { Num := (n : Int), More := true, Size := 0 } = true := sndB_iff.2 ⟨by simp, by simp only; omega, by simp, by simp⟩
  rw [putS_ok (h.valid ho) (by omega) (by omega) (by simp) hsn (by omega) (by omega)]
  simp only [Int.toNat_natCast]
  have hL : 16 * 2 ^ (0 : Int).toNat = 16 := rfl
  rw [hL]
  rcases Nat.lt_or_ge 0 n with h0 | h0
  · have : n = 1 := by omega
    subst this
    have ez : (((1 : Nat) : Int) == 0) = false := rfl
    rw [ez]
    cases h with
    | e => rw [putC_state (ys := []) rfl (by omega) hc (by intro x hx; cases hx)]; intro h; cases h
    | b E v hE hv =>
      have ef : [pB E v].filter (keepB 2 [7] false t) = [pB E v] := by simp [List.filter, kBB (show (t : Int) < v by omega)]
      by_cases hl : E.length = 16
      · rw [putC_old (ys := [pB E v]) (i := 0) (x := pB E v) ef (by omega) hc rfl rfl (by show E.length = 1 * 16; omega) (by show E.length + 16 ≤ 4096; omega)]
        exact fun _ => Shp.b (E ++ c) _ (by simp; omega) (by omega)
      · rw [putC_state (ys := [pB E v]) ef (by omega) hc (by intro x hx; have : some (pB E v) = some x := hx; cases this; show E.length ≠ 1 * 16; omega)]; intro h; cases h
    | a D u hu =>
      have ef : [pA D u].filter (keepB 2 [7] false t) = [pA D u] := by simp [List.filter, kBA (show (t : Int) < u by omega)]
      rw [putC_state (ys := [pA D u]) ef (by omega) hc (by intro x hx; cases hx)]; intro h; cases h
    | ab D u E v hu hE hv =>
      have ef : [pA D u, pB E v].filter (keepB 2 [7] false t) = [pA D u, pB E v] := by simp [List.filter, kBA (show (t : Int) < u by omega), kBB (show (t : Int) < v by omega)]
      by_cases hl : E.length = 16
      · rw [putC_old (ys := [pA D u, pB E v]) (i := 1) (x := pB E v) ef (by omega) hc rfl rfl (by show E.length = 1 * 16; omega) (by show E.length + 16 ≤ 4096; omega)]
        exact fun _ => Shp.ab D u (E ++ c) _ hu (by simp; omega) (by omega)
      · rw [putC_state (ys := [pA D u, pB E v]) ef (by omega) hc (by intro x hx; have : some (pB E v) = some x := hx; cases this; show E.length ≠ 1 * 16; omega)]; intro h; cases h
    | ba D u E v hu hE hv =>
      have ef : [pB E v, pA D u].filter (keepB 2 [7] false t) = [pB E v, pA D u] := by simp [List.filter, kBA (show (t : Int) < u by omega), kBB (show (t : Int) < v by omega)]
      by_cases hl : E.length = 16
      · rw [putC_old (ys := [pB E v, pA D u]) (i := 0) (x := pB E v) ef (by omega) hc rfl rfl (by show E.length = 1 * 16; omega) (by show E.length + 16 ≤ 4096; omega)]
        exact fun _ => Shp.ba D u (E ++ c) _ hu (by simp; omega) (by omega)
      · rw [putC_state (ys := [pB E v, pA D u]) ef (by omega) hc (by intro x hx; have : some (pB E v) = some x := hx; cases this; show E.length ≠ 1 * 16; omega)]; intro h; cases h
  · have : n = 0 := by omega
    subst this
    have ez : (((0 : Nat) : Int) == 0) = true := rfl
    rw [ez]
    cases h with
    | e => rw [putC_new (ys := []) rfl hc (by omega) rfl (by simp)]; exact fun _ => Shp.b c _ (by omega) (by omega)
    | b E v hE hv =>
      have ef : [pB E v].filter (keepB 2 [7] true t) = [] := by simp [List.filter, kBB (show (t : Int) < v by omega)]
      rw [putC_new (ys := []) ef hc (by omega) rfl (by simp)]; exact fun _ => Shp.b c _ (by omega) (by omega)
    | a D u hu =>
      have ef : [pA D u].filter (keepB 2 [7] true t) = [pA D u] := by simp [List.filter, kBA (show (t : Int) < u by omega)]
      rw [putC_new (ys := [pA D u]) ef hc (by omega) rfl (by simp)]; exact fun _ => Shp.ab D u c _ hu (by omega) (by omega)
    | ab D u E v hu hE hv =>
      have ef : [pA D u, pB E v].filter (keepB 2 [7] true t) = [pA D u] := by simp [List.filter, kBA (show (t : Int) < u by omega), kBB (show (t : Int) < v by omega)]
      rw [putC_new (ys := [pA D u]) ef hc (by omega) rfl (by simp)]; exact fun _ => Shp.ab D u c _ hu (by omega) (by omega)
    | ba D u E v hu hE hv =>
      have ef : [pB E v, pA D u].filter (keepB 2 [7] true t) = [pA D u] := by simp [List.filter, kBA (show (t : Int) < u by omega), kBB (show (t : Int) < v by omega)]
      rw [putC_new (ys := [pA D u]) ef hc (by omega) rfl (by simp)]; exact fun _ => Shp.ab D u c _ hu (by omega) (by omega)
/-- The first block of the body. -/
theorem mine0 {l : List S_api_Partial} (h : Shp l none) (s : Nat) (hs : s ≤ 6) (c : List UInt8) (t : Nat) (ht : t ≤ 60) :
    (c.length = 16 * 2 ^ s → ∃ l', putS l 1 [7] { Num := 0, More := true, Size := (s : Int) } c (t : Int) = (l', [], false, 0) ∧ Shp l' (some c)) ∧
    (c.length ≤ 16 * 2 ^ s → ∃ l', putS l 1 [7] { Num := 0, More := false, Size := (s : Int) } c (t : Int) = (l', c, true, 0)) := by
  have hp : 2 ^ s ≤ 2 ^ 6 := Nat.pow_le_pow_right (by omega) hs
  have hsn : ∀ m, sndB { Num := 0, More := m, Size := (s : Int) } = true := fun m => sndB_iff.2 ⟨by simp, by simp, by simp, by simp only; omega⟩
  have ez : ((0 : Int) == 0) = true := rfl
  have hva := h.valid (by simp)
  constructor
  · intro hc
    rw [putS_ok hva (by omega) (by omega) (by simp) (hsn true) (by omega) (by omega)]
    simp only [Int.toNat_natCast, ez]
    cases h with
    | e => exact ⟨_, putC_new (ys := []) rfl hc (by omega) rfl (by simp), Shp.a c _ (by omega)⟩
    | b E v hE hv =>
      have ef : [pB E v].filter (keepB 1 [7] true t) = [pB E v] := by simp [List.filter, kAB (show (t : Int) < v by omega)]
      exact ⟨_, putC_new (ys := [pB E v]) ef hc (by omega) rfl (by simp), Shp.ba c _ E v (by omega) hE hv⟩
  · intro hc
    rw [putS_ok hva (by omega) (by omega) (by simp) (hsn false) (by omega) (by omega)]
    simp only [Int.toNat_natCast, ez]
    cases h with
    | e => exact ⟨_, putC_one (ys := []) rfl hc (by omega) rfl⟩
    | b E v hE hv =>
      have ef : [pB E v].filter (keepB 1 [7] true t) = [pB E v] := by simp [List.filter, kAB (show (t : Int) < v by omega)]
      exact ⟨_, putC_one (ys := [pB E v]) ef hc (by omega) rfl⟩
/-- A later block of the body. -/
theorem mine1 {l : List S_api_Partial} {D : List UInt8} (h : Shp l (some D)) (s m : Nat) (hs : s ≤ 6) (hm : 0 < m) (hm2 : m ≤ 1048575) (c : List UInt8) (t : Nat) (ht : t ≤ 60) (hD : D.length = m * (16 * 2 ^ s)) (hl : D.length + 16 * 2 ^ s ≤ 4096) :
    (c.length = 16 * 2 ^ s → ∃ l', putS l 1 [7] { Num := (m : Int), More := true, Size := (s : Int) } c (t : Int) = (l', [], false, 0) ∧ Shp l' (some (D ++ c))) ∧
    (c.length ≤ 16 * 2 ^ s → 0 < c.length → ∃ l', putS l 1 [7] { Num := (m : Int), More := false, Size := (s : Int) } c (t : Int) = (l', D ++ c, true, 0)) := by
  have hsn : ∀ q, sndB { Num := (m : Int), More := q, Size := (s : Int) } = true := fun q => sndB_iff.2 ⟨by simp, by simp only; omega, by simp, by simp only; omega⟩
  have ez : ((m : Int) == 0) = false := by rw [beq_eq_false_iff_ne]; omega
  have hva := h.valid (by intro D' h; cases h; omega)
  constructor
  · intro hc
    rw [putS_ok hva (by omega) (by omega) (by simp) (hsn true) (by omega) (by omega)]
    simp only [Int.toNat_natCast, ez]
    cases h with
    | a D u hu =>
      have ef : [pA D u].filter (keepB 1 [7] false t) = [pA D u] := by simp [List.filter, kAA (show (t : Int) < u by omega)]
      exact ⟨_, putC_old (ys := [pA D u]) (i := 0) (x := pA D u) ef hm hc rfl rfl hD hl, Shp.a (D ++ c) _ (by omega)⟩
    | ab D u E v hu hE hv =>
      have ef : [pA D u, pB E v].filter (keepB 1 [7] false t) = [pA D u, pB E v] := by simp [List.filter, kAA (show (t : Int) < u by omega), kAB (show (t : Int) < v by omega)]
      exact ⟨_, putC_old (ys := [pA D u, pB E v]) (i := 0) (x := pA D u) ef hm hc rfl rfl hD hl, Shp.ab (D ++ c) _ E v (by omega) hE hv⟩
    | ba D u E v hu hE hv =>
      have ef : [pB E v, pA D u].filter (keepB 1 [7] false t) = [pB E v, pA D u] := by simp [List.filter, kAA (show (t : Int) < u by omega), kAB (show (t : Int) < v by omega)]
      exact ⟨_, putC_old (ys := [pB E v, pA D u]) (i := 1) (x := pA D u) ef hm hc rfl rfl hD hl, Shp.ba (D ++ c) _ E v (by omega) hE hv⟩
  · intro hc h0
    rw [putS_ok hva (by omega) (by omega) (by simp) (hsn false) (by omega) (by omega)]
    simp only [Int.toNat_natCast, ez]
    cases h with
    | a D u hu =>
      have ef : [pA D u].filter (keepB 1 [7] false t) = [pA D u] := by simp [List.filter, kAA (show (t : Int) < u by omega)]
      exact ⟨_, putC_last (ys := [pA D u]) (i := 0) (x := pA D u) ef hm hc h0 rfl rfl hD hl⟩
    | ab D u E v hu hE hv =>
      have ef : [pA D u, pB E v].filter (keepB 1 [7] false t) = [pA D u, pB E v] := by simp [List.filter, kAA (show (t : Int) < u by omega), kAB (show (t : Int) < v by omega)]
      exact ⟨_, putC_last (ys := [pA D u, pB E v]) (i := 0) (x := pA D u) ef hm hc h0 rfl rfl hD hl⟩
    | ba D u E v hu hE hv =>
      have ef : [pB E v, pA D u].filter (keepB 1 [7] false t) = [pB E v, pA D u] := by simp [List.filter, kAA (show (t : Int) < u by omega), kAB (show (t : Int) < v by omega)]
      exact ⟨_, putC_last (ys := [pB E v, pA D u]) (i := 1) (x := pA D u) ef hm hc h0 rfl rfl hD hl⟩
/-- What a block of a body is. -/
theorem cut_spec (b : List UInt8) (n s : Nat) (hs : s ≤ 6) (hn : n ≤ 1048575) (hb : b.length ≤ 100000) (h : n * (16 * 2 ^ s) < b.length ∨ b.length = 0 ∧ n = 0) :
    m_block_Cut b (n : Int) (s : Int) = some ((b.take (min b.length (n * (16 * 2 ^ s) + 16 * 2 ^ s))).drop (n * (16 * 2 ^ s)), decide (min b.length (n * (16 * 2 ^ s) + 16 * 2 ^ s) < b.length), 0) := by
  unfold m_block_Cut
  have hsn : sndB { Num := (n : Int), More := false, Size := (s : Int) } = true := sndB_iff.2 ⟨by simp, by simp only; omega, by simp, by simp only; omega⟩
  have hp : 2 ^ s ≤ 2 ^ 6 := Nat.pow_le_pow_right (by omega) hs
  obtain ⟨e1, _⟩ := length_eq (s := s) (by omega)
  have hL : 16 * 2 ^ s ≤ 1024 := by omega
  simp only [sound_eq, hsn, bnd_some', letm, Bool.not_true, cond_false, e1]
  generalize 16 * 2 ^ s = L at hL h ⊢
  have hm : n * L ≤ 1048575 * 1024 := Nat.mul_le_mul hn hL
  have w1 : w64 ((n : Int) * (L : Int)) = ((n * L : Nat) : Int) := by rw [← Int.natCast_mul, w64_of (by omega) (by omega)]
  have w2 : w64 (((n * L : Nat) : Int) + (L : Int)) = ((n * L + L : Nat) : Int) := by rw [w64_of (by omega) (by omega)]; omega
  have w3 : w64 (((n * L : Nat) : Int) + (b.length : Int)) = ((n * L + b.length : Nat) : Int) := by rw [w64_of (by omega) (by omega)]; omega
  simp only [w1, w2, w3]
  have c1 : (bnd (cond (decide ((b.length : Int) ≤ ((n * L : Nat) : Int))) (some (decide ((0 : Int) < ((n * L + b.length : Nat) : Int)))) (some false) : Option Bool) fun y => some y) = some false := by
    rcases h with h | ⟨h1, h2⟩
    · have : decide ((b.length : Int) ≤ ((n * L : Nat) : Int)) = false := decide_eq_false (by omega)
      rw [this]; rfl
    · subst h2
      have : decide ((b.length : Int) ≤ ((0 * L : Nat) : Int)) = true := decide_eq_true (by omega)
      rw [this]
      have : decide ((0 : Int) < ((0 * L + b.length : Nat) : Int)) = false := decide_eq_false (by omega)
      rw [this]; rfl
  have c1' : (cond (decide ((b.length : Int) ≤ ((n * L : Nat) : Int))) (some (decide ((0 : Int) < ((n * L + b.length : Nat) : Int)))) (some false) : Option Bool) = some false := by
    revert c1; generalize (cond (decide ((b.length : Int) ≤ ((n * L : Nat) : Int))) (some (decide ((0 : Int) < ((n * L + b.length : Nat) : Int)))) (some false) : Option Bool) = o; cases o <;> exact id
  rw [c1']
  have hmin : min (b.length : Int) ((n * L + L : Nat) : Int) = ((min b.length (n * L + L) : Nat) : Int) := by omega
  simp only [bnd_some', cond_false, hmin]
  have hle : n * L ≤ min b.length (n * L + L) := by
    rcases h with h | ⟨h1, h2⟩
    · omega
    · subst h2; omega
  rw [cut_some' hle (by omega), bnd_some', clone_some (by simp; omega), bnd_some']
  congr 3
  simp
set_option maxHeartbeats 1000000 in
theorem whole_l1 (b : List UInt8) (a2 : Int) (d : S_coresecmake_Deck) (hb : b.length ≤ 600) : ∀ (n k s q : Nat) (l : List S_api_Partial) (e : S_coresecmake_Deck), 60 ≤ n + k → s ≤ 4 → 16 * k ≤ q → (q < b.length ∨ q = 0 ∧ k = 0) → q % (16 * 2 ^ s) = 0 → Dk ⟨d.L, e.At⟩ →
    Shp l (if q = 0 then none else some (b.take q)) → m_coreseclaw18_BlockWhole_l1 b a2 d n (s : Int) l (q : Int) (k : Int) e = some (Sum.inl true)
  | 0, k, s, q, l, e, hn, hs, hk, hq, hd, hD, hl => by omega
  | n + 1, k, s, q, l, e, hn, hs, hk, hq, hd, hD, hl => by
    rw [m_coreseclaw18_BlockWhole_l1]
    have hp : 2 ^ s ≤ 2 ^ 4 := Nat.pow_le_pow_right (by omega) hs
    have hp0 : 0 < 2 ^ s := Nat.pow_pos (by omega)
    have d0 : decide ((k : Int) < 60) = true := decide_eq_true (by omega)
    have w1 : w64 ((s : Int) + 4) = ((s + 4 : Nat) : Int) := by rw [w64_of (by omega) (by omega)]; rfl
    have e1 := toU64_nat (n := s + 4) (by omega)
    have hpow : 2 ^ (s + 4) = 16 * 2 ^ s := by rw [Nat.pow_add]; omega
    have e2 : shr (q : Int) ((s + 4 : Nat) : Int) = some ((q / (16 * 2 ^ s) : Nat) : Int) := by rw [shr_nat (by omega), hpow]
    obtain ⟨L, hLd⟩ : ∃ L, L = 16 * 2 ^ s := ⟨_, rfl⟩
    have hL1 : L ≤ 256 := by omega
    have hL0 : 16 ≤ L := by omega
    have hqm : q / (16 * 2 ^ s) * (16 * 2 ^ s) = q := Nat.div_mul_cancel (Nat.dvd_of_mod_eq_zero hd)
    have hmq : q / (16 * 2 ^ s) ≤ q := Nat.div_le_self _ _
    have hcut := cut_spec b (q / (16 * 2 ^ s)) s (by omega) (by omega) (by omega) (by rw [hqm]; rcases hq with h | ⟨h, _⟩; exact .inl h; rcases Nat.lt_or_ge 0 b.length with h' | h'; exact .inl (by omega); exact .inr ⟨by omega, by rw [h]; exact Nat.zero_div _⟩)
    rw [hqm] at hcut
    obtain ⟨y1, a1, q1, r1, s1, hD⟩ := next_some ⟨d.L, e.At⟩ hD (n := 2) (by omega) (by omega)
    obtain ⟨m, rfl⟩ : ∃ m : Nat, y1 = (m : Int) := ⟨y1.toNat, by omega⟩
    obtain ⟨c2, hc2, hl2⟩ := some_some a2 16 (by omega)
    have hput1 := put_spec l 2 [7] { Num := (m : Int), More := true, Size := 0 } c2 (k : Int) (by rw [hl2]; decide)
    have ho := other hl (by intro D h; split at h; cases h; cases h; simp; omega) m (by omega) c2 hl2 k (by omega)
    have hne : ((0 : Int) != 0) = false := rfl
    simp only [letm, d0, cond_true, w1, e1, e2, hcut, bnd_some', hne, cond_false, q1, hc2, hput1]
    generalize hl' : (cond ((putS l 2 [7] { Num := (m : Int), More := true, Size := 0 } c2 (k : Int)).2.2.2 == 0) (some (putS l 2 [7] { Num := (m : Int), More := true, Size := 0 } c2 (k : Int)).1) (some l) : Option (List S_api_Partial)) = ol
    obtain ⟨l2, rfl, hs2⟩ : ∃ l2, ol = some l2 ∧ Shp l2 (if q = 0 then none else some (b.take q)) := by
      by_cases h0 : (putS l 2 [7] { Num := (m : Int), More := true, Size := 0 } c2 (k : Int)).2.2.2 = 0
      · have : ((putS l 2 [7] { Num := (m : Int), More := true, Size := 0 } c2 (k : Int)).2.2.2 == 0) = true := by rw [h0]; rfl
        rw [this] at hl'
        exact ⟨_, hl'.symm, ho h0⟩
      · have : ((putS l 2 [7] { Num := (m : Int), More := true, Size := 0 } c2 (k : Int)).2.2.2 == 0) = false := beq_eq_false_iff_ne.2 h0
        rw [this] at hl'
        exact ⟨_, hl'.symm, hl⟩
    clear hl' ho hput1
    simp only [bnd_some']
    rw [← hLd] at hqm hd hcut hmq ⊢
    -- the block itself
    by_cases hlast : b.length ≤ q + L
    · -- the last one
      have hmin : min b.length (q + L) = b.length := by omega
      have dm : decide (min b.length (q + L) < b.length) = false := decide_eq_false (by omega)
      rw [dm, hmin, List.take_length]
      obtain ⟨l3, hp3⟩ : ∃ l', putS l2 1 [7] { Num := ((q / L : Nat) : Int), More := false, Size := (s : Int) } (b.drop q) (k : Int) = (l', b, true, 0) := by
        by_cases h0 : q = 0
        · subst h0
          rw [if_pos rfl] at hs2
          rw [Nat.zero_div, List.drop_zero]
          exact (mine0 hs2 s (by omega) b k (by omega)).2 (by omega)
        · rw [if_neg h0] at hs2
          have hqL : 0 < q / L := by
            rcases Nat.eq_zero_or_pos (q / L) with h | h
            · rw [h, Nat.zero_mul] at hqm; omega
            · exact h
          obtain ⟨l', h⟩ := (mine1 hs2 s (q / L) (by omega) hqL (by omega) (b.drop q) k (by omega) (by rw [← hLd, hqm]; simp; omega) (by rw [← hLd]; simp; omega)).2 (by rw [← hLd]; simp; omega) (by simp; omega)
          rw [List.take_append_drop] at h
          exact ⟨l', h⟩
      rw [put_spec _ _ _ _ _ _ (by simp; omega), hp3]
      simp [bnd_some', awake_true, bnd]
    · have hmin : min b.length (q + L) = q + L := by omega
      have dm : decide (min b.length (q + L) < b.length) = true := decide_eq_true (by omega)
      rw [dm, hmin]
      have hcl : ((b.take (q + L)).drop q).length = L := by simp; omega
      obtain ⟨l3, hp3, hs3⟩ : ∃ l', putS l2 1 [7] { Num := ((q / L : Nat) : Int), More := true, Size := (s : Int) } ((b.take (q + L)).drop q) (k : Int) = (l', [], false, 0) ∧ Shp l' (some (b.take (q + L))) := by
        by_cases h0 : q = 0
        · subst h0
          rw [if_pos rfl] at hs2
          rw [Nat.zero_div, List.drop_zero]
          exact (mine0 hs2 s (by omega) _ k (by omega)).1 (by rw [← hLd]; simp; omega)
        · rw [if_neg h0] at hs2
          have hqL : 0 < q / L := by
            rcases Nat.eq_zero_or_pos (q / L) with h | h
            · rw [h, Nat.zero_mul] at hqm; omega
            · exact h
          obtain ⟨l', h, h'⟩ := (mine1 hs2 s (q / L) (by omega) hqL (by omega) ((b.take (q + L)).drop q) k (by omega) (by rw [← hLd, hqm]; simp; omega) (by rw [← hLd]; simp; omega)).1 (by rw [← hLd]; exact hcl)
          have e : b.take q ++ (b.take (q + L)).drop q = b.take (q + L) := by
            have : b.take q = (b.take (q + L)).take q := by rw [List.take_take, Nat.min_eq_left (by omega)]
            rw [this, List.take_append_drop]
          rw [e] at h'
          exact ⟨l', h, h'⟩
      rw [put_spec _ _ _ _ _ _ (by rw [hcl]; omega), hp3]
      have w2 : w64 ((q : Int) + (L : Int)) = ((q + L : Nat) : Int) := by rw [w64_of (by omega) (by omega)]; rfl
      have w3 : w64 ((k : Int) + 1) = ((k + 1 : Nat) : Int) := by rw [w64_of (by omega) (by omega)]; rfl
      have hd2 : (q + L) % L = 0 := by rw [Nat.add_mod_right]; exact hd
      have hb1 : (false == true) = false := rfl
      simp only [bnd_some', hne, cond_false, hb1, hcl, w2]
      have hs3' : Shp l3 (if q + L = 0 then none else some (b.take (q + L))) := by rw [if_neg (by omega)]; exact hs3
      by_cases hs0 : 0 < s
      · have ds : decide (0 < (s : Int)) = true := decide_eq_true (by omega)
        obtain ⟨y2, a2', q2, r2, s2, hD⟩ := next_some ⟨d.L, a1⟩ hD (n := 3) (by omega) (by omega)
        simp only [ds, cond_true, q2, bnd_some']
        cases y2 == 0 with
        | true =>
          simp only [cond_true]
          have w4 : w64 ((s : Int) - 1) = ((s - 1 : Nat) : Int) := by rw [w64_of (by omega) (by omega)]; omega
          rw [w4, w3]
          refine whole_l1 b a2 d hb n (k + 1) (s - 1) (q + L) l3 ⟨d.L, a2'⟩ (by omega) (by omega) (by omega) (.inl (by omega)) ?_ hD hs3'
          have e3 : L = (16 * 2 ^ (s - 1)) * 2 := by
            rw [hLd]
            have : 2 ^ s = 2 ^ (s - 1) * 2 := by rw [← Nat.pow_succ]; congr 1; omega
            rw [this]; omega
          exact Nat.mod_eq_zero_of_dvd (Nat.dvd_trans ⟨2, e3⟩ (Nat.dvd_of_mod_eq_zero hd2))
        | false =>
          simp only [cond_false]
          rw [w3]
          exact whole_l1 b a2 d hb n (k + 1) s (q + L) l3 ⟨d.L, a2'⟩ (by omega) (by omega) (by omega) (.inl (by omega)) (by rw [← hLd]; exact hd2) hD hs3'
      · have ds : decide (0 < (s : Int)) = false := decide_eq_false (by omega)
        simp only [ds, cond_false, bnd_some']
        rw [w3]
        exact whole_l1 b a2 d hb n (k + 1) s (q + L) l3 ⟨d.L, a1⟩ (by omega) (by omega) (by omega) (.inl (by omega)) (by rw [← hLd]; exact hd2) hD hs3'
theorem BlockWhole_true (a0 : List UInt8) (a1 : List Int) (a2 a3 : Int) (h1 : a1.length ≤ 9223372036854775807) : m_coreseclaw18_BlockWhole a0 a1 a2 a3 = some true := by
  unfold m_coreseclaw18_BlockWhole
  by_cases c : 600 < (a0.length : Int)
  · simp only [letm, decide_eq_true c, cond_true, awake_true, bnd_some']
  · obtain ⟨y, hy, g1, g2⟩ := mod_some a3 (m := 5) (by omega) (by omega)
    obtain ⟨s, rfl⟩ : ∃ s : Nat, y = (s : Int) := ⟨y.toNat, by omega⟩
    have e0 : m_coresecmake_New a1 = some ⟨a1, 0⟩ := rfl
    have := whole_l1 a0 a2 ⟨a1, 0⟩ (by omega) ((60 - (0 : Int)).toNat + 2) 0 s 0 [] ⟨a1, 0⟩ (by decide) (by omega) (by omega) (.inr ⟨rfl, rfl⟩) (Nat.zero_mod _) ⟨by simp, by simp, h1⟩ (by rw [if_pos rfl]; exact Shp.e)
    rw [show (((0 : Nat) : Int)) = 0 from rfl] at this
    simp only [letm, decide_eq_false c, cond_false, e0, bnd_some', hy]
    rw [this]; rfl
end Go.Proofs.Ytaefnnamjphieaa
