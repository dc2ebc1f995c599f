/-
  The library's stable sort (sort.stable_func and what it calls), of however many elements, over whatever state: 'less' and 'swap' are told by what they do to a predicate on worlds; what is left is a permutation, in order. No condition; nothing here speaks of a program.
-/
import Derived.Shelf.GgSortMore.Stable
namespace Go.Gk
open Go Go.Proofs Go.Shelf Go.RowKit Go.Lib Go.Sort
section

/-- Blocks from number base on are as they were. -/
def Kp (base : Nat) (W W' : World) : Prop := W.heap.size ≤ W'.heap.size ∧ ∀ b, base ≤ b → b < W.heap.size → W'.heap[b]? = W.heap[b]?
theorem Kp.refl {base : Nat} {W : World} : Kp base W W := ⟨Nat.le_refl _, fun _ _ _ => rfl⟩
theorem Kp.trans {base : Nat} {W V U : World} (h : Kp base W V) (h2 : Kp base V U) : Kp base W U :=
  ⟨Nat.le_trans h.1 h2.1, fun b hb hl => (h2.2 b hb (Nat.lt_of_lt_of_le hl h.1)).trans (h.2 b hb hl)⟩
theorem Kp.alloc {base : Nat} {W : World} (o : Obj) : Kp base W (W.alloc o) := ⟨by simp, fun b _ hl => Below.heap_alloc W o b hl⟩
theorem Kp.drewN {base : Nat} {W : World} (q : Nat) : Kp base W (W.drewN q) := ⟨Nat.le_refl _, fun _ _ _ => rfl⟩
theorem Kp.cell {base : Nat} {W W' : World} (h : Kp base W W') {b k : Nat} {v : Value} (hb : base ≤ b) (hc : W.cell? ⟨b, k, none⟩ = some v) : W'.cell? ⟨b, k, none⟩ = some v := by
  have hlt : b < W.heap.size := block_lt_of_cell hc
  rw [World.cell?_of_block (w := W) (h.2 b hb hlt)]; exact hc

/-- What the sort is asked: a state that tells which elements the row holds; what 'less' and 'swap' do to it. -/
structure SoSt {α : Type} [Inhabited α] (P : Program) (lt : α → α → Bool) (g : Nat) (lb : Array Value) (sf : Nat) (sb : Array Value) (n base : Nat) (St : Array α → World → Prop) : Prop where
  size : ∀ d W, St d W → d.size = n ∧ base ≤ W.heap.size
  alloc : ∀ d W o, St d W → St d (W.alloc o)
  drew : ∀ d W q, St d W → St d (W.drewN q)
  less : ∀ d W i j, St d W → i < n → j < n → Calls P g (#[.int .i64 (i : Nat), .int .i64 (j : Nat)] ++ lb) W fun e W' => e = .returned (.bool (lt d[i]! d[j]!)) ∧ St d W' ∧ Kp base W W'
  swap : ∀ d W i j, St d W → i < n → j < n → ∃ W', (callFunc sf (#[.int .i64 (i : Nat), .int .i64 (j : Nat)] ++ sb)).run P W = .ok (.value (.tuple #[])) W' ∧ St (swp d i j) W' ∧ Kp base W W'

variable {P : Program} {ρ : Ren} {α : Type} [Inhabited α]

set_option maxHeartbeats 2000000 in
set_option maxRecDepth 100000 in
theorem ins_ok (L : LaysGt.n29 P ρ) {lt : α → α → Bool} {g : Nat} {lb : Array Value} {sf : Nat} {sb : Array Value} {n base : Nat} {St : Array α → World → Prop}
    (eg : ∀ args w, (callFunc g args).run P w = .ok (.enter g args) w) (S : SoSt P lt g lb sf sb n base St) (a b : Nat) (hab : a ≤ b) (hb : b ≤ n) (hn : n < 4611686018427387904) (d : Array α) (w : World) (hS : St d w) :
    Calls P (ρ.f 29) #[.agg #[.func (.func g) #[] lb, .func (.func sf) #[] sb], .int .i64 a, .int .i64 b] w fun e w' =>
      e = .returned (.tuple #[]) ∧ St (Sort.insertionSort lt d a b) w' ∧ Kp base w w' := by
  have mixed := L.mixed; have t0 := L.t0; have a0 := L.a0; have z0 := L.z0; have v0 := L.v0; have t3 := L.t3; have a3 := L.a3; have z3 := L.z3; have v3 := L.v3; have t4 := L.t4; have a4 := L.a4; have z4 := L.z4; have v4 := L.v4; have t26 := L.t26; have a26 := L.a26; have z26 := L.z26; have v26 := L.v26; have t38 := L.t38; have a38 := L.a38; have z38 := L.z38; have v38 := L.v38; have t42 := L.t42; have a42 := L.a42; have z42 := L.z42; have v42 := L.v42
  have u42 := run_underlying L.t42
  have hw0 := (S.size _ _ hS).2
  have hS1 := S.alloc _ _ (.cells #[.func (.func g) #[] lb, .func (.func sf) #[] sb] (ρ.t 42)) hS
  go_enter L.f29, BodyGt.n29_ntmps ρ
  go_wp2
  go_loopw [6] (fun vi wr => ∃ (i : Nat) (dk : Array α), vi = .int .i64 i ∧ a < i ∧ i ≤ b + 1 ∧ St dk wr ∧ Kp base (w.alloc (.cells #[.func (.func g) #[] lb, .func (.func sf) #[] sb] (ρ.t 42))) wr ∧
      insOuter lt a b i dk = insOuter lt a b (a + 1) d) (fun vi _ => b + 1 - (Proofs.intOf vi).toNat)
  case atStart => exact ⟨a + 1, d, by go_num, by omega, by omega, hS1, Kp.refl, rfl⟩
  case round =>
    obtain ⟨i, dk, rfl, hai, hib, hst, hkp, hO⟩ := hrel
    have HO : Hid (insOuter lt a b i dk = insOuter lt a b (a + 1) d) := hO
    clear hO
    go_wp2
    · -- i < b: the inner loop
      go_loopw [7] (fun vj wr2 => ∃ (j : Nat) (dj : Array α), vj = .int .i64 j ∧ a ≤ j ∧ j ≤ i ∧ St dj wr2 ∧ Kp base (w.alloc (.cells #[.func (.func g) #[] lb, .func (.func sf) #[] sb] (ρ.t 42))) wr2 ∧
          insInner lt a j dj = insInner lt a i dk) (fun vj _ => (Proofs.intOf vj).toNat)
      case atStart => exact ⟨i, dk, rfl, by omega, Nat.le_refl _, hst, hkp, rfl⟩
      case round =>
        obtain ⟨j, dj, rfl, haj, hji, hst2, hkp2, hI⟩ := hrel
        have hlt : i < b := by assumption
        have c0 : wr.cell? ⟨w.heap.size, 0, none⟩ = some (.func (.func g) #[] lb) := hkp2.cell hw0 (by simp)
        have c1 : wr.cell? ⟨w.heap.size, 1, none⟩ = some (.func (.func sf) #[] sb) := hkp2.cell hw0 (by simp)
        have HI : Hid (insInner lt a j dj = insInner lt a i dk) := hI
        clear hI
        have out : (j ≤ a ∨ lt dj[j]! dj[j - 1]! = false) → ∀ W', St dj W' → Kp base wr W' → ∃ i' dk', Value.int .i64 ((i : Int) + 1) = .int .i64 (i' : Nat) ∧ a < i' ∧ i' ≤ b + 1 ∧ St dk' W' ∧
            Kp base (w.alloc (.cells #[.func (.func g) #[] lb, .func (.func sf) #[] sb] (ρ.t 42))) W' ∧ insOuter lt a b i' dk' = insOuter lt a b (a + 1) d := fun hs W' h1 h2 =>
          ⟨i + 1, dj, by go_num, by omega, by omega, h1, hkp2.trans h2, by rw [← HO.out, insOuter_go _ _ _ _ _ hlt, ← HI.out, insInner_stop _ _ _ _ hs]⟩
        have OUT : Hid _ := out
        clear out
        by_cases hja : a < j
        · have hl := S.less dj wr j (j - 1) hst2 (by omega) (by omega)
          rw [show (((j - 1 : Nat) : Int)) = (j : Int) - 1 by omega] at hl
          cases hlv : lt dj[j]! dj[j - 1]! with
          | true =>
            rw [hlv] at hl
            go_wp2_with (go_at_fn g; refine hl.mono ?_; rintro e w' ⟨rfl, hs1, hk1⟩; have c1' := hk1.cell hw0 c1)
            obtain ⟨w2, hs, hs2, hk2⟩ := S.swap dj w' j (j - 1) hs1 (by omega) (by omega)
            rw [show (((j - 1 : Nat) : Int)) = (j : Int) - 1 by omega] at hs
            rw [hs, Oper.upon_value]
            go_wp2
            go_roundw
            case rel =>
              (repeat apply Exists.intro)
              refine ⟨⟨j - 1, swp dj j (j - 1), by congr 1 <;> omega, by omega, by omega, hs2, hkp2.trans (hk1.trans hk2), ?_⟩, by rw [decide_eq_true hlt, show ((j - 1 : Nat) : Int) = (j : Int) - 1 by omega]⟩
              rw [← HI.out, insInner_go lt a j dj hja hlv]
            case measure => simp [Proofs.intOf]; omega
          | false =>
            rw [hlv] at hl
            go_wp2_with (go_at_fn g; refine hl.mono ?_; rintro e w' ⟨rfl, hs1, hk1⟩)
            go_roundw
            case rel => exact OUT.out (Or.inr hlv) w' hs1 hk1
            case measure => simp [Proofs.intOf]; omega
        · go_wp2
          go_roundw
          case rel => exact OUT.out (Or.inl (by omega)) _ hst2 Kp.refl
          case measure => simp [Proofs.intOf]; omega
    · -- the outer loop is at its end
      have hge : ¬ i < b := by assumption
      go_end0
      refine ⟨rfl, ?_, (Kp.alloc _).trans hkp⟩
      unfold Sort.insertionSort; rw [← HO.out, insOuter_stop _ _ _ _ _ hge]; exact hst
end
section
variable {P : Program} {ρ : Ren} {α : Type} [Inhabited α]

set_option maxHeartbeats 1600000 in
set_option maxRecDepth 100000 in
theorem stable_lt (L : LaysGt.n15 P ρ) {lt : α → α → Bool} {g : Nat} {lb : Array Value} {sf : Nat} {sb : Array Value} {n base : Nat} {St : Array α → World → Prop}
    (eg : ∀ args w, (callFunc g args).run P w = .ok (.enter g args) w) (S : SoSt P lt g lb sf sb n base St) (hn : n < 20) (d : Array α) (W : World) (hS : St d W) :
    Calls P (ρ.f 15) #[.agg #[.func (.func g) #[] lb, .func (.func sf) #[] sb], .int .i64 n] W fun e w' => e = .returned (.tuple #[]) ∧ St (Sort.insertionSort lt d 0 n) w' ∧ Kp base W w' := by
  have mixed := L.mixed; have t0 := L.t0; have a0 := L.a0; have z0 := L.z0; have v0 := L.v0; have t3 := L.t3; have a3 := L.a3; have z3 := L.z3; have v3 := L.v3; have t4 := L.t4; have a4 := L.a4; have z4 := L.z4; have v4 := L.v4; have t26 := L.t26; have a26 := L.a26; have z26 := L.z26; have v26 := L.v26; have t38 := L.t38; have a38 := L.a38; have z38 := L.z38; have v38 := L.v38; have t42 := L.t42; have a42 := L.a42; have z42 := L.z42; have v42 := L.v42; have t47 := L.t47; have a47 := L.a47; have z47 := L.z47; have v47 := L.v47
  have u42 := run_underlying L.t42
  have e29 : ∀ args w, (callFunc (ρ.f 29) args).run P w = .ok (.enter (ρ.f 29) args) w := enters_of L.f29 (by kernel_rfl) rfl
  have hS1 := S.alloc _ _ (.cells #[.func (.func g) #[] lb, .func (.func sf) #[] sb] (ρ.t 42)) hS
  have hc := ins_ok ({ L with } : LaysGt.n29 P ρ) eg S 0 n (Nat.zero_le _) (Nat.le_refl _) (by omega) d _ hS1
  clear hS hS1
  go_enter L.f15, BodyGt.n15_ntmps ρ
  go_wp2
  refine wp_loop_rounds 1 ?_
  rw [rounds_succ]
  go_wp2_with (go_at_fn (ρ.f 29); refine hc.mono ?_; rintro e w1 ⟨rfl, h1, h2⟩)
  refine wp_loop_rounds 1 ?_
  rw [rounds_succ]
  go_wp2
  all_goals first | (exfalso; omega) | (go_end0; exact ⟨rfl, h1, (Kp.alloc _).trans h2⟩)

set_option maxHeartbeats 1600000 in
set_option maxRecDepth 100000 in
theorem stable_at (L : LaysGt.n15 P ρ) {lt : α → α → Bool} {g : Nat} {lb : Array Value} {sf : Nat} {sb : Array Value} {n base : Nat} {St : Array α → World → Prop}
    (eg : ∀ args w, (callFunc g args).run P w = .ok (.enter g args) w) (S : SoSt P lt g lb sf sb n base St) (hn : n = 20) (d : Array α) (W : World) (hS : St d W) :
    Calls P (ρ.f 15) #[.agg #[.func (.func g) #[] lb, .func (.func sf) #[] sb], .int .i64 n] W fun e w' => e = .returned (.tuple #[]) ∧ St (Sort.insertionSort lt d 0 n) w' ∧ Kp base W w' := by
  have mixed := L.mixed; have t0 := L.t0; have a0 := L.a0; have z0 := L.z0; have v0 := L.v0; have t3 := L.t3; have a3 := L.a3; have z3 := L.z3; have v3 := L.v3; have t4 := L.t4; have a4 := L.a4; have z4 := L.z4; have v4 := L.v4; have t26 := L.t26; have a26 := L.a26; have z26 := L.z26; have v26 := L.v26; have t38 := L.t38; have a38 := L.a38; have z38 := L.z38; have v38 := L.v38; have t42 := L.t42; have a42 := L.a42; have z42 := L.z42; have v42 := L.v42; have t47 := L.t47; have a47 := L.a47; have z47 := L.z47; have v47 := L.v47
  have u42 := run_underlying L.t42
  have e29 : ∀ args w, (callFunc (ρ.f 29) args).run P w = .ok (.enter (ρ.f 29) args) w := enters_of L.f29 (by kernel_rfl) rfl
  have hw0 := (S.size _ _ hS).2
  have hS1 := S.alloc _ _ (.cells #[.func (.func g) #[] lb, .func (.func sf) #[] sb] (ρ.t 42)) hS
  have hc := ins_ok ({ L with } : LaysGt.n29 P ρ) eg S 0 n (Nat.zero_le _) (Nat.le_refl _) (by omega) d _ hS1
  have hno : ∀ w1 d1, St d1 w1 → Calls P (ρ.f 29) #[.agg #[.func (.func g) #[] lb, .func (.func sf) #[] sb], .int .i64 (20 : Nat), .int .i64 (20 : Nat)] w1 fun e w' => e = .returned (.tuple #[]) ∧ St d1 w' ∧ Kp base w1 w' := fun w1 d1 h1 => by
    refine (ins_ok ({ L with } : LaysGt.n29 P ρ) eg S 20 20 (Nat.le_refl _) (by omega) (by omega) d1 _ h1).mono ?_
    rintro e w' ⟨rfl, h2, h3⟩
    refine ⟨rfl, ?_, h3⟩
    rw [show Sort.insertionSort lt d1 20 20 = d1 by unfold Sort.insertionSort; exact insOuter_stop _ _ _ _ _ (by omega)] at h2
    exact h2
  have c0 : (W.alloc (.cells #[.func (.func g) #[] lb, .func (.func sf) #[] sb] (ρ.t 42))).cell? ⟨W.heap.size, 0, none⟩ = some (.func (.func g) #[] lb) := by simp
  have c1 : (W.alloc (.cells #[.func (.func g) #[] lb, .func (.func sf) #[] sb] (ρ.t 42))).cell? ⟨W.heap.size, 1, none⟩ = some (.func (.func sf) #[] sb) := by simp
  subst hn
  clear hS hS1
  go_enter L.f15, BodyGt.n15_ntmps ρ
  go_wp2
  refine wp_loop_rounds 2 ?_
  rw [rounds_succ]
  go_wp2_with (go_at_fn_of (ρ.f 29) (Value.int .i64 0); refine hc.mono ?_; rintro e w1 ⟨rfl, h1, h2⟩; have c0' := h2.cell hw0 c0; have c1' := h2.cell hw0 c1)
  rw [rounds_succ]
  go_wp2_with (go_at_fn (ρ.f 29); refine (hno _ _ h1).mono ?_; rintro e w2 ⟨rfl, h3, h4⟩)
  refine wp_loop_rounds 1 ?_
  rw [rounds_succ]
  go_wp2
  go_end0
  exact ⟨rfl, h3, (Kp.alloc _).trans (h2.trans h4)⟩
end
section
variable {α : Type} [Inhabited α]

/-- The ranges from x and from y on, k elements long, exchanged. -/
def swF (d : Array α) (x y : Nat) : Nat → Array α
  | 0 => d
  | k + 1 => swp (swF d x y k) (x + k) (y + k)
theorem swF_size (d : Array α) (x y : Nat) : ∀ k, (swF d x y k).size = d.size
  | 0 => rfl
  | k + 1 => by rw [swF, size_swp, swF_size d x y k]
theorem swF_get {d : Array α} {x y : Nat} : ∀ {k : Nat}, x + k ≤ y → y + k ≤ d.size → ∀ t, (swF d x y k)[t]! = if x ≤ t ∧ t < x + k then d[t - x + y]! else if y ≤ t ∧ t < y + k then d[t - y + x]! else d[t]!
  | 0, _, _, t => by rw [if_neg (by omega), if_neg (by omega)]; rfl
  | k + 1, h1, h2, t => by
    have ih := @swF_get d x y k (by omega) (by omega)
    rw [swF, swp_get _ (by rw [swF_size]; omega) (by rw [swF_size]; omega)]
    by_cases a : t = y + k
    · subst a
      rw [if_pos rfl, ih, if_neg (by omega), if_neg (by omega), if_neg (by omega), if_pos (by omega)]
      congr 1; omega
    · rw [if_neg a]
      by_cases b : t = x + k
      · subst b
        rw [if_pos rfl, ih, if_neg (by omega), if_neg (by omega), if_pos (by omega)]
        congr 1; omega
      · rw [if_neg b, ih]
        by_cases c : x ≤ t ∧ t < x + k
        · rw [if_pos c, if_pos (by omega)]
        · rw [if_neg c, if_neg (by omega : ¬ (x ≤ t ∧ t < x + (k + 1)))]
          by_cases e : y ≤ t ∧ t < y + k
          · rw [if_pos e, if_pos (by omega)]
          · rw [if_neg e, if_neg (by omega)]
theorem swF_perm {d : Array α} {x y a b : Nat} : ∀ {k : Nat}, a ≤ x → x + k ≤ b → a ≤ y → y + k ≤ b → b ≤ d.size → PermIn a b d (swF d x y k)
  | 0, _, _, _, _, _ => permIn_refl _ _ _
  | k + 1, h1, h2, h3, h4, h5 => permIn_trans _ _ _ _ _ (swF_perm h1 (by omega) h3 (by omega) h5) (swp_permIn _ _ _ _ _ (by omega) (by omega) (by omega) (by omega) (by rw [swF_size]; omega))

/-- 'x u v y' becomes 'x v u y', u = [a, m), v = [m, b). -/
def Rot (a m b : Nat) (d d' : Array α) : Prop := d'.size = d.size ∧ ∀ t, d'[t]! = if a ≤ t ∧ t < a + (b - m) then d[t + (m - a)]! else if a + (b - m) ≤ t ∧ t < b then d[t - (b - m)]! else d[t]!
theorem Rot.same {d : Array α} {i m : Nat} (h1 : i ≤ m) (h2 : m + i ≤ d.size) : Rot (m - i) m (m + i) d (swF d (m - i) m i) := by
  refine ⟨swF_size _ _ _ _, fun t => ?_⟩
  rw [swF_get (by omega) (by omega)]
  by_cases a : m - i ≤ t ∧ t < m - i + i
  · rw [if_pos a, if_pos (by omega)]; congr 1; omega
  · rw [if_neg a]
    by_cases b : m ≤ t ∧ t < m + i
    · rw [if_pos b, if_neg (by omega), if_pos (by omega)]; congr 1; omega
    · rw [if_neg b, if_neg (by omega), if_neg (by omega)]
theorem Rot.gt {d d' : Array α} {i j m : Nat} (hi : i ≤ m) (hb : m + j ≤ d.size) (hj : 0 < j) (hij : j < i) (h : Rot (m - (i - j)) m (m + j) (swF d (m - i) m j) d') : Rot (m - i) m (m + j) d d' := by
  refine ⟨h.1.trans (swF_size _ _ _ _), fun t => ?_⟩
  rw [h.2 t]
  have g := @swF_get α _ d (m - i) m j (by omega) (by omega)
  by_cases a : m - i ≤ t ∧ t < m - i + (m + j - m)
  · rw [if_pos a, if_neg (by omega), if_neg (by omega), g, if_pos (by omega)]; congr 1; omega
  · rw [if_neg a]
    by_cases b : m - i + (m + j - m) ≤ t ∧ t < m + j
    · rw [if_pos b]
      by_cases c : m - (i - j) ≤ t ∧ t < m - (i - j) + (m + j - m)
      · rw [if_pos c, g, if_neg (by omega), if_pos (by omega)]; congr 1; omega
      · rw [if_neg c, if_pos (by omega), g, if_neg (by omega), if_neg (by omega)]
    · rw [if_neg b, if_neg (by omega), if_neg (by omega), g, if_neg (by omega), if_neg (by omega)]
theorem Rot.lt {d d' : Array α} {i j m : Nat} (hi : i ≤ m) (hb : m + j ≤ d.size) (h0 : 0 < i) (hij : i < j) (h : Rot (m - i) m (m + (j - i)) (swF d (m - i) (m + j - i) i) d') : Rot (m - i) m (m + j) d d' := by
  refine ⟨h.1.trans (swF_size _ _ _ _), fun t => ?_⟩
  rw [h.2 t]
  have g := @swF_get α _ d (m - i) (m + j - i) i (by omega) (by omega)
  by_cases a : m - i ≤ t ∧ t < m - i + (m + j - m)
  · rw [if_pos a]
    by_cases c : m - i ≤ t ∧ t < m - i + (m + (j - i) - m)
    · rw [if_pos c, g, if_neg (by omega)]
      by_cases e : t + (m - (m - i)) < m + j - i
      · rw [if_neg (by omega)]
      · omega
    · rw [if_neg c]
      by_cases e : m - i + (m + (j - i) - m) ≤ t ∧ t < m + (j - i)
      · rw [if_pos e, g, if_pos (by omega)]; congr 1; omega
      · omega
  · rw [if_neg a]
    by_cases b : m - i + (m + j - m) ≤ t ∧ t < m + j
    · rw [if_pos b, if_neg (by omega), if_neg (by omega), g, if_neg (by omega), if_pos (by omega)]; congr 1; omega
    · rw [if_neg b, if_neg (by omega), if_neg (by omega), g, if_neg (by omega), if_neg (by omega)]
end
section
variable {α : Type} [Inhabited α] {lt : α → α → Bool}

theorem SortedIn.le (hO : SWO lt) {a b i j : Nat} {d : Array α} (h : SortedIn lt a b d) (h1 : a ≤ i) (h2 : i ≤ j) (h3 : j < b) : lt d[j]! d[i]! = false := by
  rcases Nat.lt_or_ge i j with hl | hl
  · exact h i j h1 hl h3
  · have : i = j := by omega
    subst this; exact hO.irrefl _

/-! ### One element moved to its place -/
def mvR (d : Array α) (a : Nat) : Nat → Array α
  | 0 => d
  | q + 1 => swp (mvR d a q) (a + q) (a + q + 1)
theorem mvR_size (d : Array α) (a : Nat) : ∀ q, (mvR d a q).size = d.size
  | 0 => rfl
  | q + 1 => by rw [mvR, size_swp, mvR_size d a q]
theorem mvR_get {d : Array α} {a : Nat} : ∀ {q : Nat}, a + q < d.size → ∀ t, (mvR d a q)[t]! = if a ≤ t ∧ t < a + q then d[t + 1]! else if t = a + q then d[a]! else d[t]!
  | 0, _, t => by
    rw [if_neg (by omega)]
    by_cases h : t = a + 0
    · rw [if_pos h, h]; rfl
    · rw [if_neg h]; rfl
  | q + 1, h1, t => by
    have ih := @mvR_get d a q (by omega)
    rw [mvR, swp_get _ (by rw [mvR_size]; omega) (by rw [mvR_size]; omega)]
    by_cases a1 : t = a + q + 1
    · rw [if_pos a1, ih, if_neg (by omega), if_pos rfl, if_neg (by omega), if_pos (by omega)]
    · rw [if_neg a1]
      by_cases b1 : t = a + q
      · rw [if_pos b1, ih, if_neg (by omega), if_neg (by omega), if_pos (by omega)]
        congr 1; omega
      · rw [if_neg b1, ih]
        by_cases c : a ≤ t ∧ t < a + q
        · rw [if_pos c, if_pos (by omega)]
        · rw [if_neg c, if_neg b1, if_neg (by omega), if_neg (by omega)]
theorem mvR_perm {d : Array α} {a b : Nat} : ∀ {q : Nat}, a + q < b → b ≤ d.size → PermIn a b d (mvR d a q)
  | 0, _, _ => permIn_refl _ _ _
  | q + 1, h1, h2 => permIn_trans _ _ _ _ _ (mvR_perm (by omega) h2) (swp_permIn _ _ _ _ _ (by omega) (by omega) (by omega) (by omega) (by rw [mvR_size]; omega))
def mvL (d : Array α) (m : Nat) : Nat → Array α
  | 0 => d
  | q + 1 => swp (mvL d m q) (m - q) (m - q - 1)
theorem mvL_size (d : Array α) (m : Nat) : ∀ q, (mvL d m q).size = d.size
  | 0 => rfl
  | q + 1 => by rw [mvL, size_swp, mvL_size d m q]
theorem mvL_get {d : Array α} {m : Nat} (hm : m < d.size) : ∀ {q : Nat}, q ≤ m → ∀ t, (mvL d m q)[t]! = if m - q < t ∧ t ≤ m then d[t - 1]! else if t = m - q then d[m]! else d[t]!
  | 0, _, t => by
    rw [if_neg (by omega)]
    by_cases h : t = m - 0
    · rw [if_pos h, h]; rfl
    · rw [if_neg h]; rfl
  | q + 1, h1, t => by
    have ih := @mvL_get d m hm q (by omega)
    rw [mvL, swp_get _ (by rw [mvL_size]; omega) (by rw [mvL_size]; omega)]
    by_cases a1 : t = m - q - 1
    · rw [if_pos a1, ih, if_neg (by omega), if_pos rfl, if_neg (by omega), if_pos (by omega)]
    · rw [if_neg a1]
      by_cases b1 : t = m - q
      · rw [if_pos b1, ih, if_neg (by omega), if_neg (by omega), if_pos (by omega)]
        congr 1; omega
      · rw [if_neg b1, ih]
        by_cases c : m - q < t ∧ t ≤ m
        · rw [if_pos c, if_pos (by omega)]
        · rw [if_neg c, if_neg b1, if_neg (by omega), if_neg (by omega)]
theorem mvL_perm {d : Array α} {m a b : Nat} : ∀ {q : Nat}, a + q ≤ m → m < b → b ≤ d.size → PermIn a b d (mvL d m q)
  | 0, _, _, _ => permIn_refl _ _ _
  | q + 1, h1, h2, h3 => permIn_trans _ _ _ _ _ (mvL_perm (by omega) h2 h3) (swp_permIn _ _ _ _ _ (by omega) (by omega) (by omega) (by omega) (by rw [mvL_size]; omega))
/-- data[a] put into [a + 1, b), ahead of place i. -/
theorem mvR_sorted (hO : SWO lt) {d : Array α} {a i b : Nat} (hs : SortedIn lt (a + 1) b d) (h1 : a + 1 ≤ i) (h2 : i ≤ b) (hb : b ≤ d.size) (hl : ∀ t, a + 1 ≤ t → t < i → lt d[t]! d[a]! = true) (hr : ∀ t, i ≤ t → t < b → lt d[t]! d[a]! = false) :
    SortedIn lt a b (mvR d a (i - 1 - a)) := by
  intro p q hp hpq hq
  have g := @mvR_get α _ d a (i - 1 - a) (by omega)
  rw [g p, g q]
  have asy : ∀ x y, lt x y = true → lt y x = false := fun x y h => by
    cases h2 : lt y x with
    | false => rfl
    | true => have := hO.trans x y x h h2; rw [hO.irrefl] at this; cases this
  by_cases c1 : a ≤ q ∧ q < a + (i - 1 - a)
  · rw [if_pos c1, if_pos (by omega)]; exact hs _ _ (by omega) (by omega) (by omega)
  · rw [if_neg c1]
    by_cases c2 : q = a + (i - 1 - a)
    · rw [if_pos c2, if_pos (by omega)]; exact asy _ _ (hl _ (by omega) (by omega))
    · rw [if_neg c2]
      by_cases c3 : a ≤ p ∧ p < a + (i - 1 - a)
      · rw [if_pos c3]; exact hs _ _ (by omega) (by omega) (by omega)
      · rw [if_neg c3]
        by_cases c4 : p = a + (i - 1 - a)
        · rw [if_pos c4]; exact hr _ (by omega) (by omega)
        · rw [if_neg c4]; exact hs _ _ (by omega) hpq (by omega)
/-- data[m] put into [a, m), at place i. -/
theorem mvL_sorted (hO : SWO lt) {d : Array α} {a i m : Nat} (hs : SortedIn lt a m d) (h1 : a ≤ i) (h2 : i ≤ m) (hb : m < d.size) (hl : ∀ t, a ≤ t → t < i → lt d[m]! d[t]! = false) (hr : ∀ t, i ≤ t → t < m → lt d[m]! d[t]! = true) :
    SortedIn lt a (m + 1) (mvL d m (m - i)) := by
  intro p q hp hpq hq
  have g := @mvL_get α _ d m hb (m - i) (by omega)
  rw [g p, g q]
  have asy : ∀ x y, lt x y = true → lt y x = false := fun x y h => by
    cases h2 : lt y x with
    | false => rfl
    | true => have := hO.trans x y x h h2; rw [hO.irrefl] at this; cases this
  by_cases c1 : m - (m - i) < q ∧ q ≤ m
  · rw [if_pos c1]
    by_cases c2 : m - (m - i) < p ∧ p ≤ m
    · rw [if_pos c2]; exact hs _ _ (by omega) (by omega) (by omega)
    · rw [if_neg c2]
      by_cases c3 : p = m - (m - i)
      · rw [if_pos c3]; exact asy _ _ (hr _ (by omega) (by omega))
      · rw [if_neg c3]; exact hs _ _ (by omega) (by omega) (by omega)
  · rw [if_neg c1]
    by_cases c2 : q = m - (m - i)
    · rw [if_pos c2, if_neg (by omega), if_neg (by omega)]; exact hl _ (by omega) (by omega)
    · rw [if_neg c2, if_neg (by omega), if_neg (by omega)]; exact hs _ _ (by omega) hpq (by omega)

/-! ### The cut -/
/-- What the search for the cut knows. -/
structure Cut (lt : α → α → Bool) (d : Array α) (p S0 R0 s r : Nat) : Prop where
  le0 : S0 ≤ s
  le : s ≤ r
  le1 : r ≤ R0
  lo : ∀ c, S0 ≤ c → c < s → lt d[p - c]! d[c]! = false
  hi : ∀ c, r ≤ c → c < R0 → lt d[p - c]! d[c]! = true
section
variable {d : Array α} {a m b p S0 R0 s r : Nat}
theorem Cut.no (hO : SWO lt) (h1 : SortedIn lt a m d) (h2 : SortedIn lt m b d) (hb : ∀ c, S0 ≤ c → c < R0 → a ≤ c ∧ c < m ∧ m ≤ p - c ∧ p - c < b ∧ c ≤ p) (h : Cut lt d p S0 R0 s r) {c : Nat} (hc : s ≤ c) (hcr : c < r) (hl : lt d[p - c]! d[c]! = false) : Cut lt d p S0 R0 (c + 1) r := by
  refine ⟨by have := h.le0; omega, by omega, h.le1, fun c' h3 h4 => ?_, h.hi⟩
  have h5 := h.le1
  have h6 := h.le0
  obtain ⟨b1, b2, b3, b4, b5⟩ := hb c (by omega) (by omega)
  obtain ⟨e1, e2, e3, e4, e5⟩ := hb c' h3 (by omega)
  exact hO.ntrans _ _ _ (SortedIn.le hO h2 b3 (by omega) e4) (hO.ntrans _ _ _ hl (SortedIn.le hO h1 e1 (by omega) b2))
theorem Cut.yes (hO : SWO lt) (h1 : SortedIn lt a m d) (h2 : SortedIn lt m b d) (hb : ∀ c, S0 ≤ c → c < R0 → a ≤ c ∧ c < m ∧ m ≤ p - c ∧ p - c < b ∧ c ≤ p) (h : Cut lt d p S0 R0 s r) {c : Nat} (hc : s ≤ c) (hcr : c < r) (hl : lt d[p - c]! d[c]! = true) : Cut lt d p S0 R0 s c := by
  have h5 := h.le1
  have h6 := h.le0
  refine ⟨h.le0, hc, by omega, h.lo, fun c' h3 h4 => ?_⟩
  obtain ⟨b1, b2, b3, b4, b5⟩ := hb c (by omega) (by omega)
  obtain ⟨e1, e2, e3, e4, e5⟩ := hb c' (by omega) h4
  cases hq : lt d[p - c']! d[c']! with
  | true => rfl
  | false =>
    have := hO.ntrans _ _ _ (SortedIn.le hO h2 e3 (show p - c' ≤ p - c by omega) b4) (hO.ntrans _ _ _ hq (SortedIn.le hO h1 b1 h3 e2))
    rw [this] at hl; cases hl
/-- What the cut gives. -/
structure Crs (lt : α → α → Bool) (d : Array α) (a s m e b : Nat) : Prop where
  h1 : a ≤ s
  h2 : s ≤ m
  h3 : m ≤ e
  h4 : e ≤ b
  c1 : ∀ i j, a ≤ i → i < s → e ≤ j → j < b → lt d[j]! d[i]! = false
  c2 : ∀ i j, m ≤ i → i < e → s ≤ j → j < m → lt d[j]! d[i]! = false
theorem Cut.crs (hO : SWO lt) {mid : Nat} (h1 : SortedIn lt a m d) (h2 : SortedIn lt m b d) (ham : a < m) (hmb : m < b) (hmid : mid = (a + b) / 2)
    (hc : (mid < m ∧ S0 = mid + m - b ∧ R0 = mid) ∨ (m ≤ mid ∧ S0 = a ∧ R0 = m)) (h : Cut lt d (mid + m - 1) S0 R0 s s) : Crs lt d a s m (mid + m - s) b := by
  have h5 := h.le1
  have h6 := h.le0
  have asy : ∀ x y, lt x y = true → lt y x = false := fun x y h => by
    cases h2 : lt y x with
    | false => rfl
    | true => have := hO.trans x y x h h2; rw [hO.irrefl] at this; cases this
  refine ⟨by omega, by omega, by omega, by omega, fun i j i1 i2 j1 j2 => ?_, fun i j i1 i2 j1 j2 => ?_⟩
  · by_cases hs : S0 < s
    · have k := h.lo (s - 1) (by omega) (by omega)
      rw [show mid + m - 1 - (s - 1) = mid + m - s by omega] at k
      exact hO.ntrans _ _ _ (SortedIn.le hO h2 (by omega) j1 j2) (hO.ntrans _ _ _ k (SortedIn.le hO h1 i1 (by omega) (by omega)))
    · omega
  · by_cases hs : s < R0
    · have k := h.hi s (Nat.le_refl _) hs
      have k := asy _ _ k
      exact hO.ntrans _ _ _ (SortedIn.le hO h1 (by omega) j1 j2) (hO.ntrans _ _ _ k (SortedIn.le hO h2 i1 (by omega) (by omega)))
    · omega
end
/-! ### The halves behind the rotation -/
structure Hlv (lt : α → α → Bool) (d : Array α) (a s mid e b : Nat) : Prop where
  s1 : SortedIn lt a s d
  s2 : SortedIn lt s mid d
  s3 : SortedIn lt mid e d
  s4 : SortedIn lt e b d
  x : ∀ i j, a ≤ i → i < mid → mid ≤ j → j < b → lt d[j]! d[i]! = false
theorem Rot.self {d : Array α} {s m e : Nat} (h : s ≤ m) (h2 : m ≤ e) (h3 : s = m ∨ m = e) : Rot s m e d d := by
  refine ⟨rfl, fun t => ?_⟩
  by_cases c : s ≤ t ∧ t < s + (e - m)
  · rw [if_pos c]; congr 1; omega
  · rw [if_neg c]
    by_cases c2 : s + (e - m) ≤ t ∧ t < e
    · rw [if_pos c2]; congr 1; omega
    · rw [if_neg c2]
theorem Crs.hlv {d d1 : Array α} {a s m e b : Nat} (h1 : SortedIn lt a m d) (h2 : SortedIn lt m b d) (h : Crs lt d a s m e b) (hr : Rot s m e d d1) : Hlv lt d1 a s (s + (e - m)) e b := by
  have g := hr.2
  have q1 := h.h1; have q2 := h.h2; have q3 := h.h3; have q4 := h.h4
  refine ⟨fun i j i1 i2 i3 => ?_, fun i j i1 i2 i3 => ?_, fun i j i1 i2 i3 => ?_, fun i j i1 i2 i3 => ?_, fun i j i1 i2 i3 i4 => ?_⟩
  · rw [g i, g j, if_neg (by omega), if_neg (by omega), if_neg (by omega), if_neg (by omega)]; exact h1 _ _ i1 i2 (by omega)
  · rw [g i, g j, if_pos (by omega), if_pos (by omega)]; exact h2 _ _ (by omega) (by omega) (by omega)
  · rw [g i, g j, if_neg (by omega), if_pos (by omega), if_neg (by omega), if_pos (by omega)]; exact h1 _ _ (by omega) (by omega) (by omega)
  · rw [g i, g j, if_neg (by omega), if_neg (by omega), if_neg (by omega), if_neg (by omega)]; exact h2 _ _ (by omega) i2 i3
  · rw [g i, g j]
    by_cases c1 : s ≤ i ∧ i < s + (e - m)
    · by_cases c2 : j < e
      · rw [if_neg (by omega), if_pos (by omega), if_pos c1]; exact h.c2 _ _ (by omega) (by omega) (by omega) (by omega)
      · rw [if_neg (by omega), if_neg (by omega), if_pos c1]; exact h2 _ _ (by omega) (by omega) i4
    · by_cases c2 : j < e
      · rw [if_neg (by omega), if_pos (by omega), if_neg c1, if_neg (by omega)]; exact h1 _ _ i1 (by omega) (by omega)
      · rw [if_neg (by omega), if_neg (by omega), if_neg c1, if_neg (by omega)]; exact h.c1 _ _ i1 (by omega) (by omega) i4
theorem Hlv.glue {d1 d2 d3 : Array α} {a s mid e b : Nat} (h : Hlv lt d1 a s mid e b) (hab : a ≤ mid) (hmb : mid ≤ b) (hb : b ≤ d1.size) (p1 : PermIn a mid d1 d2) (s1 : SortedIn lt a mid d2) (p2 : PermIn mid b d2 d3) (s2 : SortedIn lt mid b d3) : SortedIn lt a b d3 := by
  intro i j i1 i2 i3
  rcases Nat.lt_or_ge j mid with hj | hj
  · rw [p2.2.1 i (.inl (by omega)), p2.2.1 j (.inl hj)]; exact s1 _ _ i1 i2 hj
  · rcases Nat.lt_or_ge i mid with hi | hi
    · rw [p2.2.1 i (.inl hi)]
      have z1 : b ≤ d2.size := by rw [p1.1]; exact hb
      refine permIn_all d2 d3 mid b (fun x => lt x d2[i]! = false) z1 p2 (fun j j1 j2 => ?_) j hj i3
      rw [p1.2.1 j (.inr j1)]
      exact permIn_all d1 d2 a mid (fun y => lt d1[j]! y = false) (by omega) p1 (fun i i1 i2 => h.x i j i1 i2 j1 j2) i i1 hi
    · exact s2 _ _ hi i2 i3
theorem perm_out {d d' : Array α} {a b x y : Nat} (h : PermIn a b d d') (hs : SortedIn lt x y d) (hd : y ≤ a ∨ b ≤ x) : SortedIn lt x y d' := by
  intro i j i1 i2 i3
  rw [h.2.1 i (by omega), h.2.1 j (by omega)]; exact hs i j i1 i2 i3
end
section
variable {P : Program} {ρ : Ren} {α : Type} [Inhabited α]

set_option maxHeartbeats 1600000 in
set_option maxRecDepth 100000 in
theorem swr_ok (L : LaysGt.n49 P ρ) {lt : α → α → Bool} {g : Nat} {lb : Array Value} {sf : Nat} {sb : Array Value} {n base : Nat} {St : Array α → World → Prop}
    (S : SoSt P lt g lb sf sb n base St) (a b k : Nat) (ha : a + k ≤ n) (hb : b + k ≤ n) (hn : n < 1152921504606846976) (d : Array α) (w : World) (hS : St d w) :
    Calls P (ρ.f 49) #[.agg #[.func (.func g) #[] lb, .func (.func sf) #[] sb], .int .i64 a, .int .i64 b, .int .i64 k] w fun e w' => e = .returned (.tuple #[]) ∧ St (swF d a b k) w' ∧ Kp base w w' := by
  have mixed := L.mixed; have t0 := L.t0; have a0 := L.a0; have z0 := L.z0; have v0 := L.v0; have t3 := L.t3; have a3 := L.a3; have z3 := L.z3; have v3 := L.v3; have t4 := L.t4; have a4 := L.a4; have z4 := L.z4; have v4 := L.v4; have t26 := L.t26; have a26 := L.a26; have z26 := L.z26; have v26 := L.v26; have t38 := L.t38; have a38 := L.a38; have z38 := L.z38; have v38 := L.v38; have t42 := L.t42; have a42 := L.a42; have z42 := L.z42; have v42 := L.v42
  have u42 := run_underlying L.t42
  have hw0 := (S.size _ _ hS).2
  have hdn := (S.size _ _ hS).1
  have hS1 := S.alloc _ _ (.cells #[.func (.func g) #[] lb, .func (.func sf) #[] sb] (ρ.t 42)) hS
  go_enter L.f49, BodyGt.n49_ntmps ρ
  go_wp2
  go_loopw [8] (fun vi wr => ∃ (i : Nat), vi = .int .i64 i ∧ i ≤ k ∧ St (swF d a b i) wr ∧ Kp base (w.alloc (.cells #[.func (.func g) #[] lb, .func (.func sf) #[] sb] (ρ.t 42))) wr) (fun vi _ => k - (Proofs.intOf vi).toNat)
  case atStart => exact ⟨0, rfl, by omega, hS1, Kp.refl⟩
  case round =>
    obtain ⟨i, rfl, hik, hst, hkp⟩ := hrel
    have c1 : wr.cell? ⟨w.heap.size, 1, none⟩ = some (.func (.func sf) #[] sb) := hkp.cell hw0 (by simp)
    by_cases hlt : i < k
    · obtain ⟨w2, hs, hs2, hk2⟩ := S.swap _ wr (a + i) (b + i) hst (by omega) (by omega)
      rw [show (((a + i : Nat) : Int)) = (a : Int) + (i : Int) by omega, show (((b + i : Nat) : Int)) = (b : Int) + (i : Int) by omega] at hs
      go_wp2
      exact ⟨⟨i + 1, by congr 1 <;> omega, by omega, hs2, hkp.trans hk2⟩, by simp [Proofs.intOf]; omega⟩
    · go_wp2
      go_end0
      have : i = k := by omega
      subst this
      exact ⟨rfl, hst, (Kp.alloc _).trans hkp⟩
set_option maxHeartbeats 1600000 in
set_option maxRecDepth 100000 in
theorem rot_ok (L : LaysGt.n42 P ρ) {lt : α → α → Bool} {g : Nat} {lb : Array Value} {sf : Nat} {sb : Array Value} {n base : Nat} {St : Array α → World → Prop}
    (S : SoSt P lt g lb sf sb n base St) (a m b : Nat) (ham : a < m) (hmb : m < b) (hb : b ≤ n) (hn : n < 1152921504606846976) (d : Array α) (w : World) (hS : St d w) :
    Calls P (ρ.f 42) #[.agg #[.func (.func g) #[] lb, .func (.func sf) #[] sb], .int .i64 a, .int .i64 m, .int .i64 b] w fun e w' => e = .returned (.tuple #[]) ∧ ∃ d', Rot a m b d d' ∧ PermIn a b d d' ∧ St d' w' ∧ Kp base w w' := by
  have mixed := L.mixed; have t0 := L.t0; have a0 := L.a0; have z0 := L.z0; have v0 := L.v0; have t3 := L.t3; have a3 := L.a3; have z3 := L.z3; have v3 := L.v3; have t4 := L.t4; have a4 := L.a4; have z4 := L.z4; have v4 := L.v4; have t26 := L.t26; have a26 := L.a26; have z26 := L.z26; have v26 := L.v26; have t38 := L.t38; have a38 := L.a38; have z38 := L.z38; have v38 := L.v38; have t42 := L.t42; have a42 := L.a42; have z42 := L.z42; have v42 := L.v42
  have u42 := run_underlying L.t42
  have hw0 := (S.size _ _ hS).2
  have hdn := (S.size _ _ hS).1
  have hS1 := S.alloc _ _ (.cells #[.func (.func g) #[] lb, .func (.func sf) #[] sb] (ρ.t 42)) hS
  have e49 : ∀ args w, (callFunc (ρ.f 49) args).run P w = .ok (.enter (ρ.f 49) args) w := enters_of L.f49 (by kernel_rfl) rfl
  go_enter L.f42, BodyGt.n42_ntmps ρ
  go_wp2
  go_loopw [8, 9] (fun vi vj wr => ∃ (i j : Nat) (dk : Array α), vi = .int .i64 i ∧ vj = .int .i64 j ∧ 0 < i ∧ 0 < j ∧ a + i ≤ m ∧ m + j ≤ b ∧ St dk wr ∧ Kp base (w.alloc (.cells #[.func (.func g) #[] lb, .func (.func sf) #[] sb] (ρ.t 42))) wr ∧ PermIn a b d dk ∧ ∀ d'', Rot (m - i) m (m + j) dk d'' → Rot a m b d d'') (fun vi vj _ => (Proofs.intOf vi).toNat + (Proofs.intOf vj).toNat)
  case atStart => exact ⟨m - a, b - m, d, by congr 1 <;> omega, by congr 1 <;> omega, by omega, by omega, by omega, by omega, hS1, Kp.refl, permIn_refl _ _ _, fun d'' h => by rwa [show m - (m - a) = a by omega, show m + (b - m) = b by omega] at h⟩
  case round =>
    obtain ⟨i, j, dk, rfl, rfl, hi0, hj0, hia, hjb, hst, hkp, hpm, hrot⟩ := hrel
    have c0 : wr.cell? ⟨w.heap.size, 0, none⟩ = some (.func (.func g) #[] lb) := hkp.cell hw0 (by simp)
    have c1 : wr.cell? ⟨w.heap.size, 1, none⟩ = some (.func (.func sf) #[] sb) := hkp.cell hw0 (by simp)
    have hdk := (S.size _ _ hst).1
    have HR : Hid (∀ d'', Rot (m - i) m (m + j) dk d'' → Rot a m b d d'') := hrot
    clear hrot hS1 hS
    rcases Nat.lt_trichotomy i j with hij | hij | hij
    · have hc := swr_ok ({ L with } : LaysGt.n49 P ρ) S (m - i) (m + j - i) i (by omega) (by omega) hn dk wr hst
      rw [show (((m - i : Nat) : Int)) = (m : Int) - (i : Int) by omega, show (((m + j - i : Nat) : Int)) = (m : Int) + (j : Int) - (i : Int) by omega] at hc
      go_wp2_with (go_at_fn (ρ.f 49); refine hc.mono ?_; rintro e w2 ⟨rfl, h1, h2⟩)
      exact ⟨⟨i, j - i, _, rfl, by congr 1 <;> omega, by omega, by omega, by omega, by omega, h1, hkp.trans h2, permIn_trans _ _ _ _ _ hpm (swF_perm (by omega) (by omega) (by omega) (by omega) (by omega)), fun d'' h => HR.out _ (Rot.lt (by omega) (by omega) hi0 hij h)⟩, by simp [Proofs.intOf]; omega⟩
    · subst hij
      have hc := swr_ok ({ L with } : LaysGt.n49 P ρ) S (m - i) m i (by omega) (by omega) hn dk wr hst
      rw [show (((m - i : Nat) : Int)) = (m : Int) - (i : Int) by omega] at hc
      go_wp2_with (go_at_fn (ρ.f 49); refine hc.mono ?_; rintro e w2 ⟨rfl, h1, h2⟩)
      go_end0
      exact ⟨rfl, _, HR.out _ (Rot.same (by omega) (by omega)), permIn_trans _ _ _ _ _ hpm (swF_perm (by omega) (by omega) (by omega) (by omega) (by omega)), h1, (Kp.alloc _).trans (hkp.trans h2)⟩
    · have hc := swr_ok ({ L with } : LaysGt.n49 P ρ) S (m - i) m j (by omega) (by omega) hn dk wr hst
      rw [show (((m - i : Nat) : Int)) = (m : Int) - (i : Int) by omega] at hc
      go_wp2_with (go_at_fn (ρ.f 49); refine hc.mono ?_; rintro e w2 ⟨rfl, h1, h2⟩)
      exact ⟨⟨i - j, j, _, by congr 1 <;> omega, rfl, by omega, by omega, by omega, by omega, h1, hkp.trans h2, permIn_trans _ _ _ _ _ hpm (swF_perm (by omega) (by omega) (by omega) (by omega) (by omega)), fun d'' h => HR.out _ (Rot.gt (by omega) (by omega) hj0 hij h)⟩, by simp [Proofs.intOf]; omega⟩
end
section
variable {P : Program} {ρ : Ren} {α : Type} [Inhabited α]

set_option maxHeartbeats 1600000 in
set_option maxRecDepth 100000 in
theorem sym_one (L : LaysGt.n30 P ρ) {lt : α → α → Bool} (hO : SWO lt) {g : Nat} {lb : Array Value} {sf : Nat} {sb : Array Value} {n base : Nat} {St : Array α → World → Prop}
    (eg : ∀ args w, (callFunc g args).run P w = .ok (.enter g args) w) (S : SoSt P lt g lb sf sb n base St) (a m b : Nat) (ham : m = a + 1) (hmb : m < b) (hb : b ≤ n) (hn : n < 1152921504606846976) (d : Array α) (w : World) (hs2 : SortedIn lt m b d) (hS : St d w) :
    Calls P (ρ.f 30) #[.agg #[.func (.func g) #[] lb, .func (.func sf) #[] sb], .int .i64 a, .int .i64 m, .int .i64 b] w fun e w' => e = .returned (.tuple #[]) ∧ ∃ d', PermIn a b d d' ∧ SortedIn lt a b d' ∧ St d' w' ∧ Kp base w w' := by
  have mixed := L.mixed; have t47 := L.t47; have a47 := L.a47; have z47 := L.z47; have v47 := L.v47; have t0 := L.t0; have a0 := L.a0; have z0 := L.z0; have v0 := L.v0; have t3 := L.t3; have a3 := L.a3; have z3 := L.z3; have v3 := L.v3; have t4 := L.t4; have a4 := L.a4; have z4 := L.z4; have v4 := L.v4; have t26 := L.t26; have a26 := L.a26; have z26 := L.z26; have v26 := L.v26; have t38 := L.t38; have a38 := L.a38; have z38 := L.z38; have v38 := L.v38; have t42 := L.t42; have a42 := L.a42; have z42 := L.z42; have v42 := L.v42
  have u42 := run_underlying L.t42
  have hw0 := (S.size _ _ hS).2
  have hdn := (S.size _ _ hS).1
  have hS1 := S.alloc _ _ (.cells #[.func (.func g) #[] lb, .func (.func sf) #[] sb] (ρ.t 42)) hS
  have hbe : ((m : Int) - (a : Int) == 1) = true := by rw [beq_iff_eq]; omega
  have ham1 : a + 1 ≤ m := by omega
  have ham2 : m ≤ a + 1 := by omega
  have HM : Hid (m = a + 1) := ham
  clear ham
  go_enter L.f30, BodyGt.n30_ntmps ρ
  go_wp2
  go_loopw [8, 9] (fun vi vj wr => ∃ (i j : Nat), vi = .int .i64 i ∧ vj = .int .i64 j ∧ m ≤ i ∧ i ≤ j ∧ j ≤ b ∧ St d wr ∧ Kp base (w.alloc (.cells #[.func (.func g) #[] lb, .func (.func sf) #[] sb] (ρ.t 42))) wr ∧
      (∀ t, m ≤ t → t < i → lt d[t]! d[a]! = true) ∧ (∀ t, j ≤ t → t < b → lt d[t]! d[a]! = false)) (fun vi vj _ => (Proofs.intOf vj - Proofs.intOf vi).toNat)
  case atStart => exact ⟨m, b, rfl, rfl, by omega, by omega, by omega, hS1, Kp.refl, fun t h1 h2 => by omega, fun t h1 h2 => by omega⟩
  case round =>
    obtain ⟨i, j, rfl, rfl, hai, hij, hjb, hst, hkp, hlo, hhi⟩ := hrel
    have c0 : wr.cell? ⟨w.heap.size, 0, none⟩ = some (.func (.func g) #[] lb) := hkp.cell hw0 (by simp)
    have c1 : wr.cell? ⟨w.heap.size, 1, none⟩ = some (.func (.func sf) #[] sb) := hkp.cell hw0 (by simp)
    by_cases hlt : i < j
    · have hc := S.less d wr ((i + j) / 2) a hst (by omega) (by omega)
      rw [show (((i + j) / 2 : Nat) : Int) = ((i : Int) + (j : Int)) / 2 by omega] at hc
      have hh1 : (((i + j) / 2 : Nat) : Int) = ((i : Int) + (j : Int)) / 2 := by omega
      have hh2 : (((i + j) / 2 + 1 : Nat) : Int) = ((i : Int) + (j : Int)) / 2 + 1 := by omega
      have HH1 : Hid _ := hh1
      have HH2 : Hid _ := hh2
      have HBE : Hid _ := hbe
      clear hh1 hh2
      cases hlv : lt d[(i + j) / 2]! d[a]! with
      | true =>
        rw [hlv] at hc
        go_wp2_with (go_at_fn g; refine hc.mono ?_; rintro e w2 ⟨rfl, h1, h2⟩)
        go_roundw
        case rel =>
          refine ⟨(i + j) / 2 + 1, j, by congr 1 <;> omega, rfl, by omega, by omega, hjb, h1, hkp.trans h2, fun t h3 h4 => ?_, hhi⟩
          cases hq : lt d[t]! d[a]! with
          | true => rfl
          | false => have := hO.ntrans _ _ _ (SortedIn.le hO hs2 h3 (show t ≤ (i + j) / 2 by omega) (by omega)) hq; rw [hlv] at this; cases this
        case measure => simp [Proofs.intOf]; omega
      | false =>
        rw [hlv] at hc
        go_wp2_with (go_at_fn g; refine hc.mono ?_; rintro e w2 ⟨rfl, h1, h2⟩)
        go_roundw
        case rel =>
          refine ⟨i, (i + j) / 2, rfl, by congr 1 <;> omega, by omega, by omega, by omega, h1, hkp.trans h2, hlo, fun t h3 h4 => ?_⟩
          exact hO.ntrans _ _ _ (SortedIn.le hO hs2 (by omega) h3 h4) hlv
        case measure => simp [Proofs.intOf]; omega
    · have hj : j = i := by omega
      subst hj
      go_wp2
      go_loopw [11] (fun vk wr2 => ∃ (k : Nat), vk = .int .i64 k ∧ a ≤ k ∧ k ≤ j - 1 ∧ St (mvR d a (k - a)) wr2 ∧ Kp base (w.alloc (.cells #[.func (.func g) #[] lb, .func (.func sf) #[] sb] (ρ.t 42))) wr2) (fun vk _ => j - (Proofs.intOf vk).toNat)
      case atStart => exact ⟨a, rfl, by omega, by omega, by rw [Nat.sub_self]; exact hst, hkp⟩
      case round =>
        obtain ⟨k, rfl, hak, hkj, hst2, hkp2⟩ := hrel
        have c1 : wr.cell? ⟨w.heap.size, 1, none⟩ = some (.func (.func sf) #[] sb) := hkp2.cell hw0 (by simp)
        by_cases hlt2 : k < j - 1
        · obtain ⟨w2, hs, hs3, hk2⟩ := S.swap _ wr k (k + 1) hst2 (by omega) (by omega)
          rw [show (((k + 1 : Nat) : Int)) = (k : Int) + 1 by omega] at hs
          go_wp2
          refine ⟨⟨k + 1, by congr 1 <;> omega, by omega, by omega, ?_, hkp2.trans hk2⟩, by simp [Proofs.intOf]; omega⟩
          rw [show k + 1 - a = (k - a) + 1 by omega, mvR, show a + (k - a) = k by omega]; exact hs3
        · go_wp2
          refine bodyPost_ret (results_none rfl _ _ _) rfl ?_
          have : k = j - 1 := by omega
          subst this
          have ham := HM.out
          subst ham
          exact ⟨rfl, _, mvR_perm (by omega) (by omega), mvR_sorted hO hs2 hai hjb (by omega) hlo hhi, hst2, (Kp.alloc _).trans hkp2⟩
set_option maxHeartbeats 1600000 in
set_option maxRecDepth 100000 in
theorem sym_last (L : LaysGt.n30 P ρ) {lt : α → α → Bool} (hO : SWO lt) {g : Nat} {lb : Array Value} {sf : Nat} {sb : Array Value} {n base : Nat} {St : Array α → World → Prop}
    (eg : ∀ args w, (callFunc g args).run P w = .ok (.enter g args) w) (S : SoSt P lt g lb sf sb n base St) (a m b : Nat) (ham : a + 2 ≤ m) (hmb : b = m + 1) (hb : b ≤ n) (hn : n < 1152921504606846976) (d : Array α) (w : World) (hs2 : SortedIn lt a m d) (hS : St d w) :
    Calls P (ρ.f 30) #[.agg #[.func (.func g) #[] lb, .func (.func sf) #[] sb], .int .i64 a, .int .i64 m, .int .i64 b] w fun e w' => e = .returned (.tuple #[]) ∧ ∃ d', PermIn a b d d' ∧ SortedIn lt a b d' ∧ St d' w' ∧ Kp base w w' := by
  have mixed := L.mixed; have t47 := L.t47; have a47 := L.a47; have z47 := L.z47; have v47 := L.v47; have t0 := L.t0; have a0 := L.a0; have z0 := L.z0; have v0 := L.v0; have t3 := L.t3; have a3 := L.a3; have z3 := L.z3; have v3 := L.v3; have t4 := L.t4; have a4 := L.a4; have z4 := L.z4; have v4 := L.v4; have t26 := L.t26; have a26 := L.a26; have z26 := L.z26; have v26 := L.v26; have t38 := L.t38; have a38 := L.a38; have z38 := L.z38; have v38 := L.v38; have t42 := L.t42; have a42 := L.a42; have z42 := L.z42; have v42 := L.v42
  have u42 := run_underlying L.t42
  have hw0 := (S.size _ _ hS).2
  have hdn := (S.size _ _ hS).1
  have hS1 := S.alloc _ _ (.cells #[.func (.func g) #[] lb, .func (.func sf) #[] sb] (ρ.t 42)) hS
  have hba : ((m : Int) - (a : Int) == 1) = false := by rw [beq_eq_false_iff_ne]; omega
  have hbb : ((b : Int) - (m : Int) == 1) = true := by rw [beq_iff_eq]; omega
  have hmb1 : m + 1 ≤ b := by omega
  have hmb2 : b ≤ m + 1 := by omega
  have HM : Hid (b = m + 1) := hmb
  clear hmb
  go_enter L.f30, BodyGt.n30_ntmps ρ
  go_wp2
  go_loopw [12, 13] (fun vi vj wr => ∃ (i j : Nat), vi = .int .i64 i ∧ vj = .int .i64 j ∧ a ≤ i ∧ i ≤ j ∧ j ≤ m ∧ St d wr ∧ Kp base (w.alloc (.cells #[.func (.func g) #[] lb, .func (.func sf) #[] sb] (ρ.t 42))) wr ∧
      (∀ t, a ≤ t → t < i → lt d[m]! d[t]! = false) ∧ (∀ t, j ≤ t → t < m → lt d[m]! d[t]! = true)) (fun vi vj _ => (Proofs.intOf vj - Proofs.intOf vi).toNat)
  case atStart => exact ⟨a, m, rfl, rfl, by omega, by omega, by omega, hS1, Kp.refl, fun t h1 h2 => by omega, fun t h1 h2 => by omega⟩
  case round =>
    obtain ⟨i, j, rfl, rfl, hai, hij, hjb, hst, hkp, hlo, hhi⟩ := hrel
    have c0 : wr.cell? ⟨w.heap.size, 0, none⟩ = some (.func (.func g) #[] lb) := hkp.cell hw0 (by simp)
    have c1 : wr.cell? ⟨w.heap.size, 1, none⟩ = some (.func (.func sf) #[] sb) := hkp.cell hw0 (by simp)
    by_cases hlt : i < j
    · have hc := S.less d wr m ((i + j) / 2) hst (by omega) (by omega)
      rw [show (((i + j) / 2 : Nat) : Int) = ((i : Int) + (j : Int)) / 2 by omega] at hc
      cases hlv : lt d[m]! d[(i + j) / 2]! with
      | false =>
        rw [hlv] at hc
        go_wp2_with (go_at_fn g; refine hc.mono ?_; rintro e w2 ⟨rfl, h1, h2⟩)
        go_roundw
        case rel =>
          refine ⟨(i + j) / 2 + 1, j, by congr 1 <;> omega, rfl, by omega, by omega, hjb, h1, hkp.trans h2, fun t h3 h4 => ?_, hhi⟩
          exact hO.ntrans _ _ _ hlv (SortedIn.le hO hs2 h3 (by omega) (by omega))
        case measure => simp [Proofs.intOf]; omega
      | true =>
        rw [hlv] at hc
        go_wp2_with (go_at_fn g; refine hc.mono ?_; rintro e w2 ⟨rfl, h1, h2⟩)
        go_roundw
        case rel =>
          refine ⟨i, (i + j) / 2, rfl, by congr 1 <;> omega, by omega, by omega, by omega, h1, hkp.trans h2, hlo, fun t h3 h4 => ?_⟩
          cases hq : lt d[m]! d[t]! with
          | true => rfl
          | false => have := hO.ntrans _ _ _ hq (SortedIn.le hO hs2 (show a ≤ (i + j) / 2 by omega) h3 h4); rw [hlv] at this; cases this
        case measure => simp [Proofs.intOf]; omega
    · have hj : j = i := by omega
      subst hj
      go_wp2
      go_loopw [15] (fun vk wr2 => ∃ (k : Nat), vk = .int .i64 k ∧ j ≤ k ∧ k ≤ m ∧ St (mvL d m (m - k)) wr2 ∧ Kp base (w.alloc (.cells #[.func (.func g) #[] lb, .func (.func sf) #[] sb] (ρ.t 42))) wr2) (fun vk _ => (Proofs.intOf vk).toNat)
      case atStart => exact ⟨m, rfl, by omega, by omega, by rw [Nat.sub_self]; exact hst, hkp⟩
      case round =>
        obtain ⟨k, rfl, hak, hkj, hst2, hkp2⟩ := hrel
        have c1 : wr.cell? ⟨w.heap.size, 1, none⟩ = some (.func (.func sf) #[] sb) := hkp2.cell hw0 (by simp)
        by_cases hlt2 : j < k
        · obtain ⟨w2, hs, hs3, hk2⟩ := S.swap _ wr k (k - 1) hst2 (by omega) (by omega)
          rw [show (((k - 1 : Nat) : Int)) = (k : Int) - 1 by omega] at hs
          go_wp2
          refine ⟨⟨k - 1, by congr 1 <;> omega, by omega, by omega, ?_, hkp2.trans hk2⟩, by simp [Proofs.intOf]; omega⟩
          rw [show m - (k - 1) = (m - k) + 1 by omega, mvL, show m - (m - k) = k by omega]; exact hs3
        · go_wp2
          refine bodyPost_ret (results_none rfl _ _ _) rfl ?_
          have : k = j := by omega
          subst this
          have hmb := HM.out
          subst hmb
          exact ⟨rfl, _, mvL_perm (by omega) (by omega) (by omega), mvL_sorted hO hs2 hai hjb (by omega) hlo hhi, hst2, (Kp.alloc _).trans hkp2⟩
end
section
variable {P : Program} {ρ : Ren} {α : Type} [Inhabited α]
theorem Hlv.left {lt : α → α → Bool} {d : Array α} {a s mid e b : Nat} (h : Hlv lt d a s mid e b) (hx : ¬ (a < s ∧ s < mid)) (h1 : a ≤ s) (h2 : s ≤ mid) : SortedIn lt a mid d := by
  by_cases hs : s = a
  · have := h.s2; rw [hs] at this; exact this
  · have hm : s = mid := by omega
    have := h.s1; rw [hm] at this; exact this
theorem Hlv.right {lt : α → α → Bool} {d : Array α} {a s mid e b : Nat} (h : Hlv lt d a s mid e b) (hx : ¬ (mid < e ∧ e < b)) (h1 : mid ≤ e) (h2 : e ≤ b) : SortedIn lt mid b d := by
  by_cases hs : e = mid
  · have := h.s4; rw [hs] at this; exact this
  · have hm : e = b := by omega
    have := h.s3; rw [hm] at this; exact this

set_option maxHeartbeats 4000000 in
set_option maxRecDepth 100000 in
theorem sym_main (L : LaysGt.n30 P ρ) {lt : α → α → Bool} (hO : SWO lt) {g : Nat} {lb : Array Value} {sf : Nat} {sb : Array Value} {n base : Nat} {St : Array α → World → Prop}
    (eg : ∀ args w, (callFunc g args).run P w = .ok (.enter g args) w) (S : SoSt P lt g lb sf sb n base St) (k : Nat)
    (IH : ∀ (a m b : Nat) (d : Array α) (w : World), b - a ≤ k → a < m → m < b → b ≤ n → SortedIn lt a m d → SortedIn lt m b d → St d w →
      Calls P (ρ.f 30) #[.agg #[.func (.func g) #[] lb, .func (.func sf) #[] sb], .int .i64 a, .int .i64 m, .int .i64 b] w fun e w' => e = .returned (.tuple #[]) ∧ ∃ d', PermIn a b d d' ∧ SortedIn lt a b d' ∧ St d' w' ∧ Kp base w w')
    (a m b : Nat) (hk : b - a ≤ k + 1) (ham : a + 2 ≤ m) (hmb : m + 2 ≤ b) (hb : b ≤ n) (hn : n < 1152921504606846976) (d : Array α) (w : World) (hs1 : SortedIn lt a m d) (hs2 : SortedIn lt m b d) (hS : St d w) :
    Calls P (ρ.f 30) #[.agg #[.func (.func g) #[] lb, .func (.func sf) #[] sb], .int .i64 a, .int .i64 m, .int .i64 b] w fun e w' => e = .returned (.tuple #[]) ∧ ∃ d', PermIn a b d d' ∧ SortedIn lt a b d' ∧ St d' w' ∧ Kp base w w' := by
  have mixed := L.mixed; have t47 := L.t47; have a47 := L.a47; have z47 := L.z47; have v47 := L.v47; have t0 := L.t0; have a0 := L.a0; have z0 := L.z0; have v0 := L.v0; have t3 := L.t3; have a3 := L.a3; have z3 := L.z3; have v3 := L.v3; have t4 := L.t4; have a4 := L.a4; have z4 := L.z4; have v4 := L.v4; have t26 := L.t26; have a26 := L.a26; have z26 := L.z26; have v26 := L.v26; have t38 := L.t38; have a38 := L.a38; have z38 := L.z38; have v38 := L.v38; have t42 := L.t42; have a42 := L.a42; have z42 := L.z42; have v42 := L.v42
  have u42 := run_underlying L.t42
  have hw0 := (S.size _ _ hS).2
  have hdn := (S.size _ _ hS).1
  have hS1 := S.alloc _ _ (.cells #[.func (.func g) #[] lb, .func (.func sf) #[] sb] (ρ.t 42)) hS
  have hba : ((m : Int) - (a : Int) == 1) = false := by rw [beq_eq_false_iff_ne]; omega
  have hbb : ((b : Int) - (m : Int) == 1) = false := by rw [beq_eq_false_iff_ne]; omega
  have e42 : ∀ args w, (callFunc (ρ.f 42) args).run P w = .ok (.enter (ρ.f 42) args) w := enters_of L.f42 (by kernel_rfl) rfl
  have e30 : ∀ args w, (callFunc (ρ.f 30) args).run P w = .ok (.enter (ρ.f 30) args) w := enters_of L.f30 (by kernel_rfl) rfl
  obtain ⟨mid, hmi⟩ : ∃ mid : Nat, ((a : Int) + (b : Int)) / 2 = (mid : Int) := ⟨(a + b) / 2, by omega⟩
  have hmi0 : mid = (a + b) / 2 := by omega
  have HMI : Hid (mid = (a + b) / 2) := hmi0
  have hmi1 : 2 * mid ≤ a + b := by omega
  have hmi2 : a + b ≤ 2 * mid + 1 := by omega
  clear hmi0
  go_enter L.f30, BodyGt.n30_ntmps ρ
  by_cases hgt : mid < m
  · skip
    obtain ⟨S0, hS0⟩ : ∃ S0 : Nat, (mid : Int) + (m : Int) - (b : Int) = (S0 : Int) := ⟨mid + m - b, by omega⟩
    obtain ⟨R0, hR0⟩ : ∃ R0, R0 = mid := ⟨_, rfl⟩
    have hst0 : S0 = mid + m - b := by omega
    have hcs : (mid < m ∧ S0 = mid + m - b ∧ R0 = mid) ∨ (m ≤ mid ∧ S0 = a ∧ R0 = m) := .inl ⟨hgt, hst0, hR0⟩
    have hbd : ∀ c, S0 ≤ c → c < R0 → a ≤ c ∧ c < m ∧ m ≤ mid + m - 1 - c ∧ mid + m - 1 - c < b ∧ c ≤ mid + m - 1 := fun c h1 h2 => by omega
    have HCS : Hid _ := hcs
    clear hcs
    have h00 : S0 ≤ R0 := by omega
    have HR0 : Hid (R0 = mid) := hR0
    have hR1 : R0 ≤ mid := by omega
    have hR2 : mid ≤ R0 := by omega
    clear hR0
    go_wp2
    go_loopw [18, 19] (fun vi vj wr => ∃ (s r : Nat), vi = .int .i64 s ∧ vj = .int .i64 r ∧ Cut lt d (mid + m - 1) S0 R0 s r ∧ St d wr ∧ Kp base (w.alloc (.cells #[.func (.func g) #[] lb, .func (.func sf) #[] sb] (ρ.t 42))) wr) (fun vi vj _ => (Proofs.intOf vj - Proofs.intOf vi).toNat)
    case atStart => exact ⟨S0, R0, by congr 1 <;> omega, by congr 1 <;> omega, ⟨Nat.le_refl _, h00, Nat.le_refl _, fun c h1 h2 => by omega, fun c h1 h2 => by omega⟩, hS1, Kp.refl⟩
    case round =>
      obtain ⟨s, r, rfl, rfl, hcut, hst, hkp⟩ := hrel
      have c0 : wr.cell? ⟨w.heap.size, 0, none⟩ = some (.func (.func g) #[] lb) := hkp.cell hw0 (by simp)
      have c1 : wr.cell? ⟨w.heap.size, 1, none⟩ = some (.func (.func sf) #[] sb) := hkp.cell hw0 (by simp)
      have k1 := hcut.le0; have k2 := hcut.le; have k3 := hcut.le1
      by_cases hlt : s < r
      · have hbc := hbd ((s + r) / 2) (by omega) (by omega)
        have hc := S.less d wr (mid + m - 1 - (s + r) / 2) ((s + r) / 2) hst (by omega) (by omega)
        rw [show ((mid + m - 1 - (s + r) / 2 : Nat) : Int) = (mid : Int) + (m : Int) - 1 - ((s : Int) + (r : Int)) / 2 by omega, show (((s + r) / 2 : Nat) : Int) = ((s : Int) + (r : Int)) / 2 by omega] at hc
        cases hlv : lt d[mid + m - 1 - (s + r) / 2]! d[(s + r) / 2]! with
        | false =>
          rw [hlv] at hc
          have hn := hcut.no hO hs1 hs2 hbd (by omega : s ≤ (s + r) / 2) (by omega) hlv
          clear hbd hs1 hs2 IH
          go_wp2_with (go_at_fn g; refine hc.mono ?_; rintro e w2 ⟨rfl, h1, h2⟩)
          go_roundw
          case rel => exact ⟨(s + r) / 2 + 1, r, by congr 1 <;> omega, rfl, hn, h1, hkp.trans h2⟩
          case measure => simp [Proofs.intOf]; omega
        | true =>
          rw [hlv] at hc
          have hn := hcut.yes hO hs1 hs2 hbd (by omega : s ≤ (s + r) / 2) (by omega) hlv
          clear hbd hs1 hs2 IH
          go_wp2_with (go_at_fn g; refine hc.mono ?_; rintro e w2 ⟨rfl, h1, h2⟩)
          go_roundw
          case rel => exact ⟨s, (s + r) / 2, rfl, by congr 1 <;> omega, hn, h1, hkp.trans h2⟩
          case measure => simp [Proofs.intOf]; omega
      · have hj : r = s := by omega
        subst hj
        have CR := Cut.crs hO hs1 hs2 (by omega) (by omega) HMI.out HCS.out hcut
        obtain ⟨e, he⟩ : ∃ e : Nat, (mid : Int) + (m : Int) - (r : Int) = (e : Int) := ⟨mid + m - r, by omega⟩
        have hen : mid + m - r = e := by omega
        rw [hen] at CR
        have k4 := CR.h1; have k5 := CR.h2; have k6 := CR.h3; have k7 := CR.h4
        have hse : r + (e - m) = mid := by omega
        have HEN : Hid _ := hen
        clear hen hbd
        by_cases x1 : r < m ∧ m < e
        · obtain ⟨x1a, x1b⟩ := x1
          by_cases x2 : a < r ∧ r < mid
          · obtain ⟨x2a, x2b⟩ := x2
            by_cases x3 : mid < e ∧ e < b
            · obtain ⟨x3a, x3b⟩ := x3
              skip
              have hr := rot_ok ({ L with } : LaysGt.n42 P ρ) S r m e (by omega) (by omega) (by omega) hn d wr hst
              go_wp2_with (first | (go_at_fn (ρ.f 42); refine hr.mono ?_; rintro e' w1 ⟨rfl, d1, r1, r2, r3, r4⟩; have c0r := r4.cell hw0 c0; have c1r := r4.cell hw0 c1; have HV := Crs.hlv hs1 hs2 CR r1; rw [hse] at HV) | (go_at_fn_of (ρ.f 30) (Value.int .i64 a); refine (IH a r mid d1 w1 (by omega) (by omega) (by omega) (by omega) HV.s1 HV.s2 r3).mono ?_; rintro e' w2 ⟨rfl, d2, p1, p2, p3, p4⟩; have c0p := p4.cell hw0 c0r; have c1p := p4.cell hw0 c1r) | (go_at_fn_of (ρ.f 30) (Value.int .i64 b); refine (IH mid e b d2 w2 (by omega) (by omega) (by omega) (by omega) (perm_out p1 HV.s3 (.inr (Nat.le_refl _))) (perm_out p1 HV.s4 (.inr (by omega))) p3).mono ?_; rintro e' w3 ⟨rfl, d3, q1, q2, q3, q4⟩))
              all_goals (go_end0; have z1 : d1.size = d.size := r2.1; exact ⟨rfl, d3, permIn_trans _ _ _ _ _ (permIn_mono _ _ _ _ _ _ CR.h1 CR.h4 (by omega) r2) (permIn_trans _ _ _ _ _ (permIn_mono _ _ _ _ _ _ (Nat.le_refl _) (by omega) (by omega) p1) (permIn_mono _ _ _ _ _ _ (by omega) (Nat.le_refl _) (by rw [p1.1]; omega) q1)), HV.glue (by omega) (by omega) (by omega) p1 p2 q1 q2, q3, (Kp.alloc _).trans (((hkp.trans r4).trans p4).trans q4)⟩)
            · skip
              skip
              have hr := rot_ok ({ L with } : LaysGt.n42 P ρ) S r m e (by omega) (by omega) (by omega) hn d wr hst
              go_wp2_with (first | (go_at_fn (ρ.f 42); refine hr.mono ?_; rintro e' w1 ⟨rfl, d1, r1, r2, r3, r4⟩; have c0r := r4.cell hw0 c0; have c1r := r4.cell hw0 c1; have HV := Crs.hlv hs1 hs2 CR r1; rw [hse] at HV) | (go_at_fn_of (ρ.f 30) (Value.int .i64 a); refine (IH a r mid d1 w1 (by omega) (by omega) (by omega) (by omega) HV.s1 HV.s2 r3).mono ?_; rintro e' w2 ⟨rfl, d2, p1, p2, p3, p4⟩; have c0p := p4.cell hw0 c0r; have c1p := p4.cell hw0 c1r))
              all_goals (go_end0; have z1 : d1.size = d.size := r2.1; exact ⟨rfl, d2, permIn_trans _ _ _ _ _ (permIn_mono _ _ _ _ _ _ CR.h1 CR.h4 (by omega) r2) (permIn_trans _ _ _ _ _ (permIn_mono _ _ _ _ _ _ (Nat.le_refl _) (by omega) (by omega) p1) (permIn_mono _ _ _ _ _ _ (by omega) (Nat.le_refl _) (by rw [p1.1]; omega) (permIn_refl _ _ _))), HV.glue (by omega) (by omega) (by omega) p1 p2 (permIn_refl _ _ _) (perm_out p1 (Hlv.right HV (by omega) (by omega) CR.h4) (.inr (Nat.le_refl _))), p3, (Kp.alloc _).trans ((hkp.trans r4).trans p4)⟩)
          · skip
            by_cases x3 : mid < e ∧ e < b
            · obtain ⟨x3a, x3b⟩ := x3
              skip
              have hr := rot_ok ({ L with } : LaysGt.n42 P ρ) S r m e (by omega) (by omega) (by omega) hn d wr hst
              go_wp2_with (first | (go_at_fn (ρ.f 42); refine hr.mono ?_; rintro e' w1 ⟨rfl, d1, r1, r2, r3, r4⟩; have c0r := r4.cell hw0 c0; have c1r := r4.cell hw0 c1; have HV := Crs.hlv hs1 hs2 CR r1; rw [hse] at HV) | (go_at_fn_of (ρ.f 30) (Value.int .i64 b); refine (IH mid e b d1 w1 (by omega) (by omega) (by omega) (by omega) HV.s3 HV.s4 r3).mono ?_; rintro e' w3 ⟨rfl, d3, q1, q2, q3, q4⟩))
              all_goals (go_end0; have z1 : d1.size = d.size := r2.1; exact ⟨rfl, d3, permIn_trans _ _ _ _ _ (permIn_mono _ _ _ _ _ _ CR.h1 CR.h4 (by omega) r2) (permIn_trans _ _ _ _ _ (permIn_mono _ _ _ _ _ _ (Nat.le_refl _) (by omega) (by omega) (permIn_refl _ _ _)) (permIn_mono _ _ _ _ _ _ (by omega) (Nat.le_refl _) (by omega) q1)), HV.glue (by omega) (by omega) (by omega) (permIn_refl _ _ _) (Hlv.left HV (by omega) CR.h1 (by omega)) q1 q2, q3, (Kp.alloc _).trans ((hkp.trans r4).trans q4)⟩)
            · skip
              skip
              have hr := rot_ok ({ L with } : LaysGt.n42 P ρ) S r m e (by omega) (by omega) (by omega) hn d wr hst
              go_wp2_with (first | (go_at_fn (ρ.f 42); refine hr.mono ?_; rintro e' w1 ⟨rfl, d1, r1, r2, r3, r4⟩; have c0r := r4.cell hw0 c0; have c1r := r4.cell hw0 c1; have HV := Crs.hlv hs1 hs2 CR r1; rw [hse] at HV))
              all_goals (go_end0; have z1 : d1.size = d.size := r2.1; exact ⟨rfl, d1, permIn_trans _ _ _ _ _ (permIn_mono _ _ _ _ _ _ CR.h1 CR.h4 (by omega) r2) (permIn_trans _ _ _ _ _ (permIn_mono _ _ _ _ _ _ (Nat.le_refl _) (by omega) (by omega) (permIn_refl _ _ _)) (permIn_mono _ _ _ _ _ _ (by omega) (Nat.le_refl _) (by omega) (permIn_refl _ _ _))), HV.glue (by omega) (by omega) (by omega) (permIn_refl _ _ _) (Hlv.left HV (by omega) CR.h1 (by omega)) (permIn_refl _ _ _) (Hlv.right HV (by omega) (by omega) CR.h4), r3, (Kp.alloc _).trans (hkp.trans r4)⟩)
        · skip
          by_cases x2 : a < r ∧ r < mid
          · obtain ⟨x2a, x2b⟩ := x2
            by_cases x3 : mid < e ∧ e < b
            · obtain ⟨x3a, x3b⟩ := x3
              skip
              have HV := Crs.hlv hs1 hs2 CR (Rot.self CR.h2 CR.h3 (by omega))
              rw [hse] at HV
              go_wp2_with (first | (go_at_fn_of (ρ.f 30) (Value.int .i64 a); refine (IH a r mid d wr (by omega) (by omega) (by omega) (by omega) HV.s1 HV.s2 hst).mono ?_; rintro e' w2 ⟨rfl, d2, p1, p2, p3, p4⟩; have c0p := p4.cell hw0 c0; have c1p := p4.cell hw0 c1) | (go_at_fn_of (ρ.f 30) (Value.int .i64 b); refine (IH mid e b d2 w2 (by omega) (by omega) (by omega) (by omega) (perm_out p1 HV.s3 (.inr (Nat.le_refl _))) (perm_out p1 HV.s4 (.inr (by omega))) p3).mono ?_; rintro e' w3 ⟨rfl, d3, q1, q2, q3, q4⟩))
              all_goals (go_end0; have z1 : d.size = d.size := rfl; exact ⟨rfl, d3, permIn_trans _ _ _ _ _ (permIn_refl _ _ _) (permIn_trans _ _ _ _ _ (permIn_mono _ _ _ _ _ _ (Nat.le_refl _) (by omega) (by omega) p1) (permIn_mono _ _ _ _ _ _ (by omega) (Nat.le_refl _) (by rw [p1.1]; omega) q1)), HV.glue (by omega) (by omega) (by omega) p1 p2 q1 q2, q3, (Kp.alloc _).trans ((hkp.trans p4).trans q4)⟩)
            · skip
              skip
              have HV := Crs.hlv hs1 hs2 CR (Rot.self CR.h2 CR.h3 (by omega))
              rw [hse] at HV
              go_wp2_with (first | (go_at_fn_of (ρ.f 30) (Value.int .i64 a); refine (IH a r mid d wr (by omega) (by omega) (by omega) (by omega) HV.s1 HV.s2 hst).mono ?_; rintro e' w2 ⟨rfl, d2, p1, p2, p3, p4⟩; have c0p := p4.cell hw0 c0; have c1p := p4.cell hw0 c1))
              all_goals (go_end0; have z1 : d.size = d.size := rfl; exact ⟨rfl, d2, permIn_trans _ _ _ _ _ (permIn_refl _ _ _) (permIn_trans _ _ _ _ _ (permIn_mono _ _ _ _ _ _ (Nat.le_refl _) (by omega) (by omega) p1) (permIn_mono _ _ _ _ _ _ (by omega) (Nat.le_refl _) (by rw [p1.1]; omega) (permIn_refl _ _ _))), HV.glue (by omega) (by omega) (by omega) p1 p2 (permIn_refl _ _ _) (perm_out p1 (Hlv.right HV (by omega) (by omega) CR.h4) (.inr (Nat.le_refl _))), p3, (Kp.alloc _).trans (hkp.trans p4)⟩)
          · skip
            by_cases x3 : mid < e ∧ e < b
            · obtain ⟨x3a, x3b⟩ := x3
              skip
              have HV := Crs.hlv hs1 hs2 CR (Rot.self CR.h2 CR.h3 (by omega))
              rw [hse] at HV
              go_wp2_with (first | (go_at_fn_of (ρ.f 30) (Value.int .i64 b); refine (IH mid e b d wr (by omega) (by omega) (by omega) (by omega) HV.s3 HV.s4 hst).mono ?_; rintro e' w3 ⟨rfl, d3, q1, q2, q3, q4⟩))
              all_goals (go_end0; have z1 : d.size = d.size := rfl; exact ⟨rfl, d3, permIn_trans _ _ _ _ _ (permIn_refl _ _ _) (permIn_trans _ _ _ _ _ (permIn_mono _ _ _ _ _ _ (Nat.le_refl _) (by omega) (by omega) (permIn_refl _ _ _)) (permIn_mono _ _ _ _ _ _ (by omega) (Nat.le_refl _) (by omega) q1)), HV.glue (by omega) (by omega) (by omega) (permIn_refl _ _ _) (Hlv.left HV (by omega) CR.h1 (by omega)) q1 q2, q3, (Kp.alloc _).trans (hkp.trans q4)⟩)
            · skip
              skip
              have HV := Crs.hlv hs1 hs2 CR (Rot.self CR.h2 CR.h3 (by omega))
              rw [hse] at HV
              go_wp2
              all_goals (go_end0; have z1 : d.size = d.size := rfl; exact ⟨rfl, d, permIn_trans _ _ _ _ _ (permIn_refl _ _ _) (permIn_trans _ _ _ _ _ (permIn_mono _ _ _ _ _ _ (Nat.le_refl _) (by omega) (by omega) (permIn_refl _ _ _)) (permIn_mono _ _ _ _ _ _ (by omega) (Nat.le_refl _) (by omega) (permIn_refl _ _ _))), HV.glue (by omega) (by omega) (by omega) (permIn_refl _ _ _) (Hlv.left HV (by omega) CR.h1 (by omega)) (permIn_refl _ _ _) (Hlv.right HV (by omega) (by omega) CR.h4), hst, (Kp.alloc _).trans hkp⟩)
  · skip
    obtain ⟨S0, hS0⟩ : ∃ S0, S0 = a := ⟨_, rfl⟩
    obtain ⟨R0, hR0⟩ : ∃ R0, R0 = m := ⟨_, rfl⟩
    have hcs : (mid < m ∧ S0 = mid + m - b ∧ R0 = mid) ∨ (m ≤ mid ∧ S0 = a ∧ R0 = m) := .inr ⟨by omega, hS0, hR0⟩
    have hbd : ∀ c, S0 ≤ c → c < R0 → a ≤ c ∧ c < m ∧ m ≤ mid + m - 1 - c ∧ mid + m - 1 - c < b ∧ c ≤ mid + m - 1 := fun c h1 h2 => by omega
    have HCS : Hid _ := hcs
    clear hcs
    have h00 : S0 ≤ R0 := by omega
    have HS0 : Hid (S0 = a) := hS0
    have HR0 : Hid (R0 = m) := hR0
    have hS1' : S0 ≤ a := by omega
    have hS2' : a ≤ S0 := by omega
    have hR1 : R0 ≤ m := by omega
    have hR2 : m ≤ R0 := by omega
    clear hS0 hR0
    go_wp2
    go_loopw [18, 19] (fun vi vj wr => ∃ (s r : Nat), vi = .int .i64 s ∧ vj = .int .i64 r ∧ Cut lt d (mid + m - 1) S0 R0 s r ∧ St d wr ∧ Kp base (w.alloc (.cells #[.func (.func g) #[] lb, .func (.func sf) #[] sb] (ρ.t 42))) wr) (fun vi vj _ => (Proofs.intOf vj - Proofs.intOf vi).toNat)
    case atStart => exact ⟨S0, R0, by congr 1 <;> omega, by congr 1 <;> omega, ⟨Nat.le_refl _, h00, Nat.le_refl _, fun c h1 h2 => by omega, fun c h1 h2 => by omega⟩, hS1, Kp.refl⟩
    case round =>
      obtain ⟨s, r, rfl, rfl, hcut, hst, hkp⟩ := hrel
      have c0 : wr.cell? ⟨w.heap.size, 0, none⟩ = some (.func (.func g) #[] lb) := hkp.cell hw0 (by simp)
      have c1 : wr.cell? ⟨w.heap.size, 1, none⟩ = some (.func (.func sf) #[] sb) := hkp.cell hw0 (by simp)
      have k1 := hcut.le0; have k2 := hcut.le; have k3 := hcut.le1
      by_cases hlt : s < r
      · have hbc := hbd ((s + r) / 2) (by omega) (by omega)
        have hc := S.less d wr (mid + m - 1 - (s + r) / 2) ((s + r) / 2) hst (by omega) (by omega)
        rw [show ((mid + m - 1 - (s + r) / 2 : Nat) : Int) = (mid : Int) + (m : Int) - 1 - ((s : Int) + (r : Int)) / 2 by omega, show (((s + r) / 2 : Nat) : Int) = ((s : Int) + (r : Int)) / 2 by omega] at hc
        cases hlv : lt d[mid + m - 1 - (s + r) / 2]! d[(s + r) / 2]! with
        | false =>
          rw [hlv] at hc
          have hn := hcut.no hO hs1 hs2 hbd (by omega : s ≤ (s + r) / 2) (by omega) hlv
          clear hbd hs1 hs2 IH
          go_wp2_with (go_at_fn g; refine hc.mono ?_; rintro e w2 ⟨rfl, h1, h2⟩)
          go_roundw
          case rel => exact ⟨(s + r) / 2 + 1, r, by congr 1 <;> omega, rfl, hn, h1, hkp.trans h2⟩
          case measure => simp [Proofs.intOf]; omega
        | true =>
          rw [hlv] at hc
          have hn := hcut.yes hO hs1 hs2 hbd (by omega : s ≤ (s + r) / 2) (by omega) hlv
          clear hbd hs1 hs2 IH
          go_wp2_with (go_at_fn g; refine hc.mono ?_; rintro e w2 ⟨rfl, h1, h2⟩)
          go_roundw
          case rel => exact ⟨s, (s + r) / 2, rfl, by congr 1 <;> omega, hn, h1, hkp.trans h2⟩
          case measure => simp [Proofs.intOf]; omega
      · have hj : r = s := by omega
        subst hj
        have CR := Cut.crs hO hs1 hs2 (by omega) (by omega) HMI.out HCS.out hcut
        obtain ⟨e, he⟩ : ∃ e : Nat, (mid : Int) + (m : Int) - (r : Int) = (e : Int) := ⟨mid + m - r, by omega⟩
        have hen : mid + m - r = e := by omega
        rw [hen] at CR
        have k4 := CR.h1; have k5 := CR.h2; have k6 := CR.h3; have k7 := CR.h4
        have hse : r + (e - m) = mid := by omega
        have HEN : Hid _ := hen
        clear hen hbd
        by_cases x1 : r < m ∧ m < e
        · obtain ⟨x1a, x1b⟩ := x1
          by_cases x2 : a < r ∧ r < mid
          · obtain ⟨x2a, x2b⟩ := x2
            by_cases x3 : mid < e ∧ e < b
            · obtain ⟨x3a, x3b⟩ := x3
              skip
              have hr := rot_ok ({ L with } : LaysGt.n42 P ρ) S r m e (by omega) (by omega) (by omega) hn d wr hst
              go_wp2_with (first | (go_at_fn (ρ.f 42); refine hr.mono ?_; rintro e' w1 ⟨rfl, d1, r1, r2, r3, r4⟩; have c0r := r4.cell hw0 c0; have c1r := r4.cell hw0 c1; have HV := Crs.hlv hs1 hs2 CR r1; rw [hse] at HV) | (go_at_fn_of (ρ.f 30) (Value.int .i64 a); refine (IH a r mid d1 w1 (by omega) (by omega) (by omega) (by omega) HV.s1 HV.s2 r3).mono ?_; rintro e' w2 ⟨rfl, d2, p1, p2, p3, p4⟩; have c0p := p4.cell hw0 c0r; have c1p := p4.cell hw0 c1r) | (go_at_fn_of (ρ.f 30) (Value.int .i64 b); refine (IH mid e b d2 w2 (by omega) (by omega) (by omega) (by omega) (perm_out p1 HV.s3 (.inr (Nat.le_refl _))) (perm_out p1 HV.s4 (.inr (by omega))) p3).mono ?_; rintro e' w3 ⟨rfl, d3, q1, q2, q3, q4⟩))
              all_goals (go_end0; have z1 : d1.size = d.size := r2.1; exact ⟨rfl, d3, permIn_trans _ _ _ _ _ (permIn_mono _ _ _ _ _ _ CR.h1 CR.h4 (by omega) r2) (permIn_trans _ _ _ _ _ (permIn_mono _ _ _ _ _ _ (Nat.le_refl _) (by omega) (by omega) p1) (permIn_mono _ _ _ _ _ _ (by omega) (Nat.le_refl _) (by rw [p1.1]; omega) q1)), HV.glue (by omega) (by omega) (by omega) p1 p2 q1 q2, q3, (Kp.alloc _).trans (((hkp.trans r4).trans p4).trans q4)⟩)
            · skip
              skip
              have hr := rot_ok ({ L with } : LaysGt.n42 P ρ) S r m e (by omega) (by omega) (by omega) hn d wr hst
              go_wp2_with (first | (go_at_fn (ρ.f 42); refine hr.mono ?_; rintro e' w1 ⟨rfl, d1, r1, r2, r3, r4⟩; have c0r := r4.cell hw0 c0; have c1r := r4.cell hw0 c1; have HV := Crs.hlv hs1 hs2 CR r1; rw [hse] at HV) | (go_at_fn_of (ρ.f 30) (Value.int .i64 a); refine (IH a r mid d1 w1 (by omega) (by omega) (by omega) (by omega) HV.s1 HV.s2 r3).mono ?_; rintro e' w2 ⟨rfl, d2, p1, p2, p3, p4⟩; have c0p := p4.cell hw0 c0r; have c1p := p4.cell hw0 c1r))
              all_goals (go_end0; have z1 : d1.size = d.size := r2.1; exact ⟨rfl, d2, permIn_trans _ _ _ _ _ (permIn_mono _ _ _ _ _ _ CR.h1 CR.h4 (by omega) r2) (permIn_trans _ _ _ _ _ (permIn_mono _ _ _ _ _ _ (Nat.le_refl _) (by omega) (by omega) p1) (permIn_mono _ _ _ _ _ _ (by omega) (Nat.le_refl _) (by rw [p1.1]; omega) (permIn_refl _ _ _))), HV.glue (by omega) (by omega) (by omega) p1 p2 (permIn_refl _ _ _) (perm_out p1 (Hlv.right HV (by omega) (by omega) CR.h4) (.inr (Nat.le_refl _))), p3, (Kp.alloc _).trans ((hkp.trans r4).trans p4)⟩)
          · skip
            by_cases x3 : mid < e ∧ e < b
            · obtain ⟨x3a, x3b⟩ := x3
              skip
              have hr := rot_ok ({ L with } : LaysGt.n42 P ρ) S r m e (by omega) (by omega) (by omega) hn d wr hst
              go_wp2_with (first | (go_at_fn (ρ.f 42); refine hr.mono ?_; rintro e' w1 ⟨rfl, d1, r1, r2, r3, r4⟩; have c0r := r4.cell hw0 c0; have c1r := r4.cell hw0 c1; have HV := Crs.hlv hs1 hs2 CR r1; rw [hse] at HV) | (go_at_fn_of (ρ.f 30) (Value.int .i64 b); refine (IH mid e b d1 w1 (by omega) (by omega) (by omega) (by omega) HV.s3 HV.s4 r3).mono ?_; rintro e' w3 ⟨rfl, d3, q1, q2, q3, q4⟩))
              all_goals (go_end0; have z1 : d1.size = d.size := r2.1; exact ⟨rfl, d3, permIn_trans _ _ _ _ _ (permIn_mono _ _ _ _ _ _ CR.h1 CR.h4 (by omega) r2) (permIn_trans _ _ _ _ _ (permIn_mono _ _ _ _ _ _ (Nat.le_refl _) (by omega) (by omega) (permIn_refl _ _ _)) (permIn_mono _ _ _ _ _ _ (by omega) (Nat.le_refl _) (by omega) q1)), HV.glue (by omega) (by omega) (by omega) (permIn_refl _ _ _) (Hlv.left HV (by omega) CR.h1 (by omega)) q1 q2, q3, (Kp.alloc _).trans ((hkp.trans r4).trans q4)⟩)
            · skip
              skip
              have hr := rot_ok ({ L with } : LaysGt.n42 P ρ) S r m e (by omega) (by omega) (by omega) hn d wr hst
              go_wp2_with (first | (go_at_fn (ρ.f 42); refine hr.mono ?_; rintro e' w1 ⟨rfl, d1, r1, r2, r3, r4⟩; have c0r := r4.cell hw0 c0; have c1r := r4.cell hw0 c1; have HV := Crs.hlv hs1 hs2 CR r1; rw [hse] at HV))
              all_goals (go_end0; have z1 : d1.size = d.size := r2.1; exact ⟨rfl, d1, permIn_trans _ _ _ _ _ (permIn_mono _ _ _ _ _ _ CR.h1 CR.h4 (by omega) r2) (permIn_trans _ _ _ _ _ (permIn_mono _ _ _ _ _ _ (Nat.le_refl _) (by omega) (by omega) (permIn_refl _ _ _)) (permIn_mono _ _ _ _ _ _ (by omega) (Nat.le_refl _) (by omega) (permIn_refl _ _ _))), HV.glue (by omega) (by omega) (by omega) (permIn_refl _ _ _) (Hlv.left HV (by omega) CR.h1 (by omega)) (permIn_refl _ _ _) (Hlv.right HV (by omega) (by omega) CR.h4), r3, (Kp.alloc _).trans (hkp.trans r4)⟩)
        · skip
          by_cases x2 : a < r ∧ r < mid
          · obtain ⟨x2a, x2b⟩ := x2
            by_cases x3 : mid < e ∧ e < b
            · obtain ⟨x3a, x3b⟩ := x3
              skip
              have HV := Crs.hlv hs1 hs2 CR (Rot.self CR.h2 CR.h3 (by omega))
              rw [hse] at HV
              go_wp2_with (first | (go_at_fn_of (ρ.f 30) (Value.int .i64 a); refine (IH a r mid d wr (by omega) (by omega) (by omega) (by omega) HV.s1 HV.s2 hst).mono ?_; rintro e' w2 ⟨rfl, d2, p1, p2, p3, p4⟩; have c0p := p4.cell hw0 c0; have c1p := p4.cell hw0 c1) | (go_at_fn_of (ρ.f 30) (Value.int .i64 b); refine (IH mid e b d2 w2 (by omega) (by omega) (by omega) (by omega) (perm_out p1 HV.s3 (.inr (Nat.le_refl _))) (perm_out p1 HV.s4 (.inr (by omega))) p3).mono ?_; rintro e' w3 ⟨rfl, d3, q1, q2, q3, q4⟩))
              all_goals (go_end0; have z1 : d.size = d.size := rfl; exact ⟨rfl, d3, permIn_trans _ _ _ _ _ (permIn_refl _ _ _) (permIn_trans _ _ _ _ _ (permIn_mono _ _ _ _ _ _ (Nat.le_refl _) (by omega) (by omega) p1) (permIn_mono _ _ _ _ _ _ (by omega) (Nat.le_refl _) (by rw [p1.1]; omega) q1)), HV.glue (by omega) (by omega) (by omega) p1 p2 q1 q2, q3, (Kp.alloc _).trans ((hkp.trans p4).trans q4)⟩)
            · skip
              skip
              have HV := Crs.hlv hs1 hs2 CR (Rot.self CR.h2 CR.h3 (by omega))
              rw [hse] at HV
              go_wp2_with (first | (go_at_fn_of (ρ.f 30) (Value.int .i64 a); refine (IH a r mid d wr (by omega) (by omega) (by omega) (by omega) HV.s1 HV.s2 hst).mono ?_; rintro e' w2 ⟨rfl, d2, p1, p2, p3, p4⟩; have c0p := p4.cell hw0 c0; have c1p := p4.cell hw0 c1))
              all_goals (go_end0; have z1 : d.size = d.size := rfl; exact ⟨rfl, d2, permIn_trans _ _ _ _ _ (permIn_refl _ _ _) (permIn_trans _ _ _ _ _ (permIn_mono _ _ _ _ _ _ (Nat.le_refl _) (by omega) (by omega) p1) (permIn_mono _ _ _ _ _ _ (by omega) (Nat.le_refl _) (by rw [p1.1]; omega) (permIn_refl _ _ _))), HV.glue (by omega) (by omega) (by omega) p1 p2 (permIn_refl _ _ _) (perm_out p1 (Hlv.right HV (by omega) (by omega) CR.h4) (.inr (Nat.le_refl _))), p3, (Kp.alloc _).trans (hkp.trans p4)⟩)
          · skip
            by_cases x3 : mid < e ∧ e < b
            · obtain ⟨x3a, x3b⟩ := x3
              skip
              have HV := Crs.hlv hs1 hs2 CR (Rot.self CR.h2 CR.h3 (by omega))
              rw [hse] at HV
              go_wp2_with (first | (go_at_fn_of (ρ.f 30) (Value.int .i64 b); refine (IH mid e b d wr (by omega) (by omega) (by omega) (by omega) HV.s3 HV.s4 hst).mono ?_; rintro e' w3 ⟨rfl, d3, q1, q2, q3, q4⟩))
              all_goals (go_end0; have z1 : d.size = d.size := rfl; exact ⟨rfl, d3, permIn_trans _ _ _ _ _ (permIn_refl _ _ _) (permIn_trans _ _ _ _ _ (permIn_mono _ _ _ _ _ _ (Nat.le_refl _) (by omega) (by omega) (permIn_refl _ _ _)) (permIn_mono _ _ _ _ _ _ (by omega) (Nat.le_refl _) (by omega) q1)), HV.glue (by omega) (by omega) (by omega) (permIn_refl _ _ _) (Hlv.left HV (by omega) CR.h1 (by omega)) q1 q2, q3, (Kp.alloc _).trans (hkp.trans q4)⟩)
            · skip
              skip
              have HV := Crs.hlv hs1 hs2 CR (Rot.self CR.h2 CR.h3 (by omega))
              rw [hse] at HV
              go_wp2
              all_goals (go_end0; have z1 : d.size = d.size := rfl; exact ⟨rfl, d, permIn_trans _ _ _ _ _ (permIn_refl _ _ _) (permIn_trans _ _ _ _ _ (permIn_mono _ _ _ _ _ _ (Nat.le_refl _) (by omega) (by omega) (permIn_refl _ _ _)) (permIn_mono _ _ _ _ _ _ (by omega) (Nat.le_refl _) (by omega) (permIn_refl _ _ _))), HV.glue (by omega) (by omega) (by omega) (permIn_refl _ _ _) (Hlv.left HV (by omega) CR.h1 (by omega)) (permIn_refl _ _ _) (Hlv.right HV (by omega) (by omega) CR.h4), hst, (Kp.alloc _).trans hkp⟩)
end
section
variable {P : Program} {ρ : Ren} {α : Type} [Inhabited α]
/-- Sorted within each block of B elements, from place lo to place hi. -/
def Bk (lt : α → α → Bool) (B : Nat) (d : Array α) (lo hi : Nat) : Prop := ∀ q i j, q * B ≤ i → i < j → j < q * B + B → lo ≤ i → j < hi → lt d[j]! d[i]! = false
theorem Bk.empty {lt : α → α → Bool} {B : Nat} {d : Array α} : Bk lt B d 0 0 := fun q i j h1 h2 h3 h4 h5 => by omega
theorem Bk.all {lt : α → α → Bool} {B n : Nat} {d : Array α} (h : Bk lt B d 0 n) (hn : n ≤ B) : SortedIn lt 0 n d := fun i j h1 h2 h3 => h 0 i j (by omega) h2 (by omega) h1 h3
theorem Bk.snoc {lt : α → α → Bool} {B a x p : Nat} {d d' : Array α} (h : Bk lt B d 0 a) (hp : p * B = a) (h2 : a ≤ x) (hx : x ≤ a + B) (hm : PermIn a x d d') (hs : SortedIn lt a x d') : Bk lt B d' 0 x := by
  intro q i j h3 h4 h5 h6 h7
  rcases Nat.lt_or_ge j a with hj | hj
  · rw [hm.2.1 i (.inl (by omega)), hm.2.1 j (.inl hj)]; exact h q i j h3 h4 h5 h6 hj
  · have hq : p ≤ q := by
      rcases Nat.lt_or_ge q p with hlt | hge
      · have := Nat.mul_le_mul_right B (show q + 1 ≤ p from hlt)
        rw [Nat.add_mul, Nat.one_mul] at this
        omega
      · exact hge
    have := Nat.mul_le_mul_right B hq
    exact hs i j (by omega) h4 h7
theorem Bk.keep {lt : α → α → Bool} {B a b n : Nat} {d d' : Array α} (h : Bk lt B d a n) (hm : PermIn a b d d') (hab : a ≤ b) : Bk lt B d' b n := by
  intro q i j h3 h4 h5 h6 h7
  rw [hm.2.1 i (.inr h6), hm.2.1 j (.inr (by omega))]
  exact h q i j h3 h4 h5 (by omega) h7
theorem Bk.left {lt : α → α → Bool} {B a n p x : Nat} {d : Array α} (h : Bk lt B d a n) (hp : p * (2 * B) = a) (hx : x ≤ a + B) (hn : x ≤ n) : SortedIn lt a x d := by
  intro i j h1 h2 h3
  have e : 2 * p * B = a := by rw [Nat.mul_comm 2 p, Nat.mul_assoc]; exact hp
  exact h (2 * p) i j (by omega) h2 (by omega) h1 (by omega)
theorem Bk.right {lt : α → α → Bool} {B a n p x : Nat} {d : Array α} (h : Bk lt B d a n) (hp : p * (2 * B) = a) (hx : x ≤ a + 2 * B) (hn : x ≤ n) : SortedIn lt (a + B) x d := by
  intro i j h1 h2 h3
  have e : 2 * p * B = a := by rw [Nat.mul_comm 2 p, Nat.mul_assoc]; exact hp
  have e2 : (2 * p + 1) * B = a + B := by rw [Nat.add_mul, Nat.one_mul, e]
  exact h (2 * p + 1) i j (by omega) h2 (by omega) (by omega) (by omega)
theorem Bk.start {lt : α → α → Bool} {B n : Nat} {d : Array α} (h : Bk lt B d 0 n) : Bk lt B d 0 n := h

theorem sym_ok (L : LaysGt.n30 P ρ) {lt : α → α → Bool} (hO : SWO lt) {g : Nat} {lb : Array Value} {sf : Nat} {sb : Array Value} {n base : Nat} {St : Array α → World → Prop}
    (eg : ∀ args w, (callFunc g args).run P w = .ok (.enter g args) w) (S : SoSt P lt g lb sf sb n base St) (hn : n < 1152921504606846976) : ∀ (k a m b : Nat) (d : Array α) (w : World), b - a ≤ k → a < m → m < b → b ≤ n → SortedIn lt a m d → SortedIn lt m b d → St d w →
      Calls P (ρ.f 30) #[.agg #[.func (.func g) #[] lb, .func (.func sf) #[] sb], .int .i64 a, .int .i64 m, .int .i64 b] w fun e w' => e = .returned (.tuple #[]) ∧ ∃ d', PermIn a b d d' ∧ SortedIn lt a b d' ∧ St d' w' ∧ Kp base w w'
  | 0, a, m, b, d, w, h, h1, h2, _, _, _, _ => by omega
  | k + 1, a, m, b, d, w, h, h1, h2, h3, s1, s2, hS => by
    by_cases c1 : m = a + 1
    · exact sym_one L hO eg S a m b c1 h2 h3 hn d w s2 hS
    · by_cases c2 : b = m + 1
      · exact sym_last L hO eg S a m b (by omega) c2 h3 hn d w s1 hS
      · exact sym_main L hO eg S k (sym_ok L hO eg S hn k) a m b h (by omega) (by omega) h3 hn d w s1 s2 hS

set_option maxHeartbeats 4000000 in
set_option maxRecDepth 100000 in
theorem stable_ok (L : LaysGt.n15 P ρ) {lt : α → α → Bool} (hO : SWO lt) {g : Nat} {lb : Array Value} {sf : Nat} {sb : Array Value} {n base : Nat} {St : Array α → World → Prop}
    (eg : ∀ args w, (callFunc g args).run P w = .ok (.enter g args) w) (S : SoSt P lt g lb sf sb n base St) (hn : n < 1152921504606846976) (d : Array α) (w : World) (hS : St d w) :
    Calls P (ρ.f 15) #[.agg #[.func (.func g) #[] lb, .func (.func sf) #[] sb], .int .i64 n] w fun e w' => e = .returned (.tuple #[]) ∧ ∃ d', PermIn 0 n d d' ∧ SortedIn lt 0 n d' ∧ St d' w' ∧ Kp base w w' := by
  have mixed := L.mixed; have t47 := L.t47; have a47 := L.a47; have z47 := L.z47; have v47 := L.v47; have t0 := L.t0; have a0 := L.a0; have z0 := L.z0; have v0 := L.v0; have t3 := L.t3; have a3 := L.a3; have z3 := L.z3; have v3 := L.v3; have t4 := L.t4; have a4 := L.a4; have z4 := L.z4; have v4 := L.v4; have t26 := L.t26; have a26 := L.a26; have z26 := L.z26; have v26 := L.v26; have t38 := L.t38; have a38 := L.a38; have z38 := L.z38; have v38 := L.v38; have t42 := L.t42; have a42 := L.a42; have z42 := L.z42; have v42 := L.v42
  have u42 := run_underlying L.t42
  have hw0 := (S.size _ _ hS).2
  have hdn := (S.size _ _ hS).1
  have hS1 := S.alloc _ _ (.cells #[.func (.func g) #[] lb, .func (.func sf) #[] sb] (ρ.t 42)) hS
  have e29 : ∀ args w, (callFunc (ρ.f 29) args).run P w = .ok (.enter (ρ.f 29) args) w := enters_of L.f29 (by kernel_rfl) rfl
  have e30 : ∀ args w, (callFunc (ρ.f 30) args).run P w = .ok (.enter (ρ.f 30) args) w := enters_of L.f30 (by kernel_rfl) rfl
  go_enter L.f15, BodyGt.n15_ntmps ρ
  go_wp2
  go_loopw [5, 6] (fun va vb wr => ∃ (p a : Nat) (dk : Array α), va = .int .i64 a ∧ vb = .int .i64 ((a : Int) + 20) ∧ Hid (p * 20 = a) ∧ a ≤ n ∧ St dk wr ∧ Kp base (w.alloc (.cells #[.func (.func g) #[] lb, .func (.func sf) #[] sb] (ρ.t 42))) wr ∧ PermIn 0 n d dk ∧ Bk lt 20 dk 0 a) (fun va _ _ => n - (Proofs.intOf va).toNat)
  case atStart => exact ⟨0, 0, d, rfl, rfl, rfl, by omega, hS1, Kp.refl, permIn_refl _ _ _, Bk.empty⟩
  case round =>
    obtain ⟨p, a, dk, rfl, rfl, hpa, han, hst, hkp, hpm, hbk⟩ := hrel
    have c0 : wr.cell? ⟨w.heap.size, 0, none⟩ = some (.func (.func g) #[] lb) := hkp.cell hw0 (by simp)
    have c1 : wr.cell? ⟨w.heap.size, 1, none⟩ = some (.func (.func sf) #[] sb) := hkp.cell hw0 (by simp)
    have hdk := (S.size _ _ hst).1
    by_cases hlt : a + 20 ≤ n
    · have hc := ins_ok ({ L with } : LaysGt.n29 P ρ) eg S a (a + 20) (by omega) hlt (by omega) dk wr hst
      rw [show ((a + 20 : Nat) : Int) = (a : Int) + 20 by omega] at hc
      have hi := insertionSort_holds hO dk a (a + 20) (by omega) (by omega)
      have HI : Hid _ := hi
      clear hi
      go_wp2_with (go_at_fn (ρ.f 29); refine hc.mono ?_; rintro e w2 ⟨rfl, h1, h2⟩)
      refine ⟨⟨p + 1, a + 20, _, by congr 1 <;> omega, by congr 1 <;> omega, by have := hpa.out; show (p + 1) * 20 = a + 20; omega, hlt, h1, hkp.trans h2, permIn_trans _ _ _ _ _ hpm (permIn_mono _ _ _ _ _ _ (by omega) hlt (by omega) HI.out.1), Bk.snoc hbk hpa.out (by omega) (by omega) HI.out.1 HI.out.2⟩, by simp [Proofs.intOf]; omega⟩
    · have hc := ins_ok ({ L with } : LaysGt.n29 P ρ) eg S a n han (Nat.le_refl _) (by omega) dk wr hst
      have hi := insertionSort_holds hO dk a n han (by omega)
      have HI : Hid _ := hi
      clear hi
      have HB : ∀ d1, PermIn a n dk d1 → SortedIn lt a n d1 → Bk lt 20 d1 0 n := fun d1 h1 h2 => Bk.snoc hbk hpa.out han (by omega) h1 h2
      have HB2 : Hid _ := HB
      clear HB
      go_wp2_with (go_at_fn (ρ.f 29); refine hc.mono ?_; rintro e w1 ⟨rfl, h1, h2⟩)
      have hp1 := permIn_trans _ _ _ _ _ hpm (permIn_mono _ _ _ _ _ _ (Nat.zero_le _) (Nat.le_refl _) (by omega) HI.out.1)
      have hb1 := HB2.out _ HI.out.1 HI.out.2
      have hk1 := hkp.trans h2
      clear hc hst hkp h2 hpm hbk HI HB2 c0 c1
      generalize Sort.insertionSort lt dk a n = d1 at h1 hp1 hb1
      go_loopw [4] (fun vB wr => ∃ (B : Nat) (dk : Array α), vB = .int .i64 B ∧ 20 ≤ B ∧ B ≤ 2 * n + 20 ∧ St dk wr ∧ Kp base (w.alloc (.cells #[.func (.func g) #[] lb, .func (.func sf) #[] sb] (ρ.t 42))) wr ∧ PermIn 0 n d dk ∧ Bk lt B dk 0 n) (fun vB _ => n - (Proofs.intOf vB).toNat)
      case atStart => exact ⟨20, d1, rfl, by omega, by omega, h1, hk1, hp1, hb1⟩
      case round =>
        obtain ⟨B, dk, rfl, hB, hBn, hst, hkp, hpm, hbk⟩ := hrel
        by_cases hlt2 : B < n
        · go_wp2
          go_loopw [5, 6] (fun va vb wr => ∃ (p a : Nat) (dk : Array α), va = .int .i64 a ∧ vb = .int .i64 ((a : Int) + 2 * (B : Int)) ∧ Hid (p * (2 * B) = a) ∧ a ≤ n ∧ St dk wr ∧ Kp base (w.alloc (.cells #[.func (.func g) #[] lb, .func (.func sf) #[] sb] (ρ.t 42))) wr ∧ PermIn 0 n d dk ∧ Bk lt (2 * B) dk 0 a ∧ Bk lt B dk a n) (fun va _ _ => n - (Proofs.intOf va).toNat)
          case atStart => exact ⟨0, 0, dk, rfl, by congr 1 <;> omega, Nat.zero_mul _, by omega, hst, hkp, hpm, Bk.empty, hbk⟩
          case round =>
            clear hst hkp hpm hbk
            obtain ⟨p, a, dk, rfl, rfl, hpa, han, hst, hkp, hpm, hb2, hbk⟩ := hrel
            have c0 : wr.cell? ⟨w.heap.size, 0, none⟩ = some (.func (.func g) #[] lb) := hkp.cell hw0 (by simp)
            have c1 : wr.cell? ⟨w.heap.size, 1, none⟩ = some (.func (.func sf) #[] sb) := hkp.cell hw0 (by simp)
            have hdk := (S.size _ _ hst).1
            by_cases hlt3 : a + 2 * B ≤ n
            · have hc := sym_ok ({ L with } : LaysGt.n30 P ρ) hO eg S hn n a (a + B) (a + 2 * B) dk wr (by omega) (by omega) (by omega) hlt3 (hbk.left hpa.out (Nat.le_refl _) (by omega)) (hbk.right hpa.out (Nat.le_refl _) (by omega)) hst
              rw [show ((a + B : Nat) : Int) = (a : Int) + (B : Int) by omega, show ((a + 2 * B : Nat) : Int) = (a : Int) + 2 * (B : Int) by omega] at hc
              go_wp2_with (go_at_fn (ρ.f 30); refine hc.mono ?_; rintro e w2 ⟨rfl, d2, h1, h2, h3, h4⟩)
              refine ⟨⟨p + 1, a + 2 * B, d2, by congr 1 <;> omega, by congr 1 <;> omega, by have := hpa.out; show (p + 1) * (2 * B) = a + 2 * B; rw [Nat.add_mul, Nat.one_mul, this], hlt3, h3, hkp.trans h4, permIn_trans _ _ _ _ _ hpm (permIn_mono _ _ _ _ _ _ (Nat.zero_le _) hlt3 (by omega) h1), Bk.snoc hb2 hpa.out (by omega) (Nat.le_refl _) h1 h2, hbk.keep h1 (by omega)⟩, by simp [Proofs.intOf]; omega⟩
            · by_cases hlt4 : a + B < n
              · have hc := sym_ok ({ L with } : LaysGt.n30 P ρ) hO eg S hn n a (a + B) n dk wr (by omega) (by omega) hlt4 (Nat.le_refl _) (hbk.left hpa.out (Nat.le_refl _) (by omega)) (hbk.right hpa.out (by omega) (Nat.le_refl _)) hst
                rw [show ((a + B : Nat) : Int) = (a : Int) + (B : Int) by omega] at hc
                go_wp2_with (go_at_fn (ρ.f 30); refine hc.mono ?_; rintro e w2 ⟨rfl, d2, h1, h2, h3, h4⟩)
                refine ⟨⟨2 * B, d2, by congr 1 <;> omega, by omega, by omega, h3, hkp.trans h4, permIn_trans _ _ _ _ _ hpm (permIn_mono _ _ _ _ _ _ (Nat.zero_le _) (Nat.le_refl _) (by omega) h1), Bk.snoc hb2 hpa.out han (by omega) h1 h2⟩, by simp [Proofs.intOf]; omega⟩
              · go_wp2
                refine ⟨⟨2 * B, dk, by congr 1 <;> omega, by omega, by omega, hst, hkp, hpm, Bk.snoc hb2 hpa.out han (by omega) (permIn_refl _ _ _) (hbk.left hpa.out (by omega) (Nat.le_refl _))⟩, by simp [Proofs.intOf]; omega⟩
        · go_wp2
          go_end0
          exact ⟨rfl, _, hpm, hbk.all (by omega), hst, (Kp.alloc _).trans hkp⟩
end
end Go.Gk
