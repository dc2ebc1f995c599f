/-
  Items and their encodings, keys, plain facts. Of the models alone; no program; no condition but the ranges told.
-/
import Derived.Test.YtcbkmlfkfhfliaaGreatDoorQZ1
namespace Go.Proofs.YtcbkmlfkfhfliaaGreatDoor
open Go.Gk Go.RowKit
theorem bnd_of {α β : Type} {X : Option β} {K : β → Option α} {y : β} {r : Option α} (h : X = some y) (h2 : K y = r) : bnd X K = r := by rw [h]; exact h2
theorem loopF_inv {S R : Type} {b : (S → Option R) → S → Option R} (I : Nat → S → Prop) (v : R) (h0 : ∀ s self, I 0 s → b self s = some v)
    (hs : ∀ n s self, I (n + 1) s → (∀ s', I n s' → self s' = some v) → b self s = some v) : ∀ (n f : Nat) (s : S), n < f → I n s → loopF b f s = some v
  | 0, f + 1, s, _, h => by rw [loopF_succ]; exact h0 s _ h
  | n + 1, f + 1, s, hf, h => by rw [loopF_succ]; exact hs n s _ h fun s' h' => loopF_inv I v h0 hs n f s' (by omega) h'
theorem bnd_ex {α β : Type} {X : Option β} {K : β → Option α} (P : β → Prop) {Q : α → Prop} (h : ∃ y, X = some y ∧ P y) (k : ∀ y, P y → ∃ r, K y = some r ∧ Q r) : ∃ r, bnd X K = some r ∧ Q r := by
  obtain ⟨y, rfl, hp⟩ := h
  exact k y hp
theorem same15_go (l : List S_api_Option) : ∀ (rest : List S_api_Option) (k : Nat), l.drop k = rest → loopL (R := Bool) (S := Unit) (α := S_api_Option) (fun _ _ => some true) (fun x11 k12 _ self14 =>
    bnd (bnd (idx l (k12 : Int)) fun x15 => letm ((x11.1 != x15.1)) fun x16 => cond x16 (some true) (bnd (idx l (k12 : Int)) fun x17 => letm ((x11.2 != x17.2)) fun x18 => some x18)) fun v19 => cond v19 (some false) (self14 ())) rest k () = some true
  | [], _, _ => rfl
  | x :: r, k, h => by
    have hk : l[k]? = some x := by have := congrArg (fun l => l[0]?) h; simpa using this
    have hd : l.drop (k + 1) = r := by have := congrArg (fun l => l.drop 1) h; simpa using this
    rw [loopL_cons, idx_some' hk, bnd_s, letm_e, same15_go l r (k + 1) hd]
    simp [letm_e, bnd_s]
theorem same15 (m : S_api_Message) : m_coresecref15_Same m m = some true := by
  unfold m_coresecref15_Same
  rw [same15_go m.2.2.2.2.1 m.2.2.2.2.1 0 rfl]
  simp [letm_e, bnd_s]
theorem allS_len (l : List S_api_Option) (n : Int) : (allS l n).length ≤ l.length := List.length_filterMap_le _ _
theorem allS_mem {l : List S_api_Option} {n : Int} {v : List UInt8} (h : v ∈ allS l n) : ∃ o ∈ l, o.2 = v := by
  unfold allS at h
  obtain ⟨o, ho, h⟩ := List.mem_filterMap.1 h
  refine ⟨o, ho, ?_⟩
  cases hq : o.1 == n with
  | true => rw [hq] at h; simpa using h
  | false => rw [hq] at h; cases h
/-- The options without those of a number. -/
def noO (l : List S_api_Option) (n : Int) : List S_api_Option := l.filter fun o => !(o.1 == n)
theorem pw_all {α : Type} {R : α → α → Prop} (h : ∀ a b, R a b) : ∀ l : List α, l.Pairwise R
  | [] => .nil
  | x :: l => .cons (fun b _ => h x b) (pw_all h l)
theorem setO_nil_eq (l : List S_api_Option) (n : Int) : setO l n [] = l.filter (fun o => decide (o.1 < n)) ++ l.filter (fun o => decide (n < o.1)) := by
  unfold setO; simp
/-- What is set to nothing is left out. -/
theorem setO_no : ∀ {l : List S_api_Option} {n : Int}, (noO l n).Pairwise (fun a b => a.1 ≤ b.1) → setO l n [] = noO l n
  | [], _, _ => rfl
  | x :: l, n, h => by
    have ih := @setO_no l n
    rw [setO_nil_eq] at ih ⊢
    unfold noO at h ih ⊢
    simp only [List.filter_cons] at h ⊢
    rcases Int.lt_trichotomy x.1 n with hx | hx | hx
    · have a1 : decide (x.1 < n) = true := decide_eq_true hx
      have a2 : decide (n < x.1) = false := decide_eq_false (by omega)
      have a3 : (!(x.1 == n)) = true := by rw [Bool.not_eq_true', beq_eq_false_iff_ne]; omega
      simp only [a1, a2, a3, if_true, if_false, Bool.false_eq_true, List.cons_append] at h ⊢
      rw [ih (List.pairwise_cons.1 h).2]
    · have a1 : decide (x.1 < n) = false := decide_eq_false (by omega)
      have a2 : decide (n < x.1) = false := decide_eq_false (by omega)
      have a3 : (!(x.1 == n)) = false := by rw [Bool.not_eq_false', beq_iff_eq]; exact hx
      simp only [a1, a2, a3, if_false, Bool.false_eq_true] at h ⊢
      exact ih h
    · have a1 : decide (x.1 < n) = false := decide_eq_false (by omega)
      have a2 : decide (n < x.1) = true := decide_eq_true hx
      have a3 : (!(x.1 == n)) = true := by rw [Bool.not_eq_true', beq_eq_false_iff_ne]; omega
      simp only [a1, a2, a3, if_true, if_false, Bool.false_eq_true] at h ⊢
      obtain ⟨h1, h2⟩ := List.pairwise_cons.1 h
      have e := ih h2
      have : l.filter (fun o => decide (o.1 < n)) = [] := by
        rw [List.filter_eq_nil_iff]
        intro o ho hc
        have hc' := of_decide_eq_true hc
        have := h1 o (List.mem_filter.2 ⟨ho, by rw [Bool.not_eq_true', beq_eq_false_iff_ne]; omega⟩)
        omega
      rw [this] at e ⊢
      rw [List.nil_append] at e ⊢
      rw [e]
theorem noO_set (l : List S_api_Option) (n : Int) (vs : List (List UInt8)) : noO (setO l n vs) n = setO l n [] := by
  unfold noO setO
  simp only [List.filter_append, List.map_nil, List.append_nil]
  have e1 : ∀ v : List UInt8, (!((n, v).1 == n)) = false := fun v => by simp
  have e2 : (vs.map (fun v => (n, v))).filter (fun o : S_api_Option => !(o.1 == n)) = [] := by
    rw [List.filter_eq_nil_iff]
    intro o ho
    obtain ⟨v, _, rfl⟩ := List.mem_map.1 ho
    simp
  rw [e2, List.append_nil]
  congr 1
  · rw [List.filter_eq_self]
    intro o ho
    have := of_decide_eq_true (List.mem_filter.1 ho).2
    rw [Bool.not_eq_true', beq_eq_false_iff_ne]; omega
  · rw [List.filter_eq_self]
    intro o ho
    have := of_decide_eq_true (List.mem_filter.1 ho).2
    rw [Bool.not_eq_true', beq_eq_false_iff_ne]; omega
theorem allS_set_same (l : List S_api_Option) (n : Int) (vs : List (List UInt8)) : allS (setO l n vs) n = vs := by
  unfold allS setO
  simp only [List.filterMap_append]
  have e1 : ∀ p : S_api_Option → Bool, (∀ o, p o = true → (o.1 == n) = false) → (l.filter p).filterMap (fun o : S_api_Option => cond (o.1 == n) (some o.2) none) = [] := by
    intro p hp
    rw [List.filterMap_eq_nil_iff]
    intro o ho
    rw [hp o (List.mem_filter.1 ho).2]; rfl
  rw [e1 _ (fun o h => by have := of_decide_eq_true h; rw [beq_eq_false_iff_ne]; omega), e1 _ (fun o h => by have := of_decide_eq_true h; rw [beq_eq_false_iff_ne]; omega)]
  rw [List.nil_append, List.append_nil, List.filterMap_map]
  induction vs with
  | nil => rfl
  | cons v vs ih => rw [List.filterMap_cons]; simp only [Function.comp_apply, beq_self_eq_true, cond_true]; rw [ih]
theorem allS_no {l : List S_api_Option} {n : Int} (h : allS l n = []) : noO l n = l := by
  unfold allS at h
  rw [List.filterMap_eq_nil_iff] at h
  unfold noO
  rw [List.filter_eq_self]
  intro o ho
  cases hq : o.1 == n with
  | false => rfl
  | true => have := h o ho; rw [hq] at this; cases this
theorem optsB_srt : ∀ {l : List S_api_Option} {n : Int}, optsB n l = true → l.Pairwise (fun a b => a.1 ≤ b.1)
  | [], _, _ => List.Pairwise.nil
  | x :: l, n, h => by
    simp only [optsB, Bool.and_eq_true, Bool.not_eq_true', decide_eq_false_iff_not] at h
    obtain ⟨⟨⟨h1, h2⟩, h3⟩, h4⟩ := h
    exact List.pairwise_cons.2 ⟨fun o ho => by have := (optsB_len h4 o ho).2.1; omega, optsB_srt h4⟩
theorem bytes_le {d : S_coresecmake_Deck} (h : DeckOK d) {n : Nat} (h1 : n ≤ 1000) : ∃ b d', m_coresecmake_Deck_Bytes d n = some (b, d') ∧ b.length ≤ n ∧ DeckOK d' := by
  unfold m_coresecmake_Deck_Bytes
  rw [letm_e, w64_of (by omega) (by omega)]
  obtain ⟨v, d1, h2, v0, v1, h3⟩ := next_some h (n := (n : Int) + 1) (by omega) (by omega)
  rw [h2, bnd_s]
  obtain ⟨k, rfl⟩ : ∃ k : Nat, v = (k : Int) := ⟨v.toNat, by omega⟩
  obtain ⟨z, d', h4, h5, h6⟩ := bytes_go k FUEL [] d1 (by rw [fuel_eq]; omega) h3 (by simp; omega)
  exact ⟨z, d', h4, by simp at h5; omega, h6⟩
/-- One value more of a number: one option more at most. -/
theorem setO_more (l : List S_api_Option) (x : Int) (b : List UInt8) : (setO l x (allS l x ++ [b])).length ≤ l.length + 1 := by
  unfold setO allS
  simp only [List.length_append, List.length_map, List.length_singleton]
  have : ∀ l : List S_api_Option, (l.filter fun o => decide (o.1 < x)).length + (l.filterMap fun o => cond (o.1 == x) (some o.2) none).length + (l.filter fun o => decide (x < o.1)).length ≤ l.length := by
    intro l
    induction l with
    | nil => simp
    | cons o l ih =>
      simp only [List.filter_cons, List.filterMap_cons]
      rcases Int.lt_trichotomy o.1 x with h | h | h
      · have h2 : ¬ x < o.1 := by omega
        have h3 : (o.1 == x) = false := by rw [beq_eq_false_iff_ne]; omega
        simp [h, h2, h3]; omega
      · have h1 : ¬ o.1 < x := by omega
        have h2 : ¬ x < o.1 := by omega
        simp [h]; omega
      · have h2 : ¬ o.1 < x := by omega
        have h3 : (o.1 == x) = false := by rw [beq_eq_false_iff_ne]; omega
        simp [h, h2, h3]; omega
  have := this l
  omega
/-- Options in order, with values of at most b bytes. -/
structure SrtB (b : Nat) (l : List S_api_Option) : Prop where
  srt : l.Pairwise (fun a b => a.1 ≤ b.1)
  num : ∀ o ∈ l, 0 ≤ o.1 ∧ o.1 ≤ 65535
  val : ∀ o ∈ l, o.2.length ≤ b
theorem SrtB.set {B : Nat} {l : List S_api_Option} (h : SrtB B l) {n : Int} (h0 : 0 ≤ n) (h1 : n ≤ 65535) {vs : List (List UInt8)} (hv : ∀ v ∈ vs, v.length ≤ B) : SrtB B (setO l n vs) := by
  refine ⟨?_, fun o ho => ?_, fun o ho => ?_⟩
  · unfold setO
    refine List.pairwise_append.2 ⟨List.pairwise_append.2 ⟨h.srt.filter _, ?_, ?_⟩, h.srt.filter _, ?_⟩
    · rw [List.pairwise_map]
      exact pw_all (fun _ _ => Int.le_refl _) vs
    · intro a ha b hb
      obtain ⟨v, _, rfl⟩ := List.mem_map.1 hb
      have := of_decide_eq_true (List.mem_filter.1 ha).2
      show a.1 ≤ n
      omega
    · intro a ha b hb
      have hb' := of_decide_eq_true (List.mem_filter.1 hb).2
      rcases List.mem_append.1 ha with ha | ha
      · have := of_decide_eq_true (List.mem_filter.1 ha).2
        omega
      · obtain ⟨v, _, rfl⟩ := List.mem_map.1 ha
        show n ≤ b.1
        omega
  · rcases setO_mem ho with ho | ⟨v, _, rfl⟩
    · exact h.num o ho
    · exact ⟨h0, h1⟩
  · rcases setO_mem ho with ho | ⟨v, hv', rfl⟩
    · exact h.val o ho
    · exact hv v hv'
theorem SrtB.opts : ∀ {B : Nat} (hB : B ≤ 1034) {l : List S_api_Option} {n : Int}, SrtB B l → (∀ o ∈ l, n ≤ o.1) → optsB n l = true
  | _, _, [], _, _, _ => rfl
  | B, hB, x :: l, n, h, hn => by
    obtain ⟨h1, h2⟩ := List.pairwise_cons.1 h.srt
    obtain ⟨a, b⟩ := h.num x (by simp)
    have c := h.val x (by simp)
    have := hn x (by simp)
    have ih := @SrtB.opts B hB l x.1 ⟨h2, fun o ho => h.num o (by simp [ho]), fun o ho => h.val o (by simp [ho])⟩ h1
    simp only [optsB, ih, Bool.and_true, Bool.and_eq_true, Bool.not_eq_true', decide_eq_false_iff_not]
    exact ⟨⟨by omega, by omega⟩, by omega⟩
theorem copy15 {m : S_api_Message} (h : LenM m) : m_coresecref15_Copy m = some m := by
  unfold m_coresecref15_Copy
  rw [app_nil_some h.1, bnd_s, app_nil_some h.2.2, bnd_s]
  rw [loopL_map (fun o => o) _ _ _ (by have := h.2.1.1; simp; omega) fun o ho k s self => ?_]
  · rw [List.map_id']; rfl
  · rw [app_nil_some (h.2.1.2 o ho)]; rfl

/-! ### Heads -/
def headS (m n : Nat) : List UInt8 :=
  bif Nat.blt n 24 then [UInt8.ofNat (32 * m + n)] else bif Nat.blt n 256 then [UInt8.ofNat (32 * m + 24), UInt8.ofNat n] else [UInt8.ofNat (32 * m + 25), UInt8.ofNat (n / 256), UInt8.ofNat n]
theorem headS_len (m n : Nat) : 1 ≤ (headS m n).length ∧ (headS m n).length ≤ 3 := by
  unfold headS; cases Nat.blt n 24 <;> cases Nat.blt n 256 <;> simp
theorem u64_toNat {n : Nat} (h : n < 65536) : (UInt64.toNat (UInt64.ofNat n)) = n := by rw [UInt64.toNat_ofNat']; omega
theorem blt_dec (a b : Nat) : decide ((a : Int) < (b : Int)) = Nat.blt a b := by
  rw [Bool.eq_iff_iff, decide_eq_true_eq, Nat.blt_eq]; omega
theorem toU8_nat (n : Nat) : toU8 (n : Int) = UInt8.ofNat n := toU8_ofNat
theorem head_small : ∀ (m : Fin 8) (n : Fin 24), m_cbor_head (UInt8.ofNat m.1) (UInt64.ofNat n.1) = some (headS m.1 n.1) := by decide +kernel
theorem head_or (m : Fin 8) : toU8 (bits .or .u8 (UInt8.toNat (UInt8.ofNat (32 * m.1))) (UInt8.toNat 24)) = UInt8.ofNat (32 * m.1 + 24) ∧ toU8 (bits .or .u8 (UInt8.toNat (UInt8.ofNat (32 * m.1))) (UInt8.toNat 25)) = UInt8.ofNat (32 * m.1 + 25) := by
  revert m; decide +kernel
theorem shl_nat : ∀ m : Fin 8, (Option.map (fun x : UInt8 => x.toNat) (shlK .u8 (UInt8.ofNat m.1) (UInt64.toNat 5 : Int)) : Option Nat) = some (32 * m.1) := by decide +kernel
theorem head_shl (m : Fin 8) : @Eq (Option UInt8) (shlK .u8 (UInt8.ofNat m.1) (UInt64.toNat 5 : Int)) (some (UInt8.ofNat (32 * m.1))) := by
  obtain ⟨x, h1, h2⟩ := Option.map_eq_some_iff.1 (shl_nat m)
  have h1 : @Eq (Option UInt8) (shlK .u8 (UInt8.ofNat m.1) (UInt64.toNat 5 : Int)) (some x) := h1
  refine h1.trans (congrArg some ?_)
  apply UInt8.toNat_inj.1
  have := m.2
  rw [UInt8.toNat_ofNat']
  have h2 : x.toNat = 32 * m.1 := h2
  omega
theorem shr_u64 {n : Nat} (h : n < 65536) : @Eq (Option UInt64) (shrK .u64 (UInt64.ofNat n) (UInt64.toNat 8 : Int)) (some (UInt64.ofNat (n / 256))) := by
  show shr64 (UInt64.ofNat n) ((UInt64.toNat 8 : Nat) : Int) = _
  unfold shr64
  rw [if_neg (by omega), u64_toNat h]
  rfl
theorem head_eq (m : Fin 8) {n : Nat} (h : n < 65536) : m_cbor_head (UInt8.ofNat m.1) (UInt64.ofNat n) = some (headS m.1 n) := by
  by_cases h1 : n < 24
  · exact head_small m ⟨n, h1⟩
  · have b1 : Nat.blt n 24 = false := by rw [← Bool.not_eq_true, Nat.blt_eq]; omega
    unfold m_cbor_head
    refine bnd_of (head_shl m) ?_
    rw [u64_toNat h]
    have d1 : decide ((n : Int) < (UInt64.toNat 24 : Int)) = false := (blt_dec n 24).trans b1
    have d3 : decide ((n : Int) < (UInt64.toNat 65536 : Int)) = true := (blt_dec n 65536).trans (by rw [Nat.blt_eq]; exact h)
    rw [letm_e, d1, cd_f, letm_e]
    unfold headS
    rw [b1, cond_false]
    by_cases h2 : n < 256
    · have b2 : Nat.blt n 256 = true := by rw [Nat.blt_eq]; exact h2
      have d2 : decide ((n : Int) < (UInt64.toNat 256 : Int)) = true := (blt_dec n 256).trans b2
      rw [d2, cd_t, letm_e, letm_e, (head_or m).1, toU8_nat, b2, cond_true]
    · have b2 : Nat.blt n 256 = false := by rw [← Bool.not_eq_true, Nat.blt_eq]; omega
      have d2 : decide ((n : Int) < (UInt64.toNat 256 : Int)) = false := (blt_dec n 256).trans b2
      rw [d2, cd_f, letm_e, d3, cd_t, letm_e]
      refine bnd_of (shr_u64 h) ?_
      rw [letm_e, letm_e, (head_or m).2, u64_toNat (by omega), toU8_nat, toU8_nat, b2, cond_false]
theorem ref_small : ∀ (m : Fin 8) (n : Fin 24), m_coresecref01_Head_o (m.1 : Int) (UInt64.ofNat n.1) = some (headS m.1 n.1) := by decide +kernel
theorem shr_u64_0 {n : Nat} (h : n < 65536) : @Eq (Option UInt64) (shrK .u64 (UInt64.ofNat n) (UInt64.toNat (8 * toU64 0) : Int)) (some (UInt64.ofNat n)) := by
  show shr64 (UInt64.ofNat n) ((UInt64.toNat (8 * toU64 0) : Nat) : Int) = _
  have : UInt64.toNat (8 * toU64 0) = 0 := by kernel_rfl
  rw [this]
  unfold shr64
  rw [if_neg (by omega), u64_toNat h]
  simp
theorem ref_w : ∀ m : Fin 8, toU8 (w64 (w64 (32 * (m.1 : Int)) + 24)) = UInt8.ofNat (32 * m.1 + 24) ∧ toU8 (w64 (w64 (32 * (m.1 : Int)) + 24)) + 1 = UInt8.ofNat (32 * m.1 + 25) := by decide +kernel
theorem head_ref (m : Fin 8) {n : Nat} (h : n < 65536) : m_coresecref01_Head_o (m.1 : Int) (UInt64.ofNat n) = some (headS m.1 n) := by
  by_cases h1 : n < 24
  · exact ref_small m ⟨n, h1⟩
  · have b1 : Nat.blt n 24 = false := by rw [← Bool.not_eq_true, Nat.blt_eq]; omega
    have d1 : decide ((n : Int) < (UInt64.toNat 24 : Int)) = false := (blt_dec n 24).trans b1
    have d3 : decide ((n : Int) < (UInt64.toNat 65536 : Int)) = true := (blt_dec n 65536).trans (by rw [Nat.blt_eq]; exact h)
    have i0 : ∀ x : UInt8, idx [x] (0 : Int) = some x := fun x => idx_some' (i := 0) rfl
    have i1 : ∀ x : UInt8, idx [x] (((0 : Int).toNat : Nat) : Int) = some x := fun x => idx_some' (i := 0) rfl
    unfold m_coresecref01_Head_o
    rw [letm_e, letm_e, letm_e, u64_toNat h, letm_e, d1, cd_f, letm_e]
    unfold headS
    rw [b1, cond_false]
    generalize hB : (fun (self34 : List UInt8 × Int → Option (List UInt8)) (s33 : List UInt8 × Int) => letm (decide (0 ≤ s33.2)) fun x35 => cond x35 (letm ((toU64 s33.2)) fun x36 => letm ((8 * x36)) fun x37 => bnd ((shrK .u64 (UInt64.ofNat n) (UInt64.toNat x37 : Int) : Option UInt64)) fun (x38 : UInt64) => letm ((toU8 (UInt64.toNat x38 : Int))) fun x39 => bnd (app s33.1 [x39]) fun x40 => letm ((w64 (s33.2 - 1))) fun x41 => self34 (x40, x41)) (some s33.1)) = B
    have fin : ∀ (f : Nat) (b : List UInt8), loopF B (f + 1) (b, -1) = some b := fun f b => by rw [← hB]; rfl
    have hBe : ∀ self s33, B self s33 = _ := fun self s33 => (congrFun (congrFun hB self) s33).symm
    have st : ∀ (f : Nat) (b : List UInt8) (k q : Nat), k ≤ 10 → q < 65536 → b.length ≤ 10 → @Eq (Option UInt64) (shrK .u64 (UInt64.ofNat n) (UInt64.toNat (8 * toU64 (k : Int)) : Int)) (some (UInt64.ofNat q)) → loopF B (f + 1) (b, (k : Int)) = loopF B f (b ++ [UInt8.ofNat q], (k : Int) - 1) := fun f b k q hk hq hb hs => by
      rw [loopF_succ, hBe, letm_e, show decide ((0 : Int) ≤ (k : Int)) = true from decide_eq_true (by omega), cd_t, letm_e, letm_e]
      refine bnd_of hs ?_
      rw [letm_e, u64_toNat hq, toU8_nat, app_some' (by simp; omega), bnd_s, letm_e, w64_of (by omega) (by omega)]
    by_cases h2 : n < 256
    · have b2 : Nat.blt n 256 = true := by rw [Nat.blt_eq]; exact h2
      have d2 : decide ((n : Int) < (UInt64.toNat 256 : Int)) = true := (blt_dec n 256).trans b2
      rw [d2, cd_t, bndS_r, letm_e, b2, cond_true, (ref_w m).1]
      rw [show FUEL = 1180591620717411303422 + 1 + 1 from rfl]
      exact (st _ _ 0 n (by omega) h (by simp) (shr_u64_0 h)).trans (fin _ _)
    · have b2 : Nat.blt n 256 = false := by rw [← Bool.not_eq_true, Nat.blt_eq]; omega
      have d2 : decide ((n : Int) < (UInt64.toNat 256 : Int)) = false := (blt_dec n 256).trans b2
      rw [d2, cd_f, letm_e, d3, cd_t, i0, bnd_s, i1, bnd_s, letm_e, bnd_s, bnd_s, letm_e, bndS_r, letm_e, b2, cond_false, (ref_w m).2]
      rw [show FUEL = 1180591620717411303421 + 1 + 1 + 1 from rfl]
      exact ((st _ _ 1 (n / 256) (by omega) (by omega) (by simp) (shr_u64 h)).trans (st _ _ 0 n (by omega) h (by simp) (shr_u64_0 h))).trans (fin _ _)
inductive EncL (R : Tr → Nat → List UInt8 → Prop) : List Tr → Nat → List UInt8 → Prop
  | nil : EncL R [] 0 []
  | cons {x c e l d f} : R x c e → EncL R l d f → EncL R (x :: l) (c + d) (e ++ f)
/-- An item of at most k levels, of numbers, bytes and lists; c: how many items; e: its encoding. -/
def Enc : Nat → Tr → Nat → List UInt8 → Prop
  | 0, _, _, _ => False
  | k + 1, x, c, e => (∃ n, n < 65536 ∧ x = .mk 0 (UInt64.ofNat n) [] [] ∧ c = 1 ∧ e = headS 0 n) ∨ (∃ b : List UInt8, b.length ≤ 4096 ∧ x = .mk 2 0 b [] ∧ c = 1 ∧ e = headS 2 b.length ++ b) ∨
    (∃ l d f, x = .mk 4 0 [] l ∧ l.length ≤ 256 ∧ EncL (Enc k) l d f ∧ c = d + 1 ∧ e = headS 4 l.length ++ f)
theorem toU64_nat (n : Nat) : toU64 (n : Int) = UInt64.ofNat n := by
  apply UInt64.toNat_inj.1
  unfold toU64
  simp only [UInt64.toNat_ofNat']
  omega
theorem hd0 {n : Nat} (h : n < 65536) : m_cbor_head (UInt8.ofNat 0) (UInt64.ofNat n) = some (headS 0 n) := head_eq 0 h
theorem hd2 {n : Nat} (h : n < 65536) : m_cbor_head (UInt8.ofNat 2) (UInt64.ofNat n) = some (headS 2 n) := head_eq 2 h
theorem hd4 {n : Nat} (h : n < 65536) : m_cbor_head (UInt8.ofNat 4) (UInt64.ofNat n) = some (headS 4 n) := head_eq 4 h
theorem rf0 {n : Nat} (h : n < 65536) : m_coresecref01_Head_o 0 (UInt64.ofNat n) = some (headS 0 n) := head_ref 0 h
theorem rf2 {n : Nat} (h : n < 65536) : m_coresecref01_Head_o 2 (UInt64.ofNat n) = some (headS 2 n) := head_ref 2 h
theorem rf4 {n : Nat} (h : n < 65536) : m_coresecref01_Head_o 4 (UInt64.ofNat n) = some (headS 4 n) := head_ref 4 h
theorem add_enc (j : Nat) : ∀ (k : Nat) (x : Tr) (c : Nat) (e b : List UInt8), Enc k x c e → b.length + e.length ≤ 1000000 → n_cbor_add_o (j + k) b x = some (b ++ e)
  | 0, _, _, _, _, h, _ => h.elim
  | k + 1, x, c, e, b, h, hl => by
    show b_cbor_add_o (n_cbor_add_o (j + k)) b x = _
    rcases h with ⟨n, hn, rfl, rfl, rfl⟩ | ⟨v, hv, rfl, rfl, rfl⟩ | ⟨l, d, f, rfl, hll, hE, rfl, rfl⟩
    · unfold b_cbor_add_o m_cbor_major
      simp only [Tr.k, Tr.n, Tr.b, Tr.l, letm_e, bnd_s]
      show (bnd (m_cbor_head (UInt8.ofNat 0) (UInt64.ofNat n)) fun x11 => _) = _
      rw [hd0 hn, bnd_s, app_some' (by omega), bnd_s, app_some' (by simp; omega), bnd_s, loopL_nil, List.append_nil]
    · rw [List.length_append] at hl
      unfold b_cbor_add_o m_cbor_major
      simp only [Tr.k, Tr.n, Tr.b, Tr.l, letm_e, bnd_s, toU64_nat]
      show (bnd (m_cbor_head (UInt8.ofNat 2) (UInt64.ofNat v.length)) fun x11 => _) = _
      rw [hd2 (by omega : v.length < 65536), bnd_s, app_some' (by omega), bnd_s, app_some' (by simp; omega), bnd_s, loopL_nil, List.append_assoc]
    · rw [List.length_append] at hl
      unfold b_cbor_add_o m_cbor_major
      simp only [Tr.k, Tr.n, Tr.b, Tr.l, letm_e, bnd_s, toU64_nat]
      show (bnd (m_cbor_head (UInt8.ofNat 4) (UInt64.ofNat l.length)) fun x11 => _) = _
      rw [hd4 (by omega : l.length < 65536), bnd_s, app_some' (by omega), bnd_s, app_some' (by simp; omega), bnd_s, List.append_nil]
      have key : ∀ (l : List Tr) (d : Nat) (f : List UInt8), EncL (Enc k) l d f → ∀ (i : Nat) (s : List UInt8), s.length + f.length ≤ 1000000 →
          loopL (R := (List UInt8)) (S := (List UInt8)) (α := Tr) (fun _ s15 => some s15) (fun x16 _ s18 self19 => bnd (n_cbor_add_o (j + k) s18 x16) fun x20 => self19 x20) l i s = some (s ++ f) := by
        intro l d f h
        induction h with
        | nil => intro i s _; rw [loopL_nil, List.append_nil]
        | cons hx _ ih =>
          intro i s hs
          rw [List.length_append] at hs
          rw [loopL_cons, add_enc j k _ _ _ s hx (by omega), bnd_s, ih (i + 1) _ (by rw [List.length_append]; omega), List.append_assoc]
      rw [← List.append_assoc]
      exact key l d f hE 0 _ (by rw [List.length_append]; omega)
theorem raw_enc (j : Nat) : ∀ (k : Nat) (x : Tr) (c : Nat) (e : List UInt8), Enc k x c e → e.length ≤ 1000000 → n_coresecref01_Raw (j + k) x = some e
  | 0, _, _, _, h, _ => h.elim
  | k + 1, x, c, e, h, hl => by
    show b_coresecref01_Raw (n_coresecref01_Raw (j + k)) x = _
    rcases h with ⟨n, hn, rfl, rfl, rfl⟩ | ⟨v, hv, rfl, rfl, rfl⟩ | ⟨l, d, f, rfl, hll, hE, rfl, rfl⟩
    · unfold b_coresecref01_Raw
      simp only [Tr.k, Tr.n, Tr.b, Tr.l, letm_e, bnd_s]
      show bndS (bnd (m_coresecref01_Head_o 0 (UInt64.ofNat n)) fun x4 => _) _ _ = _
      rw [rf0 hn, bnd_s, bndS_l]
    · rw [List.length_append] at hl
      unfold b_coresecref01_Raw
      simp only [Tr.k, Tr.n, Tr.b, Tr.l, letm_e, bnd_s, toU64_nat]
      show bndS (bnd (m_coresecref01_Head_o 2 (UInt64.ofNat v.length)) fun x9 => _) _ _ = _
      rw [rf2 (by omega : v.length < 65536), bnd_s, app_some' (by omega), bnd_s, bndS_l]
    · rw [List.length_append] at hl
      unfold b_coresecref01_Raw
      simp only [Tr.k, Tr.n, Tr.b, Tr.l, letm_e, bnd_s, toU64_nat]
      show bndS (bnd (m_coresecref01_Head_o 4 (UInt64.ofNat l.length)) fun x13 => _) _ _ = _
      rw [rf4 (by omega : l.length < 65536), bnd_s, bndS_r]
      have key : ∀ (l : List Tr) (d : Nat) (f : List UInt8), EncL (Enc k) l d f → ∀ (i : Nat) (s : List UInt8), s.length + f.length ≤ 1000000 →
          loopL (R := (List UInt8)) (S := (List UInt8)) (α := Tr) (fun _ s28 => some s28) (fun x29 _ s31 self32 => bnd (n_coresecref01_Raw (j + k) x29) fun x33 => bnd (app s31 x33) fun x34 => self32 x34) l i s = some (s ++ f) := by
        intro l d f h
        induction h with
        | nil => intro i s _; rw [loopL_nil, List.append_nil]
        | cons hx _ ih =>
          intro i s hs
          rw [List.length_append] at hs
          rw [loopL_cons, raw_enc j k _ _ _ hx (by omega), bnd_s, app_some' (by omega), bnd_s, ih (i + 1) _ (by rw [List.length_append]; omega), List.append_assoc]
      exact key l d f hE 0 _ (by omega)
theorem Enc.pos : ∀ {k : Nat} {x : Tr} {c : Nat} {e : List UInt8}, Enc k x c e → 1 ≤ c
  | 0, _, _, _, h => h.elim
  | k + 1, _, _, _, h => by
    rcases h with ⟨_, _, _, rfl, _⟩ | ⟨_, _, _, rfl, _⟩ | ⟨_, _, _, _, _, _, rfl, _⟩ <;> omega
theorem EncL.len {k : Nat} {l : List Tr} {d : Nat} {f : List UInt8} (h : EncL (Enc k) l d f) : l.length ≤ d := by
  induction h with
  | nil => exact Nat.le_refl _
  | cons hx _ ih => have := hx.pos; simp; omega
theorem plain0 (n : UInt64) : m_cbor_plain (.mk 0 n [] []) = some (true, true) := rfl
theorem plain2 (b : List UInt8) : m_cbor_plain (.mk 2 0 b []) = some (true, true) := rfl
theorem plain4 (l : List Tr) : m_cbor_plain (.mk 4 0 [] l) = some (false, false) := rfl
theorem spend0 {n s : Nat} {i : Int} (hn : n < 65536) (hs : s ≤ 1000000) : m_cbor_checker_spend (i, (s : Int)) (.mk 0 (UInt64.ofNat n) [] []) = some (decide (((s + (headS 0 n).length : Nat) : Int) ≤ 4096), (i, ((s + (headS 0 n).length : Nat) : Int))) := by
  have hh := headS_len 0 n
  unfold m_cbor_checker_spend m_cbor_major
  simp only [Tr.k, Tr.n, Tr.b, Tr.l, letm_e, bnd_s]
  show bnd (bnd (m_cbor_head (UInt8.ofNat 0) (UInt64.ofNat n)) fun x10 => _) _ = _
  rw [hd0 hn, bnd_s, bnd_s]
  have W : w64 ((s : Int) + w64 (((headS 0 n).length : Int) + ((0 : Nat) : Int))) = ((s + (headS 0 n).length : Nat) : Int) := by
    rw [w64_of (x := ((headS 0 n).length : Int) + ((0 : Nat) : Int)) (by omega) (by omega), w64_of (by omega) (by omega)]; omega
  show some (decide (w64 ((s : Int) + w64 (((headS 0 n).length : Int) + ((0 : Nat) : Int))) ≤ 4096), (i, w64 ((s : Int) + w64 (((headS 0 n).length : Int) + ((0 : Nat) : Int))))) = _
  rw [W]
theorem spend2 {s : Nat} {i : Int} {b : List UInt8} (hb : b.length ≤ 4096) (hs : s ≤ 1000000) : m_cbor_checker_spend (i, (s : Int)) (.mk 2 0 b []) = some (decide (((s + (headS 2 b.length ++ b).length : Nat) : Int) ≤ 4096), (i, ((s + (headS 2 b.length ++ b).length : Nat) : Int))) := by
  have hh := headS_len 2 b.length
  unfold m_cbor_checker_spend m_cbor_major
  simp only [Tr.k, Tr.n, Tr.b, Tr.l, letm_e, bnd_s, toU64_nat]
  show bnd (bnd (m_cbor_head (UInt8.ofNat 2) (UInt64.ofNat b.length)) fun x10 => _) _ = _
  rw [hd2 (by omega : b.length < 65536), bnd_s, bnd_s]
  have W : w64 ((s : Int) + w64 (((headS 2 b.length).length : Int) + (b.length : Int))) = ((s + (headS 2 b.length ++ b).length : Nat) : Int) := by
    rw [w64_of (x := ((headS 2 b.length).length : Int) + (b.length : Int)) (by omega) (by omega), w64_of (by omega) (by omega), List.length_append]; omega
  show some (decide (w64 ((s : Int) + w64 (((headS 2 b.length).length : Int) + (b.length : Int))) ≤ 4096), (i, w64 ((s : Int) + w64 (((headS 2 b.length).length : Int) + (b.length : Int))))) = _
  rw [W]
theorem spend4 {s : Nat} {i : Int} {l : List Tr} (hl : l.length ≤ 256) (hs : s ≤ 1000000) : m_cbor_checker_spend (i, (s : Int)) (.mk 4 0 [] l) = some (decide (((s + (headS 4 l.length).length : Nat) : Int) ≤ 4096), (i, ((s + (headS 4 l.length).length : Nat) : Int))) := by
  have hh := headS_len 4 l.length
  unfold m_cbor_checker_spend m_cbor_major
  simp only [Tr.k, Tr.n, Tr.b, Tr.l, letm_e, bnd_s, toU64_nat]
  show bnd (bnd (m_cbor_head (UInt8.ofNat 4) (UInt64.ofNat l.length)) fun x10 => _) _ = _
  rw [hd4 (by omega : l.length < 65536), bnd_s, bnd_s]
  have W : w64 ((s : Int) + w64 (((headS 4 l.length).length : Int) + ((0 : Nat) : Int))) = ((s + (headS 4 l.length).length : Nat) : Int) := by
    rw [w64_of (x := ((headS 4 l.length).length : Int) + ((0 : Nat) : Int)) (by omega) (by omega), w64_of (by omega) (by omega)]; omega
  show some (decide (w64 ((s : Int) + w64 (((headS 4 l.length).length : Int) + ((0 : Nat) : Int))) ≤ 4096), (i, w64 ((s : Int) + w64 (((headS 4 l.length).length : Int) + ((0 : Nat) : Int))))) = _
  rw [W]
theorem b_item0 {m : S_cbor_checker → Tr → Int → Option (Bool × S_cbor_checker)} {n s i : Nat} {lev : Int} (hn : n < 65536) (hs : s ≤ 1000000) (hi : i + 1 ≤ 256) :
    b_cbor_checker_item m ((i : Int), (s : Int)) (.mk 0 (UInt64.ofNat n) [] []) lev = some (decide (((s + (headS 0 n).length : Nat) : Int) ≤ 4096), (((i + 1 : Nat) : Int), ((s + (headS 0 n).length : Nat) : Int))) := by
  unfold b_cbor_checker_item
  have w : w64 ((i : Int) + 1) = ((i + 1 : Nat) : Int) := by rw [w64_of (by omega) (by omega)]; omega
  have d : decide ((256 : Int) < ((i + 1 : Nat) : Int)) = false := decide_eq_false (by omega)
  simp only [letm_e, w, d, cd_f, Tr.b, Tr.l, plain0, bnd_s, spend0 hn hs]
  rfl
theorem b_item2 {m : S_cbor_checker → Tr → Int → Option (Bool × S_cbor_checker)} {s i : Nat} {lev : Int} {b : List UInt8} (hb : b.length ≤ 4096) (hs : s ≤ 1000000) (hi : i + 1 ≤ 256) :
    b_cbor_checker_item m ((i : Int), (s : Int)) (.mk 2 0 b []) lev = some (decide (((s + (headS 2 b.length ++ b).length : Nat) : Int) ≤ 4096), (((i + 1 : Nat) : Int), ((s + (headS 2 b.length ++ b).length : Nat) : Int))) := by
  unfold b_cbor_checker_item
  have w : w64 ((i : Int) + 1) = ((i + 1 : Nat) : Int) := by rw [w64_of (by omega) (by omega)]; omega
  have d : decide ((256 : Int) < ((i + 1 : Nat) : Int)) = false := decide_eq_false (by omega)
  have d2 : decide ((4096 : Int) < ((Tr.mk 2 0 b []).b.length : Int)) = false := decide_eq_false (by show ¬ (4096 : Int) < (b.length : Int); omega)
  simp only [letm_e, w, d, cd_f]
  rw [d2]
  simp only [cd_f, Tr.l, plain2, bnd_s, spend2 hb hs]
  rfl
/-- An item costs its encoding's length; it is valid where the sum stays within the limit. -/
theorem item_enc (j : Nat) : ∀ (k : Nat) (x : Tr) (c : Nat) (e : List UInt8), Enc k x c e → ∀ (i s lev : Nat), i + c ≤ 256 → s + e.length ≤ 1000000 → lev + k ≤ 8 →
    ∃ st, n_cbor_checker_item (j + k) ((i : Int), (s : Int)) x (lev : Int) = some (decide (((s + e.length : Nat) : Int) ≤ 4096), st) ∧ (s + e.length ≤ 4096 → st = (((i + c : Nat) : Int), ((s + e.length : Nat) : Int)))
  | 0, _, _, _, h, _, _, _, _, _, _ => h.elim
  | k + 1, x, c, e, h, i, s, lev, hi, hs, hl => by
    show ∃ st, b_cbor_checker_item (n_cbor_checker_item (j + k)) ((i : Int), (s : Int)) x (lev : Int) = _ ∧ _
    rcases h with ⟨n, hn, rfl, rfl, rfl⟩ | ⟨v, hv, rfl, rfl, rfl⟩ | ⟨l, d, f, rfl, hll, hE, rfl, rfl⟩
    · exact ⟨_, b_item0 hn (by omega) hi, fun _ => rfl⟩
    · exact ⟨_, b_item2 hv (by omega) hi, fun _ => rfl⟩
    · rw [List.length_append] at hs ⊢
      unfold b_cbor_checker_item
      have w : w64 ((i : Int) + 1) = ((i + 1 : Nat) : Int) := by rw [w64_of (by omega) (by omega)]; omega
      have d1 : decide ((256 : Int) < ((i + 1 : Nat) : Int)) = false := decide_eq_false (by omega)
      have d2 : decide ((256 : Int) < ((Tr.mk 4 0 [] l).l.length : Int)) = false := decide_eq_false (by show ¬ (256 : Int) < (l.length : Int); omega)
      have d3 : decide ((8 : Int) ≤ (lev : Int)) = false := decide_eq_false (by omega)
      have w2 : w64 ((lev : Int) + 1) = ((lev + 1 : Nat) : Int) := by rw [w64_of (by omega) (by omega)]; omega
      simp only [letm_e, w, d1, cd_f]
      rw [d2]
      simp only [letm_e, d3, cd_f, Tr.k, Tr.n, Tr.b, Tr.l, plain4, bnd_s, spend4 hll (show s ≤ 1000000 by omega), w2]
      have key : ∀ (l : List Tr) (d : Nat) (f : List UInt8), EncL (Enc k) l d f → ∀ (q i s : Nat) (r : S_cbor_checker → Option (Bool × S_cbor_checker)), (∀ st, r st = some (true, st)) → i + d ≤ 256 → s + f.length ≤ 1000000 → s ≤ 4096 →
          ∃ st, loopL (R := (Bool × S_cbor_checker)) (S := S_cbor_checker) (α := Tr) (fun _ s38 => r s38) (fun x42 _ s44 self45 => bnd (n_cbor_checker_item (j + k) s44 x42 ((lev + 1 : Nat) : Int)) fun x47 => cond (!x47.1) (some (false, x47.2)) (self45 x47.2)) l q ((i : Int), (s : Int)) = some (decide (((s + f.length : Nat) : Int) ≤ 4096), st) ∧ (s + f.length ≤ 4096 → st = (((i + d : Nat) : Int), ((s + f.length : Nat) : Int))) := by
        intro l d f h
        induction h with
        | nil =>
          intro q i s r hr _ _ hs
          refine ⟨((i : Int), (s : Int)), ?_, fun _ => rfl⟩
          rw [loopL_nil, hr, decide_eq_true (by simp; omega)]
        | @cons x c e l d f hx _ ih =>
          intro q i s r hr hi hs hs2
          rw [List.length_append] at hs ⊢
          obtain ⟨st, h1, h2⟩ := item_enc j k x c e hx i s (lev + 1) (by omega) (by omega) (by omega)
          rw [loopL_cons, h1, bnd_s]
          by_cases hq : s + e.length ≤ 4096
          · rw [decide_eq_true (by omega), Bool.not_true, cd_f, h2 hq]
            obtain ⟨st2, h3, h4⟩ := ih (q + 1) (i + c) (s + e.length) r hr (by omega) (by omega) hq
            refine ⟨st2, ?_, fun hh => ?_⟩
            · rw [h3]; congr 3; rw [Nat.add_assoc]
            · rw [h4 (by omega)]; congr 2 <;> omega
          · rw [decide_eq_false (by omega), Bool.not_false, cd_t]
            exact ⟨st, by rw [decide_eq_false (by omega)], fun hh => absurd hh (by omega)⟩
      by_cases hq : s + (headS 4 l.length).length ≤ 4096
      · have dq : decide (((s + (headS 4 l.length).length : Nat) : Int) ≤ 4096) = true := decide_eq_true (by omega)
        simp only [dq, Bool.not_true, cd_f]
        obtain ⟨st, h1, h2⟩ := key l d f hE 0 (i + 1) (s + (headS 4 l.length).length) (fun st => some (true, st)) (fun _ => rfl) (by omega) (by omega) hq
        refine ⟨st, ?_, fun hh => ?_⟩
        · rw [← Nat.add_assoc]; exact h1
        · rw [h2 (by omega)]; congr 2 <;> omega
      · have dq : decide (((s + (headS 4 l.length).length : Nat) : Int) ≤ 4096) = false := decide_eq_false (by omega)
        simp only [dq, Bool.not_false, cd_t]
        exact ⟨_, by rw [decide_eq_false (show ¬ ((s + ((headS 4 l.length).length + f.length) : Nat) : Int) ≤ 4096 by omega)]; rfl, fun hh => absurd hh (by omega)⟩
theorem left_enc (j : Nat) : ∀ (k : Nat) (x : Tr) (c : Nat) (e : List UInt8), Enc k x c e → ∀ (n lev : Nat), c ≤ n → n ≤ 256 → lev + k ≤ 8 → n_coresecref01_left (j + k) x (n : Int) (lev : Int) = some ((n - c : Nat) : Int)
  | 0, _, _, _, h, _, _, _, _, _ => h.elim
  | k + 1, x, c, e, h, n, lev, hc, hn, hl => by
    show b_coresecref01_left (n_coresecref01_left (j + k)) x (n : Int) (lev : Int) = _
    have hp := h.pos
    have d1 : decide ((n : Int) < 1) = false := decide_eq_false (by omega)
    have w : w64 ((n : Int) - 1) = ((n - 1 : Nat) : Int) := by rw [w64_of (by omega) (by omega)]; omega
    have d3 : decide ((8 : Int) ≤ (lev : Int)) = false := decide_eq_false (by omega)
    have w2 : w64 ((lev : Int) + 1) = ((lev + 1 : Nat) : Int) := by rw [w64_of (by omega) (by omega)]; omega
    rcases h with ⟨v, hv, rfl, rfl, rfl⟩ | ⟨v, hv, rfl, rfl, rfl⟩ | ⟨l, d, f, rfl, hll, hE, rfl, rfl⟩
    · unfold b_coresecref01_left
      have d4 : decide (((n - 1 : Nat) : Int) < (([] : List Tr).length : Int)) = false := decide_eq_false (by simp)
      simp only [letm_e, d1, w, cd_f, Tr.k, Tr.n, Tr.b, Tr.l, d4]
      cases ((UInt64.toNat (UInt64.ofNat v) : Int) != (UInt64.toNat 0 : Int)) <;> (rw [fuel_eq]; rfl)
    · unfold b_coresecref01_left
      have d4 : decide (((n - 1 : Nat) : Int) < (([] : List Tr).length : Int)) = false := decide_eq_false (by simp)
      have d5 : decide ((4096 : Int) < ((Tr.mk 2 0 v []).b.length : Int)) = false := decide_eq_false (by show ¬ (4096 : Int) < (v.length : Int); omega)
      simp only [letm_e, d1, w, cd_f, Tr.k, Tr.n, Tr.l, d4]
      rw [d5]
      cases decide ((0 : Int) < ((Tr.mk 2 0 v []).b.length : Int)) <;> (rw [fuel_eq]; rfl)
    · unfold b_coresecref01_left
      have hd := hE.len
      have d4 : decide (((n - 1 : Nat) : Int) < ((Tr.mk 4 0 [] l).l.length : Int)) = false := decide_eq_false (by show ¬ ((n - 1 : Nat) : Int) < (l.length : Int); omega)
      simp only [letm_e, d1, w, cd_f, d4, d3, w2]
      have key : ∀ (l : List Tr) (d : Nat) (f : List UInt8), EncL (Enc k) l d f → ∀ (q n : Nat), d ≤ n → n ≤ 256 →
          loopL (R := (Int ⊕ Int)) (S := Int) (α := Tr) (fun _ s51 => some (.inr s51)) (fun x65 _ s67 self68 => bnd (n_coresecref01_left (j + k) x65 s67 ((lev + 1 : Nat) : Int)) fun x70 => cond (decide (x70 < 0)) (some (.inl (-1))) (self68 x70)) l q (n : Int) = some (.inr ((n - d : Nat) : Int)) := by
        intro l d f h
        induction h with
        | nil => intro q n _ _; rw [loopL_nil]; rfl
        | @cons x c e l d f hx _ ih =>
          intro q n h1 h2
          rw [loopL_cons, left_enc j k x c e hx n (lev + 1) (by omega) h2 (by omega), bnd_s, decide_eq_false (by omega), cd_f, ih (q + 1) (n - c) (by omega) (by omega)]
          congr 3; omega
      have fin := key l d f hE 0 (n - 1) (by omega) (by omega)
      cases decide ((0 : Int) < ((Tr.mk 4 0 [] l).l.length : Int)) <;>
      · refine (congrArg (fun z => bndS (ρ := Int) (ρ' := Int) (Y := Int) z (fun q => q) _) fin).trans ?_
        rw [bndS_r]
        have : n - 1 - d = n - (d + 1) := by omega
        rw [this]
def encS4 (e : List UInt8) : List UInt8 × Int := bif decide ((e.length : Int) ≤ 4096) then (e, 0) else ([], 1)
theorem encode_eq {x : Tr} {c : Nat} {e : List UInt8} (h : Enc 4 x c e) (hc : c ≤ 256) (hl : e.length ≤ 900000) : m_cbor_Encode x = some (encS4 e) := by
  obtain ⟨st, h1, _⟩ := item_enc 36 4 x c e h 0 0 0 (by omega) (by omega) (by omega)
  have hv : m_cbor_Valid x = some (decide ((e.length : Int) ≤ 4096)) := by
    unfold m_cbor_Valid
    refine bnd_of h1 ?_
    rw [Nat.zero_add]
  have ha : m_cbor_add [] x = some e := (add_enc 37 4 x c e [] h (by simp; omega))
  unfold m_cbor_Encode encS4
  rw [hv, bnd_s, letm_e, ha]
  cases decide ((e.length : Int) ≤ 4096) <;> rfl
theorem encode_ref {x : Tr} {c : Nat} {e : List UInt8} (h : Enc 4 x c e) (hc : c ≤ 256) (hl : e.length ≤ 900000) : m_coresecref01_Encode x = some (encS4 e) := by
  have h1 : m_coresecref01_left x 256 0 = some ((256 - c : Nat) : Int) := left_enc 36 4 x c e h 256 0 (by omega) (by omega) (by omega)
  have h2 : m_coresecref01_Raw x = some e := raw_enc 36 4 x c e h (by omega)
  have hv : m_coresecref01_Valid x = some (decide ((e.length : Int) ≤ 4096)) := by
    unfold m_coresecref01_Valid
    rw [h1, bnd_s, letm_e, decide_eq_true (by omega), cd_t, h2, bnd_s, letm_e, bnd_s]
  unfold m_coresecref01_Encode encS4
  rw [hv, bnd_s, letm_e, h2]
  cases decide ((e.length : Int) ≤ 4096) <;> rfl
theorem copied_enc (j : Nat) : ∀ (k : Nat) (x : Tr) (c : Nat) (e : List UInt8), Enc k x c e → n_cbor_copied (j + k) x = some x
  | 0, _, _, _, h => h.elim
  | k + 1, x, c, e, h => by
    show b_cbor_copied (n_cbor_copied (j + k)) x = _
    rcases h with ⟨v, hv, rfl, rfl, rfl⟩ | ⟨v, hv, rfl, rfl, rfl⟩ | ⟨l, d, f, rfl, hll, hE, rfl, rfl⟩
    · rfl
    · unfold b_cbor_copied
      simp only [Tr.k, Tr.n, Tr.b, Tr.l]
      rw [clone_some (by omega), bnd_s]; rfl
    · unfold b_cbor_copied
      simp only [Tr.k, Tr.n, Tr.b, Tr.l]
      have h0 : m_bytes_Clone ([] : List UInt8) = some [] := clone_some (by simp)
      have hm : mkl (l.length : Int) (Tr.mk 0 0 [] []) = some (List.replicate l.length (Tr.mk 0 0 [] [])) := by
        unfold mkl
        rw [show (decide (0 ≤ (l.length : Int)) && decide ((l.length : Int) ≤ 65536)) = true by simp; omega]; rfl
      have hx : ∀ y ∈ l, n_cbor_copied (j + k) y = some y := by
        have : ∀ (l : List Tr) (d : Nat) (f : List UInt8), EncL (Enc k) l d f → ∀ y ∈ l, n_cbor_copied (j + k) y = some y := by
          intro l d f h
          induction h with
          | nil => intro y hy; simp at hy
          | cons hx _ ih =>
            intro y hy
            rcases List.mem_cons.1 hy with rfl | hy
            · exact copied_enc j k _ _ _ hx
            · exact ih y hy
        exact this l d f hE
      rw [h0, bnd_s, hm, bnd_s]
      have key : ∀ (r p : List Tr) (z : List Tr), (∀ y ∈ r, n_cbor_copied (j + k) y = some y) → z.length = r.length →
          loopL (R := Tr) (S := (List Tr)) (α := Tr) (fun _ s4 => bnd (β := Tr) (letm (((s4.length : Int) == 0)) fun x5 => cond x5 (some (Tr.mk 4 0 [] [])) (some (Tr.mk 4 0 [] s4))) fun v6 => some v6)
            (fun x7 k8 s9 self10 => bnd (n_cbor_copied (j + k) x7) fun x11 => bnd (idx s9 (k8 : Int)) fun _ => bnd (idx s9 (((k8 : Int)).toNat : Int)) fun _ => letm ((s9.set ((k8 : Int)).toNat x11)) fun x14 => self10 x14) r p.length (p ++ z) = some (Tr.mk 4 0 [] (p ++ r)) := by
        intro r
        induction r with
        | nil =>
          intro p z _ hz
          obtain rfl := List.length_eq_zero_iff.1 hz
          rw [loopL_nil, letm_e]
          cases p with
          | nil => rfl
          | cons a p => rfl
        | cons y r ih =>
          intro p z hy hz
          obtain ⟨a, z, rfl⟩ : ∃ a z', z = a :: z' := by cases z with | nil => simp at hz | cons a z => exact ⟨a, z, rfl⟩
          have hi : idx (p ++ a :: z) (p.length : Int) = some a := idx_some' (by simp)
          have hi2 : idx (p ++ a :: z) (((p.length : Int)).toNat : Int) = some a := by rw [Int.toNat_natCast]; exact hi
          rw [loopL_cons, hy y (by simp), bnd_s, hi, bnd_s, hi2, bnd_s, letm_e, Int.toNat_natCast]
          have e1 : (p ++ a :: z).set p.length y = (p ++ [y]) ++ z := by
            rw [List.set_append_right _ _ (Nat.le_refl _), Nat.sub_self]; simp
          rw [e1]
          have := ih (p ++ [y]) z (fun q hq => hy q (by simp [hq])) (by simpa using hz)
          rw [List.length_append, List.length_singleton] at this
          rw [this]; simp
      exact key l [] _ hx (by simp)
def nckB (n : Int) : Bool := bif decide (0 ≤ n) && decide (n ≤ 65535) then ibit .and n 30 == 28 else false
theorem nck_eq (n : Int) : m_option_NoCacheKey n = some (nckB n) := by
  unfold m_option_NoCacheKey m_option_in nckB
  simp only [letm_e, cd_and, bnd_s]
  cases decide (0 ≤ n) <;> cases decide (n ≤ 65535) <;> rfl
theorem nck_ref (n : Int) : m_coresecref16_NoCacheKey n = some (nckB n) := nck_eq n
/-- What counts for the key. -/
def keepN (o : S_api_Option) : Bool := !nckB o.1 && (o.1 != 4 && o.1 != 6)
def itU (n : Nat) : Tr := .mk 0 (UInt64.ofNat n) [] []
def itB (b : List UInt8) : Tr := .mk 2 0 b []
def itO (o : S_api_Option) : Tr := .mk 4 0 [] [itU o.1.toNat, itB o.2]
def encO (o : S_api_Option) : List UInt8 := headS 4 2 ++ (headS 0 o.1.toNat ++ ((headS 2 o.2.length ++ o.2) ++ []))
theorem int_eq {n : Int} (h0 : 0 ≤ n) : m_cbor_Int n = some (itU n.toNat) := by
  obtain ⟨k, rfl⟩ : ∃ k : Nat, n = (k : Int) := ⟨n.toNat, by omega⟩
  unfold m_cbor_Int m_cbor_Uint itU
  rw [letm_e, decide_eq_false (by omega), cd_f, letm_e, bnd_s, toU64_nat, Int.toNat_natCast]
theorem int_ref {n : Int} (h0 : 0 ≤ n) : m_coresecref01_Int n = some (itU n.toNat) := by
  obtain ⟨k, rfl⟩ : ∃ k : Nat, n = (k : Int) := ⟨n.toNat, by omega⟩
  unfold m_coresecref01_Int itU
  rw [letm_e, decide_eq_false (by omega), cd_f, letm_e, toU64_nat, Int.toNat_natCast]
theorem bytes_eq {b : List UInt8} (h : b.length ≤ 1000000) : m_cbor_Bytes b = some (itB b) := by
  unfold m_cbor_Bytes m_slices_Clone_byte_byte itB
  rw [app_nil_some h, bnd_s]
theorem bytes_ref {b : List UInt8} (h : b.length ≤ 1000000) : m_coresecref01_Bytes b = some (itB b) := by
  unfold m_coresecref01_Bytes itB
  rw [app_nil_some h, bnd_s]
theorem array_eq {l : List Tr} (h : ∀ y ∈ l, m_cbor_copied y = some y) (hl : l.length ≤ 1000000) : m_cbor_Array l = some (.mk 4 0 [] l) := by
  unfold m_cbor_Array
  have key : ∀ (r p : List Tr) (i : Nat), (∀ y ∈ r, m_cbor_copied y = some y) → p.length + r.length ≤ 1000000 →
      loopL (R := Tr) (S := (Tr × (List Tr))) (α := Tr) (fun _ s2 => some (Tr.mk s2.1.k s2.1.n s2.1.b s2.2)) (fun x3 _ s5 self6 => bnd (m_cbor_copied x3) fun x7 => bnd (app s5.2 [x7]) fun x8 => self6 (s5.1, x8)) r i ((Tr.mk 4 0 [] []), p) = some (.mk 4 0 [] (p ++ r)) := by
    intro r
    induction r with
    | nil => intro p i _ _; rw [loopL_nil, List.append_nil]; rfl
    | cons y r ih =>
      intro p i hy hp
      simp only [List.length_cons] at hp
      rw [loopL_cons, hy y (by simp), bnd_s, app_some' (by simp; omega), bnd_s, ih (p ++ [y]) (i + 1) (fun q hq => hy q (by simp [hq])) (by simp; omega)]
      simp
  exact key l [] 0 h (by simp; omega)
theorem encU {k n : Nat} (h : n < 65536) : Enc (k + 1) (itU n) 1 (headS 0 n) := .inl ⟨n, h, rfl, rfl, rfl⟩
theorem encB {k : Nat} {b : List UInt8} (h : b.length ≤ 4096) : Enc (k + 1) (itB b) 1 (headS 2 b.length ++ b) := .inr (.inl ⟨b, h, rfl, rfl, rfl⟩)
/-- Options that a key may be made of. -/
def OkO (l : List S_api_Option) : Prop := l.length ≤ 60 ∧ ∀ o ∈ l, 0 ≤ o.1 ∧ o.1 ≤ 65535 ∧ o.2.length ≤ 4096
theorem enc_itO {k : Nat} {o : S_api_Option} (h0 : 0 ≤ o.1) (h1 : o.1 ≤ 65535) (h2 : o.2.length ≤ 4096) : Enc (k + 2) (itO o) 3 (encO o) :=
  .inr (.inr ⟨[itU o.1.toNat, itB o.2], 2, _, rfl, by simp, .cons (encU (by omega)) (.cons (encB h2) .nil), rfl, rfl⟩)
theorem enc_opts : ∀ {l : List S_api_Option}, (∀ o ∈ l, 0 ≤ o.1 ∧ o.1 ≤ 65535 ∧ o.2.length ≤ 4096) → EncL (Enc 2) (l.map itO) (3 * l.length) (l.flatMap encO)
  | [], _ => .nil
  | o :: l, h => by
    obtain ⟨a, b, c⟩ := h o (by simp)
    have ih := enc_opts (l := l) fun q hq => h q (by simp [hq])
    rw [List.flatMap_cons, List.map_cons, List.length_cons, show 3 * (l.length + 1) = 3 + 3 * l.length by omega]
    exact .cons (enc_itO (k := 0) a b c) ih
def payL (m : S_api_Message) : List Tr := bif m.2.1 == 5 then [itB m.2.2.2.2.2] else []
def payE (m : S_api_Message) : List UInt8 := bif m.2.1 == 5 then (headS 2 m.2.2.2.2.2.length ++ m.2.2.2.2.2) ++ [] else []
def keyL (m : S_api_Message) : List Tr := itU m.2.1.toNat :: .mk 4 0 [] ((m.2.2.2.2.1.filter keepN).map itO) :: payL m
def keyE (m : S_api_Message) : List UInt8 := headS 4 (keyL m).length ++ (headS 0 m.2.1.toNat ++ ((headS 4 ((m.2.2.2.2.1.filter keepN).map itO).length ++ (m.2.2.2.2.1.filter keepN).flatMap encO) ++ payE m))
structure OkK (m : S_api_Message) : Prop where
  c0 : 0 ≤ m.2.1
  c1 : m.2.1 ≤ 255
  oo : OkO m.2.2.2.2.1
  pay : m.2.2.2.2.2.length ≤ 4096
theorem OkK.flt {m : S_api_Message} (h : OkK m) : (m.2.2.2.2.1.filter keepN).length ≤ 60 ∧ ∀ o ∈ m.2.2.2.2.1.filter keepN, 0 ≤ o.1 ∧ o.1 ≤ 65535 ∧ o.2.length ≤ 4096 :=
  ⟨Nat.le_trans (List.length_filter_le _ _) h.oo.1, fun o ho => h.oo.2 o (List.mem_filter.1 ho).1⟩
theorem enc_key {m : S_api_Message} (h : OkK m) : ∃ c, c ≤ 256 ∧ Enc 4 (.mk 4 0 [] (keyL m)) c (keyE m) := by
  obtain ⟨f1, f2⟩ := h.flt
  have hc0 := h.c0; have hc1 := h.c1
  have ha : Enc 3 (.mk 4 0 [] ((m.2.2.2.2.1.filter keepN).map itO)) (3 * (m.2.2.2.2.1.filter keepN).length + 1) (headS 4 ((m.2.2.2.2.1.filter keepN).map itO).length ++ (m.2.2.2.2.1.filter keepN).flatMap encO) :=
    .inr (.inr ⟨_, _, _, rfl, by rw [List.length_map]; omega, enc_opts f2, rfl, rfl⟩)
  have hp : ∃ c, c ≤ 1 ∧ EncL (Enc 3) (payL m) c (payE m) := by
    unfold payL payE
    cases m.2.1 == 5 with
    | false => exact ⟨0, by omega, .nil⟩
    | true => exact ⟨1, by omega, .cons (encB h.pay) .nil⟩
  obtain ⟨c, hc, hp⟩ := hp
  refine ⟨1 + (3 * (m.2.2.2.2.1.filter keepN).length + 1 + c) + 1, by omega, .inr (.inr ⟨keyL m, _, _, rfl, ?_, .cons (encU (by omega)) (.cons ha hp), rfl, rfl⟩)⟩
  unfold keyL payL
  cases m.2.1 == 5 <;> simp
theorem encO_len (o : S_api_Option) : (encO o).length ≤ 9 + o.2.length := by
  unfold encO
  have h1 := (headS_len 4 2).2; have h2 := (headS_len 0 o.1.toNat).2; have h3 := (headS_len 2 o.2.length).2
  simp only [List.length_append, List.length_nil]
  omega
theorem flat_len {b : Nat} : ∀ {l : List S_api_Option}, (∀ o ∈ l, o.2.length ≤ b) → (l.flatMap encO).length ≤ l.length * (9 + b)
  | [], _ => by simp
  | o :: l, h => by
    have := flat_len (l := l) fun q hq => h q (by simp [hq])
    have h1 := encO_len o; have h2 := h o (by simp)
    rw [List.flatMap_cons, List.length_append, List.length_cons, Nat.succ_mul]
    omega
theorem keyE_len {m : S_api_Message} {b : Nat} (h : ∀ o ∈ m.2.2.2.2.1, o.2.length ≤ b) : (keyE m).length ≤ 12 + m.2.2.2.2.1.length * (9 + b) + m.2.2.2.2.2.length := by
  have h1 := (headS_len 4 (keyL m).length).2; have h2 := (headS_len 0 m.2.1.toNat).2; have h3 := (headS_len 4 ((m.2.2.2.2.1.filter keepN).map itO).length).2
  have h4 := flat_len (b := b) (l := m.2.2.2.2.1.filter keepN) fun o ho => h o (List.mem_filter.1 ho).1
  have h5 : (m.2.2.2.2.1.filter keepN).length * (9 + b) ≤ m.2.2.2.2.1.length * (9 + b) := Nat.mul_le_mul_right _ (List.length_filter_le _ _)
  have h6 : (payE m).length ≤ 3 + m.2.2.2.2.2.length := by
    unfold payE
    have := (headS_len 2 m.2.2.2.2.2.length).2
    cases m.2.1 == 5
    · simp
    · simp only [cond_true, List.length_append, List.length_nil]; omega
  unfold keyE
  simp only [List.length_append]
  omega
theorem keyE_len1 {m : S_api_Message} (h : OkK m) : (keyE m).length ≤ 900000 := by
  have h1 := keyE_len (m := m) (b := 4096) fun o ho => (h.oo.2 o ho).2.2
  have h2 := h.oo.1; have h3 := h.pay
  have : m.2.2.2.2.1.length * (9 + 4096) ≤ 60 * (9 + 4096) := Nat.mul_le_mul_right _ h2
  omega
/-- The key. -/
def keyS (m : S_api_Message) : List UInt8 := bif decide (((keyE m).length : Int) ≤ 4096) then keyE m else []
theorem array_itO {o : S_api_Option} (h0 : 0 ≤ o.1) (h1 : o.1 ≤ 65535) (h2 : o.2.length ≤ 4096) : m_cbor_Array [itU o.1.toNat, itB o.2] = some (itO o) :=
  array_eq (fun y hy => by
    simp only [List.mem_cons, List.not_mem_nil, or_false] at hy
    rcases hy with rfl | rfl
    · exact copied_enc 39 1 _ _ _ (encU (k := 0) (by omega))
    · exact copied_enc 39 1 _ _ _ (encB (k := 0) h2)) (by simp)
theorem keep_bool {R : Type} (o : S_api_Option) (k : Bool → Option R) : (bnd (β := Bool) (letm (!nckB o.1) fun x15 => cond x15 (letm (o.1 != 4) fun x16 => cond x16 (letm (o.1 != 6) fun x17 => some x17) (some false)) (some false)) k) = k (keepN o) := by
  unfold keepN
  simp only [letm_e]
  cases nckB o.1 <;> cases (o.1 != 4) <;> rfl
theorem key_loop {R : Type} {bn : Nat → (Tr × List Tr) → Option R} (z : Tr) : ∀ (l : List S_api_Option) (k : Nat) (acc : List Tr), (∀ o ∈ l, 0 ≤ o.1 ∧ o.1 ≤ 65535 ∧ o.2.length ≤ 4096) → acc.length + l.length ≤ 1000 →
    loopL (R := R) (S := (Tr × List Tr)) (α := S_api_Option) bn (fun x10 _ s12 self13 => bnd (β := (Tr × List Tr)) (bnd (β := Bool) (bnd (m_option_NoCacheKey x10.1) fun x14 => letm ((!x14)) fun x15 => cond x15 (letm ((x10.1 != 4)) fun x16 => cond x16 (letm ((x10.1 != 6)) fun x17 => some x17) (some false)) (some false)) fun v18 =>
      cond v18 (bnd (m_cbor_Int x10.1) fun x19 => bnd (m_cbor_Bytes x10.2) fun x20 => bnd (m_cbor_Array [x19, x20]) fun x21 => bnd (app s12.2 [x21]) fun x22 => some (s12.1, x22)) (some (s12.1, s12.2))) fun v23 => self13 (v23.1, v23.2)) l k (z, acc) = bn (k + l.length) (z, acc ++ (l.filter keepN).map itO)
  | [], k, acc, _, _ => by rw [loopL_nil]; simp
  | o :: l, k, acc, h, hl => by
    obtain ⟨a, b, c⟩ := h o (by simp)
    simp only [List.length_cons] at hl
    rw [loopL_cons, nck_eq, bnd_s, keep_bool]
    have ih := fun acc (ha : acc.length + l.length ≤ 1000) => key_loop (bn := bn) z l (k + 1) acc (fun q hq => h q (by simp [hq])) ha
    cases hk : keepN o with
    | true =>
      rw [cd_t, int_eq a, bnd_s, bytes_eq (by omega), bnd_s, array_itO a b c, bnd_s, app_some' (by simp; omega), bnd_s, bnd_s]
      rw [ih (acc ++ [itO o]) (by simp; omega), List.filter_cons_of_pos hk, List.map_cons, List.length_cons, List.append_assoc, List.singleton_append, Nat.add_assoc, Nat.add_comm 1]
    | false =>
      rw [cd_f, bnd_s]
      rw [ih acc (by omega), List.filter_cons_of_neg (by simp [hk]), List.length_cons, Nat.add_assoc, Nat.add_comm 1]
theorem key_loop_ref {R : Type} {bn : Nat → List Tr → Option R} : ∀ (l : List S_api_Option) (k : Nat) (acc : List Tr), (∀ o ∈ l, 0 ≤ o.1 ∧ o.1 ≤ 65535 ∧ o.2.length ≤ 4096) → acc.length + l.length ≤ 1000 →
    loopL (R := R) (S := List Tr) (α := S_api_Option) bn (fun x10 _ s12 self13 => bnd (β := (List Tr)) (bnd (β := Bool) (bnd (m_coresecref16_NoCacheKey x10.1) fun x14 => letm ((!x14)) fun x15 => cond x15 (letm ((x10.1 != 4)) fun x16 => cond x16 (letm ((x10.1 != 6)) fun x17 => some x17) (some false)) (some false)) fun v18 =>
      cond v18 (bnd (m_coresecref01_Int x10.1) fun x19 => bnd (m_coresecref01_Bytes x10.2) fun x20 => bnd (app s12 [(Tr.mk 4 0 [] [x19, x20])]) fun x21 => some x21) (some s12)) fun v22 => self13 v22) l k acc = bn (k + l.length) (acc ++ (l.filter keepN).map itO)
  | [], k, acc, _, _ => by rw [loopL_nil]; simp
  | o :: l, k, acc, h, hl => by
    obtain ⟨a, b, c⟩ := h o (by simp)
    simp only [List.length_cons] at hl
    rw [loopL_cons, nck_ref, bnd_s, keep_bool]
    have ih := fun acc (ha : acc.length + l.length ≤ 1000) => key_loop_ref (bn := bn) l (k + 1) acc (fun q hq => h q (by simp [hq])) ha
    cases hk : keepN o with
    | true =>
      rw [cd_t, int_ref a, bnd_s, bytes_ref (by omega), bnd_s, app_some' (by simp; omega), bnd_s, bnd_s]
      refine (ih (acc ++ [itO o]) (by simp; omega)).trans ?_
      rw [List.filter_cons_of_pos hk, List.map_cons, List.length_cons, List.append_assoc, List.singleton_append, Nat.add_assoc, Nat.add_comm 1]
    | false =>
      rw [cd_f, bnd_s]
      rw [ih acc (by omega), List.filter_cons_of_neg (by simp [hk]), List.length_cons, Nat.add_assoc, Nat.add_comm 1]
theorem keyL_copied {m : S_api_Message} (h : OkK m) : ∀ y ∈ keyL m, m_cbor_copied y = some y := by
  obtain ⟨f1, f2⟩ := h.flt
  have hc0 := h.c0; have hc1 := h.c1
  intro y hy
  unfold keyL at hy
  rcases List.mem_cons.1 hy with rfl | hy
  · exact copied_enc 39 1 _ _ _ (encU (k := 0) (by omega))
  rcases List.mem_cons.1 hy with rfl | hy
  · exact copied_enc 37 3 _ _ _ (.inr (.inr ⟨_, _, _, rfl, by rw [List.length_map]; omega, enc_opts f2, rfl, rfl⟩))
  · unfold payL at hy
    cases hb : m.2.1 == 5 with
    | false => rw [hb] at hy; simp at hy
    | true =>
      rw [hb, cond_true] at hy
      rw [List.mem_singleton.1 hy]
      exact copied_enc 39 1 _ _ _ (encB (k := 0) h.pay)
theorem encS4_1 (e : List UInt8) : (encS4 e).1 = bif decide ((e.length : Int) ≤ 4096) then e else [] := by
  unfold encS4; cases decide ((e.length : Int) ≤ 4096) <;> rfl
theorem key_eq {m : S_api_Message} (h : OkK m) : m_option_CacheKey m = some (keyS m) := by
  obtain ⟨c, hc, he⟩ := enc_key h
  have hl := keyE_len1 h
  unfold m_option_CacheKey
  refine (key_loop _ _ 0 [] h.oo.2 (by have := h.oo.1; simp; omega)).trans ?_
  rw [List.nil_append]
  have ha : m_cbor_Array (keyL m) = some (.mk 4 0 [] (keyL m)) := array_eq (keyL_copied h) (by
    obtain ⟨f1, _⟩ := h.flt
    unfold keyL payL
    cases m.2.1 == 5 <;> simp)
  have hi : m_cbor_Int m.2.1 = some (itU m.2.1.toNat) := int_eq h.c0
  rw [hi, bnd_s]
  have hb : m_cbor_Bytes m.2.2.2.2.2 = some (itB m.2.2.2.2.2) := bytes_eq (by have := h.pay; omega)
  have fin : ∀ l, l = keyL m → (bnd (m_cbor_Array l) fun x8 => bnd (m_cbor_Encode x8) fun x9 => some x9.1) = some (keyS m) := by
    rintro _ rfl
    rw [ha, bnd_s, encode_eq he hc hl, bnd_s, encS4_1]; rfl
  rw [letm_e]
  cases hq : m.2.1 == 5 with
  | true =>
    rw [cd_t, hb, bnd_s, app_some' (by simp), bnd_s, bnd_s]
    refine fin _ ?_
    unfold keyL payL
    rw [hq]; rfl
  | false =>
    rw [cd_f, bnd_s]
    refine fin _ ?_
    unfold keyL payL
    rw [hq]; rfl
theorem key_ref {m : S_api_Message} (h : OkK m) : m_coresecref16_CacheKey m = some (keyS m) := by
  obtain ⟨c, hc, he⟩ := enc_key h
  have hl := keyE_len1 h
  unfold m_coresecref16_CacheKey
  refine (key_loop_ref _ 0 [] h.oo.2 (by have := h.oo.1; simp; omega)).trans ?_
  rw [List.nil_append]
  have hi : m_coresecref01_Int m.2.1 = some (itU m.2.1.toNat) := int_ref h.c0
  rw [hi, bnd_s]
  have hb : m_coresecref01_Bytes m.2.2.2.2.2 = some (itB m.2.2.2.2.2) := bytes_ref (by have := h.pay; omega)
  have fin : ∀ l, l = keyL m → (bnd (m_coresecref01_Encode (Tr.mk 4 0 [] l)) fun x8 => letm ((x8.2 != 0)) fun x9 => cond x9 (some []) (some x8.1)) = some (keyS m) := by
    rintro _ rfl
    rw [encode_ref he hc hl, bnd_s, letm_e]
    unfold encS4 keyS
    cases decide (((keyE m).length : Int) ≤ 4096) <;> rfl
  rw [letm_e]
  cases hq : m.2.1 == 5 with
  | true =>
    rw [cd_t, hb, bnd_s, app_some' (by simp), bnd_s, bnd_s]
    refine fin _ ?_
    unfold keyL payL
    rw [hq]; rfl
  | false =>
    rw [cd_f, bnd_s]
    refine fin _ ?_
    unfold keyL payL
    rw [hq]; rfl
end Go.Proofs.YtcbkmlfkfhfliaaGreatDoor
