/-
  Caches, plain facts: the laws on looking up and storing. Of the models alone; no program; no condition but that a list of numbers is not longer than memory.
-/
import Derived.Test.YtdiidghfmpobaaaQ22
namespace Go.Proofs.Ytdiidghfmpobaaa
open Go.Gk Go.RowKit
theorem short_eq (k : List UInt8) : m_coresecmake_Short k = some (decide ((k.length : Int) ≤ 600)) := rfl
theorem looks_in {x : List S_api_Cached} (hx : ValC x) (key : List UInt8) (Z : Option Bool) : ∀ (ns : List Int) (k : Nat), loopL (R := Bool) (S := Unit) (α := Int) (fun _ _ =>
    bnd (m_cache_Tag x key) fun x21 => bnd (m_coresecref20_Tag x key) fun x22 => letm ((x21.1 != x22.1)) fun x23 => cond x23 (some false) (letm ((x21.2 != x22.2)) fun x24 => cond x24 (some false)
    (bnd (m_cache_Remove x key) fun x25 => bnd (m_coresecref20_Remove x key) fun x26 => bnd (m_coresecref20_Same x25 x26) fun x27 => letm ((!x27)) fun x28 => cond x28 (some false) Z)))
    (fun x29 _ _ self32 => bnd (m_cache_Lookup x key x29) fun x33 => bnd (m_coresecref20_Lookup x key x29) fun x34 => bnd (m_coresecref15_Same x33.1 x34.1) fun x35 => letm ((!x35)) fun x36 => cond x36 (some false) (letm ((x33.2 != x34.2)) fun x37 => cond x37 (some false) (self32 ()))) ns k () = Z
  | [], k => by
    obtain ⟨r, h1, h2⟩ := tag_eq hx key
    obtain ⟨q, h3, h4⟩ := remove_eq hx key
    rw [loopL_nil, h1, h2, h3, h4]
    simp only [bnd_s, letm_e, same20, same_self, Bool.not_true, cd_f, bne_self_eq_false]
  | n :: ns, k => by
    obtain ⟨r, h1, h2⟩ := lookup_eq hx key n
    rw [loopL_cons, looks_in hx key Z ns (k + 1), h1, h2]
    simp only [bnd_s, letm_e, same15, same_self, Bool.not_true, cd_f]
theorem CacheLooks_true (a0 : List Int) (a1 : List UInt8) (a2 : Int) (h0 : List.length a0 ≤ maxLen) : m_coreseclaw20_CacheLooks a0 a1 a2 = some true := by
  unfold m_coreseclaw20_CacheLooks
  rw [short_eq, bnd_s, letm_e, awake_true, bnd_s]
  cases decide ((a1.length : Int) ≤ 600) with
  | false => rfl
  | true =>
    obtain ⟨x, t, d2, e2, hx, t0, t1, _⟩ := store_some (new_ok h0)
    have e0 : m_coresecmake_New a0 = some (a0, 0) := rfl
    obtain ⟨u, hu, _⟩ := mod_some a2 (m := 2147483648) (by omega) (by omega)
    obtain ⟨v, hv, _⟩ := mod_some a2 (m := 70) (by omega) (by omega)
    simp only [Bool.not_true, cd_f, e0, bnd_s, e2, hu, hv, letm_e]
    have key := fun key Z ns k => looks_in hx key Z ns k
    simp only [letm_e] at key
    simp only [loopL_cons, loopL_nil, key]
/-! ### Storing -/
theorem full_go : ∀ (n f k : Nat) (a0 : Int) (b : List S_api_Cached), n + k = 16 → n < f → b.length = k → ∃ l, loopF (R := (List S_api_Cached)) (S := ((List S_api_Cached) × Int)) (fun self2 s1 =>
    letm (decide (s1.2 < 16)) fun x3 => cond x3 (letm ((toU8 s1.2)) fun x4 => letm ((w64 (7 * s1.2))) fun x5 => letm ((w64 (a0 + x5))) fun x6 => bnd (m_coresecmake_Mod x6 20) fun x7 => bnd (app s1.1 [([x4], ((0, (69, (0, ([], ([], []))))), (x7, 60)))]) fun x8 => letm ((w64 (s1.2 + 1))) fun x9 => self2 (x8, x9)) (some s1.1)) f (b, (k : Int)) = some l ∧
      ∃ r, l = b ++ r ∧ r.length = n ∧ ∀ i c, r[i]? = some c → ∃ t, 0 ≤ t ∧ t < 20 ∧ c = (([toU8 ((k + i : Nat) : Int)], ((0, (69, (0, ([], ([], []))))), (t, 60))) : S_api_Cached)
  | 0, f + 1, k, a0, b, hk, hf, hb => by
    have d0 : decide ((k : Int) < 16) = false := decide_eq_false (by omega)
    rw [loopF_succ, letm_e]
    simp only [d0, cd_f]
    exact ⟨b, rfl, [], by simp, rfl, fun i c h => by simp at h⟩
  | n + 1, f + 1, k, a0, b, hk, hf, hb => by
    have d0 : decide ((k : Int) < 16) = true := decide_eq_true (by omega)
    obtain ⟨t, ht, t0, t1⟩ := mod_some (w64 (a0 + w64 (7 * (k : Int)))) (m := 20) (by omega) (by omega)
    have wk : w64 ((k : Int) + 1) = ((k + 1 : Nat) : Int) := by rw [w64_of (by omega) (by omega)]; omega
    rw [loopF_succ]
    simp only [letm_e, d0, cd_t, ht, bnd_s, wk]
    rw [app_some' (by simp; omega), bnd_s]
    obtain ⟨l, h1, r, h2, h3, h4⟩ := full_go n f (k + 1) a0 (b ++ [([toU8 (k : Int)], ((0, (69, (0, ([], ([], []))))), (t, 60)))]) (by omega) (by omega) (by simp; omega)
    simp only [letm_e] at h1
    refine ⟨l, h1, ([toU8 (k : Int)], ((0, (69, (0, ([], ([], []))))), (t, 60))) :: r, by rw [h2]; simp, by simp [h3], fun i c hc => ?_⟩
    cases i with
    | zero => simp at hc; exact ⟨t, t0, t1, hc.symm⟩
    | succ i =>
      obtain ⟨t', g1, g2, g3⟩ := h4 i c (by simpa using hc)
      exact ⟨t', g1, g2, by rw [g3, show k + 1 + i = k + (i + 1) by omega]⟩
/-- The full cache: sixteen elements, told by their numbers. -/
structure Full (l : List S_api_Cached) : Prop where
  len : l.length = 16
  el : ∀ i c, l[i]? = some c → ∃ t, 0 ≤ t ∧ t < 20 ∧ c = (([toU8 ((i : Nat) : Int)], ((0, (69, (0, ([], ([], []))))), (t, 60))) : S_api_Cached)
theorem full_some (a0 : Int) : ∃ l, m_coreseclaw20_full a0 = some l ∧ Full l := by
  unfold m_coreseclaw20_full
  obtain ⟨l, h1, r, h2, h3, h4⟩ := full_go 16 FUEL 0 a0 [] (by omega) (by rw [fuel_eq]; omega) rfl
  rw [List.nil_append] at h2
  subst h2
  refine ⟨l, h1, h3, fun i c hc => ?_⟩
  obtain ⟨t, g1, g2, g3⟩ := h4 i c hc
  exact ⟨t, g1, g2, by rw [g3, Nat.zero_add]⟩
theorem stores_w (c : List S_api_Cached) (k : List UInt8) (y : S_api_Message) (Z : Option Bool) : ∀ (ws : List Int) (j : Nat), loopL (R := Bool) (S := Unit) (α := Int) (fun _ _ => Z) (fun x w _ self =>
    bnd (m_cache_Insert c k y x) fun x1 => bnd (m_coresecref20_Insert c k y x) fun x2 => bnd (m_cache_Refresh c k y x) fun x3 => bnd (m_coresecref20_Refresh c k y x) fun x4 =>
    bnd (m_coresecref20_Same x1.1 x2.1) fun x5 => letm ((!x5)) fun x6 => cond x6 (some false) (letm ((x1.2 != x2.2)) fun x7 => cond x7 (some false) (bnd (m_coresecref20_Same x3.1 x4.1) fun x8 => letm ((!x8)) fun x9 => cond x9 (some false) (letm ((x3.2 != x4.2)) fun x10 => cond x10 (some false) (self ()))))) ws j () = Z
  | [], _ => rfl
  | w :: ws, j => by
    obtain ⟨h1, h2⟩ := insert_eq c k y w
    obtain ⟨r, h3, h4⟩ := refresh_eq c k y w
    rw [loopL_cons, stores_w c k y Z ws (j + 1), h1, h2, h3, h4]
    simp only [bnd_s, letm_e, same20, Bool.not_true, cd_f, bne_self_eq_false]
theorem CacheStores_true (a0 : List S_api_Cached) (a1 : List Int) (a2 : List UInt8) (a3 : S_api_Message) (a4 a5 : Int) (h1 : List.length a1 ≤ maxLen) : m_coreseclaw20_CacheStores a0 a1 a2 a3 a4 a5 = some true := by
  unfold m_coreseclaw20_CacheStores
  obtain ⟨b, hb⟩ := light_some a0
  rw [hb, bnd_s, letm_e, awake_true, bnd_s, short_eq, bnd_s, letm_e, letm_e]
  cases b with
  | false => rfl
  | true =>
  cases decide ((a2.length : Int) ≤ 600) with
  | false => rfl
  | true =>
  cases decide (30 < (a3.2.2.2.2.1.length : Int)) with
  | true => rfl
  | false =>
    have e0 : m_coresecmake_New a1 = some (a1, 0) := rfl
    obtain ⟨m, d1, e1, hd1, _⟩ := response_some (new_ok h1)
    obtain ⟨m2, d2, e2, hd2, _⟩ := response_some hd1
    obtain ⟨x, t, d3, e3, _⟩ := store_some hd2
    obtain ⟨l, e4, _⟩ := full_some a5
    obtain ⟨u, e5, _⟩ := mod_some a5 (m := 6) (by omega) (by omega)
    obtain ⟨v, e6, _⟩ := mod_some a4 (m := 50) (by omega) (by omega)
    have key := stores_w
    simp only [letm_e] at key
    simp only [Bool.not_true, cd_f, e0, bnd_s, e1, e2, e3, e4, e5, e6, letm_e]
    simp only [loopL_cons, loopL_nil, key]
/-! ### The oldest leaves -/
structure FirstMin (l : List S_api_Cached) (k b : Nat) : Prop where
  le : b ≤ k
  min : ∀ j, j < k → atN l b ≤ atN l j ∧ (atN l j = atN l b → b ≤ j)
theorem oldG_min (l : List S_api_Cached) : ∀ (rest : List S_api_Cached) (k b : Nat), l.drop k = rest → k ≤ l.length → (b < k ∨ k = 0 ∧ b = 0) → FirstMin l k b → FirstMin l l.length (oldG l rest k b)
  | [], k, b, hd, hk, _, h => by
    have : l.length ≤ k := by
      have := congrArg List.length hd
      simp at this; omega
    have : k = l.length := by omega
    subst this; exact h
  | c :: r, k, b, hd, hk, hb, h => by
    have hkc : l[k]? = some c := by have := congrArg (fun l => l[0]?) hd; simpa using this
    have hkl := (List.getElem?_eq_some_iff.1 hkc).1
    have hd2 : l.drop (k + 1) = r := by have := congrArg (fun l => l.drop 1) hd; simpa using this
    have hat : atN l k = c.2.2.1 := by unfold atN; rw [hkc]
    unfold oldG
    by_cases hlt : c.2.2.1 < atN l b
    · rw [decide_eq_true hlt]
      refine oldG_min l r (k + 1) k hd2 hkl (.inl (by omega)) ⟨by omega, fun j hj => ?_⟩
      rcases Nat.lt_or_ge j k with h1 | h1
      · have := (h.min j h1).1
        exact ⟨by omega, fun e => by omega⟩
      · have : j = k := by omega
        subst this; exact ⟨Int.le_refl _, fun _ => Nat.le_refl _⟩
    · rw [decide_eq_false hlt]
      refine oldG_min l r (k + 1) b hd2 hkl (.inl (by omega)) ⟨by omega, fun j hj => ?_⟩
      rcases Nat.lt_or_ge j k with h1 | h1
      · exact h.min j h1
      · have : j = k := by omega
        subst this
        exact ⟨by omega, fun _ => by omega⟩
def lastG (key : List UInt8) : List S_api_Cached → Nat → Int → Int
  | [], _, s => s
  | x :: r, k, s => lastG key r (k + 1) (bif x.1 == key then (k : Int) else s)
theorem last_go (key : List UInt8) (bn : Nat → Int → Option (Bool ⊕ Int)) : ∀ (xs : List S_api_Cached) (k : Nat) (s : Int), loopL (R := (Bool ⊕ Int)) (S := Int) (α := S_api_Cached) bn
    (fun x32 k33 s34 self35 => bnd (β := Int) (letm ((x32.1 == key)) fun x36 => cond x36 (some (k33 : Int)) (some s34)) fun v37 => self35 v37) xs k s = bn (k + xs.length) (lastG key xs k s)
  | [], _, _ => rfl
  | x :: r, k, s => by
    rw [loopL_cons, letm_e]
    unfold lastG
    rw [List.length_cons, show k + (r.length + 1) = k + 1 + r.length by omega]
    cases x.1 == key with
    | true => exact last_go key bn r (k + 1) (k : Int)
    | false => exact last_go key bn r (k + 1) s
theorem lastG_any (key : List UInt8) : ∀ (xs : List S_api_Cached) (k : Nat) (s : Int), decide (0 ≤ lastG key xs k s) = (decide (0 ≤ s) || xs.any fun x => x.1 == key)
  | [], _, s => by rw [List.any_nil, Bool.or_false]; rfl
  | x :: r, k, s => by
    unfold lastG
    rw [lastG_any key r (k + 1), List.any_cons]
    cases x.1 == key with
    | true => rw [cond_true, decide_eq_true (by omega)]; simp
    | false => rw [cond_false]; simp
theorem chk_go (c : List S_api_Cached) (i : Nat) (z : Bool ⊕ Int) (a : Int) (h : ∀ j, j < c.length → a ≤ atN c j ∧ (atN c j = a → i ≤ j)) : ∀ (rest : List S_api_Cached) (k : Nat), c.drop k = rest → loopL (R := (Bool ⊕ Int)) (S := Unit) (α := S_api_Cached) (fun _ _ => some z)
    (fun x25 k26 _ self28 => letm (decide (x25.2.2.1 < a)) fun x29 => cond x29 (some (.inl false)) (letm ((x25.2.2.1 == a)) fun x30 => cond x30 (letm (decide ((k26 : Int) < (i : Int))) fun x31 => cond x31 (some (.inl false)) (self28 ())) (self28 ()))) rest k () = some z
  | [], _, _ => rfl
  | x :: r, k, hd => by
    have hkc : c[k]? = some x := by have := congrArg (fun l => l[0]?) hd; simpa using this
    have hkl := (List.getElem?_eq_some_iff.1 hkc).1
    have hd2 : c.drop (k + 1) = r := by have := congrArg (fun l => l.drop 1) hd; simpa using this
    have hat : atN c k = x.2.2.1 := by unfold atN; rw [hkc]
    obtain ⟨h1, h2⟩ := h k hkl
    rw [loopL_cons, chk_go c i z a h r (k + 1) hd2]
    simp only [letm_e]
    rw [decide_eq_false (by omega), cd_f]
    cases he : x.2.2.1 == a with
    | false => rfl
    | true =>
      have he : x.2.2.1 = a := by simpa using he
      have := h2 (by omega)
      rw [decide_eq_false (by omega)]; rfl
theorem toU8_inj {i j : Nat} (hi : i < 256) (hj : j < 256) (h : toU8 (i : Int) = toU8 (j : Int)) : i = j := by
  have h1 := toU8_toNat (i : Int)
  have h2 := toU8_toNat (j : Int)
  rw [h] at h1
  omega
def msg69 : S_api_Message := (0, (69, (0, ([], ([], [])))))
theorem msg_val : valM msg69 = true := by decide +kernel
theorem msg_stor : storB msg69 = true := by decide +kernel
theorem Full.valid {l : List S_api_Cached} (h : Full l) : ValC l := by
  refine ⟨by have := h.len; omega, fun c hc => ?_, ?_⟩
  · obtain ⟨i, hi⟩ := List.getElem?_of_mem hc
    obtain ⟨t, t0, t1, rfl⟩ := h.el i c hi
    exact elemB_iff.2 ⟨rfl, t0, by show (0 : Int) ≤ 60; omega, msg_val, rfl, rfl, rfl, rfl⟩
  · rw [List.nodup_iff_pairwise_ne, List.pairwise_iff_getElem]
    intro i j hi hj hij
    simp only [List.length_map] at hi hj
    have hl := h.len
    obtain ⟨_, _, _, e1⟩ := h.el i _ (List.getElem?_eq_getElem hi)
    obtain ⟨_, _, _, e2⟩ := h.el j _ (List.getElem?_eq_getElem hj)
    rw [List.getElem_map, List.getElem_map, e1, e2]
    intro e
    have e : toU8 (i : Int) = toU8 (j : Int) := by simpa using e
    have := toU8_inj (by omega) (by omega) e
    omega
theorem CacheOldest_true (a0 a1 : Int) : m_coreseclaw20_CacheOldest a0 a1 = some true := by
  unfold m_coreseclaw20_CacheOldest
  obtain ⟨c, e1, hF⟩ := full_some a0
  obtain ⟨m, e2, m0, m1⟩ := mod_some a1 (m := 40) (by omega) (by omega)
  have hV := hF.valid
  have hlen := hF.len
  have hkey : ∀ (i : Nat) (x : S_api_Cached), c[i]? = some x → x.1 = [toU8 (i : Int)] := fun i x hx => by obtain ⟨_, _, _, rfl⟩ := hF.el i x hx; rfl
  have hno : c.findIdx? (fun d => d.1 == [200]) = none := by
    rw [List.findIdx?_eq_none_iff]
    intro x hx
    obtain ⟨i, hi⟩ := List.getElem?_of_mem hx
    have hil := (List.getElem?_eq_some_iff.1 hi).1
    rw [hkey i x hi]
    have : ∀ i : Nat, i < 16 → ([toU8 ((i : Nat) : Int)] == ([200] : List UInt8)) = false := by decide +kernel
    exact this i (by omega)
  have hins := (insert_eq c [200] msg69 (20 + m)).1
  have hres : insS c [200] msg69 (20 + m) = (c.take (oldG c c 0 0) ++ c.drop (oldG c c 0 0 + 1) ++ [newE [200] msg69 (20 + m)], 0) := by
    unfold insS outS
    rw [validC_iff.2 hV, msg_stor, decide_eq_false (show ¬ 20 + m < 0 by omega), decide_eq_false (show ¬ 1073741824 < 20 + m by omega)]
    show ((match c.findIdx? (fun d => d.1 == [200]) with | some i => c.set i (newE [200] msg69 (20 + m)) | none => _), (0 : Int)) = _
    rw [hno, decide_eq_true (by omega)]; rfl
  rw [hres] at hins
  have ho := oldG_lt c c 0 0 (by omega) (by omega)
  have hmin := oldG_min c c 0 0 rfl (by omega) (.inr ⟨rfl, rfl⟩) ⟨Nat.le_refl _, fun j hj => by omega⟩
  generalize oldG c c 0 0 = o at hins ho hmin
  generalize hn : newE [200] msg69 (20 + m) = n at hins
  have hn1 : n.1 = [200] := by rw [← hn]; rfl
  have hx : m_cache_Insert c [200] (0, (69, (0, ([], ([], []))))) (20 + m) = some (c.take o ++ c.drop (o + 1) ++ [n], 0) := hins
  have hany : ∀ i y, c[i]? = some y → (c.take o ++ c.drop (o + 1) ++ [n]).any (fun x => x.1 == y.1) = !(Nat.beq i o) := fun i y hy => by
    have hil := (List.getElem?_eq_some_iff.1 hy).1
    cases hio : Nat.beq i o with
    | true =>
      have := Nat.eq_of_beq_eq_true hio
      subst this
      rw [Bool.not_true, List.any_eq_false]
      intro x hx
      have hne : ∀ j x, c[j]? = some x → j ≠ i → x.1 ≠ y.1 := fun j x hj hji e => by
        rw [hkey j x hj, hkey i y hy] at e
        have hjl := (List.getElem?_eq_some_iff.1 hj).1
        exact hji (toU8_inj (by omega) (by omega) (by simpa using e))
      rcases List.mem_append.1 hx with hx | hx
      · rcases List.mem_append.1 hx with hx | hx
        · obtain ⟨j, hj⟩ := List.getElem?_of_mem hx
          have hjl : j < i := by
            have := (List.getElem?_eq_some_iff.1 hj).1
            simp at this; omega
          rw [List.getElem?_take_of_lt hjl] at hj
          simpa using hne j x hj (by omega)
        · obtain ⟨j, hj⟩ := List.getElem?_of_mem hx
          rw [List.getElem?_drop] at hj
          simpa using hne _ x hj (by omega)
      · rw [List.mem_singleton.1 hx, hn1, hkey i y hy]
        have : ∀ i : Nat, i < 16 → ¬ (([200] : List UInt8) == [toU8 ((i : Nat) : Int)]) = true := by decide +kernel
        exact this i (by omega)
    | false =>
      have hio : i ≠ o := fun e => by subst e; simp at hio
      rw [Bool.not_false, List.any_eq_true]
      refine ⟨y, ?_, by simp⟩
      rcases Nat.lt_or_ge i o with h | h
      · exact List.mem_append_left _ (List.mem_append_left _ (List.mem_of_getElem? (i := i) (by rw [List.getElem?_take_of_lt h]; exact hy)))
      · exact List.mem_append_left _ (List.mem_append_right _ (List.mem_of_getElem? (i := i - (o + 1)) (by rw [List.getElem?_drop, show o + 1 + (i - (o + 1)) = i by omega]; exact hy)))
  have hxl : (c.take o ++ c.drop (o + 1) ++ [n]).length = 16 := by simp; omega
  have hx15 : idx (c.take o ++ c.drop (o + 1) ++ [n]) 15 = some n := by
    refine idx_some' (i := 15) ?_
    rw [List.getElem?_append_right (by simp; omega)]
    have : 15 - (c.take o ++ c.drop (o + 1)).length = 0 := by simp; omega
    rw [this]; rfl
  generalize c.take o ++ c.drop (o + 1) ++ [n] = x at hx hany hxl hx15
  have w1 : w64 (20 + m) = 20 + m := w64_of (by omega) (by omega)
  have w2 : w64 (((16 : Nat) : Int) - 1) = 15 := by decide
  have z0 : ((0 : Int) != 0) = false := rfl
  have z16 : (((16 : Nat) : Int) != 16) = false := rfl
  rw [e1, bnd_s, e2, bnd_s, letm_e, w1, hx, bnd_s, letm_e, z0, cd_f]
  simp only [hxl]
  rw [letm_e, z16, cd_f]
  -- each element of the full cache
  have hstep : ∀ (i : Nat) (y : S_api_Cached) (s : Int), c[i]? = some y → 0 ≤ s → s ≤ 100 → loopL (R := (Bool ⊕ Int)) (S := Int) (α := S_api_Cached) (fun _ s20 => letm (decide (0 ≤ s20)) fun x21 => cond x21 (some (.inr s)) (letm ((w64 (s + 1))) fun x22 => loopL (R := (Bool ⊕ Int)) (S := Unit) (α := S_api_Cached) (fun _ _ => some (.inr x22))
      (fun x25 k26 _ self28 => letm (decide (x25.2.2.1 < y.2.2.1)) fun x29 => cond x29 (some (.inl false)) (letm ((x25.2.2.1 == y.2.2.1)) fun x30 => cond x30 (letm (decide ((k26 : Int) < (i : Int))) fun x31 => cond x31 (some (.inl false)) (self28 ())) (self28 ()))) c 0 ()))
      (fun x32 k33 s34 self35 => bnd (β := Int) (letm ((x32.1 == y.1)) fun x36 => cond x36 (some (k33 : Int)) (some s34)) fun v37 => self35 v37) x 0 (-1) = some (.inr (bif Nat.beq i o then s + 1 else s)) := fun i y s hy s0 s1 => by
    rw [last_go, letm_e, lastG_any, hany i y hy]
    cases hio : Nat.beq i o with
    | false => rfl
    | true =>
      have := Nat.eq_of_beq_eq_true hio
      subst this
      have hat : atN c i = y.2.2.1 := by unfold atN; rw [hy]
      rw [show (decide ((0 : Int) ≤ -1) || !true) = false from rfl, cd_f, letm_e, chk_go c i _ _ (fun j hj => by rw [← hat]; exact hmin.min j hj) c 0 rfl, w64_of (by omega) (by omega)]; rfl
  have hall : ∀ (rest : List S_api_Cached) (i : Nat) (s : Int), c.drop i = rest → 0 ≤ s → s + (rest.length : Int) ≤ 100 → ∀ (bn : Nat → Int → Option Bool), loopL (R := Bool) (S := Int) (α := S_api_Cached) bn
      (fun x15 k16 s17 self18 => bndS (ρ := Bool) (ρ' := Bool) (Y := Int) (loopL (R := (Bool ⊕ Int)) (S := Int) (α := S_api_Cached) (fun _ s20 => letm (decide (0 ≤ s20)) fun x21 => cond x21 (some (.inr s17)) (letm ((w64 (s17 + 1))) fun x22 => loopL (R := (Bool ⊕ Int)) (S := Unit) (α := S_api_Cached) (fun _ _ => some (.inr x22))
      (fun x25 k26 _ self28 => letm (decide (x25.2.2.1 < x15.2.2.1)) fun x29 => cond x29 (some (.inl false)) (letm ((x25.2.2.1 == x15.2.2.1)) fun x30 => cond x30 (letm (decide ((k26 : Int) < (k16 : Int))) fun x31 => cond x31 (some (.inl false)) (self28 ())) (self28 ()))) c 0 ()))
      (fun x32 k33 s34 self35 => bnd (β := Int) (letm ((x32.1 == x15.1)) fun x36 => cond x36 (some (k33 : Int)) (some s34)) fun v37 => self35 v37) x 0 (-1)) (fun q => q) fun v38 => self18 v38) rest i s = bn (i + rest.length) (bif Nat.ble i o && Nat.blt o c.length then s + 1 else s) := by
    intro rest
    induction rest with
    | nil =>
      intro i s hd s0 s1 bn
      have : c.length ≤ i := by have := congrArg List.length hd; simp at this; omega
      have hb : Nat.ble i o = false := by
        cases h : Nat.ble i o with
        | false => rfl
        | true => have := Nat.le_of_ble_eq_true h; omega
      rw [loopL_nil, hb]; rfl
    | cons y r ih =>
      intro i s hd s0 s1 bn
      have hy : c[i]? = some y := by have := congrArg (fun l => l[0]?) hd; simpa using this
      have hd2 : c.drop (i + 1) = r := by have := congrArg (fun l => l.drop 1) hd; simpa using this
      have hbo : Nat.blt o c.length = true := Nat.ble_eq_true_of_le ho
      rw [List.length_cons] at s1
      have e1 : ∀ z : Bool, (0 : Int) ≤ (bif z then s + 1 else s) ∧ (bif z then s + 1 else s) + (r.length : Int) ≤ 100 := fun z => by cases z <;> simp <;> omega
      rw [loopL_cons, hstep i y s hy s0 (by omega), bndS_r, ih (i + 1) _ hd2 (e1 _).1 (e1 _).2, List.length_cons, show i + 1 + r.length = i + (r.length + 1) by omega, hbo]
      congr 1
      cases hio : Nat.beq i o with
      | true =>
        have := Nat.eq_of_beq_eq_true hio
        subst this
        have h1 : Nat.ble (i + 1) i = false := by
          cases h : Nat.ble (i + 1) i with
          | false => rfl
          | true => have := Nat.le_of_ble_eq_true h; omega
        have h2 : Nat.ble i i = true := Nat.ble_eq_true_of_le (Nat.le_refl _)
        rw [h1, h2]; rfl
      | false =>
        have hio : i ≠ o := fun e => by subst e; simp at hio
        have h1 : Nat.ble (i + 1) o = Nat.ble i o := by
          cases h : Nat.ble i o with
          | false =>
            cases h' : Nat.ble (i + 1) o with
            | false => rfl
            | true => have := Nat.le_of_ble_eq_true h'; rw [Nat.ble_eq_true_of_le (by omega)] at h; cases h
          | true => have := Nat.le_of_ble_eq_true h; exact Nat.ble_eq_true_of_le (by omega)
        rw [h1]; rfl
  have hb0 : Nat.ble 0 o = true := Nat.ble_eq_true_of_le (Nat.zero_le _)
  have hbo : Nat.blt o c.length = true := Nat.ble_eq_true_of_le ho
  have := hall c 0 0 rfl (by omega) (by omega)
  rw [this, hb0, hbo]
  have z1 : (((0 : Int) + 1) == 1) = true := rfl
  simp only [Bool.and_self, cond_true, letm_e, z1, cd_t, w2, hx15, bnd_s, hn1, awake_true, beq_self_eq_true]
end Go.Proofs.Ytdiidghfmpobaaa
