/-
  Caches, plain facts: what storing, refreshing, looking up and removing give, by both texts. Of the models alone; no program; no condition but those told.
-/
import Derived.Test.YtdiidghfmpobaaaQ20
namespace Go.Proofs.Ytdiidghfmpobaaa
open Go.Gk Go.RowKit
def bareM (m : S_api_Message) : S_api_Message := (m.1, (m.2.1, (m.2.2.1, ([], (m.2.2.2.2.1, m.2.2.2.2.2)))))
theorem element_eq {c : S_api_Cached} (hk : c.1.length ≤ 1000000) (h : LenM c.2.1) : m_cache_element c = some (c.1, (bareM c.2.1, c.2.2)) := by
  unfold m_cache_element
  rw [clone_some hk, clone_some h.2.2, bnd_s, bnd_s]
  obtain ⟨h1, h2⟩ := loopL_fold (bn := fun k3 (s4 : S_api_Message × List S_api_Option) => some (c.1, ((s4.1.1, (s4.1.2.1, (s4.1.2.2.1, (s4.1.2.2.2.1, (s4.2, s4.1.2.2.2.2.2))))), c.2.2)))
    (bs := fun (x6 : S_api_Option) k7 (s8 : S_api_Message × List S_api_Option) self9 => bnd (m_bytes_Clone x6.2) fun x10 => bnd (app s8.2 [(x6.1, x10)]) fun x11 => self9 (s8.1, x11))
    (fun s o => (s.1, s.2 ++ [o])) (fun k s => s.2.length = k) c.2.1.2.2.2.2.1 0 ((c.2.1.1, (c.2.1.2.1, (c.2.1.2.2.1, ([], ([], c.2.1.2.2.2.2.2))))), [])
    (fun i x s self hx hs => by
      have hi := (List.getElem?_eq_some_iff.1 hx).1
      have := h.2.1.1
      refine ⟨?_, by simp [hs]⟩
      rw [clone_some (h.2.1.2 x (List.mem_of_getElem? hx)), bnd_s, app_some' (by simp only [List.length_cons, List.length_nil]; omega)]; rfl) rfl
  rw [h1]
  have key : ∀ (l acc : List S_api_Option) (a : S_api_Message), l.foldl (fun (s : S_api_Message × List S_api_Option) o => (s.1, s.2 ++ [o])) (a, acc) = (a, acc ++ l) := by
    intro l
    induction l with
    | nil => intro acc a; simp
    | cons x l ih => intro acc a; rw [List.foldl_cons, ih]; simp
  rw [key]; rfl
theorem ElemOK.elt {c : S_api_Cached} (h : ElemOK c) : m_cache_element c = some c := by
  rw [element_eq (by have := keyB_len h.key; omega) h.len]
  have := h.tok
  obtain ⟨k, ⟨t, cd, id, tk, o, p⟩, aa⟩ := c
  have : tk = [] := this
  subst this; rfl
theorem copy15_eq {m : S_api_Message} (h : LenM m) : m_coresecref15_Copy m = some m := by
  unfold m_coresecref15_Copy
  rw [app_nil_some h.1, app_nil_some h.2.2, bnd_s, bnd_s, loopL_map (fun o => o) _ _ _ (by have := h.2.1.1; simp; omega) fun o ho k s self => ?_]
  · rw [List.map_id']; rfl
  · rw [app_nil_some (h.2.1.2 o ho)]; rfl
theorem all_id {l : List S_api_Cached} (h : ValC l) : m_cache_all_o l = some l ∧ m_cache_all l = some l := by
  have key : ∀ f : List S_api_Cached → Option (List S_api_Cached), f l = loopL (R := (List S_api_Cached)) (S := (List S_api_Cached)) (α := S_api_Cached) (fun k1 s2 => some s2) (fun x3 k4 s5 self6 => bnd (m_cache_element x3) fun x7 => bnd (app s5 [x7]) fun x8 => self6 x8) l 0 [] → f l = some l := fun f hf => by
    rw [hf, loopL_map (fun c => c) _ _ _ (by have := h.len; simp; omega) fun c hc k s self => ?_]
    · rw [List.map_id']; rfl
    · rw [(elemB_iff.1 (h.el c hc)).elt, bnd_s]
  exact ⟨key _ rfl, key _ rfl⟩
theorem copy_id {l : List S_api_Cached} (h : ValC l) : m_coresecref20_Copy_o l = some l ∧ m_coresecref20_Copy l = some l := by
  have key : ∀ f : List S_api_Cached → Option (List S_api_Cached), f l = loopL (R := (List S_api_Cached)) (S := (List S_api_Cached)) (α := S_api_Cached) (fun k1 s2 => some s2) (fun x3 k4 s5 self6 => bnd (app [] x3.1) fun x7 => bnd (m_coresecref15_Copy x3.2.1) fun x8 => bnd (app s5 [(x7, (x8, x3.2.2))]) fun x9 => self6 x9) l 0 [] → f l = some l := fun f hf => by
    rw [hf, loopL_map (fun c => c) _ _ _ (by have := h.len; simp; omega) fun c hc k s self => ?_]
    · rw [List.map_id']; rfl
    · have he := elemB_iff.1 (h.el c hc)
      rw [app_nil_some (by have := keyB_len he.key; omega), copy15_eq he.len, bnd_s, bnd_s]
  exact ⟨key _ rfl, key _ rfl⟩
/-! ### The oldest -/
def atN (l : List S_api_Cached) (b : Nat) : Int := match l[b]? with | some x => x.2.2.1 | none => 0
def oldG (l : List S_api_Cached) : List S_api_Cached → Nat → Nat → Nat
  | [], _, b => b
  | c :: r, k, b => oldG l r (k + 1) (bif decide (c.2.2.1 < atN l b) then k else b)
theorem oldG_lt (l : List S_api_Cached) : ∀ (rest : List S_api_Cached) (k b : Nat), k + rest.length ≤ l.length → b < l.length → oldG l rest k b < l.length
  | [], _, b, _, h => h
  | c :: r, k, b, hk, h => by
    rw [List.length_cons] at hk
    unfold oldG
    cases decide (c.2.2.1 < atN l b) with
    | true => exact oldG_lt l r (k + 1) k (by omega) (by omega)
    | false => exact oldG_lt l r (k + 1) b (by omega) h
theorem idx_at {l : List S_api_Cached} {b : Nat} (h : b < l.length) : ∃ x, idx l (b : Int) = some x ∧ x.2.2.1 = atN l b ∧ l[b]? = some x :=
  ⟨l[b], idx_some' (List.getElem?_eq_getElem h), by unfold atN; rw [List.getElem?_eq_getElem h], List.getElem?_eq_getElem h⟩
theorem old_go (l : List S_api_Cached) : ∀ (rest : List S_api_Cached) (k b : Nat), k + rest.length ≤ l.length → b < l.length → loopL (R := Int) (S := Int) (α := S_api_Cached) (fun _ s2 => some s2)
    (fun x3 k4 s5 self6 => bnd (β := Int) (bnd (idx l s5) fun x7 => letm (decide (x3.2.2.1 < x7.2.2.1)) fun x8 => cond x8 (some (k4 : Int)) (some s5)) fun v9 => self6 v9) rest k (b : Int) = some ((oldG l rest k b : Nat) : Int)
  | [], _, _, _, _ => rfl
  | c :: r, k, b, hk, h => by
    rw [List.length_cons] at hk
    obtain ⟨x, hx, ha, _⟩ := idx_at h
    rw [loopL_cons, hx, bnd_s, letm_e, ha]
    unfold oldG
    cases decide (c.2.2.1 < atN l b) with
    | true => exact old_go l r (k + 1) k (by omega) (by omega)
    | false => exact old_go l r (k + 1) b (by omega) h
theorem oldest_eq {l : List S_api_Cached} (h : 0 < l.length) : m_cache_oldest l = some ((oldG l l 0 0 : Nat) : Int) := old_go l l 0 0 (by omega) h
theorem rold_go (l : List S_api_Cached) (bn : Nat → Int → Option (List S_api_Cached)) : ∀ (rest : List S_api_Cached) (k b : Nat), l.drop k = rest → b < l.length → loopN (R := (List S_api_Cached)) (S := Int) bn
    (fun k29 s30 self31 => bnd (β := Int) (bnd (idx l (k29 : Int)) fun x32 => bnd (idx l (((k29 : Int)).toNat : Int)) fun x33 => bnd (idx l s30) fun x34 => bnd (idx l ((s30).toNat : Int)) fun x35 => letm (decide (x33.2.2.1 < x35.2.2.1)) fun x36 => cond x36 (some (k29 : Int)) (some s30)) fun v37 => self31 v37) rest.length k (b : Int) = bn (k + rest.length) ((oldG l rest k b : Nat) : Int)
  | [], _, _, _, _ => rfl
  | c :: r, k, b, hd, h => by
    have hk : l[k]? = some c := by have := congrArg (fun l => l[0]?) hd; simpa using this
    have hkl := (List.getElem?_eq_some_iff.1 hk).1
    have hd2 : l.drop (k + 1) = r := by have := congrArg (fun l => l.drop 1) hd; simpa using this
    obtain ⟨x, hx, ha, _⟩ := idx_at h
    rw [List.length_cons, loopN_succ, Int.toNat_natCast, Int.toNat_natCast, idx_some' hk, hx, bnd_s, bnd_s, bnd_s, bnd_s, letm_e, ha]
    unfold oldG
    rw [show k + (r.length + 1) = k + 1 + r.length by omega]
    cases decide (c.2.2.1 < atN l b) with
    | true => exact rold_go l bn r (k + 1) k hd2 hkl
    | false => exact rold_go l bn r (k + 1) b hd2 h
theorem cut_take {α : Type} {l : List α} {o : Nat} (h : o ≤ l.length) : Gk.cut l 0 (o : Int) = some (l.take o) := by
  unfold Gk.cut
  rw [if_pos (by omega)]; simp
theorem cut_drop {α : Type} {l : List α} {o : Nat} (h : o ≤ l.length) : Gk.cut l (o : Int) (l.length : Int) = some (l.drop o) := by
  unfold Gk.cut
  rw [if_pos (by omega)]; simp
/-! ### Storing -/
def outS (l : List S_api_Cached) (n : S_api_Cached) : List S_api_Cached := match l.findIdx? (fun c => c.1 == n.1) with
  | some i => l.set i n
  | none => (bif decide (16 ≤ (l.length : Int)) then l.take (oldG l l 0 0) ++ l.drop (oldG l l 0 0 + 1) else l) ++ [n]
def newE (key : List UInt8) (m : S_api_Message) (now : Int) : S_api_Cached := (key, ((0, (m.2.1, (0, ([], m.2.2.2.2)))), (now, ageS m)))
def insS (l : List S_api_Cached) (key : List UInt8) (m : S_api_Message) (now : Int) : List S_api_Cached × Int :=
  bif validC l && keyB key && !(decide (now < 0)) && !(decide (1073741824 < now)) then (bif storB m then (outS l (newE key m now), 0) else ([], 4)) else ([], 1)
theorem argument_eq (l : List S_api_Cached) (key : List UInt8) (now : Int) : m_cache_argument l key now = some (bif validC l && keyB key && !(decide (now < 0)) && !(decide (1073741824 < now)) then 0 else 1) := by
  unfold m_cache_argument
  simp only [cvalid_eq, keyed_eq, letm_e, bnd_s]
  cases validC l <;> cases keyB key <;> cases decide (now < 0) <;> cases decide (1073741824 < now) <;> rfl
theorem find_cases (l : List S_api_Cached) (key : List UInt8) : (l.findIdx? (fun c => c.1 == key) = none ∧ findS l key = -1) ∨ ∃ i x, l.findIdx? (fun c => c.1 == key) = some i ∧ findS l key = (i : Int) ∧ l[i]? = some x ∧ x.1 = key ∧ i < l.length := by
  cases h : l.findIdx? (fun c => c.1 == key) with
  | none => exact .inl ⟨rfl, by unfold findS; rw [h]⟩
  | some i =>
    obtain ⟨hi, h1, _⟩ := List.findIdx?_eq_some_iff_getElem.1 h
    exact .inr ⟨i, l[i], rfl, by unfold findS; rw [h], List.getElem?_eq_getElem hi, by simpa using h1, hi⟩
theorem insert_eq (l : List S_api_Cached) (key : List UInt8) (m : S_api_Message) (now : Int) : m_cache_Insert l key m now = some (insS l key m now) ∧ m_coresecref20_Insert l key m now = some (insS l key m now) := by
  unfold m_cache_Insert m_coresecref20_Insert insS
  simp only [argument_eq, rvalid_eq, keyed_ref, stor_eq, stor_ref, letm_e, bnd_s]
  cases hv : validC l with
  | false => exact ⟨rfl, rfl⟩
  | true =>
  cases hk : keyB key with
  | false => exact ⟨rfl, rfl⟩
  | true =>
  cases decide (now < 0) with
  | true => exact ⟨rfl, rfl⟩
  | false =>
  cases decide (1073741824 < now) with
  | true => exact ⟨rfl, rfl⟩
  | false =>
  cases hs : storB m with
  | false => exact ⟨rfl, rfl⟩
  | true =>
    have hV := validC_iff.1 hv
    have hS := storB_facts hs
    have hl := (valM_snd hS.val).len
    have hkl := keyB_len hk
    have hlen := hV.len
    have e1 : m_cache_element (key, ((0, (m.2.1, (0, ([], m.2.2.2.2)))), (now, ageS m))) = some (newE key m now) := element_eq (c := (key, ((0, (m.2.1, (0, ([], m.2.2.2.2)))), (now, ageS m)))) (by show key.length ≤ 1000000; omega) ⟨by show ([] : List UInt8).length ≤ 1000000; simp, hl.2⟩
    have e2 := app_nil_some (l := key) (by omega)
    have z1 : ((0 : Int) != 0) = false := rfl
    simp only [Bool.not_true, Bool.not_false, Bool.and_true, cond_true, cd_f, z1, age_eq hl.2.1, age_ref hl.2.1, e1, e2, (all_id hV).1, (copy_id hV).1, copy15_eq hl, find_eq, at_eq, bnd_s]
    rcases find_cases l key with ⟨h1, h2⟩ | ⟨i, x, h1, h2, h3, h4, h5⟩
    · rw [h2]
      have d1 : decide ((0 : Int) ≤ -1) = false := rfl
      simp only [d1, cd_f]
      unfold outS
      rw [show (newE key m now).1 = key from rfl, h1]
      by_cases h16 : 16 ≤ (l.length : Int)
      · have ho := oldG_lt l l 0 0 (by omega) (by omega)
        have w1 : w64 (((oldG l l 0 0 : Nat) : Int) + 1) = ((oldG l l 0 0 + 1 : Nat) : Int) := by rw [w64_of (by omega) (by omega)]; omega
        have hr := rold_go l (fun k22 s23 => bnd (Gk.cut l 0 s23) fun x24 => bnd (app [] x24) fun x25 => letm ((w64 (s23 + 1))) fun x26 => bnd (Gk.cut l x26 (l.length : Int)) fun x27 => bnd (app x25 x27) fun x28 => some x28) l 0 0 rfl (by omega)
        simp only [letm_e] at hr
        have hr : loopN (R := (List S_api_Cached)) (S := Int) _ _ l.length 0 0 = _ := hr
        have c1 := cut_take (l := l) (Nat.le_of_lt ho)
        have c2 := cut_drop (l := l) (o := oldG l l 0 0 + 1) (by omega)
        have a1 : app (l.take (oldG l l 0 0)) (l.drop (oldG l l 0 0 + 1)) = some (l.take (oldG l l 0 0) ++ l.drop (oldG l l 0 0 + 1)) := app_some' (by simp; omega)
        have a2 : ∀ n : S_api_Cached, app (l.take (oldG l l 0 0) ++ l.drop (oldG l l 0 0 + 1)) [n] = some (l.take (oldG l l 0 0) ++ l.drop (oldG l l 0 0 + 1) ++ [n]) := fun n => app_some' (by simp; omega)
        rw [w1] at hr
        rw [decide_eq_true h16]
        simp only [cd_t]
        refine ⟨?_, ?_⟩
        · rw [oldest_eq (l := l) (by omega), bnd_s, c1, bnd_s, w1, c2, bnd_s, a1, bnd_s, bnd_s, a2]; rfl
        · rw [rng_some' (n := (l.length : Int)) (by omega), bnd_s, Int.toNat_natCast, hr, c1, bnd_s, app_nil_some (l := l.take (oldG l l 0 0)) (by simp; omega), bnd_s, c2, bnd_s, a1, bnd_s, bnd_s]
          exact (congrArg (fun z => bnd z _) (a2 (newE key m now))).trans rfl
      · rw [decide_eq_false h16]
        have a2 : ∀ n : S_api_Cached, app l [n] = some (l ++ [n]) := fun n => app_some' (by simp; omega)
        simp only [cd_f, bnd_s]
        rw [a2, a2]
        exact ⟨rfl, rfl⟩
    · rw [h2]
      have d1 : decide ((0 : Int) ≤ (i : Int)) = true := decide_eq_true (by omega)
      simp only [d1, cd_t, Int.toNat_natCast, idx_some' h3, bnd_s]
      unfold outS
      rw [show (newE key m now).1 = key from rfl, h1]
      exact ⟨rfl, rfl⟩
/-- What is stored is an element that may be, and the cache stays valid. -/
theorem newE_ok {key : List UInt8} {m : S_api_Message} {now : Int} (hk : keyB key = true) (hs : storB m = true) (h0 : 0 ≤ now) : elemB (newE key m now) = true := by
  have hS := storB_facts hs
  refine elemB_iff.2 ⟨hk, h0, by have := hS.age; show 0 ≤ ageS m; omega, valM_bare hS.val ?_, rfl, rfl, rfl, ?_⟩
  · rcases hS.code with h | h <;> rw [h] <;> rfl
  · show respB m.2.1 = true
    rcases hS.code with h | h <;> rw [h] <;> rfl
theorem outS_valid {l : List S_api_Cached} {n : S_api_Cached} (h : ValC l) (hn : elemB n = true) : ValC (outS l n) := by
  unfold outS
  cases hf : l.findIdx? (fun c => c.1 == n.1) with
  | some i =>
    obtain ⟨hi, h1, _⟩ := List.findIdx?_eq_some_iff_getElem.1 hf
    have h1 : l[i].1 = n.1 := by simpa using h1
    refine ⟨by simpa using h.len, fun c hc => ?_, ?_⟩
    · rcases List.mem_or_eq_of_mem_set hc with hc | rfl
      · exact h.el c hc
      · exact hn
    · have : (l.set i n).map (·.1) = l.map (·.1) := by
        rw [List.map_set, ← h1]
        have : (l.map (·.1))[i]'(by simpa using hi) = l[i].1 := by simp
        rw [← this, List.set_getElem_self]
      rw [this]; exact h.nd
  | none =>
    rw [List.findIdx?_eq_none_iff] at hf
    have hno : ∀ c ∈ l, c.1 ≠ n.1 := fun c hc => by have := hf c hc; simpa using this
    have fin : ∀ l' : List S_api_Cached, List.Sublist l' l → l'.length ≤ 15 → ValC (l' ++ [n]) := fun l' hs hlen => by
      refine ⟨by simp; omega, fun c hc => ?_, ?_⟩
      · rcases List.mem_append.1 hc with hc | hc
        · exact h.el c (hs.subset hc)
        · rw [List.mem_singleton.1 hc]; exact hn
      · rw [List.map_append, List.nodup_append]
        refine ⟨List.Nodup.sublist (hs.map _) h.nd, by simp, fun a ha b hb => ?_⟩
        obtain ⟨c, hc, rfl⟩ := List.mem_map.1 ha
        have : b = n.1 := by simpa using hb
        rw [this]; exact hno c (hs.subset hc)
    by_cases h16 : 16 ≤ (l.length : Int)
    · rw [decide_eq_true h16]
      have ho := oldG_lt l l 0 0 (by omega) (by omega)
      have hlen := h.len
      refine fin _ ?_ (by simp; omega)
      rw [← List.eraseIdx_eq_take_drop_succ]
      exact List.eraseIdx_sublist _ _
    · rw [decide_eq_false h16]
      exact fin l (List.Sublist.refl _) (by omega)
theorem insS_valid {l : List S_api_Cached} {key : List UInt8} {m : S_api_Message} {now : Int} (h : (insS l key m now).2 = 0) : ValC (insS l key m now).1 := by
  unfold insS at h ⊢
  cases hc : validC l && keyB key && !(decide (now < 0)) && !(decide (1073741824 < now)) with
  | false => rw [hc] at h; cases h
  | true =>
    rw [hc] at h
    simp only [cond_true] at h ⊢
    cases hs : storB m with
    | false => rw [hs] at h; cases h
    | true =>
      simp only [Bool.and_eq_true, Bool.not_eq_true', decide_eq_false_iff_not] at hc
      obtain ⟨⟨⟨h1, h2⟩, h3⟩, _⟩ := hc
      exact outS_valid (validC_iff.1 h1) (newE_ok h2 hs (by omega))
end Go.Proofs.Ytdiidghfmpobaaa
