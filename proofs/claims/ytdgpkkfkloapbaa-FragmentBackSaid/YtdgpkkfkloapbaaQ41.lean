/-
  Blocks inside messages, plain facts: keys, and what Put of messages computes, by both texts. Of the models alone; no program; no condition but the lengths told.
-/
import Derived.Test.YtdgpkkfkloapbaaQ40
namespace Go.Proofs.Ytdgpkkfkloapbaa
open Go.Gk Go.RowKit
theorem fcopied {a : List UInt8} (h : a.length ≤ 1000000) : m_fragment_copied a = some a := by
  unfold m_fragment_copied; rw [app_nil_some h]; rfl
theorem message_go33 (m0 : S_api_Message) : ∀ (xs : List S_api_Option) (k : Nat) (acc : List S_api_Option), acc.length + xs.length ≤ 1000000 → (∀ o ∈ xs, o.2.length ≤ 1000000) →
    loopL (R := S_api_Message) (S := (S_api_Message × (List S_api_Option))) (α := S_api_Option) (fun _ s4 => some (s4.1.1, (s4.1.2.1, (s4.1.2.2.1, (s4.1.2.2.2.1, (s4.2, s4.1.2.2.2.2.2))))))
      (fun x5 _ s7 self8 => bnd (m_fragment_copied x5.2) fun x9 => bnd (app s7.2 [(x5.1, x9)]) fun x10 => self8 (s7.1, x10)) xs k (m0, acc) = some (withO m0 (acc ++ xs))
  | [], _, acc, _, _ => by rw [List.append_nil]; rfl
  | x :: xs, k, acc, h1, h2 => by
    simp only [List.length_cons] at h1
    rw [loopL_cons, fcopied (h2 x (by simp)), bnd_s]
    show bnd (app acc [(x.1, x.2)]) _ = _
    rw [app_some' (by simp; omega), bnd_s, message_go33 m0 xs (k + 1) (acc ++ [(x.1, x.2)]) (by simp; omega) (fun o ho => h2 o (by simp [ho]))]
    simp
theorem message33 {m : S_api_Message} (h : LenM m) : m_fragment_message m = some m := by
  unfold m_fragment_message
  obtain ⟨h1, ⟨h2, h3⟩, h4⟩ := h
  rw [fcopied h1, bnd_s, fcopied h4, bnd_s, message_go33 _ _ 0 [] (by simp; omega) h3, List.nil_append]; rfl
theorem no_go {R : Type} {bn : Nat → (S_api_Message × List S_api_Option) → Option R} (m0 : S_api_Message) (n : Int) : ∀ (xs : List S_api_Option) (k : Nat) (acc : List S_api_Option), acc.length + xs.length ≤ 1000000 →
    loopL (R := R) (S := (S_api_Message × (List S_api_Option))) (α := S_api_Option) bn (fun x6 _ s8 self9 =>
      bnd (β := (S_api_Message × (List S_api_Option))) (letm ((x6.1 != n)) fun x10 => cond x10 (bnd (app s8.2 [x6]) fun x11 => some (s8.1, x11)) (some (s8.1, s8.2))) fun v12 => self9 (v12.1, v12.2)) xs k (m0, acc) = bn (k + xs.length) (m0, acc ++ noO xs n)
  | [], k, acc, _ => by
    rw [show noO [] n = [] from rfl, List.append_nil]; rfl
  | x :: xs, k, acc, h1 => by
    simp only [List.length_cons] at h1
    rw [loopL_cons, show k + (x :: xs).length = k + 1 + xs.length by simp; omega]
    unfold noO
    rw [List.filter_cons, letm_e, bne]
    have ih := fun acc h => no_go (bn := bn) m0 n xs (k + 1) acc h
    unfold noO at ih
    simp only [letm_e, bne] at ih ⊢
    cases x.1 == n with
    | true =>
      simp only [Bool.not_true, cd_f, bnd_s, Bool.false_eq_true, if_false]
      exact ih acc (by omega)
    | false =>
      simp only [Bool.not_false, cd_t, if_true]
      rw [app_some' (by simp; omega)]
      simp only [bnd_s]
      rw [ih (acc ++ [x]) (by simp; omega), List.append_assoc, List.singleton_append]
theorem without33 {m : S_api_Message} (h : LenM m) (n : Int) : m_fragment_without m n = some (withO m (noO m.2.2.2.2.1 n)) := by
  unfold m_fragment_without
  rw [message33 h, bnd_s, bnd_s, no_go _ n _ 0 [] (by have := h.2.1.1; simp; omega), List.nil_append]; rfl
/-- The message whose bytes are the key. -/
def keyM (m : S_api_Message) (n : Int) : S_api_Message := (0, (m.2.1, (0, ([], (noO m.2.2.2.2.1 n, [])))))
def encS (x : S_api_Message) : List UInt8 × Int := bif valM x then (rawS x, 0) else ([], 1)
theorem coap_encS (x : S_api_Message) : m_coap_Encode x = some (encS x) := by
  unfold m_coap_Encode encS valM
  rw [sound_eq, bnd_s, letm_e]
  cases h : sndM x with
  | false => rfl
  | true =>
    have hs := sndM_facts h
    rw [Bool.not_true, cd_f, encode_raw x hs.t0 hs.t3 hs.tok, hs.raw, bnd_s, letm_e, Bool.true_and]
    have : decide (((rawS x).length : Int) ≤ 4096) = !decide (4096 < ((rawS x).length : Int)) := by
      by_cases h : 4096 < ((rawS x).length : Int)
      · rw [decide_eq_true h, decide_eq_false (by omega)]; rfl
      · rw [decide_eq_false h, decide_eq_true (by omega)]; rfl
    rw [this]
    cases decide (4096 < ((rawS x).length : Int)) <;> rfl
theorem ref_encS (x : S_api_Message) : m_coresecref15_Encode x = some (encS x) := by
  unfold m_coresecref15_Encode encS
  rw [ref_valid_eq, bnd_s, letm_e]
  cases h : valM x with
  | false => rfl
  | true => rw [Bool.not_true, cd_f, (valM_snd h).raw]; rfl
def numB (n : Int) : Bool := (n == 27) || (n == 23)
theorem numbered_eq (n : Int) : m_fragment_numbered n = some (numB n) := by
  unfold m_fragment_numbered numB
  simp only [letm_e, cd_or, bnd_s]
theorem num_ref (n : Int) : (cond (!(n == 27)) (some (!(n == 23))) (some false) : Option Bool) = some (!numB n) := by
  unfold numB
  cases n == 27 <;> rfl
def keyS (m : S_api_Message) (n : Int) : List UInt8 × Int := bif !numB n then ([], 1) else encS (keyM m n)
theorem key_eq {m : S_api_Message} (h : LenM m) (n : Int) : m_fragment_Key m n = some (keyS m n) := by
  unfold m_fragment_Key keyS
  rw [numbered_eq, bnd_s, letm_e]
  cases numB n with
  | false => rfl
  | true =>
    rw [Bool.not_true, cd_f, cond_false, without33 h, bnd_s]
    show bnd (m_coap_Encode (keyM m n)) _ = _
    rw [coap_encS]; rfl
theorem key_ref {m : S_api_Message} (h : LenM m) (n : Int) : m_coresecref33_Key m n = some (keyS m n) := by
  unfold m_coresecref33_Key keyS
  refine bnd_of (num_ref n) ?_
  cases numB n with
  | false => rfl
  | true =>
    rw [Bool.not_true, cd_f, cond_false, no_go _ n _ 0 [] (by have := h.2.1.1; simp; omega), List.nil_append]
    show bnd (m_coresecref15_Encode (keyM m n)) _ = _
    rw [ref_encS]; rfl
theorem keyS_len {m : S_api_Message} {n : Int} (h : ((keyS m n).2 == 0) = true) : (noO m.2.2.2.2.1 n).Pairwise (fun a b => a.1 ≤ b.1) := by
  unfold keyS at h
  cases hn : numB n with
  | false => rw [hn] at h; cases h
  | true =>
    rw [hn, Bool.not_true, cond_false] at h
    unfold encS at h
    cases hv : valM (keyM m n) with
    | false => rw [hv] at h; cases h
    | true => exact optsB_srt (valM_snd hv).ob
theorem partials_go : ∀ (xs : List S_api_Partial) (k : Nat) (acc : List S_api_Partial), acc.length + xs.length ≤ 1000 → (∀ p ∈ xs, p.2.1.length ≤ 4096 ∧ p.2.2.1.length ≤ 4096) →
    loopL (R := (List S_api_Partial)) (S := (List S_api_Partial)) (α := S_api_Partial) (fun _ s2 => some s2) (fun x3 _ s5 self6 => bnd (m_fragment_copied x3.2.1) fun x7 => bnd (m_fragment_copied x3.2.2.1) fun x8 => bnd (app s5 [(x3.1, (x7, (x8, x3.2.2.2)))]) fun x9 => self6 x9) xs k acc = some (acc ++ xs)
  | [], _, acc, _, _ => by rw [List.append_nil]; rfl
  | x :: xs, k, acc, h1, h2 => by
    simp only [List.length_cons] at h1
    obtain ⟨a, b⟩ := h2 x (by simp)
    rw [loopL_cons, fcopied (by omega), bnd_s, fcopied (by omega), bnd_s, app_some' (by simp; omega), bnd_s, partials_go xs (k + 1) _ (by simp; omega) (fun o ho => h2 o (by simp [ho]))]
    simp
theorem partials33 {l : List S_api_Partial} (h : LenP l) : m_fragment_partials l = some l := by
  unfold m_fragment_partials
  rw [partials_go l 0 [] (by have := h.1; simp; omega) h.2, List.nil_append]
def zM : S_api_Message := (0, (0, (0, ([], ([], [])))))
abbrev FPut := List S_api_Partial × (S_api_Message × (Bool × Int))
/-- Behind a key that is good. -/
def fputK (m : S_api_Message) (n : Int) (r : PutR) : FPut :=
  bif r.2.2.2 != 0 then ([], (zM, (false, r.2.2.2))) else
  bif !r.2.2.1 then (r.1, (zM, (false, 0))) else
  (r.1, ((m.1, (m.2.1, (m.2.2.1, (m.2.2.2.1, (noO m.2.2.2.2.1 n, r.2.1))))), (true, 0)))
/-- Behind a block that is sound. -/
def fputB (l : List S_api_Partial) (p : Int) (m : S_api_Message) (n : Int) (b : S_api_Block) (most t : Int) : FPut :=
  bif decide (most < w64 (posS b + (m.2.2.2.2.2.length : Int))) then ([], (zM, (false, 8))) else
  bif (keyS m n).2 != 0 then ([], (zM, (false, (keyS m n).2))) else
  fputK m n (putS l p (keyS m n).1 b m.2.2.2.2.2 t)
def fputS (l : List S_api_Partial) (p : Int) (m : S_api_Message) (n most t : Int) : FPut :=
  bif !numB n then ([], (zM, (false, 1))) else
  bif !(soundS (allS m.2.2.2.2.1 n)).2.1 then (l, (m, (true, 0))) else
  bif !(soundS (allS m.2.2.2.2.1 n)).2.2 then ([], (zM, (false, 4))) else
  fputB l p m n (soundS (allS m.2.2.2.2.1 n)).1 most t
theorem fput_eq {l : List S_api_Partial} (hl : LenP l) {m : S_api_Message} (h : LenM m) (hp : m.2.2.2.2.2.length ≤ 100000) (p n most t : Int) : m_fragment_Put l p m n most t = some (fputS l p m n most t) := by
  unfold m_fragment_Put fputS
  rw [numbered_eq, bnd_s, letm_e]
  cases numB n with
  | false => rfl
  | true =>
  rw [Bool.not_true, cd_f, cond_false, sound33 h.2.1, bnd_s, letm_e]
  cases hs1 : (soundS (allS m.2.2.2.2.1 n)).2.1 with
  | false => rw [Bool.not_false, cd_t, cond_true, partials33 hl, bnd_s, message33 h]; rfl
  | true =>
  rw [Bool.not_true, cd_f, cond_false, letm_e]
  cases hs2 : (soundS (allS m.2.2.2.2.1 n)).2.2 with
  | false => rfl
  | true =>
  rw [Bool.not_true, cd_f, cond_false, pos_eq, bnd_s, letm_e, letm_e]
  unfold fputB
  cases decide (most < w64 (posS (soundS (allS m.2.2.2.2.1 n)).1 + (m.2.2.2.2.2.length : Int))) with
  | true => rfl
  | false =>
  rw [cd_f, cond_false, key_eq h, bnd_s, letm_e]
  cases (keyS m n).2 != 0 with
  | true => rfl
  | false =>
  rw [cd_f, cond_false, put_spec _ _ _ _ _ _ hp, bnd_s, letm_e]
  have hln : (putS l p (keyS m n).1 (soundS (allS m.2.2.2.2.1 n)).1 m.2.2.2.2.2 t).2.1.length ≤ 4096 := putS_len.2
  generalize putS l p (keyS m n).1 (soundS (allS m.2.2.2.2.1 n)).1 m.2.2.2.2.2 t = r at hln ⊢
  unfold fputK
  cases r.2.2.2 != 0 with
  | true => rfl
  | false =>
  rw [cd_f, cond_false, letm_e]
  cases r.2.2.1 with
  | false => rfl
  | true =>
  rw [Bool.not_true, cd_f, cond_false, without33 h, bnd_s, fcopied (by omega)]; rfl
theorem fput_ref {l : List S_api_Partial} {m : S_api_Message} (h : LenM m) (ho : m.2.2.2.2.1.length ≤ 400000) (hp : m.2.2.2.2.2.length ≤ 100000) (p n most t : Int) : m_coresecref33_Put l p m n most t = some (fputS l p m n most t) := by
  unfold m_coresecref33_Put fputS
  refine bnd_of (num_ref n) ?_
  cases numB n with
  | false => rfl
  | true =>
  rw [Bool.not_true, cd_f, cond_false, sound33_ref h.2.1, bnd_s, letm_e]
  cases hs1 : (soundS (allS m.2.2.2.2.1 n)).2.1 with
  | false => rfl
  | true =>
  rw [Bool.not_true, cd_f, cond_false, letm_e]
  cases hs2 : (soundS (allS m.2.2.2.2.1 n)).2.2 with
  | false => rfl
  | true =>
  rw [Bool.not_true, cd_f, cond_false, pos_ref, bnd_s, letm_e, letm_e]
  unfold fputB
  cases decide (most < w64 (posS (soundS (allS m.2.2.2.2.1 n)).1 + (m.2.2.2.2.2.length : Int))) with
  | true => rfl
  | false =>
  rw [cd_f, cond_false, key_ref h, bnd_s, letm_e]
  cases hk : (keyS m n).2 == 0 with
  | false => rw [bne, hk]; rfl
  | true =>
  rw [bne, hk, Bool.not_true, cd_f, cond_false, put_ref _ _ _ _ _ _ hp, bnd_s, letm_e]
  generalize putS l p (keyS m n).1 (soundS (allS m.2.2.2.2.1 n)).1 m.2.2.2.2.2 t = r
  unfold fputK
  cases r.2.2.2 != 0 with
  | true => rfl
  | false =>
  rw [cd_f, cond_false, letm_e]
  cases r.2.2.1 with
  | false => rfl
  | true =>
  rw [Bool.not_true, cd_f, cond_false, set_ref h ho (by simp) (by simp), bnd_s, setO_no (keyS_len hk)]; rfl
theorem fputS_len {l : List S_api_Partial} (hl : LenP l) (p : Int) (m : S_api_Message) (n most t : Int) : LenP (fputS l p m n most t).1 := by
  have nilP : LenP [] := ⟨by simp, by simp⟩
  unfold fputS
  cases numB n with
  | false => exact nilP
  | true =>
  cases (soundS (allS m.2.2.2.2.1 n)).2.1 with
  | false => exact hl
  | true =>
  cases (soundS (allS m.2.2.2.2.1 n)).2.2 with
  | false => exact nilP
  | true =>
  show LenP (fputB _ _ _ _ _ _ _).1
  unfold fputB
  cases decide (most < w64 (posS (soundS (allS m.2.2.2.2.1 n)).1 + (m.2.2.2.2.2.length : Int))) with
  | true => exact nilP
  | false =>
  cases (keyS m n).2 != 0 with
  | true => exact nilP
  | false =>
  show LenP (fputK _ _ _).1
  have := (putS_len (l := l) (p := p) (k := (keyS m n).1) (b := (soundS (allS m.2.2.2.2.1 n)).1) (c := m.2.2.2.2.2) (t := t)).1
  generalize putS l p (keyS m n).1 (soundS (allS m.2.2.2.2.1 n)).1 m.2.2.2.2.2 t = r at this ⊢
  unfold fputK
  cases r.2.2.2 != 0 with
  | true => exact nilP
  | false =>
  cases r.2.2.1 with
  | false => exact this
  | true => exact this
/-- The outer and the inner way. -/
def outS (l : List S_api_Partial) (p : Int) (m : S_api_Message) (t : Int) : FPut :=
  bif (soundS (allS m.2.2.2.2.1 23)).2.2 && decide (0 < (soundS (allS m.2.2.2.2.1 23)).1.1) then ([], (zM, (false, 15))) else fputS l p m 27 1024 t
theorem outer_eq {l : List S_api_Partial} (hl : LenP l) {m : S_api_Message} (h : LenM m) (hp : m.2.2.2.2.2.length ≤ 100000) (p t : Int) : m_fragment_Outer l p m t = some (outS l p m t) := by
  unfold m_fragment_Outer outS
  rw [sound33 h.2.1, bnd_s]
  simp only [letm_e, cd_and, bnd_s]
  cases (soundS (allS m.2.2.2.2.1 23)).2.2 && decide (0 < (soundS (allS m.2.2.2.2.1 23)).1.1) with
  | true => rfl
  | false =>
    rw [cd_f, cond_false]
    show bnd (bnd (m_fragment_Put l p m 27 1024 t) _) _ = _
    rw [fput_eq hl h hp]; rfl
theorem outer_ref {l : List S_api_Partial} {m : S_api_Message} (h : LenM m) (ho : m.2.2.2.2.1.length ≤ 400000) (hp : m.2.2.2.2.2.length ≤ 100000) (p t : Int) : m_coresecref33_Outer l p m t = some (outS l p m t) := by
  unfold m_coresecref33_Outer outS
  rw [sound33_ref h.2.1, bnd_s]
  simp only [letm_e, cd_and, bnd_s]
  cases (soundS (allS m.2.2.2.2.1 23)).2.2 && decide (0 < (soundS (allS m.2.2.2.2.1 23)).1.1) with
  | true => rfl
  | false =>
    rw [cd_f, cond_false, fput_ref h ho hp]; rfl
theorem inner_eq {l : List S_api_Partial} (hl : LenP l) {m : S_api_Message} (h : LenM m) (hp : m.2.2.2.2.2.length ≤ 100000) (p t : Int) : m_fragment_Inner l p m t = some (fputS l p m 27 4096 t) := by
  unfold m_fragment_Inner
  show bnd (bnd (m_fragment_Put l p m 27 4096 t) _) _ = _
  rw [fput_eq hl h hp]; rfl
theorem inner_ref {l : List S_api_Partial} {m : S_api_Message} (h : LenM m) (ho : m.2.2.2.2.1.length ≤ 400000) (hp : m.2.2.2.2.2.length ≤ 100000) (p t : Int) : m_coresecref33_Inner l p m t = some (fputS l p m 27 4096 t) := by
  unfold m_coresecref33_Inner
  rw [fput_ref h ho hp]; rfl
theorem outS_len {l : List S_api_Partial} (hl : LenP l) (p : Int) (m : S_api_Message) (t : Int) : LenP (outS l p m t).1 := by
  unfold outS
  cases (soundS (allS m.2.2.2.2.1 23)).2.2 && decide (0 < (soundS (allS m.2.2.2.2.1 23)).1.1) with
  | true => exact ⟨by simp, by simp⟩
  | false => exact fputS_len hl p m 27 1024 t
end Go.Proofs.Ytdgpkkfkloapbaa
