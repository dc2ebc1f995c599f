/-
  A region that draws its order, evaluated: what the check of pairs asks, and that any order gives what the text's order gives. Over whatever program; no condition.
-/
import Derived.Test.YtbfkbakadpkgoaaGreatDoorYDr
namespace Go.Gk
open Go.RowKit
section
variable {P : Program} {N : Nat}
structure SI where
 d : Option Nat
 us : List Nat
 ids : List Nat
 tl : List Nat
 ks : List Nat
 rf : List Nat
 bn : List Nat
 lo : Nat
def guardS (all : List Oper) (g : Option (Nat × Bool)) : List Nat :=
 match g with
 | some (j, _) => match gslot all j with | some dj => [dj] | none => []
 | none => []
def idsOf (ps : PS) : List Nat → List Nat
 | [] => []
 | t :: r => match findK ps.sl t with
  | some (_, sv) => match refOf sv with
   | some id => id :: idsOf ps r
   | none => idsOf ps r
  | none => idsOf ps r
def lblOf (ps : PS) : List Nat → List Nat
 | [] => []
 | id :: r => match findK ps.mem id with
  | some (_, m) => m.lbl :: lblOf ps r
  | none => lblOf ps r
def usOf (all : List Oper) (o : Oper) : List Nat := tmps (opX o.op) ++ guardS all o.guard
def idsX (all : List Oper) (o : Oper) (ps : PS) : List Nat :=
 match o.op with
 | .move _ => [] | .assign _ => [] | .fieldAddr _ _ _ => [] | .nilCheck _ => []
 | _ => idsOf ps (usOf all o)
def siOf (all : List Oper) (o : Oper) (ps : PS) (out : Out) : SI :=
 ⟨o.dst, usOf all o, idsX all o ps, lblOf ps (idsX all o ps) ++ out.ks ++ out.puts.map (·.2.lbl), out.ks, refs out.sv ++ out.puts.flatMap (fun p => p.1 :: mrefs p.2), out.puts.map (·.1), ps.nxt⟩
def inR (lo : Nat) (i : Nat) : Bool := Nat.ble lo i && Nat.blt i (lo + 4)
def pairOK (dep : Bool) (a b : SI) : Bool :=
 dep || !((match a.d with | some d => hasN b.us d | none => false) || b.rf.any (inR a.lo) || meets a.bn b.ids || meets a.ks b.tl || meets a.tl b.ks)
def chkP (tab : List (List Nat)) : Nat → List (Nat × SI) → List SI → Bool
 | _, _, [] => true
 | j, prev, s :: r => prev.all (fun p => pairOK (hasN (getL tab j) p.1) p.2 s) && chkP tab (j + 1) ((j, s) :: prev) r
theorem chkP_get {tab : List (List Nat)} : ∀ {l : List SI} {j : Nat} {prev : List (Nat × SI)}, chkP tab j prev l = true → ∀ {b : Nat} {sb : SI}, l[b]? = some sb → (∀ p ∈ prev, pairOK (hasN (getL tab (j + b)) p.1) p.2 sb = true) ∧ ∀ {a : Nat} {sa : SI}, a < b → l[a]? = some sa → pairOK (hasN (getL tab (j + b)) (j + a)) sa sb = true
 | [], _, _, _, _, _, h => by simp at h
 | s :: r, j, prev, h, 0, sb, hb => by
  unfold chkP at h
  rw [Bool.and_eq_true] at h
  simp at hb; subst hb
  exact ⟨fun p hp => List.all_eq_true.1 h.1 p hp, fun ha => absurd ha (Nat.not_lt_zero _)⟩
 | s :: r, j, prev, h, b + 1, sb, hb => by
  unfold chkP at h
  rw [Bool.and_eq_true] at h
  obtain ⟨h1, h2⟩ := chkP_get h.2 (b := b) (sb := sb) (by simpa using hb)
  rw [show j + 1 + b = j + (b + 1) by omega] at h1 h2
  refine ⟨fun p hp => h1 p (by simp [hp]), fun {a sa} ha hsa => ?_⟩
  cases a with
  | zero =>
   simp at hsa; subst hsa
   exact h1 (j, s) (by simp)
  | succ a =>
   have := h2 (a := a) (sa := sa) (by omega) (by simpa using hsa)
   rw [show j + 1 + a = j + (a + 1) by omega] at this
   exact this
theorem findK_filter {β : Type} {us : List Nat} : ∀ {l : List (Nat × Nat × β)} {s : Nat}, hasN us s = true → findK (l.filter fun x => hasN us x.1) s = findK l s
 | [], _, _ => rfl
 | (k, st, b) :: r, s, h => by
  by_cases hk : hasN us k = true
  ·rw [List.filter_cons_of_pos (by simpa using hk)]
   unfold findK
   split
   ·rfl
   ·exact findK_filter h
  ·rw [List.filter_cons_of_neg (by simpa using hk)]
   have hne : Nat.beq k s = false := beq_false fun e => by subst e; exact hk h
   have e1 : findK ((k, st, b) :: r) s = findK r s := by simp only [findK, hne]
   rw [e1]
   exact findK_filter h
theorem idsOf_mem {ps : PS} {st : Nat} {sv : SV} {id : Nat} : ∀ {us : List Nat} {t : Nat}, t ∈ us → findK ps.sl t = some (st, sv) → refOf sv = some id → id ∈ idsOf ps us
 | [], _, h, _, _ => by simp at h
 | x :: r, t, h, hf, hr => by
  unfold idsOf
  rcases List.mem_cons.1 h with rfl | h
  ·rw [hf]; simp [hr]
  ·have := idsOf_mem h hf hr
   split
   ·split <;> simp [this]
   ·exact this
theorem lblOf_mem {ps : PS} {st : Nat} {m : MEnt} : ∀ {ids : List Nat} {id : Nat}, id ∈ ids → findK ps.mem id = some (st, m) → m.lbl ∈ lblOf ps ids
 | [], _, h, _ => by simp at h
 | x :: r, t, h, hf => by
  unfold lblOf
  rcases List.mem_cons.1 h with rfl | h
  ·rw [hf]; simp
  ·have := lblOf_mem h hf
   split <;> simp [this]
theorem findK_of_mem {β : Type} {l : List (Nat × Nat × β)} (hn : KN l) {s st : Nat} {b : β} (h : (s, st, b) ∈ l) : findK l s = some (st, b) := by
 induction l with
 | nil => simp at h
 | cons x r ih =>
  obtain ⟨k, st', b'⟩ := x
  obtain ⟨hx, hr⟩ := List.pairwise_cons.1 hn
  unfold findK
  rcases List.mem_cons.1 h with e | h
  ·injection e with e1 e2; injection e2 with e2 e3; subst e1 e2 e3
   simp
  ·have hne : Nat.beq k s = false := beq_false fun e => hx _ h e
   rw [hne]; exact ih hr h
def restr (us ids : List Nat) (ps : PS) : PS := ⟨ps.nxt, ps.sl.filter fun x => hasN us x.1, ps.mem.filter fun x => hasN ids x.1⟩
theorem restr_wf {us ids : List Nat} {ps : PS} (h : WF ps) : WF (restr us ids ps) :=
 ⟨fun s st sv hm => h.sl s st sv (List.mem_filter.1 hm).1, fun i st m hm => h.mem i st m (List.mem_filter.1 hm).1, fun i st m hm => h.lbl i st m (List.mem_filter.1 hm).1, h.ns.filter _, h.nm.filter _, h.n0⟩
theorem restr_resO {us : List Nat} {ps : PS} {x : Operand} (h : ∀ t, x = .tmp t → t ∈ us) : resO (restr us (idsOf ps us) ps) x = resO ps x := by
 cases x with
 | tmp t =>
  have ht := h t rfl
  have h1 : findK (restr us (idsOf ps us) ps).sl t = findK ps.sl t := findK_filter (hasN_mem.2 ht)
  unfold resO
  simp only [h1]
  cases hf : findK ps.sl t with
  | none => rfl
  | some p =>
   obtain ⟨st, sv⟩ := p
   have : entOf (restr us (idsOf ps us) ps) sv = entOf ps sv := by
    unfold entOf
    cases hr : refOf sv with
    | none => rfl
    | some id =>
     have h2 : findK (restr us (idsOf ps us) ps).mem id = findK ps.mem id := findK_filter (hasN_mem.2 (idsOf_mem ht hf hr))
     simp only [h2]
   simp only [this]
 | const v => rfl
 | global g => rfl
 | func f => rfl
theorem restr_res1 {us ids : List Nat} {ps : PS} {x : Operand} (h : ∀ t, x = .tmp t → t ∈ us) : (resO (restr us ids ps) x).map (·.1) = (resO ps x).map (·.1) := by
 cases x with
 | tmp t =>
  have h1 : findK (restr us ids ps).sl t = findK ps.sl t := findK_filter (hasN_mem.2 (h t rfl))
  unfold resO
  simp only [h1]
  cases findK ps.sl t <;> rfl
 | const v => rfl
 | global g => rfl
 | func f => rfl
def mf (f : SV → OpRes) (r : Option RA) : OpRes := match r with | some a => f a.1 | none => .stuck
theorem fst_congr {r r' : Option RA} (f : SV → OpRes) (h : r.map (·.1) = r'.map (·.1)) : mf f r = mf f r' := by
 cases r with
 | none => cases r' with
  | none => rfl
  | some _ => cases h
 | some a => cases r' with
  | none => cases h
  | some b =>
   have e : a.1 = b.1 := Option.some.inj h
   show f a.1 = f b.1
   rw [e]
theorem ev1_congr {T : Tab P} {own rng : List Nat} {dst : Option Nat} {op : Op} {ps ps' : PS} (hop : (match op with | .move _ => true | .assign _ => true | .fieldAddr _ _ _ => true | .nilCheck _ => true | _ => false) = true) (h : ∀ x, x ∈ opX op → (resO ps x).map (·.1) = (resO ps' x).map (·.1)) : evOp T own rng ps dst op = evOp T own rng ps' dst op := by
 cases op <;> first | (cases hop; done) | skip
 ·rename_i x
  cases dst with
  | none => rfl
  | some d => exact fst_congr (fun sv => .ret (o1 sv)) (h x (List.mem_singleton.2 rfl))
 ·rename_i x
  cases dst with
  | none => rfl
  | some d => exact fst_congr (fun sv => .ret (o1 sv)) (h x (List.mem_singleton.2 rfl))
 ·rename_i x
  cases dst with
  | none => rfl
  | some d => exact fst_congr (fun sv => match fldS 0 sv with | some _ => .ret (o1 sv) | none => .stuck) (h x (List.mem_singleton.2 rfl))
 ·rename_i t x f
  cases dst with
  | none => rfl
  | some d =>
   show (match findFE T.fe t f, resO ps x with | some e, some a => (match fldS e.off a.1 with | some sv => OpRes.ret (o1 sv) | none => .stuck) | _, _ => .stuck) = (match findFE T.fe t f, resO ps' x with | some e, some a => (match fldS e.off a.1 with | some sv => OpRes.ret (o1 sv) | none => .stuck) | _, _ => .stuck)
   have h1 := h x (List.mem_singleton.2 rfl)
   cases findFE T.fe t f with
   | none => rfl
   | some e =>
    have := fst_congr (fun sv => match fldS e.off sv with | some sv => OpRes.ret (o1 sv) | none => .stuck) h1
    revert this
    cases resO ps x <;> cases resO ps' x <;> exact fun h => h
theorem restr_step {T : Tab P} {own rng : List Nat} {all : List Oper} {o : Oper} {ps : PS} {out : Out} (h : Stepo T N own rng all o ps out) (hre : out.re = []) : Stepo T N own rng all o (restr (usOf all o) (idsX all o ps) ps) out := by
 obtain ⟨hd, hc, hs⟩ := h
 have hslot : ∀ {j : Nat} {b : Bool} {dj : Nat}, o.guard = some (j, b) → gslot all j = some dj → findK (restr (usOf all o) (idsX all o ps) ps).sl dj = findK ps.sl dj := fun h1 h2 =>
  findK_filter (hasN_mem.2 (by unfold usOf guardS; rw [h1]; simp only [h2]; simp))
 refine ⟨hd, ?_, ?_⟩
 ·unfold chkOut at hc ⊢
  rw [hre] at hc ⊢
  exact hc
 ·rcases hs with ⟨hg, hr⟩ | ⟨hg, ho⟩
  ·refine .inl ⟨?_, ?_⟩
   ·unfold GW at hg ⊢
    split
    ·trivial
    ·rename_i j b heq
     rw [heq] at hg
     obtain ⟨dj, st, h1, h2⟩ := hg
     exact ⟨dj, st, h1, by rw [hslot heq h1]; exact h2⟩
   ·by_cases hop : (match o.op with | .move _ => true | .assign _ => true | .fieldAddr _ _ _ => true | .nilCheck _ => true | _ => false) = true
    ·have := ev1_congr (T := T) (own := own) (rng := rng) (dst := o.dst) (ps := restr (usOf all o) (idsX all o ps) ps) (ps' := ps) hop (fun x hx => restr_res1 fun t e => by subst e; exact List.mem_append_left _ (tmps_mem hx))
     rw [this]; exact hr
    have hX : idsX all o ps = idsOf ps (usOf all o) := by
     unfold idsX
     split <;> first | rfl | (rename_i heq; rw [heq] at hop; exact absurd rfl hop)
    rw [hX]
    have := evOp_congr (T := T) (own := own) (rng := rng) (dst := o.dst) (op := o.op) (ps := restr (usOf all o) (idsOf ps (usOf all o)) ps) (ps' := ps) rfl (fun x hx => restr_resO fun t e => by subst e; exact List.mem_append_left _ (tmps_mem hx))
    rw [this]; exact hr
  ·refine .inr ⟨?_, ho⟩
   obtain ⟨j, b, dj, st, h1, h2, h3⟩ := hg
   exact ⟨j, b, dj, st, h1, h2, by rw [hslot h1 h2]; exact h3⟩
def usedS (l : List Oper) (n s : Nat) : Bool := (List.range n).any fun i => match l[i]? with | some o => hasN (usOf l o) s | none => false
def okS (l : List Oper) (n s : Nat) : Bool := (List.range n).all fun i => match l[i]? with
 | some o => match o.dst with
  | some d => !Nat.beq d s || (List.range n).all fun j => Nat.beq j i || (match l[j]? with | some oj => !hasN (usOf l oj) s | none => true) || hasN (getL (waitT l n) i) j
  | none => true
 | none => true
theorem okS_ok {l : List Oper} {n s i j : Nat} {o oj : Oper} (h : okS l n s = true) (hi : i < n) (hj : j < n) (hij : j ≠ i) (ho : l[i]? = some o) (hoj : l[j]? = some oj) (hd : o.dst = some s) (hu : s ∈ usOf l oj) : j ∈ getL (waitT l n) i := by
 have h1 := List.all_eq_true.1 h i (List.mem_range.2 hi)
 rw [ho] at h1
 simp only [hd] at h1
 have h2 : ((List.range n).all fun j => Nat.beq j i || (match l[j]? with | some oj => !hasN (usOf l oj) s | none => true) || hasN (getL (waitT l n) i) j) = true := by
  simpa using h1
 have h3 := List.all_eq_true.1 h2 j (List.mem_range.2 hj)
 rw [hoj] at h3
 simp only [Bool.or_eq_true] at h3
 rcases h3 with (h3 | h3) | h3
 ·exact absurd (Nat.eq_of_beq_eq_true h3) hij
 ·rw [hasN_mem.2 hu] at h3; cases h3
 ·exact hasN_mem.1 h3
structure Run (T : Tab P) (N : Nat) (own rng : List Nat) (l : List Oper) (n : Nat) (st : Nat → PS) (ou : Nat → Out) : Prop where
 step : ∀ i, i < n → ∃ o, l[i]? = some o ∧ Stepo T N own rng l o (st i) (ou i) ∧ st (i + 1) = apply (st i) o.dst (ou i) ∧ (ou i).re = []
 wf : WF (st 0)
 fresh : ∀ i j, i < n → j < n → j ≠ i → ∀ o oj s, l[i]? = some o → l[j]? = some oj → o.dst = some s → ∀ t v, (s, t, v) ∈ (st 0).sl → s ∈ usOf l oj → j ∈ getL (waitT l n) i
 dist : ∀ i j oi oj di dj, i < n → j < n → i ≠ j → l[i]? = some oi → l[j]? = some oj → oi.dst = some di → oj.dst = some dj → di ≠ dj
section
variable {T : Tab P} {own rng : List Nat} {l : List Oper} {n : Nat} {st : Nat → PS} {ou : Nat → Out}
theorem Run.wfi (r : Run T N own rng l n st ou) : ∀ i, i ≤ n → WF (st i)
 | 0, _ => r.wf
 | i + 1, h => by
  obtain ⟨o, h1, h2, h3, h4⟩ := r.step i (by omega)
  rw [h3]
  have hc := h2.2.1
  simp only [chkOut, Bool.and_eq_true] at hc
  exact (r.wfi i (by omega)).apply _ hc.1.1
theorem Run.nx (r : Run T N own rng l n st ou) : ∀ i j, i ≤ j → j ≤ n → (st i).nxt + 4 * (j - i) = (st j).nxt
 | i, 0, h, _ => by
  have : i = 0 := by omega
  subst this; simp
 | i, j + 1, h, hn => by
  rcases Nat.lt_or_ge i (j + 1) with hlt | hge
  ·have := r.nx i j (by omega) (by omega)
   obtain ⟨o, h1, h2, h3, h4⟩ := r.step j (by omega)
   rw [h3]
   show _ = (st j).nxt + 4
   omega
  ·have : i = j + 1 := by omega
   subst this; simp
theorem Run.osl (r : Run T N own rng l n st ou) : ∀ i, i ≤ n → ∀ s t sv, (s, t, sv) ∈ (st i).sl → ((s, t, sv) ∈ (st 0).sl ∧ ∀ j o, j < i → l[j]? = some o → o.dst ≠ some s) ∨ ∃ j o, j < i ∧ l[j]? = some o ∧ o.dst = some s ∧ sv = (ou j).sv
 | 0, _, s, t, sv, h => .inl ⟨h, fun j o hj => absurd hj (Nat.not_lt_zero _)⟩
 | i + 1, hi, s, t, sv, h => by
  obtain ⟨o, h1, h2, h3, h4⟩ := r.step i (by omega)
  rw [h3] at h
  have h : (s, t, sv) ∈ putS0 (st i).nxt o.dst (ou i).sv (reS (st i).nxt (ou i).re (st i).sl) := h
  have key : (s, t, sv) ∈ (st i).sl → o.dst ≠ some s → ((s, t, sv) ∈ (st 0).sl ∧ ∀ j o, j < i + 1 → l[j]? = some o → o.dst ≠ some s) ∨ ∃ j o, j < i + 1 ∧ l[j]? = some o ∧ o.dst = some s ∧ sv = (ou j).sv := fun h hne => by
   rcases r.osl i (by omega) s t sv h with ⟨h, hb⟩ | ⟨j, oj, a, b, c, d'⟩
   ·refine .inl ⟨h, fun j oj hj hoj => ?_⟩
    rcases Nat.lt_or_ge j i with hlt | hge
    ·exact hb j oj hlt hoj
    ·have : j = i := by omega
     subst this
     have : oj = o := Option.some.inj (hoj.symm.trans h1)
     subst this; exact hne
   ·exact .inr ⟨j, oj, by omega, b, c, d'⟩
  rw [h4] at h
  cases hd : o.dst with
  | none => rw [hd] at h; exact key h (by rw [hd]; simp)
  | some d =>
   rw [hd] at h
   rcases List.mem_cons.1 h with e | h
   ·injection e with e1 e2; injection e2 with e2 e3
    exact .inr ⟨i, o, by omega, h1, by rw [hd, e1], e3⟩
   ·exact key (dropK_mem.1 h).1 (by rw [hd]; exact fun e => (dropK_mem.1 h).2 (Option.some.inj e).symm)
theorem Run.omem (r : Run T N own rng l n st ou) : ∀ i, i ≤ n → ∀ id t m, (id, t, m) ∈ (st i).mem →
  ((id, t, m) ∈ (st 0).mem ∧ ∀ j, j < i → m.lbl = 0 ∨ (ou j).ks.contains m.lbl = false) ∨ ∃ j, j < i ∧ (id, m) ∈ (ou j).puts ∧ ∀ j', j < j' → j' < i → m.lbl = 0 ∨ (ou j').ks.contains m.lbl = false
 | 0, _, id, t, m, h => .inl ⟨h, fun j hj => absurd hj (Nat.not_lt_zero _)⟩
 | i + 1, hi, id, t, m, h => by
  obtain ⟨o, h1, h2, h3, h4⟩ := r.step i (by omega)
  rw [h3] at h
  rcases putsM_mem h with h | ⟨_, h⟩
  ·obtain ⟨h, hk⟩ := killM_mem.1 h
   rcases r.omem i (by omega) id t m h with ⟨a, b⟩ | ⟨j, a, b, c⟩
   ·refine .inl ⟨a, fun j hj => ?_⟩
    rcases Nat.lt_or_ge j i with hlt | hge
    ·exact b j hlt
    ·have : j = i := by omega
     subst this; exact hk
   ·refine .inr ⟨j, by omega, b, fun j' h5 h6 => ?_⟩
    rcases Nat.lt_or_ge j' i with hlt | hge
    ·exact c j' h5 hlt
    ·have : j' = i := by omega
     subst this; exact hk
  ·exact .inr ⟨i, by omega, h, fun j' h5 h6 => absurd h5 (by omega)⟩
def HInv (pts : List Nat) (w0 : World) (lab0 : Lab) (l : List Oper) (n : Nat) (st : Nat → PS) (ou : Nat → Out) (L : Nat → Bool) (F : List (Nat × Value)) (w : World) : Prop :=
 ∃ e lab, (∀ s t sv, (s, t, sv) ∈ (st 0).sl → (∀ j o, j < n → L j = true → l[j]? = some o → o.dst ≠ some s) → ∃ v, look F s = some v ∧ RV e sv lab w v) ∧
  (∀ i, i < n → L i = true → ∀ o d, l[i]? = some o → o.dst = some d → ∃ v, look F d = some v ∧ RV e (ou i).sv lab w v) ∧
  (∀ id t m, (id, t, m) ∈ (st 0).mem → (∀ j, j < n → L j = true → m.lbl = 0 ∨ (ou j).ks.contains m.lbl = false) → MemOK e lab w id m) ∧
  (∀ i, i < n → L i = true → ∀ p ∈ (ou i).puts, (∀ j, i < j → j < n → L j = true → p.2.lbl = 0 ∨ (ou j).ks.contains p.2.lbl = false) → MemOK e lab w p.1 p.2) ∧ Cx pts w0 lab0 w lab ∧ A0 pts e ∧ GL lab w
theorem head_step {pts : List Nat} {w0 : World} {lab0 : Lab} (r : Run T N own rng l n st ou) {sis : List SI} (hp : chkP (waitT l n) 0 [] sis = true) (hsi : ∀ a, a < n → ∃ oa, l[a]? = some oa ∧ sis[a]? = some (siOf l oa (st a) (ou a))) :
  ∀ i, i < n → ∀ o L F w, l[i]? = some o → L i = false → (∀ j, Region.waitsFor .any l.toArray i j = true → L j = true) → (∀ j j', Region.waitsFor .any l.toArray j j' = true → L j = true → L j' = true) → (∀ j, n ≤ j → L j = false) → HInv pts w0 lab0 l n st ou L F w →
   LW P N l.toArray [o] F w (fun e a' w' => e = .normal ∧ ∃ F', Sat F' N a' ∧ HInv pts w0 lab0 l n st ou (upd L i) F' w') := by
 intro i hi o L F w ho hLi hw hcl htl ⟨e, lab, hS0, hS1, hM0, hM1, hcx, ha0, hgl⟩
 have hpair : ∀ a b oa ob, a < b → b < n → l[a]? = some oa → l[b]? = some ob → a ∈ getL (waitT l n) b ∨ pairOK false (siOf l oa (st a) (ou a)) (siOf l ob (st b) (ou b)) = true := by
  intro a b oa ob hab hb hoa hob
  obtain ⟨oa', h1, h2⟩ := hsi a (by omega)
  obtain ⟨ob', h3, h4⟩ := hsi b hb
  have e1 : oa' = oa := Option.some.inj (h1.symm.trans hoa)
  have e2 : ob' = ob := Option.some.inj (h3.symm.trans hob)
  subst e1 e2
  have := (chkP_get hp h4).2 hab h2
  simp only [Nat.zero_add] at this
  cases hd : hasN (getL (waitT l n) b) a with
  | true => exact .inl (hasN_mem.1 hd)
  | false => rw [hd] at this; exact .inr this
 -- i is done by nobody who is done
 have hno : ∀ j, L j = true → i ∉ getL (waitT l n) j := fun j hj h => by
  have := waitT_ok hcl n j i h (.inl hj)
  rw [hLi] at this; cases this
 have hdone : ∀ j, j ∈ getL (waitT l n) i → L j = true := fun j h => waitT_ok hcl n i j h (.inr hw)
 -- pairs with i, taken apart
 have later : ∀ j oj, i < j → j < n → L j = true → l[j]? = some oj → (∀ x, x ∈ (siOf l oj (st j) (ou j)).rf → inR (st i).nxt x = false) ∧ meets (ou i).ks (siOf l oj (st j) (ou j)).tl = false ∧ meets (siOf l o (st i) (ou i)).tl (ou j).ks = false := by
  intro j oj hij hjn hLj hoj
  rcases hpair i j o oj hij hjn ho hoj with h | h
  ·exact absurd h (hno j hLj)
  ·simp only [pairOK, Bool.false_or, Bool.not_eq_true', Bool.or_eq_false_iff] at h
   obtain ⟨⟨⟨⟨_, h2⟩, _⟩, h4⟩, h5⟩ := h
   refine ⟨fun x hx => ?_, h4, h5⟩
   cases hc : inR (st i).nxt x with
   | false => rfl
   | true =>
    have : (siOf l oj (st j) (ou j)).rf.any (inR (siOf l o (st i) (ou i)).lo) = true := List.any_eq_true.2 ⟨x, hx, hc⟩
    rw [this] at h2; cases h2
 have earlier : ∀ j oj, j < i → l[j]? = some oj → L j = true ∨ ((∀ d, oj.dst = some d → d ∉ usOf l o) ∧ meets ((ou j).puts.map (·.1)) (idsX l o (st i)) = false) := by
  intro j oj hji hoj
  rcases hpair j i oj o hji hi hoj ho with h | h
  ·exact .inl (hdone j h)
  ·simp only [pairOK, Bool.false_or, Bool.not_eq_true', Bool.or_eq_false_iff] at h
   obtain ⟨⟨⟨⟨h1, _⟩, h3⟩, _⟩, _⟩ := h
   refine .inr ⟨fun d hd hm => ?_, h3⟩
   have h1 : (match oj.dst with | some d => hasN (usOf l o) d | none => false) = false := h1
   rw [hd] at h1
   simp only at h1
   rw [hasN_mem.2 hm] at h1; cases h1
 obtain ⟨o', ho', hstep, hst, hre⟩ := r.step i hi
 have : o' = o := Option.some.inj (ho'.symm.trans ho)
 subst this
 have hwfi := r.wfi i (by omega)
 -- what the step looks at stands
 have hsim : Sim e (restr (usOf l o') (idsX l o' (st i)) (st i)) F lab w := by
  refine ⟨fun s t sv hm => ?_, fun id t m hm => ?_, hgl⟩
  ·obtain ⟨hm, hu⟩ := List.mem_filter.1 hm
   rcases r.osl i (by omega) s t sv hm with ⟨h, _⟩ | ⟨j, oj, h1, h2, h3, h4⟩
   ·refine hS0 s t sv h fun j oj hj hLj hoj hdj => ?_
    have hji : i ≠ j := fun e => by subst e; rw [hLi] at hLj; cases hLj
    exact hno j hLj (r.fresh j i hj hi hji oj o' s hoj ho hdj t sv h (hasN_mem.1 (by simpa using hu)))
   ·have hLj : L j = true := by
     rcases earlier j oj h1 h2 with h | ⟨h, _⟩
     ·exact h
     ·exact absurd (hasN_mem.1 (by simpa using hu)) (h s h3)
    rw [h4]
    exact hS1 j (by omega) hLj oj s h2 h3
  ·obtain ⟨hm, hu⟩ := List.mem_filter.1 hm
   have hid : id ∈ idsX l o' (st i) := hasN_mem.1 (by simpa using hu)
   have hlb : m.lbl ∈ (siOf l o' (st i) (ou i)).tl := by
    show _ ∈ lblOf _ _ ++ _ ++ _
    rw [List.append_assoc]
    exact List.mem_append_left _ (lblOf_mem hid (findK_of_mem hwfi.nm hm))
   have hafter : ∀ j, i < j → j < n → L j = true → m.lbl = 0 ∨ (ou j).ks.contains m.lbl = false := fun j h1 h2 h3 => by
    obtain ⟨oj, hoj, _⟩ := r.step j h2
    have := (later j oj h1 h2 h3 hoj).2.2
    refine .inr ?_
    cases hc : (ou j).ks.contains m.lbl with
    | false => rfl
    | true =>
     have hcm : m.lbl ∈ (ou j).ks := by simpa using hc
     rw [meets_ex ⟨_, hlb, hcm⟩] at this; cases this
   rcases r.omem i (by omega) id t m hm with ⟨h1, h2⟩ | ⟨j, h1, h2, h3⟩
   ·refine hM0 id t m h1 fun j hj hLj => ?_
    rcases Nat.lt_trichotomy j i with h | h | h
    ·exact h2 j h
    ·subst h; rw [hLi] at hLj; cases hLj
    ·exact hafter j h hj hLj
   ·obtain ⟨oj, hoj, _⟩ := r.step j (by omega)
    have hLj : L j = true := by
     rcases earlier j oj h1 hoj with h | ⟨_, h⟩
     ·exact h
     ·have : id ∈ (ou j).puts.map (·.1) := List.mem_map.2 ⟨_, h2, rfl⟩
      rw [meets_ex ⟨_, this, hid⟩] at h; cases h
    refine hM1 j (by omega) hLj (id, m) h2 fun j' hj hj' hLj' => ?_
    rcases Nat.lt_trichotomy j' i with h | h | h
    ·exact h3 j' hj h
    ·subst h; rw [hLi] at hLj'; cases hLj'
    ·exact hafter j' h hj' hLj'
 have hl := (restr_step hstep hre).fin hsim (restr_wf hwfi) hcx.top
 have hc := hstep.2.1
 simp only [chkOut, Bool.and_eq_true] at hc
 have hup : ∀ {s : Nat} {v : Value}, (∀ d, o'.dst = some d → s ≠ d) → look (upF F o'.dst v) s = look F s := fun {s v} h => by
  cases hd : o'.dst with
  | none => rfl
  | some d => exact look_ne (h d hd)
 refine LW.cons1 hl ?_
 rintro ex a' w' ⟨h0, e', lab', v, hs, hp1, hp2, hp3, hp4, hp5⟩
 have hp1 : ∀ x, (x < (st i).nxt ∨ (st i).nxt + 4 ≤ x) → e' x = e x := hp1
 refine ⟨h0, rfl, upF F o'.dst v, hs, e', lab', ?_, ?_, ?_, ?_, hcx.stp hp2 (ks1 hc.1.2), fun g hg => by rw [hp1 0 (.inl hwfi.n0)]; exact ha0 g hg, hgl.keep hp2.keeps⟩
 ·intro s t sv hm hnd
  obtain ⟨u, hu, hr⟩ := hS0 s t sv hm fun j oj hj hLj hoj => hnd j oj hj (by unfold upd; split <;> simp [hLj]) hoj
  refine ⟨u, by rw [hup fun d hd e => hnd i o' hi (by unfold upd; simp) ho (by rw [hd, e])]; exact hu, (hr.keep hp2.keeps).env fun x hx => hp1 x (.inl ?_)⟩
  have h1 := (r.wf.sl s t sv hm).2 x hx
  have h2 := r.nx 0 i (by omega) (by omega)
  omega
 ·intro j hj hLj oj dj hoj hdj
  by_cases hji : j = i
  ·subst hji
   have : oj = o' := Option.some.inj (hoj.symm.trans ho)
   subst this
   exact ⟨v, by rw [hdj]; exact look_eq, hp3⟩
  ·have hLj' : L j = true := by unfold upd at hLj; rw [if_neg hji] at hLj; exact hLj
   obtain ⟨u, hu, hr⟩ := hS1 j hj hLj' oj dj hoj hdj
   refine ⟨u, by rw [hup fun d hd => r.dist j i oj o' dj d hj hi hji hoj ho hdj hd]; exact hu, (hr.keep hp2.keeps).env fun x hx => hp1 x ?_⟩
   rcases Nat.lt_or_ge j i with hlt | hge
   · -- an earlier one's numbers lie below
    obtain ⟨oj', h1, h2, h3, h4⟩ := r.step j hj
    have hwf := r.wfi (j + 1) (by omega)
    rw [h3] at hwf
    have hcj := h2.2.1
    simp only [chkOut, outB, Bool.and_eq_true] at hcj
    have h5 := blt_lt (List.all_eq_true.1 hcj.1.1.1.1 x hx)
    have h6 := r.nx j i (by omega) (by omega)
    exact .inl (by omega)
   ·have h1 := (later j oj (by omega) hj hLj' hoj).1 x (List.mem_append_left _ hx)
    unfold inR at h1
    by_cases hle : (st i).nxt ≤ x
    ·have : Nat.ble (st i).nxt x = true := Nat.ble_eq_true_of_le hle
     rw [this, Bool.true_and] at h1
     exact .inr (blt_false h1)
    ·exact .inl (by omega)
 ·intro id t m hm hal
  have hali := hal i hi (by unfold upd; simp)
  have h1 := hM0 id t m hm fun j hj hLj => hal j hj (by unfold upd; split <;> simp [hLj])
  obtain ⟨_, h2, h3⟩ := r.wf.mem id t m hm
  have h4 := r.nx 0 i (by omega) (by omega)
  exact (h1.stp hp2 hali (r.wf.lbl id t m hm)).env (hp1 id (.inl (by omega))) fun x hx => hp1 x (.inl (by have := h3 x hx; omega))
 ·intro j hj hLj p hpj hal
  by_cases hji : j = i
  ·subst hji
   exact hp4 p hpj
  ·have hLj' : L j = true := by unfold upd at hLj; rw [if_neg hji] at hLj; exact hLj
   have h1 := hM1 j hj hLj' p hpj fun j' h5 h6 h7 => hal j' h5 h6 (by unfold upd; split <;> simp [h7])
   obtain ⟨oj, hoj, hsj, _, _⟩ := r.step j hj
   have hcj := hsj.2.1
   simp only [chkOut, outB, Bool.and_eq_true] at hcj
   have hpo := List.all_eq_true.1 hcj.1.1.1.2 p hpj
   simp only [Bool.and_eq_true, Bool.or_eq_true] at hpo
   obtain ⟨⟨q1, q2⟩, q3⟩ := hpo
   have hlb : p.2.lbl = 0 → isRg p.2 = true := fun h0 => by
    rcases q3 with q3 | q3
    ·exact q3
    ·rw [h0] at q3; cases q3
   rcases Nat.lt_or_ge j i with hlt | hge
   ·have hali := hal i hlt hi (by unfold upd; simp)
    have h6 := r.nx j i (by omega) (by omega)
    refine (h1.stp hp2 hali hlb).env (hp1 p.1 (.inl ?_)) fun x hx => hp1 x (.inl ?_)
    ·have := blt_lt q1; omega
    ·have := blt_lt (List.all_eq_true.1 q2 x hx); omega
   ·have hl3 := later j oj (by omega) hj hLj' hoj
    have hali : p.2.lbl = 0 ∨ (ou i).ks.contains p.2.lbl = false := by
     refine .inr ?_
     cases hcc : (ou i).ks.contains p.2.lbl with
     | false => rfl
     | true =>
      have h5 : p.2.lbl ∈ (ou i).ks := by simpa using hcc
      have h6 : p.2.lbl ∈ (siOf l oj (st j) (ou j)).tl := List.mem_append_right _ (List.mem_map.2 ⟨p, hpj, rfl⟩)
      have := hl3.2.1
      rw [meets_ex ⟨_, h5, h6⟩] at this; cases this
    have hrf : ∀ x, x ∈ p.1 :: mrefs p.2 → (x < (st i).nxt ∨ (st i).nxt + 4 ≤ x) := fun x hx => by
     have h2 := hl3.1 x (List.mem_append_right _ (List.mem_flatMap.2 ⟨p, hpj, hx⟩))
     unfold inR at h2
     by_cases hle : (st i).nxt ≤ x
     ·have : Nat.ble (st i).nxt x = true := Nat.ble_eq_true_of_le hle
      rw [this, Bool.true_and] at h2
      exact .inr (blt_false h2)
     ·exact .inl (by omega)
    exact (h1.stp hp2 hali hlb).env (hp1 p.1 (hrf _ (by simp))) fun x hx => hp1 x (hrf x (by simp [hx]))
end
inductive Trc (T : Tab P) (N : Nat) (own rng : List Nat) (all : List Oper) : List Oper → PS → List (PS × Out) → PS → Prop where
 | nil {p : PS} : Trc T N own rng all [] p [] p
 | cons {o : Oper} {r : List Oper} {p : PS} {q : Out} {tr : List (PS × Out)} {p' : PS} : Stepo T N own rng all o p q → q.re = [] → Trc T N own rng all r (apply p o.dst q) tr p' → Trc T N own rng all (o :: r) p ((p, q) :: tr) p'
noncomputable def forceNL {R : Type} (l : List Nat) : (List Nat → R) → R :=
 List.rec (motive := fun _ => (List Nat → R) → R) (fun k => k []) (fun x _ ih k => forceN x fun x => ih fun r => k (x :: r)) l
theorem forceNL_eq {R : Type} : ∀ (l : List Nat) (k : List Nat → R), forceNL l k = k l
 | [], k => rfl
 | x :: r, k => by
  show forceN x (fun x => forceNL r fun r => k (x :: r)) = _
  rw [forceN_eq, forceNL_eq r]
noncomputable def forceSI {R : Type} (s : SI) (k : SI → R) : R :=
 forceNL s.us fun us => forceNL s.ids fun ids => forceNL s.tl fun tl => forceNL s.ks fun ks => forceNL s.rf fun rf => forceNL s.bn fun bn => forceN s.lo fun lo => k ⟨s.d, us, ids, tl, ks, rf, bn, lo⟩
theorem forceSI_eq {R : Type} (s : SI) (k : SI → R) : forceSI s k = k s := by
 unfold forceSI
 simp only [forceNL_eq, forceN_eq]
noncomputable def runH (T : Tab P) (N : Nat) (own rng : List Nat) (all : List Oper) {R : Type} : List Oper → PS → List SI → (List SI → PS → Option R) → Option R
 | [], ps, acc, K => K acc ps
 | o :: r, ps, acc, K => run1 T N own rng all o ps fun ps out => match out.re with
  | [] => forceSI (siOf all o ps out) fun si => forceP (apply ps o.dst out) fun ps => runH T N own rng all r ps (acc ++ [si]) K
  | _ => none
def sisOf (all : List Oper) : List Oper → List (PS × Out) → List SI
 | o :: r, (p, q) :: tr => siOf all o p q :: sisOf all r tr
 | _, _ => []
theorem runH_some {T : Tab P} {own rng : List Nat} {all : List Oper} {R : Type} {q : R} : ∀ {l : List Oper} {ps : PS} {acc : List SI} {K : List SI → PS → Option R}, runH T N own rng all l ps acc K = some q → ∃ tr pn, Trc T N own rng all l ps tr pn ∧ K (acc ++ sisOf all l tr) pn = some q
 | [], ps, acc, K, h => ⟨[], ps, .nil, by simpa [sisOf, runH] using h⟩
 | o :: r, ps, acc, K, h => by
  unfold runH at h
  obtain ⟨out, hs, h2⟩ := run1_some h
  split at h2
  ·rename_i hre
   rw [forceSI_eq, forceP_eq] at h2
   obtain ⟨tr, pn, h3, h4⟩ := runH_some h2
   exact ⟨_, _, .cons hs hre h3, by simpa [sisOf] using h4⟩
  ·cases h2
def stAt (tr : List (PS × Out)) (pn : PS) (i : Nat) : PS := match tr[i]? with | some p => p.1 | none => pn
def ouAt (tr : List (PS × Out)) (i : Nat) : Out := match tr[i]? with | some p => p.2 | none => o1 .und
theorem Trc.len {T : Tab P} {own rng : List Nat} {all l : List Oper} {p pn : PS} {tr : List (PS × Out)} (h : Trc T N own rng all l p tr pn) : tr.length = l.length := by
 induction h with
 | nil => rfl
 | cons _ _ _ ih => simp [ih]
theorem Trc.at0 {T : Tab P} {own rng : List Nat} {all l : List Oper} {p pn : PS} {tr : List (PS × Out)} (h : Trc T N own rng all l p tr pn) : stAt tr pn 0 = p := by
 cases h <;> rfl
theorem Trc.atn {T : Tab P} {own rng : List Nat} {all l : List Oper} {p pn : PS} {tr : List (PS × Out)} (h : Trc T N own rng all l p tr pn) : stAt tr pn l.length = pn := by
 unfold stAt; rw [List.getElem?_eq_none (by rw [h.len]; exact Nat.le_refl _)]
theorem Trc.get {T : Tab P} {own rng : List Nat} {all l : List Oper} {p pn : PS} {tr : List (PS × Out)} (h : Trc T N own rng all l p tr pn) : ∀ {i : Nat} {o : Oper}, l[i]? = some o →
  Stepo T N own rng all o (stAt tr pn i) (ouAt tr i) ∧ stAt tr pn (i + 1) = apply (stAt tr pn i) o.dst (ouAt tr i) ∧ (ouAt tr i).re = [] ∧ (sisOf all l tr)[i]? = some (siOf all o (stAt tr pn i) (ouAt tr i)) := by
 induction h with
 | nil => intro i o ho; simp at ho
 | cons hs hre ht ih =>
  intro i o ho
  cases i with
  | zero =>
   simp at ho; subst ho
   refine ⟨hs, ?_, hre, rfl⟩
   show stAt _ _ 0 = _
   exact ht.at0
  | succ i =>
   exact ih (by simpa using ho)
def headLen (l : List Oper) : Nat → Nat
 | 0 => 0
 | k + 1 => match (List.range k).all fun j => Region.waitsFor .any l.toArray k j with
  | true => headLen l k
  | false => k + 1
def dstsOf : List Oper → List Nat
 | [] => []
 | o :: r => match o.dst with
  | some d => d :: dstsOf r
  | none => dstsOf r
theorem dstsOf_mem {o : Oper} {d : Nat} : ∀ {l : List Oper} {i : Nat}, l[i]? = some o → o.dst = some d → d ∈ dstsOf l
 | [], i, h, _ => by simp at h
 | x :: r, 0, h, hd => by simp at h; subst h; simp [dstsOf, hd]
 | x :: r, i + 1, h, hd => by
  have := dstsOf_mem (l := r) (i := i) (by simpa using h) hd
  unfold dstsOf; split <;> simp [this]
def keepD (l : List Oper) (n s : Nat) : Bool := !hasN (dstsOf (l.take n)) s || (usedS l n s && okS l n s)
def drawS (l : List Oper) (n : Nat) : Bool := Nat.ble n l.length && edgB l n && dstB l n && tailB l n && Region.seqB .any l.toArray (l.length - n) n (firstN l n)
noncomputable def runD0 (T : Tab P) (N : Nat) (own rng : List Nat) (l : List Oper) {R : Type} (ps : PS) (K : PS → Option R) : Option R :=
 match drawS l (headLen l l.length) with
 | false => none
 | true => runH T N own rng l (l.take (headLen l l.length)) ⟨ps.nxt, ps.sl.filter (fun x => keepD l (headLen l l.length) x.1), ps.mem⟩ [] fun sis ps =>
   match chkP (waitT l (headLen l l.length)) 0 [] sis with
   | true => runS T N own rng l (l.drop (headLen l l.length)) ps K
   | false => none
theorem runD0_ok {T : Tab P} {own rng : List Nat} {l : List Oper} {R : Type} {q : R} {ps : PS} {e : Env} {F : List (Nat × Value)} {lab lab0 : Lab} {w w0 : World} {pts : List Nat} {K : PS → Option R} {kont : Kont} {id : Nat} (hm : P.follows .mixedOrders = true) (h : runD0 T N own rng l ps K = some q) (hi : Inv pts w0 lab0 e ps F lab w)
  (hk : ∀ ps' e' F' lab' w', Pres ps ps' → Inv pts w0 lab0 e' ps' F' lab' w' → K ps' = some q → EW N .normal F' w' kont) : CW P N (.region id l.toArray true) F w kont := by
 intro a ha
 unfold runD0 at h
 generalize headLen l l.length = n at h
 split at h
 ·cases h
 rename_i hS
 simp only [drawS, Bool.and_eq_true] at hS
 obtain ⟨⟨⟨⟨hn, hback⟩, hdst⟩, htl⟩, hseq⟩ := hS
 have hn : n ≤ l.length := Nat.le_of_ble_eq_true hn
 obtain ⟨tr, pn, ht, hK⟩ := runH_some h
 simp only [List.nil_append] at hK
 split at hK
 ·rename_i hchk
  have htk : (l.take n).length = n := by simp; omega
  have hget : ∀ i, i < n → ∃ o, l[i]? = some o ∧ (l.take n)[i]? = some o := fun i hi => ⟨l[i], List.getElem?_eq_getElem (by omega), by rw [List.getElem?_take_of_lt hi]; exact List.getElem?_eq_getElem (by omega)⟩
  have hb : ∀ i j oi oj di dj, i < n → j < i → l[i]? = some oi → l[j]? = some oj → oi.dst = some di → oj.dst = some dj → dj ≠ di := fun i j oi oj di dj hi hj hoi hoj hdi hdj e => by
   have := List.all_eq_true.1 hdst i (List.mem_range.2 hi)
   rw [hoi] at this
   simp only [hdi] at this
   have h2 := List.all_eq_true.1 this j (List.mem_range.2 hj)
   rw [hoj] at h2
   simp only [hdj] at h2
   subst e
   simp at h2
  have h0 := ht.at0
  have hrun : Run T N own rng l n (stAt tr pn) (ouAt tr) := by
   refine ⟨fun i hi => ?_, ?_, fun i j hi hj hji o oj s ho hoj hd t v hm hus => ?_, fun i j oi oj di dj hi hj hij hoi hoj hdi hdj => ?_⟩
   ·obtain ⟨o, h1, h2⟩ := hget i hi
    obtain ⟨a1, a2, a3, _⟩ := ht.get h2
    exact ⟨o, h1, a1, a2, a3⟩
   ·rw [h0]
    exact ⟨fun s st sv hm => hi.wf.sl s st sv (List.mem_filter.1 hm).1, hi.wf.mem, hi.wf.lbl, hi.wf.ns.filter _, hi.wf.nm, hi.wf.n0⟩
   ·rw [h0] at hm
    obtain ⟨_, hm⟩ := List.mem_filter.1 hm
    have : s ∈ dstsOf (l.take n) := dstsOf_mem (i := i) (by rw [List.getElem?_take_of_lt hi]; exact ho) hd
    have := hasN_mem.2 this
    have hm : keepD l n s = true := hm
    unfold keepD at hm
    rw [this, Bool.not_true, Bool.false_or, Bool.and_eq_true] at hm
    exact okS_ok hm.2 hi hj hji ho hoj hd hus
   ·rcases Nat.lt_trichotomy i j with h | h | h
    ·exact hb j i oj oi dj di hj h hoj hoi hdj hdi
    ·exact absurd h hij
    ·exact fun e => hb i j oi oj di dj hi h hoi hoj hdi hdj e.symm
  have hn' : stAt tr pn n = pn := by have := ht.atn; rwa [htk] at this
  refine wp_region_any hm ?_
  have hL : Lf (Array.replicate l.toArray.size false) = fun _ => false := by
   funext j; unfold Lf; exact getD_replicate_false _ _
  have sd := (Ste.draw hi.cx.top (w.drawn + 1)).stp (ks := []) (.inr rfl)
  have hinit : HInv pts w0 lab0 l n (stAt tr pn) (ouAt tr) (fun _ => false) F { w with drawn := w.drawn + 1 } := by
   refine ⟨e, lab, fun s t sv hm _ => ?_, fun i _ h => (by cases h), fun id t m hm _ => ?_, fun i _ h => (by cases h), hi.cx.stp sd rfl, hi.a0, hi.sim.gl.keep sd.keeps⟩
   ·rw [h0] at hm
    obtain ⟨v, hv, hr⟩ := hi.sim.sl s t sv (List.mem_filter.1 hm).1
    exact ⟨v, hv, hr.keep sd.keeps⟩
   ·rw [h0] at hm
    exact (hi.sim.mem id t m hm).stp sd (.inr rfl) (hi.wf.lbl id t m hm)
  have := head_inv (P := P) (N := N) (K := kont) (I := HInv pts w0 lab0 l n (stAt tr pn) (ouAt tr)) hn hback htl hseq (head_step hrun hchk fun i hi => by
   obtain ⟨o, h1, h2⟩ := hget i hi
   exact ⟨o, h1, (ht.get h2).2.2.2⟩) (fun F' w' hI => ?_) n (Array.replicate l.toArray.size false) a F { w with drawn := w.drawn + 1 } ⟨by simp, fun j j' _ h => (by rw [hL] at h; cases h), fun j _ => by rw [hL]⟩
   (by rw [hL]; unfold cnt; rw [List.filter_eq_self.2 (by simp)]; simp) ha (by rw [hL]; exact hinit)
  ·rw [show n + (l.length - n) = l.toArray.size by simp; omega] at this
   exact this
  ·obtain ⟨e', lab', hS0, hS1, hM0, hM1, hcx, ha0, hgl⟩ := hI
   have hinv : Inv pts w0 lab0 e' pn F' lab' w' := by
    rw [← hn']
    refine ⟨⟨fun s t sv hm => ?_, fun id t m hm => ?_, hgl⟩, hrun.wfi n (Nat.le_refl _), hcx, ha0⟩
    ·rcases hrun.osl n (Nat.le_refl _) s t sv hm with ⟨h, hnd⟩ | ⟨j, o, h1, h2, h3, h4⟩
     ·exact hS0 s t sv h fun j o hj _ hoj => hnd j o hj hoj
     ·rw [h4]; exact hS1 j h1 (by simpa using h1) o s h2 h3
    ·rcases hrun.omem n (Nat.le_refl _) id t m hm with ⟨h1, h2⟩ | ⟨j, h1, h2, h3⟩
     ·exact hM0 id t m h1 fun j hj _ => h2 j hj
     ·exact hM1 j h1 (by simpa using h1) (id, m) h2 fun j' h4 h5 _ => h3 j' h4 h5
   have hpres : Pres ps pn := by
    have key : ∀ i, i ≤ n → Pres ps (stAt tr pn i) := by
     intro i
     induction i with
     | zero => intro _; rw [h0]; exact ⟨Nat.le_refl _, fun s st sv hm _ => (List.mem_filter.1 hm).1, fun i st m hm _ => hm⟩
     | succ i ih =>
      intro hi
      obtain ⟨o, h1, h2⟩ := hget i (by omega)
      rw [(ht.get h2).2.1]
      exact (ih (by omega)).trans (Pres.apply _ _ _)
    have := key n (Nat.le_refl _)
    rwa [hn'] at this
   exact runS_ok hK hinv fun ps' e'' F'' lab'' w'' hp hi3 hKK => hk _ _ _ _ _ (hpres.trans hp) hi3 hKK
 ·cases hK
def fzH (T : Tab P) (l : List Oper) (ps : PS) : List Nat :=
 fzIds ⟨ps.nxt, ps.sl.filter (fun x => !hasN (dstsOf l) x.1), ps.mem⟩ (l.flatMap fun o => fzX T o.op)
noncomputable def runD (T : Tab P) (N : Nat) (own rng : List Nat) (l : List Oper) {R : Type} (ps : PS) (K : PS → Option R) : Option R :=
 match frzAll (fzH T (l.take (headLen l l.length)) ps) ps with
 | some ps => runD0 T N own rng l ps K
 | none => none
theorem runD_ok {T : Tab P} {own rng : List Nat} {l : List Oper} {R : Type} {q : R} {ps : PS} {e : Env} {F : List (Nat × Value)} {lab lab0 : Lab} {w w0 : World} {pts : List Nat} {K : PS → Option R} {kont : Kont} {id : Nat} (hm : P.follows .mixedOrders = true) (h : runD T N own rng l ps K = some q) (hi : Inv pts w0 lab0 e ps F lab w)
  (hk : ∀ ps' e' F' lab' w', Pres ps ps' → Inv pts w0 lab0 e' ps' F' lab' w' → K ps' = some q → EW N .normal F' w' kont) : CW P N (.region id l.toArray true) F w kont := by
 unfold runD at h
 split at h
 ·rename_i ps1 hf
  obtain ⟨⟨lab1, hi1⟩, hp1⟩ := frzAll_ok hf hi
  exact runD0_ok hm h hi1 fun ps' e' F' lab' w' hp => hk ps' e' F' lab' w' (hp1.trans hp)
 ·cases h
end
end Go.Gk
