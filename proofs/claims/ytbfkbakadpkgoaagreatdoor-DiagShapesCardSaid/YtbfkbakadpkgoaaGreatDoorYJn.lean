/-
  The evaluator at joins and at loops' heads: what is handed on, and the state that it makes. Over whatever program; no condition.
-/
import Derived.Test.YtbfkbakadpkgoaaGreatDoorYDx
namespace Go.Gk
open Go.RowKit
inductive JP where
 | d (s : Nat) (t : PT) | o (s : Nat) (E : TypeId) (t : PT) | b (s : Nat) (T : TypeId) (t : PT) | h (s : Nat) (T : TypeId) (t : PT) (off : Nat) (E : TypeId) (u : PT) | m (s : Nat) (T : TypeId) (t : PT) | q (s : Nat) (E E2 : TypeId) (t : PT)
def JP.rk : JP → RK
 | .d _ t => .d t | .o _ E t => .o E t | .b _ T t => .x T t | .h _ _ t _ _ u => .d (.pr t (.sl u)) | .m _ _ t => .d (.sl (.pr (.int .u8) t)) | .q _ _ _ t => .d (.sl (.sl t))
def rks : List JP → List RK
 | [] => []
 | j :: r => j.rk :: rks r
structure JH where
 ps : List JP
 keep : List Nat
abbrev JT (h : JH) : Type := tupR (rks h.ps)
abbrev JL (js : List JP) : Type := hlR (rks js)
def reown (ps : PS) (s : Nat) (E : TypeId) (t : PT) : Option Out :=
 match findK ps.sl s with
 | some (_, .nil) => some ⟨.und, [10 + s], [(ps.nxt, .row (10 + s) E t [])], [(s, .own ps.nxt)]⟩
 | some (_, .own id) => match findK ps.mem id with
  | some (_, .row k E' t' xs) => match Nat.beq E' E && !Nat.beq k 0, castT (.sl t') (.sl t) xs with
   | true, some xs => some ⟨.und, [k, 10 + s], [(ps.nxt, .row (10 + s) E t xs)], [(s, .own ps.nxt)]⟩
   | _, _ => none
  | _ => none
 | _ => none
def reownQ (ps : PS) (s : Nat) (E E2 : TypeId) (t : PT) : Option Out :=
 match findK ps.sl s with
 | some (_, .nil) => some ⟨.und, [10 + s], [(ps.nxt, .rq (10 + s) E E2 t [])], [(s, .own ps.nxt)]⟩
 | some (_, .own id) => match findK ps.mem id with
  | some (_, .rq k E' E2' t' xs) => match Nat.beq E' E && Nat.beq E2' E2 && !Nat.beq k 0, castT (.sl (.sl t')) (.sl (.sl t)) xs with
   | true, some xs => some ⟨.und, [k, 10 + s], [(ps.nxt, .rq (10 + s) E E2 t xs)], [(s, .own ps.nxt)]⟩
   | _, _ => none
  | _ => none
 | _ => none
def hptrOf (ps : PS) (s off : Nat) : Option (Nat × Nat × TypeId × ((t : PT) × den t) × List (Nat × Nat) × Nat) :=
 match findK ps.sl s with
 | some (_, .ptr id 0) => match findK ps.mem id with
  | some (_, .boxh k T t x hs) => match holeAt hs off with
   | some rid => some (id, k, T, ⟨t, x⟩, hs, rid)
   | none => none
  | _ => none
 | _ => none
def hlab (s off : Nat) : Nat := 128 * (2000010 + s) + off
theorem hlab_ne {s off : Nat} : hlab s off ≠ 0 := by unfold hlab; omega
def rowOf (ps : PS) (rid : Nat) : Option (Nat × TypeId × ((t : PT) × List (den t))) :=
 match findK ps.mem rid with
 | some (_, .row q E t xs) => some (q, E, ⟨t, xs⟩)
 | _ => none
def reownH (ps : PS) (s off : Nat) : Option Out :=
 match hptrOf ps s off with
 | some (id, k, T, ⟨t, x⟩, hs, rid) => match rowOf ps rid with
  | some (q, E, ⟨u, xs⟩) => match Nat.beq q 0, Nat.beq k q with
   | false, false => some ⟨.und, [q, hlab s off], [(id, .boxh k T t x (repH hs off ps.nxt)), (ps.nxt, .row (hlab s off) E u xs)], []⟩
   | _, _ => none
  | none => none
 | none => none
def norm1 (ps : PS) : JP → Option PS
 | .d s _ => match findK ps.sl s with
  | some (_, .own id) => frzAll [id] ps
  | _ => some ps
 | .o s E t => match reown ps s E t with
  | some out => match chkOut ps out with
   | true => some (apply ps none out)
   | false => none
  | none => none
 | .b _ _ _ => some ps
 | .m _ _ _ => some ps
 | .q s E E2 t => match reownQ ps s E E2 t with
  | some out => match chkOut ps out with
   | true => some (apply ps none out)
   | false => none
  | none => none
 | .h s _ _ off _ _ => match reownH ps s off with
  | some out => match chkOut ps out with
   | true => some (apply ps none out)
   | false => none
  | none => none
def normJ : List JP → PS → Option PS
 | [], ps => some ps
 | j :: r, ps => match norm1 ps j with
  | some ps => normJ r ps
  | none => none
section
variable {F : List (Nat × Value)} {w w0 : World} {e : Env} {lab lab0 : Lab} {ps ps' : PS} {pts : List Nat}
def relab2 (lab : Lab) (k k' : Nat) : Lab := fun b => if lab b = k then k' else lab b
theorem reown_ok {s : Nat} {E : TypeId} {t : PT} {out : Out} (h : Sim e ps F lab w) (tp : Top lab w) (hf : reown ps s E t = some out) : ∃ e' lab', OpPost 0 F e ps.nxt lab w none out e' lab' w undef := by
 unfold reown at hf
 split at hf
 ·rename_i st hs
  cases hf
  obtain ⟨v, hv, hr⟩ := h.sl _ _ _ (findK_mem hs)
  have hr : v = .slice none 0 0 := hr
  refine ⟨upE e ps.nxt ⟨none, 0, 0, csz t, 0, .un, []⟩, lab, fun _ hi => upE_out hi, Stp.refl tp, rfl, fun p hp => ?_, fun p hp u hu => ?_⟩
  ·simp at hp; subst hp
   show MemOK _ _ _ _ (.row _ _ _ _)
   simp only [MemOK, upE_eq]
   exact ⟨rfl, trivial, Own.nil⟩
  ·simp at hp; subst hp
   have hu : look F s = some u := hu
   rw [hv] at hu; cases hu
   show _ = Value.slice _ _ _
   rw [upE_eq]; exact hr
 ·rename_i st id hs
  split at hf
  ·rename_i st' k E' t' xs hm
   split at hf
   ·rename_i xs' hb hc
    cases hf
    simp only [Bool.and_eq_true] at hb
    obtain rfl := Nat.eq_of_beq_eq_true hb.1
    have hk := nb_ne hb.2
    obtain ⟨h0, h1⟩ := castT_some hc
    injection h0 with h0
    subst h0
    have h1 : xs = xs' := h1
    subst h1
    obtain ⟨v, hv, hr⟩ := h.sl _ _ _ (findK_mem hs)
    have hr : v = .slice (e id).oa (e id).n (e id).c := hr
    obtain ⟨b1, b2, css, b3, b4⟩ := h.mem _ _ _ (findK_mem hm)
    have hkeep : Keeps lab w (relab2 lab k (10 + s)) w := ⟨Nat.le_refl _, fun b _ h0 => ⟨by unfold relab2; rw [if_neg (by omega)]; exact h0, rfl⟩⟩
    refine ⟨upE e ps.nxt (e id), relab2 lab k (10 + s), fun _ hi => upE_out hi, ⟨rfl, rfl, rfl, Nat.le_refl _, fun _ _ _ => rfl, fun b hb hl => ?_, fun b hb => ?_⟩, rfl, fun p hp => ?_, fun p hp u hu => ?_⟩
    ·unfold relab2
     rw [if_neg]
     intro e1
     rcases hl with hl | hl
     ·omega
     ·rw [e1] at hl; simp at hl
    ·unfold relab2; rw [tp b hb, if_neg (by omega)]
    ·simp at hp; subst hp
     show MemOK _ _ _ _ (.row _ _ _ _)
     simp only [MemOK, upE_eq]
     refine ⟨b1, b2, css, b3.keep hkeep, ?_⟩
     rcases b4 with b4 | ⟨g, cur, c1, c2, c3, c4, c5, c6, c7⟩
     ·exact .inl b4
     ·exact .inr ⟨g, cur, c1, c2, c3, c4, c5, c6, by unfold relab2; rw [if_pos c7]⟩
    ·simp at hp; subst hp
     have hu : look F s = some u := hu
     rw [hv] at hu; cases hu
     show _ = Value.slice _ _ _
     rw [upE_eq]; exact hr
   ·cases hf
  ·cases hf
 ·cases hf
theorem Own.relab2 {β : Type} {ρ : Rep β} {k k' E c : Nat} {oa : Option Addr} {xs : List β} (o : Own ρ lab w k E oa c xs) (hk : k ≠ 0) : Own ρ (relab2 lab k k') w k' E oa c xs := by
 have hkeep : Keeps lab w (Gk.relab2 lab k k') w := ⟨Nat.le_refl _, fun b _ h0 => ⟨by unfold Gk.relab2; rw [if_neg (by omega)]; exact h0, rfl⟩⟩
 obtain ⟨css, h1, h2⟩ := o
 refine ⟨css, h1.keep hkeep, ?_⟩
 rcases h2 with h2 | ⟨g, cur, c1, c2, c3, c4, c5, c6, c7⟩
 ·exact .inl h2
 ·exact .inr ⟨g, cur, c1, c2, c3, c4, c5, c6, by unfold Gk.relab2; rw [if_pos c7]⟩
theorem OwnQ.relab2 {k k' E E2 c : Nat} {oa : Option Addr} {t : PT} {xs : List (List (den t))} (o : OwnQ t lab w k E E2 oa c xs) (hk : k ≠ 0) : OwnQ t (relab2 lab k k') w k' E E2 oa c xs := by
 have hkeep : Keeps lab w (Gk.relab2 lab k k') w := ⟨Nat.le_refl _, fun b _ h0 => ⟨by unfold Gk.relab2; rw [if_neg (by omega)]; exact h0, rfl⟩⟩
 rcases o with h | ⟨ys, z, vs, a', c', rfl, h1, h2, h3, h4⟩
 ·exact .inl h
 ·exact .inr ⟨ys, z, vs, a', c', rfl, h1.relab2 hk, h2.datKeep hkeep, h3.relab2 hk, h4⟩
theorem reownQ_ok {s : Nat} {E E2 : TypeId} {t : PT} {out : Out} (h : Sim e ps F lab w) (tp : Top lab w) (hf : reownQ ps s E E2 t = some out) : ∃ e' lab', OpPost 0 F e ps.nxt lab w none out e' lab' w undef := by
 unfold reownQ at hf
 split at hf
 ·rename_i st hs
  cases hf
  obtain ⟨v, hv, hr⟩ := h.sl _ _ _ (findK_mem hs)
  have hr : v = .slice none 0 0 := hr
  refine ⟨upE e ps.nxt ⟨none, 0, 0, 1, 0, .un, []⟩, lab, fun _ hi => upE_out hi, Stp.refl tp, rfl, fun p hp => ?_, fun p hp u hu => ?_⟩
  ·simp at hp; subst hp
   show MemOK _ _ _ _ (.rq _ _ _ _ _)
   simp only [MemOK, upE_eq]
   exact ⟨rfl, trivial, OwnQ.nil⟩
  ·simp at hp; subst hp
   have hu : look F s = some u := hu
   rw [hv] at hu; cases hu
   show _ = Value.slice _ _ _
   rw [upE_eq]; exact hr
 ·rename_i st id hs
  split at hf
  ·rename_i st' k E' E2' t' xs hm
   split at hf
   ·rename_i xs' hb hc
    cases hf
    simp only [Bool.and_eq_true] at hb
    obtain rfl := Nat.eq_of_beq_eq_true hb.1.1
    obtain rfl := Nat.eq_of_beq_eq_true hb.1.2
    have hk := nb_ne hb.2
    obtain ⟨h0, h1⟩ := castT_some hc
    injection h0 with h0
    injection h0 with h0
    subst h0
    have h1 : xs = xs' := h1
    subst h1
    obtain ⟨v, hv, hr⟩ := h.sl _ _ _ (findK_mem hs)
    have hr : v = .slice (e id).oa (e id).n (e id).c := hr
    obtain ⟨b1, b2, b3⟩ := h.mem _ _ _ (findK_mem hm)
    refine ⟨upE e ps.nxt (e id), relab2 lab k (10 + s), fun _ hi => upE_out hi, ⟨rfl, rfl, rfl, Nat.le_refl _, fun _ _ _ => rfl, fun b hb hl => ?_, fun b hb => ?_⟩, rfl, fun p hp => ?_, fun p hp u hu => ?_⟩
    ·unfold relab2
     rw [if_neg]
     intro e1
     rcases hl with hl | hl
     ·omega
     ·rw [e1] at hl; simp at hl
    ·unfold relab2; rw [tp b hb, if_neg (by omega)]
    ·simp at hp; subst hp
     show MemOK _ _ _ _ (.rq _ _ _ _ _)
     simp only [MemOK, upE_eq]
     exact ⟨b1, b2, b3.relab2 hk⟩
    ·simp at hp; subst hp
     have hu : look F s = some u := hu
     rw [hv] at hu; cases hu
     show _ = Value.slice _ _ _
     rw [upE_eq]; exact hr
   ·cases hf
  ·cases hf
 ·cases hf
theorem hptrOf_ok {s id k T off rid : Nat} {t : PT} {x : den t} {hs : List (Nat × Nat)} (h : hptrOf ps s off = some (id, k, T, ⟨t, x⟩, hs, rid)) : ∃ st st', findK ps.sl s = some (st, .ptr id 0) ∧ findK ps.mem id = some (st', .boxh k T t x hs) ∧ holeAt hs off = some rid := by
 unfold hptrOf at h
 split at h
 ·rename_i st id' hs
  split at h
  ·rename_i st' k' T' t' x' hs' hm
   split at h
   ·rename_i rid' hh
    cases h
    exact ⟨_, _, hs, hm, hh⟩
   ·cases h
  ·cases h
 ·cases h
theorem rowOf_ok {rid q E : Nat} {t : PT} {xs : List (den t)} (h : rowOf ps rid = some (q, E, ⟨t, xs⟩)) : ∃ st, findK ps.mem rid = some (st, .row q E t xs) := by
 unfold rowOf at h
 split at h
 ·rename_i st' k' E' t' x' hm
  cases h
  exact ⟨_, hm⟩
 ·cases h
theorem reownH_ok {s off : Nat} {out : Out} (h : Sim e ps F lab w) (wf : WF ps) (tp : Top lab w) (hf : reownH ps s off = some out) : ∃ e' lab', OpPost 0 F e ps.nxt lab w none out e' lab' w undef := by
 unfold reownH at hf
 split at hf
 ·rename_i id k T t x hs rid hp
  obtain ⟨st, st', h1, h2, hh⟩ := hptrOf_ok hp
  split at hf
  ·rename_i q E u xs hr
   obtain ⟨st2, h3⟩ := rowOf_ok hr
   split at hf
   ·rename_i hq hkq
    cases hf
    have hq := ne0 hq
    have hne : k ≠ q := fun e => by subst e; simp at hkq
    obtain ⟨G, cs, c1, c2, c3, c4, c5⟩ := h.mem _ _ _ (findK_mem h2)
    have hlt : ∀ h ∈ hs, h.2 < ps.nxt := fun q hq => (wf.mem _ _ _ (findK_mem h2)).2.2 _ (List.mem_map.2 ⟨q, hq, rfl⟩)
    obtain ⟨b1, b2, css, b3, b4⟩ := h.mem _ _ _ (findK_mem h3)
    have c1 : (e id).oa = _ := c1
    have hid : id < ps.nxt := (wf.mem _ _ _ (findK_mem h2)).2.1
    have hkeep : Keeps lab w (relab2 lab q (hlab s off)) w := ⟨Nat.le_refl _, fun b _ h0 => ⟨by unfold relab2; rw [if_neg (by omega)]; exact h0, rfl⟩⟩
    refine ⟨upE e ps.nxt (e rid), relab2 lab q (hlab s off), fun _ hi => upE_out hi, ⟨rfl, rfl, rfl, Nat.le_refl _, fun _ _ _ => rfl, fun b hb hl => ?_, fun b hb => ?_⟩, rfl, fun p hp => ?_, fun p hp u hu => by simp at hp⟩
    ·unfold relab2
     rw [if_neg]
     intro e1
     rcases hl with hl | hl
     ·omega
     ·rw [e1] at hl; simp at hl
    ·unfold relab2; rw [tp b hb, if_neg (by omega)]
    ·simp at hp
     rcases hp with rfl | rfl
     ·refine ⟨G, cs, by rw [upE_ne (by omega)]; exact c1, ⟨c2.1, ?_⟩, by rw [emp_map repH_map]; exact (rep t).keep hkeep c3, fun h hm => ?_, by rw [repH_map]; exact c5⟩
      ·unfold relab2; rw [c2.2, if_neg hne]
      ·rcases repH_mem hm with rfl | ⟨hm, _⟩
       ·rw [upE_eq]; exact c4 _ (holeAt_mem hh)
       ·have := hlt h hm
        rw [upE_ne (by omega)]; exact c4 h hm
     ·show MemOK _ _ _ _ (.row _ _ _ _)
      simp only [MemOK, upE_eq]
      refine ⟨b1, b2, css, b3.keep hkeep, ?_⟩
      rcases b4 with b4 | ⟨g, cur, c1, c2, c3, c4, c5, c6, c7⟩
      ·exact .inl b4
      ·exact .inr ⟨g, cur, c1, c2, c3, c4, c5, c6, by unfold relab2; rw [if_pos c7]⟩
   ·cases hf
  ·cases hf
 ·cases hf
theorem norm1_ok {j : JP} (hf : norm1 ps j = some ps') (h : Inv pts w0 lab0 e ps F lab w) : (∃ e' lab', Inv pts w0 lab0 e' ps' F lab' w) ∧ Pres ps ps' := by
 unfold norm1 at hf
 split at hf
 ·split at hf
  ·obtain ⟨⟨lab', h1⟩, h2⟩ := frzAll_ok hf h
   exact ⟨⟨e, lab', h1⟩, h2⟩
  ·cases hf; exact ⟨⟨e, lab, h⟩, Pres.refl _⟩
 ·split at hf
  ·rename_i out ho
   split at hf
   ·rename_i hc
    cases hf
    obtain ⟨e', lab', hp⟩ := reown_ok h.sim h.cx.top ho
    exact ⟨⟨e', lab', h.step hp hc⟩, Pres.apply _ _ _⟩
   ·cases hf
  ·cases hf
 ·cases hf; exact ⟨⟨e, lab, h⟩, Pres.refl _⟩
 ·cases hf; exact ⟨⟨e, lab, h⟩, Pres.refl _⟩
 ·split at hf
  ·rename_i out ho
   split at hf
   ·rename_i hc
    cases hf
    obtain ⟨e', lab', hp⟩ := reownQ_ok h.sim h.cx.top ho
    exact ⟨⟨e', lab', h.step hp hc⟩, Pres.apply _ _ _⟩
   ·cases hf
  ·cases hf
 ·split at hf
  ·rename_i out ho
   split at hf
   ·rename_i hc
    cases hf
    obtain ⟨e', lab', hp⟩ := reownH_ok h.sim h.wf h.cx.top ho
    exact ⟨⟨e', lab', h.step hp hc⟩, Pres.apply _ _ _⟩
   ·cases hf
  ·cases hf
theorem normJ_ok : ∀ {js : List JP} {ps ps' : PS} {e : Env} {lab : Lab}, normJ js ps = some ps' → Inv pts w0 lab0 e ps F lab w → (∃ e' lab', Inv pts w0 lab0 e' ps' F lab' w) ∧ Pres ps ps'
 | [], ps, ps', e, lab, hf, h => by cases hf; exact ⟨⟨e, lab, h⟩, Pres.refl _⟩
 | j :: r, ps, ps', e, lab, hf, h => by
  unfold normJ at hf
  split at hf
  ·rename_i ps1 h1
   obtain ⟨⟨e1, lab1, hi⟩, hp⟩ := norm1_ok h1 h
   obtain ⟨h2, h3⟩ := normJ_ok hf hi
   exact ⟨h2, hp.trans h3⟩
  ·cases hf
end
def ptrOf (base : PS) (s : Nat) : Option (Nat × Nat × Nat) :=
 match findK base.sl s with
 | some (_, .ptr id 0) => match findK base.mem id with
  | some (_, .box k T _ _) => some (id, k, T)
  | _ => none
 | _ => none
def mapOf (base : PS) (s : Nat) : Option (Nat × Nat × Nat) :=
 match findK base.sl s with
 | some (_, .mp id) => match findK base.mem id with
  | some (_, .mp k T _ _) => some (id, k, T)
  | _ => none
 | _ => none
def packM (base ps : PS) (s : Nat) (T : TypeId) (t : PT) : Option (den (.sl (.pr (.int .u8) t))) :=
 match mapOf base s with
 | some (id, k, T') => match findK ps.mem id with
  | some (_, .mp k2 T2 t2 f) => match Nat.beq k2 k && Nat.beq T2 T && Nat.beq T' T with
   | true => castT (.sl (.pr (.int .u8) t2)) (.sl (.pr (.int .u8) t)) f
   | false => none
  | _ => none
 | none => none
def packD (ps : PS) (s : Nat) (t : PT) : Option (den t) :=
 match findK ps.sl s with
 | some (_, sv) => asT t (sv, entOf ps sv)
 | none => none
def packO (ps : PS) (s : Nat) (E : TypeId) (t : PT) : Option (List (den t)) :=
 match findK ps.sl s with
 | some (_, .own id) => match findK ps.mem id with
  | some (_, .row k E' t' xs) => match Nat.beq k (10 + s) && Nat.beq E' E with
   | true => castT (.sl t') (.sl t) xs
   | false => none
  | _ => none
 | _ => none
def packQ (ps : PS) (s : Nat) (E E2 : TypeId) (t : PT) : Option (List (List (den t))) :=
 match findK ps.sl s with
 | some (_, .own id) => match findK ps.mem id with
  | some (_, .rq k E' E2' t' xs) => match Nat.beq k (10 + s) && Nat.beq E' E && Nat.beq E2' E2 with
   | true => castT (.sl (.sl t')) (.sl (.sl t)) xs
   | false => none
  | _ => none
 | _ => none
def packB (base ps : PS) (s : Nat) (T : TypeId) (t : PT) : Option (den t) :=
 match ptrOf base s with
 | some (id, k, T') => match findK ps.mem id with
  | some (_, .box k2 T2 t2 x) => match Nat.beq k2 k && Nat.beq T2 T && Nat.beq T' T with
   | true => castT t2 t x
   | false => none
  | _ => none
 | none => none
def eqHs : List (Nat × Nat) → List (Nat × Nat) → Bool
 | [], [] => true
 | (a, b) :: l, (c, d) :: m => Nat.beq a c && Nat.beq b d && eqHs l m
 | _, _ => false
theorem eqHs_eq : ∀ {l m : List (Nat × Nat)}, eqHs l m = true → l = m
 | [], [], _ => rfl
 | (a, b) :: l, (c, d) :: m, h => by
  unfold eqHs at h
  simp only [Bool.and_eq_true] at h
  rw [Nat.eq_of_beq_eq_true h.1.1, Nat.eq_of_beq_eq_true h.1.2, eqHs_eq h.2]
 | [], _ :: _, h => by cases h
 | _ :: _, [], h => by cases h
def packH (base ps : PS) (s : Nat) (T : TypeId) (t : PT) (off : Nat) (E : TypeId) (u : PT) : Option (den (.pr t (.sl u))) :=
 match hptrOf base s off, hptrOf ps s off with
 | some (id, k, _, _, hs, _), some (id2, k2, T2, ⟨t2, x⟩, hs2, rid) => match rowOf ps rid with
  | some (q, E2, ⟨u2, xs⟩) => match Nat.beq id2 id && Nat.beq k2 k && Nat.beq T2 T && eqHs hs2 (repH hs off rid) && Nat.beq q (hlab s off) && Nat.beq E2 E, castT t2 t x, castT (.sl u2) (.sl u) xs with
   | true, some x, some xs => some (x, xs)
   | _, _, _ => none
  | none => none
 | _, _ => none
def pack1 (base ps : PS) : (j : JP) → Option j.rk.den
 | .d s t => packD ps s t
 | .o s E t => packO ps s E t
 | .b s T t => packB base ps s T t
 | .h s T t off E u => packH base ps s T t off E u
 | .m s T t => packM base ps s T t
 | .q s E E2 t => packQ ps s E E2 t
def packL (base ps : PS) : (js : List JP) → Option (JL js)
 | [] => some ()
 | j :: r => match pack1 base ps j, packL base ps r with
  | some x, some y => some (x, y)
  | _, _ => none
def bids (base : PS) : List JP → List Nat
 | [] => []
 | .b s _ _ :: r => match ptrOf base s with
  | some (id, _) => id :: bids base r
  | none => bids base r
 | .h s _ _ off _ _ :: r => match hptrOf base s off with
  | some (id, _, _, _, _, rid) => id :: rid :: bids base r
  | none => bids base r
 | .m s _ _ :: r => match mapOf base s with
  | some (id, _) => id :: bids base r
  | none => bids base r
 | _ :: r => bids base r
def mrefsOf (base : PS) : List Nat → List Nat
 | [] => []
 | id :: r => match findK base.mem id with
  | some (_, m) => mrefs m ++ mrefsOf base r
  | none => mrefsOf base r
def kids (base : PS) (h : JH) : List Nat := idsOf base h.keep ++ mrefsOf base (idsOf base h.keep)
def keptS (base : PS) (h : JH) : List (Nat × Nat × SV) := base.sl.filter fun x => hasN h.keep x.1
def keptM (base : PS) (h : JH) : List (Nat × Nat × MEnt) := base.mem.filter fun x => hasN (kids base h) x.1 && !hasN (bids base h.ps) x.1
def old {β : Type} (n : Nat) (l : List (Nat × Nat × β)) (s : Nat) : Bool := match findK l s with | some (st, _) => Nat.blt st n | none => false
def pk (base : PS) (h : JH) (ps : PS) : Option (JT h) :=
 match normJ h.ps ps with
 | none => none
 | some ps => match (keptS base h).all (fun x => old base.nxt ps.sl x.1) && (keptM base h).all (fun x => old base.nxt ps.mem x.1) with
  | false => none
  | true => match packL base ps h.ps with
   | some v => some (ofHL _ v)
   | none => none
def unS (nid : Nat) : (js : List JP) → JL js → Nat → List (Nat × SV)
 | [], _, _ => []
 | .d s t :: r, v, i => (s, .dat t v.1) :: unS nid r v.2 (i + 1)
 | .o s _ _ :: r, v, i => (s, .own (nid + i)) :: unS nid r v.2 (i + 1)
 | .b _ _ _ :: r, v, i => unS nid r v.2 (i + 1)
 | .h _ _ _ _ _ _ :: r, v, i => unS nid r v.2 (i + 1)
 | .m _ _ _ :: r, v, i => unS nid r v.2 (i + 1)
 | .q s _ _ _ :: r, v, i => (s, .own (nid + i)) :: unS nid r v.2 (i + 1)
def unM (base : PS) (nid : Nat) : (js : List JP) → JL js → Nat → List (Nat × MEnt)
 | [], _, _ => []
 | .d _ _ :: r, v, i => unM base nid r v.2 (i + 1)
 | .o s E t :: r, v, i => (nid + i, .row (10 + s) E t v.1) :: unM base nid r v.2 (i + 1)
 | .b s T t :: r, v, i => match ptrOf base s with
  | some (id, k, _) => (id, .box k T t v.1) :: unM base nid r v.2 (i + 1)
  | none => unM base nid r v.2 (i + 1)
 | .h s T t off E u :: r, v, i => match hptrOf base s off with
  | some (id, k, _, _, hs, _) => (id, .boxh k T t v.1.1 (repH hs off (nid + i))) :: (nid + i, .row (hlab s off) E u v.1.2) :: unM base nid r v.2 (i + 1)
  | none => unM base nid r v.2 (i + 1)
 | .m s T t :: r, v, i => match mapOf base s with
  | some (id, k, _) => (id, .mp k T t v.1) :: unM base nid r v.2 (i + 1)
  | none => unM base nid r v.2 (i + 1)
 | .q s E E2 t :: r, v, i => (nid + i, .rq (10 + s) E E2 t v.1) :: unM base nid r v.2 (i + 1)
def unpk (base : PS) (h : JH) (v : JL h.ps) : PS :=
 ⟨base.nxt + 4 + h.ps.length, reS base.nxt (unS base.nxt h.ps v 0) (keptS base h), putsM base.nxt (unM base base.nxt h.ps v 0) (keptM base h)⟩
section
variable {F : List (Nat × Value)} {w w0 : World} {e : Env} {lab lab0 : Lab} {ps base : PS} {pts : List Nat}
def jids (ps : PS) : List JP → List Nat
 | [] => []
 | .o s _ _ :: r => (match findK ps.sl s with | some (_, .own id) => id | _ => 0) :: jids ps r
 | .q s _ _ _ :: r => (match findK ps.sl s with | some (_, .own id) => id | _ => 0) :: jids ps r
 | .h s _ _ off _ _ :: r => (match hptrOf ps s off with | some (_, _, _, _, _, rid) => rid | none => 0) :: jids ps r
 | _ :: r => 0 :: jids ps r
def eJ (e : Env) (n : Nat) (ids : List Nat) : Env := fun i => if i < n then e i else e ((ids[i - n]?).getD 0)
theorem eJ_lt {n i : Nat} {ids : List Nat} (h : i < n) : eJ e n ids i = e i := if_pos h
theorem eJ_ge {n i : Nat} {ids : List Nat} : eJ e n ids (n + i) = e ((ids[i]?).getD 0) := by
 unfold eJ; rw [if_neg (by omega), show n + i - n = i by omega]
theorem ptrOf_ok {s id k T : Nat} (wf : WF base) (h : ptrOf base s = some (id, k, T)) : id < base.nxt ∧ k ≠ 0 := by
 unfold ptrOf at h
 split at h
 ·rename_i st id' hs
  split at h
  ·rename_i st' k' T' t x hm
   cases h
   refine ⟨(wf.mem _ _ _ (findK_mem hm)).2.1, fun h0 => ?_⟩
   have := wf.lbl _ _ _ (findK_mem hm) h0
   cases this
  ·cases h
 ·cases h
theorem mapOf_ok {s id k T : Nat} (wf : WF base) (h : mapOf base s = some (id, k, T)) : id < base.nxt ∧ k ≠ 0 := by
 unfold mapOf at h
 split at h
 ·rename_i st id' hs
  split at h
  ·rename_i st' k' T' t x hm
   cases h
   refine ⟨(wf.mem _ _ _ (findK_mem hm)).2.1, fun h0 => ?_⟩
   have := wf.lbl _ _ _ (findK_mem hm) h0
   cases this
  ·cases h
 ·cases h
theorem unS_ok (wf : WF base) (hs : Sim e ps F lab w) : ∀ {js pre : List JP} {v : JL js}, packL base ps js = some v → ∀ p ∈ unS base.nxt js v pre.length, ∃ u, look F p.1 = some u ∧ RV (eJ e base.nxt (jids ps (pre ++ js))) p.2 lab w u := by
 intro js
 induction js with
 | nil => intro pre v _ p hp; simp [unS] at hp
 | cons j r ih =>
  intro pre v hv p hp
  unfold packL at hv
  split at hv
  ·rename_i x y hx hy
   cases hv
   have ih' := ih (pre := pre ++ [j]) hy
   rw [List.length_append, List.length_singleton, List.append_assoc, List.singleton_append] at ih'
   cases j with
   | d s t =>
    rcases List.mem_cons.1 hp with rfl | hp
    ·have hx : packD ps s t = some x := hx
     unfold packD at hx
     split at hx
     ·rename_i st sv hf
      obtain ⟨u, hu, hr⟩ := hs.sl _ _ _ (findK_mem hf)
      exact ⟨u, hu, asT_ok (a := (sv, entOf ps sv)) ⟨hr, fun m hm => entOf_ok hs hm⟩ hx⟩
     ·cases hx
    ·exact ih' p hp
   | o s E t =>
    rcases List.mem_cons.1 hp with rfl | hp
    ·have hx : packO ps s E t = some x := hx
     unfold packO at hx
     split at hx
     ·rename_i st id hf
      obtain ⟨u, hu, hr⟩ := hs.sl _ _ _ (findK_mem hf)
      have hr : u = .slice (e id).oa (e id).n (e id).c := hr
      refine ⟨u, hu, ?_⟩
      show u = Value.slice _ _ _
      rw [eJ_ge]
      have : ((jids ps (pre ++ .o s E t :: r))[pre.length]?).getD 0 = id := by
       have key : ∀ (pre : List JP), ((jids ps (pre ++ .o s E t :: r))[pre.length]?) = some id := by
        intro pre
        induction pre with
        | nil => simp [jids, hf]
        | cons q pre ihp => cases q <;> simpa [jids] using ihp
       rw [key pre]; rfl
      rw [this]; exact hr
     ·cases hx
    ·exact ih' p hp
   | q s E E2 t =>
    rcases List.mem_cons.1 hp with rfl | hp
    ·have hx : packQ ps s E E2 t = some x := hx
     unfold packQ at hx
     split at hx
     ·rename_i st id hf
      obtain ⟨u, hu, hr⟩ := hs.sl _ _ _ (findK_mem hf)
      have hr : u = .slice (e id).oa (e id).n (e id).c := hr
      refine ⟨u, hu, ?_⟩
      show u = Value.slice _ _ _
      rw [eJ_ge]
      have : ((jids ps (pre ++ .q s E E2 t :: r))[pre.length]?).getD 0 = id := by
       have key : ∀ (pre : List JP), ((jids ps (pre ++ .q s E E2 t :: r))[pre.length]?) = some id := by
        intro pre
        induction pre with
        | nil => simp [jids, hf]
        | cons q pre ihp => cases q <;> simpa [jids] using ihp
       rw [key pre]; rfl
      rw [this]; exact hr
     ·cases hx
    ·exact ih' p hp
   | b s T t => exact ih' p hp
   | h s T t off E u => exact ih' p hp
   | m s T t => exact ih' p hp
  ·cases hv
theorem unM_ok (wf : WF base) (hs : Sim e ps F lab w) : ∀ {js pre : List JP} {v : JL js}, packL base ps js = some v → ∀ p ∈ unM base base.nxt js v pre.length, MemOK (eJ e base.nxt (jids ps (pre ++ js))) lab w p.1 p.2 ∧ p.1 < base.nxt + pre.length + js.length ∧ p.2.lbl ≠ 0 ∧ ∀ x ∈ mrefs p.2, x < base.nxt + pre.length + js.length := by
 intro js
 induction js with
 | nil => intro pre v _ p hp; simp [unM] at hp
 | cons j r ih =>
  intro pre v hv p hp
  unfold packL at hv
  split at hv
  ·rename_i x y hx hy
   cases hv
   have ih' := ih (pre := pre ++ [j]) hy
   rw [List.length_append, List.length_singleton, List.append_assoc, List.singleton_append] at ih'
   have ih2 : ∀ p ∈ unM base base.nxt r y (pre.length + 1), MemOK (eJ e base.nxt (jids ps (pre ++ j :: r))) lab w p.1 p.2 ∧ p.1 < base.nxt + pre.length + (j :: r).length ∧ p.2.lbl ≠ 0 ∧ ∀ x ∈ mrefs p.2, x < base.nxt + pre.length + (j :: r).length := fun p hp => by
    obtain ⟨a, b, c, d⟩ := ih' p hp
    exact ⟨a, by simp only [List.length_cons]; omega, c, fun x hx => by have := d x hx; simp only [List.length_cons]; omega⟩
   cases j with
   | d s t => exact ih2 p hp
   | o s E t =>
    rcases List.mem_cons.1 hp with rfl | hp
    ·have hx : packO ps s E t = some x := hx
     unfold packO at hx
     split at hx
     ·rename_i st id hf
      split at hx
      ·rename_i st' k E' t' xs hm
       split at hx
       ·rename_i hb
        simp only [Bool.and_eq_true] at hb
        obtain rfl := Nat.eq_of_beq_eq_true hb.1
        obtain rfl := Nat.eq_of_beq_eq_true hb.2
        obtain ⟨h0, h1⟩ := castT_some hx
        injection h0 with h0
        subst h0
        have h1 : xs = x := h1
        subst h1
        have hmem := hs.mem _ _ _ (findK_mem hm)
        have : ((jids ps (pre ++ .o s E' t' :: r))[pre.length]?).getD 0 = id := by
         have key : ∀ (pre : List JP), ((jids ps (pre ++ .o s E' t' :: r))[pre.length]?) = some id := by
          intro pre
          induction pre with
          | nil => simp [jids, hf]
          | cons q pre ihp => cases q <;> simpa [jids] using ihp
         rw [key pre]; rfl
        refine ⟨?_, by show base.nxt + pre.length < _; simp, by show 10 + s ≠ 0; omega, fun x hx => by simp [mrefs] at hx⟩
        show MemOK _ _ _ _ (.row _ _ _ _)
        unfold MemOK at hmem ⊢
        dsimp only at hmem ⊢
        rw [eJ_ge, this]; exact hmem
       ·cases hx
      ·cases hx
     ·cases hx
    ·exact ih2 p hp
   | q s E E2 t =>
    rcases List.mem_cons.1 hp with rfl | hp
    ·have hx : packQ ps s E E2 t = some x := hx
     unfold packQ at hx
     split at hx
     ·rename_i st id hf
      split at hx
      ·rename_i st' k E' E2' t' xs hm
       split at hx
       ·rename_i hb
        simp only [Bool.and_eq_true] at hb
        obtain rfl := Nat.eq_of_beq_eq_true hb.1.1
        obtain rfl := Nat.eq_of_beq_eq_true hb.1.2
        obtain rfl := Nat.eq_of_beq_eq_true hb.2
        obtain ⟨h0, h1⟩ := castT_some hx
        injection h0 with h0
        injection h0 with h0
        subst h0
        have h1 : xs = x := h1
        subst h1
        have hmem := hs.mem _ _ _ (findK_mem hm)
        have : ((jids ps (pre ++ .q s E' E2' t' :: r))[pre.length]?).getD 0 = id := by
         have key : ∀ (pre : List JP), ((jids ps (pre ++ .q s E' E2' t' :: r))[pre.length]?) = some id := by
          intro pre
          induction pre with
          | nil => simp [jids, hf]
          | cons q pre ihp => cases q <;> simpa [jids] using ihp
         rw [key pre]; rfl
        refine ⟨?_, by show base.nxt + pre.length < _; simp, by show 10 + s ≠ 0; omega, fun x hx => by simp [mrefs] at hx⟩
        show MemOK _ _ _ _ (.rq _ _ _ _ _)
        unfold MemOK at hmem ⊢
        dsimp only at hmem ⊢
        rw [eJ_ge, this]; exact hmem
       ·cases hx
      ·cases hx
     ·cases hx
    ·exact ih2 p hp
   | b s T t =>
    have hp : p ∈ (match ptrOf base s with | some (id, k, _) => (id, MEnt.box k T t x) :: unM base base.nxt r y (pre.length + 1) | none => unM base base.nxt r y (pre.length + 1)) := hp
    have hx : packB base ps s T t = some x := hx
    unfold packB at hx
    split at hx
    ·rename_i id k T' hpt
     rw [hpt] at hp
     obtain ⟨hid, hk⟩ := ptrOf_ok wf hpt
     rcases List.mem_cons.1 hp with rfl | hp
     ·split at hx
      ·rename_i st k2 T2 t2 x2 hm
       split at hx
       ·rename_i hb
        simp only [Bool.and_eq_true] at hb
        obtain rfl := Nat.eq_of_beq_eq_true hb.1.1
        obtain rfl := Nat.eq_of_beq_eq_true hb.1.2
        obtain ⟨rfl, rfl⟩ := castT_some hx
        have hmem := hs.mem _ _ _ (findK_mem hm)
        refine ⟨?_, by show id < _; omega, hk, fun x hx => by simp [mrefs] at hx⟩
        exact hmem.env (eJ_lt hid) (fun i hi => by simp [mrefs] at hi)
       ·cases hx
      ·cases hx
     ·exact ih2 p hp
    ·cases hx
   | m s T t =>
    have hp : p ∈ (match mapOf base s with | some (id, k, _) => (id, MEnt.mp k T t x) :: unM base base.nxt r y (pre.length + 1) | none => unM base base.nxt r y (pre.length + 1)) := hp
    have hx : packM base ps s T t = some x := hx
    unfold packM at hx
    split at hx
    ·rename_i id k T' hpt
     rw [hpt] at hp
     obtain ⟨hid, hk⟩ := mapOf_ok wf hpt
     rcases List.mem_cons.1 hp with rfl | hp
     ·split at hx
      ·rename_i st k2 T2 t2 x2 hm
       split at hx
       ·rename_i hb
        simp only [Bool.and_eq_true] at hb
        obtain rfl := Nat.eq_of_beq_eq_true hb.1.1
        obtain rfl := Nat.eq_of_beq_eq_true hb.1.2
        obtain ⟨h0, h1⟩ := castT_some hx
        injection h0 with h0
        injection h0 with h0 h2
        subst h2
        have h1 : x2 = x := h1
        subst h1
        have hmem := hs.mem _ _ _ (findK_mem hm)
        refine ⟨?_, by show id < _; omega, hk, fun x hx => by simp [mrefs] at hx⟩
        exact hmem.env (eJ_lt hid) (fun i hi => by simp [mrefs] at hi)
       ·cases hx
      ·cases hx
     ·exact ih2 p hp
    ·cases hx
   | h s T t off E u =>
    have hx : packH base ps s T t off E u = some x := hx
    unfold packH at hx
    split at hx
    ·rename_i id k T0 s0 hs0 rid0 id2 k2 T2 t2 x2 hs2 rid hpt hp2
     obtain ⟨st1, st2, g1, g2, g6⟩ := hptrOf_ok (x := s0.2) (t := s0.1) hpt
     obtain ⟨st3, st4, g3, g4, g7⟩ := hptrOf_ok hp2
     have hp : p ∈ ((id, MEnt.boxh k T t x.1 (repH hs0 off (base.nxt + pre.length))) :: (base.nxt + pre.length, MEnt.row (hlab s off) E u x.2) :: unM base base.nxt r y (pre.length + 1)) := by
      have hp : p ∈ (match hptrOf base s off with | some (id, k, _, _, hs, _) => (id, MEnt.boxh k T t x.1 (repH hs off (base.nxt + pre.length))) :: (base.nxt + pre.length, MEnt.row (hlab s off) E u x.2) :: unM base base.nxt r y (pre.length + 1) | none => unM base base.nxt r y (pre.length + 1)) := hp
      rw [hpt] at hp; exact hp
     have hlt : ∀ h ∈ hs0, h.2 < base.nxt := fun q hq => (wf.mem _ _ _ (findK_mem g2)).2.2 _ (List.mem_map.2 ⟨q, hq, rfl⟩)
     have hid : id < base.nxt := (wf.mem _ _ _ (findK_mem g2)).2.1
     have hk : k ≠ 0 := fun h0 => by have := wf.lbl _ _ _ (findK_mem g2) h0; cases this
     split at hx
     ·rename_i q E2 u2 xs hr
      obtain ⟨st5, g5⟩ := rowOf_ok hr
      split at hx
      ·rename_i x3 xs3 hb hc1 hc2
       cases hx
       simp only [Bool.and_eq_true] at hb
       obtain ⟨⟨⟨⟨⟨b1, b2⟩, b3⟩, b4⟩, b5⟩, b6⟩ := hb
       have b1 := Nat.eq_of_beq_eq_true b1
       have b2 := Nat.eq_of_beq_eq_true b2
       have b3 := Nat.eq_of_beq_eq_true b3
       have b4 := eqHs_eq b4
       have b5 := Nat.eq_of_beq_eq_true b5
       have b6 := Nat.eq_of_beq_eq_true b6
       subst b1 b2 b3 b4 b5 b6
       obtain ⟨rfl, rfl⟩ := castT_some hc1
       obtain ⟨h0, h1⟩ := castT_some hc2
       injection h0 with h0
       subst h0
       have h1 : xs = xs3 := h1
       subst h1
       have hbx := hs.mem _ _ _ (findK_mem g4)
       have hrw := hs.mem _ _ _ (findK_mem g5)
       have hj : ((jids ps (pre ++ .h s T2 t2 off E2 u2 :: r))[pre.length]?).getD 0 = rid := by
        have key : ∀ (pre : List JP), ((jids ps (pre ++ .h s T2 t2 off E2 u2 :: r))[pre.length]?) = some rid := by
         intro pre
         induction pre with
         | nil => simp [jids, hp2]
         | cons q pre ihp => cases q <;> simpa [jids] using ihp
        rw [key pre]; rfl
       rcases List.mem_cons.1 hp with rfl | hp
       ·refine ⟨?_, by show id2 < _; omega, hk, fun x hx => ?_⟩
        ·obtain ⟨G, cs, c1, c2, c3, c4, c5⟩ := hbx
         refine ⟨G, cs, by rw [eJ_lt hid]; exact c1, c2, ?_, fun h hm => ?_, ?_⟩
         ·rw [emp_map repH_map] at c3 ⊢; exact c3
         ·rcases repH_mem hm with rfl | ⟨hm, ho⟩
          ·rw [eJ_ge, hj]; exact c4 _ (holeAt_mem g7)
          ·have h1 := hlt h hm
           rw [eJ_lt h1]
           exact c4 h (repH_in hm ho)
         ·rw [repH_map] at c5 ⊢; exact c5
        ·obtain ⟨h, hm, rfl⟩ := List.mem_map.1 hx
         simp only [List.length_cons]
         rcases repH_mem hm with rfl | ⟨hm, _⟩
         ·show base.nxt + pre.length < _; omega
         ·have := hlt h hm; omega
       rcases List.mem_cons.1 hp with rfl | hp
       ·refine ⟨?_, by show base.nxt + pre.length < _; simp, hlab_ne, fun x hx => by simp [mrefs] at hx⟩
        show MemOK _ _ _ _ (.row _ _ _ _)
        unfold MemOK at hrw ⊢
        dsimp only at hrw ⊢
        rw [eJ_ge, hj]; exact hrw
       ·exact ih2 p hp
      ·cases hx
     ·cases hx
    ·cases hx
  ·cases hv
theorem old_ok {β : Type} {n : Nat} {l : List (Nat × Nat × β)} {s : Nat} (h : old n l s = true) : ∃ st b, findK l s = some (st, b) ∧ st < n := by
 unfold old at h
 split at h
 ·rename_i st b hf; exact ⟨st, b, hf, blt_lt h⟩
 ·cases h
theorem unS_lt {n : Nat} : ∀ {js : List JP} {v : JL js} {i : Nat}, ∀ p ∈ unS n js v i, ∀ x ∈ refs p.2, x < n + i + js.length
 | [], _, _, p, hp => by simp [unS] at hp
 | .d s t :: r, v, i, p, hp => fun x hx => by
  rcases List.mem_cons.1 hp with rfl | hp
  ·simp [refs, refs0] at hx
  ·have := unS_lt p hp x hx; simp only [List.length_cons]; omega
 | .o s E t :: r, v, i, p, hp => fun x hx => by
  rcases List.mem_cons.1 hp with rfl | hp
  ·simp [refs, refs0] at hx; subst hx; simp only [List.length_cons]; omega
  ·have := unS_lt p hp x hx; simp only [List.length_cons]; omega
 | .b s T t :: r, v, i, p, hp => fun x hx => by
  have := unS_lt (js := r) p hp x hx; simp only [List.length_cons]; omega
 | .m s _ _ :: r, v, i, p, hp => fun x hx => by
  have := unS_lt (js := r) p hp x hx; simp only [List.length_cons]; omega
 | .q s _ _ _ :: r, v, i, p, hp => fun x hx => by
  rcases List.mem_cons.1 hp with rfl | hp
  ·simp [refs, refs0] at hx; subst hx; simp only [List.length_cons]; omega
  ·have := unS_lt p hp x hx; simp only [List.length_cons]; omega
 | .h s _ _ _ _ _ :: r, v, i, p, hp => fun x hx => by
  have := unS_lt (js := r) p hp x hx; simp only [List.length_cons]; omega
theorem pk_ok {h : JH} {v : JT h} (wf : WF base) (hp : Pres base ps) (hi : Inv pts w0 lab0 e ps F lab w) (hk : pk base h ps = some v) :
  ∃ e' lab', Inv pts w0 lab0 e' (unpk base h (toHL _ v)) F lab' w ∧ Pres base (unpk base h (toHL _ v)) ∧ ∀ ps2 : PS, True := by
 unfold pk at hk
 split at hk
 ·cases hk
 rename_i ps1 hn
 obtain ⟨⟨e1, lab1, hi1⟩, hp1⟩ := normJ_ok hn hi
 have hp2 := hp.trans hp1
 split at hk
 ·cases hk
 rename_i hold
 simp only [Bool.and_eq_true] at hold
 split at hk
 ·rename_i vl hv
  cases hk
  rw [toHL_ofHL]
  have hS := unS_ok (pre := []) wf hi1.sim hv
  have hM := unM_ok (pre := []) wf hi1.sim hv
  simp only [List.nil_append, List.length_nil] at hS hM
  refine ⟨eJ e1 base.nxt (jids ps1 h.ps), lab1, ⟨⟨fun s st sv hm => ?_, fun id st m hm => ?_, hi1.sim.gl⟩, ⟨fun s st sv hm => ?_, fun id st m hm => ?_, fun id st m hm h0 => ?_, ?_, ?_, ?_⟩, hi1.cx, fun g hg => by rw [eJ_lt wf.n0]; exact hi1.a0 g hg⟩, ⟨?_, fun s st sv hm hl => ?_, fun id st m hm hl => ?_⟩, fun _ => trivial⟩
  ·rcases reS_mem hm with hm | ⟨_, hm⟩
   ·obtain ⟨st', sv', hf, hlt⟩ := old_ok (List.all_eq_true.1 hold.1 _ hm)
    have hb := (List.mem_filter.1 hm).1
    have hb2 := hp2.sl _ _ _ (findK_mem hf) hlt
    obtain ⟨rfl, rfl⟩ := wf.ns.uniq hb hb2
    obtain ⟨u, hu, hr⟩ := hi1.sim.sl _ _ _ (findK_mem hf)
    exact ⟨u, hu, hr.env fun i hi => eJ_lt ((wf.sl _ _ _ hb).2 i hi)⟩
   ·exact hS _ hm
  ·rcases putsM_mem hm with hm | ⟨_, hm⟩
   ·obtain ⟨st', m', hf, hlt⟩ := old_ok (List.all_eq_true.1 hold.2 _ hm)
    have hb := (List.mem_filter.1 hm).1
    have hb2 := hp2.mem _ _ _ (findK_mem hf) hlt
    obtain ⟨rfl, rfl⟩ := wf.nm.uniq hb hb2
    obtain ⟨_, h2, h3⟩ := wf.mem _ _ _ hb
    exact (hi1.sim.mem _ _ _ (findK_mem hf)).env (eJ_lt h2) fun i hi => eJ_lt (h3 i hi)
   ·exact (hM _ hm).1
  ·rcases reS_mem hm with hm | ⟨hs, hm⟩
   ·obtain ⟨h1, h2⟩ := wf.sl _ _ _ (List.mem_filter.1 hm).1
    refine ⟨?_, fun i hi => ?_⟩
    ·show st < base.nxt + 4 + h.ps.length; omega
    ·have := h2 i hi
     show i < base.nxt + 4 + h.ps.length; omega
   ·have hs : st = base.nxt := hs
    refine ⟨?_, fun i hi => ?_⟩
    ·show st < base.nxt + 4 + h.ps.length; omega
    ·have := unS_lt _ hm i hi
     show i < base.nxt + 4 + h.ps.length; omega
  ·rcases putsM_mem hm with hm | ⟨hs, hm⟩
   ·obtain ⟨h1, h2, h3⟩ := wf.mem _ _ _ (List.mem_filter.1 hm).1
    refine ⟨?_, ?_, fun i hi => ?_⟩
    ·show st < base.nxt + 4 + h.ps.length; omega
    ·show id < base.nxt + 4 + h.ps.length; omega
    ·have := h3 i hi
     show i < base.nxt + 4 + h.ps.length; omega
   ·obtain ⟨_, h2, _, h4⟩ := hM _ hm
    have hs : st = base.nxt := hs
    have h2 : id < base.nxt + 0 + h.ps.length := h2
    refine ⟨?_, ?_, fun i hi => ?_⟩
    ·show st < base.nxt + 4 + h.ps.length; omega
    ·show id < base.nxt + 4 + h.ps.length; omega
    ·have := h4 i hi
     have : i < base.nxt + 0 + h.ps.length := this
     show i < base.nxt + 4 + h.ps.length; omega
  ·rcases putsM_mem hm with hm | ⟨_, hm⟩
   ·exact wf.lbl _ _ _ (List.mem_filter.1 hm).1 h0
   ·exact absurd h0 (hM _ hm).2.2.1
  ·exact (wf.ns.filter _).reS
  ·exact (wf.nm.filter _).putsM
  ·show 0 < base.nxt + 4 + h.ps.length; omega
  ·show base.nxt ≤ base.nxt + 4 + h.ps.length; omega
  ·rcases reS_mem hm with hm | ⟨hs, hm⟩
   ·exact (List.mem_filter.1 hm).1
   ·exact absurd hs (Nat.ne_of_lt hl)
  ·rcases putsM_mem hm with hm | ⟨hs, hm⟩
   ·exact (List.mem_filter.1 hm).1
   ·exact absurd hs (Nat.ne_of_lt hl)
 ·cases hk
end
end Go.Gk
