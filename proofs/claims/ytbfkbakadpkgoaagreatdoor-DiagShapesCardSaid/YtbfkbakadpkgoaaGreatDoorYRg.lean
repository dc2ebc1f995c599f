/-
  The evaluator of a list of operations, one behind the other. Over whatever program; no condition.
-/
import Derived.Test.YtbfkbakadpkgoaaGreatDoorYEv
namespace Go.Gk
open Go.RowKit
structure Inv (pts : List Nat) (w0 : World) (lab0 : Lab) (e : Env) (ps : PS) (F : List (Nat × Value)) (lab : Lab) (w : World) : Prop where
 sim : Sim e ps F lab w
 wf : WF ps
 cx : Cx pts w0 lab0 w lab
 a0 : A0 pts e
def hasK {β : Type} (l : List (Nat × Nat × β)) (s : Nat) : Bool := match findK l s with | some _ => true | none => false
def chkOut (ps : PS) (o : Out) : Bool := outB ps.nxt o && o.ks.all (fun k => Nat.ble 2 k) && o.re.all (fun p => hasK ps.sl p.1)
section
variable {P : Program} {N : Nat} {F : List (Nat × Value)} {w w' w0 : World} {e e' : Env} {lab lab' lab0 : Lab} {ps ps' : PS} {v : Value} {pts : List Nat} {d : Option Nat} {out : Out} {K : Kont}
theorem ks1 {ks : List Nat} (h : ks.all (fun k => Nat.ble 2 k) = true) : ks.contains 1 = false := by
 cases hc : ks.contains 1 with
 | false => rfl
 | true =>
  have : 1 ∈ ks := by simpa using hc
  have := List.all_eq_true.1 h 1 this
  cases this
theorem Inv.step (h : Inv pts w0 lab0 e ps F lab w) (hp : OpPost N F e ps.nxt lab w d out e' lab' w' v) (hc : chkOut ps out = true) : Inv pts w0 lab0 e' (apply ps d out) (upF F d v) lab' w' := by
 simp only [chkOut, Bool.and_eq_true] at hc
 refine ⟨h.sim.apply (N := N) h.wf hp fun p hp' => ?_, h.wf.apply d hc.1.1, h.cx.stp hp.2.1 (ks1 hc.1.2), fun g hg => by rw [hp.1 0 (.inl h.wf.n0)]; exact h.a0 g hg⟩
 have := List.all_eq_true.1 hc.2 p hp'
 unfold hasK at this
 split at this
 ·rename_i x hx
  obtain ⟨st, sv⟩ := x
  obtain ⟨u, hu, _⟩ := h.sim.sl _ _ _ (findK_mem hx)
  exact ⟨u, hu⟩
 ·cases this
def gslot (all : List Oper) (j : Nat) : Option Nat := match nth all j with | some o => o.dst | none => none
theorem gslot_eq {all : List Oper} {j dj : Nat} (h : gslot all j = some dj) : (all.toArray[j]?).bind (·.dst) = some dj := by
 unfold gslot at h
 split at h
 ·rename_i o ho
  rw [nth_eq] at ho
  simp [ho, h]
 ·cases h
def isBool : SV → Option Bool
 | .dat .bool c => some c
 | _ => none
theorem isBool_eq {sv : SV} {c : Bool} (h : isBool sv = some c) : sv = .dat .bool c := by
 unfold isBool at h
 split at h
 ·cases h; rfl
 ·cases h
def isUnd : SV → Bool
 | .und => true
 | _ => false
theorem isUnd_eq {sv : SV} (h : isUnd sv = true) : sv = .und := by cases sv <;> first | rfl | cases h
def GW (all : List Oper) (ps : PS) (g : Option (Nat × Bool)) : Prop :=
 match g with
 | none => True
 | some (j, b) => ∃ dj st, gslot all j = some dj ∧ findK ps.sl dj = some (st, .dat .bool b)
def GN (all : List Oper) (ps : PS) (o : Oper) : Prop :=
 ∃ j b dj st, o.guard = some (j, b) ∧ gslot all j = some dj ∧ (findK ps.sl dj = some (st, .dat .bool (!b)) ∨ findK ps.sl dj = some (st, .und) ∧ o.dst ≠ none)
def dOK (N : Nat) (d : Option Nat) : Bool := match d with | some d => Nat.blt d N | none => true
theorem dOK_lt {d : Option Nat} (h : dOK N d = true) : ∀ i, d = some i → Nat.blt i N = true := fun i e => by subst e; exact h
def Stepo (T : Tab P) (N : Nat) (own rng : List Nat) (all : List Oper) (o : Oper) (ps : PS) (out : Out) : Prop :=
 dOK N o.dst = true ∧ chkOut ps out = true ∧ ((GW all ps o.guard ∧ Res (evOp T own rng ps o.dst o.op) out) ∨ (GN all ps o ∧ out = o1 .und))
theorem GW.wn {all : List Oper} {g : Option (Nat × Bool)} (h : Sim e ps F lab w) (hg : GW all ps g) : Wn all.toArray F g := by
 unfold Wn
 unfold GW at hg
 split
 ·trivial
 ·rename_i j b
  obtain ⟨dj, st, h1, h2⟩ := hg
  obtain ⟨v, hv, hr⟩ := h.sl _ _ _ (findK_mem h2)
  have hr : Dat .bool b lab w v := hr
  rw [hr.bool] at hv
  exact ⟨dj, gslot_eq h1, hv⟩
theorem skip_op {all : List Oper} {o : Oper} (h : Sim e ps F lab w) (hg : GN all ps o) (hd : dOK N o.dst = true) (tp : Top lab w) : LW P N all.toArray [o] F w (Fin N F e ps.nxt lab w o.dst (o1 .und)) := by
 obtain ⟨dst, op, ty, pos, af, g⟩ := o
 obtain ⟨j, b, dj, st, h1, h2, h3⟩ := hg
 have h1 : g = some (j, b) := h1
 subst h1
 have hfin : ∀ {F' : List (Nat × Value)} {d : Option Nat}, F' = upF F d undef → LW P N all.toArray [] F' w (Fin N F e ps.nxt lab w d (o1 .und)) := fun hF => by
  subst hF
  exact LW.nil fun a ha => ⟨rfl, e, lab, undef, ha, fun _ _ => rfl, Stp.refl tp, rfl, fun p hp => by simp [o1] at hp, fun p hp => by simp [o1] at hp⟩
 rcases h3 with h3 | ⟨h3, h4⟩
 ·obtain ⟨v, hv, hr⟩ := h.sl _ _ _ (findK_mem h3)
  have hr : Dat .bool (!b) lab w v := hr
  rw [hr.bool] at hv
  cases dst with
  | some d => exact LW.skip dj (gslot_eq h2) hv (by cases b <;> rfl) (dOK_lt hd _ rfl) (hfin rfl)
  | none => exact LW.skip0 dj (gslot_eq h2) hv (by cases b <;> rfl) (hfin rfl)
 ·obtain ⟨v, hv, hr⟩ := h.sl _ _ _ (findK_mem h3)
  have hr : v = undef := hr
  rw [hr] at hv
  cases dst with
  | some d => exact LW.skipU dj (gslot_eq h2) hv (dOK_lt hd _ rfl) (hfin rfl)
  | none => exact absurd rfl h4
theorem chk_und : chkOut ps (o1 .und) = true := rfl
theorem Stepo.fin {T : Tab P} {own rng : List Nat} {all : List Oper} {o : Oper} (s : Stepo T N own rng all o ps out) (h : Sim e ps F lab w) (wf : WF ps) (tp : Top lab w) :
  LW P N all.toArray [o] F w (Fin N F e ps.nxt lab w o.dst out) := by
 obtain ⟨hd, hc, ⟨hg, hr⟩ | ⟨hg, rfl⟩⟩ := s
 ·obtain ⟨dst, op, ty, pos, af, g⟩ := o
  exact evOp_ok h wf tp hr (hg.wn h) (dOK_lt hd)
 ·exact skip_op h hg hd tp
theorem seq_op {T : Tab P} {own rng : List Nat} {all : List Oper} {o : Oper} {rest : List Oper} (s : Stepo T N own rng all o ps out) (h : Inv pts w0 lab0 e ps F lab w)
  (hk : ∀ e' F' lab' w', Inv pts w0 lab0 e' (apply ps o.dst out) F' lab' w' → LW P N all.toArray rest F' w' K) : LW P N all.toArray (o :: rest) F w K := by
 refine LW.cons1 (s.fin h.sim h.wf h.cx.top) ?_
 rintro ex a' w' ⟨h0, e', lab', v, hs, hp⟩
 exact ⟨h0, hk _ _ _ _ (h.step hp s.2.1) _ hs⟩
def ownSlots : List (Nat × Nat × SV) → Nat → List Nat
 | [], _ => []
 | (s, _, .own i) :: r, id => match Nat.beq i id with
  | true => s :: ownSlots r id
  | false => ownSlots r id
 | _ :: r, id => ownSlots r id
theorem ownSlots_mem : ∀ {l : List (Nat × Nat × SV)} {id s : Nat}, s ∈ ownSlots l id → ∃ st, (s, st, .own id) ∈ l
 | [], _, _, h => by simp [ownSlots] at h
 | (s', st, sv) :: r, id, s, h => by
  cases sv with
  | own i =>
   unfold ownSlots at h
   split at h
   ·rename_i hb
    obtain rfl := Nat.eq_of_beq_eq_true hb
    rcases List.mem_cons.1 h with rfl | h
    ·exact ⟨st, by simp⟩
    ·obtain ⟨st', h⟩ := ownSlots_mem h; exact ⟨st', by simp [h]⟩
   ·obtain ⟨st', h⟩ := ownSlots_mem h; exact ⟨st', by simp [h]⟩
  | _ => obtain ⟨st', h⟩ := ownSlots_mem (l := r) h; exact ⟨st', by simp [h]⟩
def boxOf (k : Nat) (T : TypeId) (t : PT) (x : den t) : List (Nat × Nat) → MEnt
 | [] => .box k T t x
 | h :: r => .boxh k T t x (h :: r)
theorem boxOf_ok {k : Nat} {T : TypeId} {t : PT} {x : den t} {hs : List (Nat × Nat)} {e : Env} {lab : Lab} {w : World} {id : Nat} (h : MemOK e lab w id (.boxh k T t x hs)) : MemOK e lab w id (boxOf k T t x hs) := by
 cases hs with
 | nil =>
  obtain ⟨g, cs, h1, h2, h3, _⟩ := h
  exact ⟨g, cs, h1, h2, h3⟩
 | cons a r => exact h
def frz (ps : PS) (id : Nat) : Option Out :=
 match findK ps.mem id with
 | some (_, .row k _ t xs) => some ⟨.und, [k], [], (ownSlots ps.sl id).map fun s => (s, .dat (.sl t) xs)⟩
 | some (_, .rq k _ _ t xs) => some ⟨.und, [k], [], (ownSlots ps.sl id).map fun s => (s, .dat (.sl (.sl t)) xs)⟩
 | some (_, .boxh k T t x ((off, rid) :: hs)) => match findK ps.mem rid with
  | some (_, .row q _ u xs) => match Nat.beq k q, setAt t off (.sl u) x xs with
   | false, some x' => some ⟨.und, [q], [(id, boxOf k T t x' hs)], (ownSlots ps.sl rid).map fun s => (s, .dat (.sl u) xs)⟩
   | _, _ => none
  | _ => none
 | _ => none
theorem frz_ok {id : Nat} (h : Sim e ps F lab w) (tp : Top lab w) (hf : frz ps id = some out) : ∃ lab', OpPost N F e ps.nxt lab w none out e lab' w undef := by
 unfold frz at hf
 split at hf
 ·rename_i st k E t xs hm
  cases hf
  obtain ⟨b1, b2, b3⟩ := h.mem _ _ _ (findK_mem hm)
  refine ⟨Gk.mask lab k, fun _ _ => rfl, Stp.mask tp (by simp), rfl, fun p hp => by simp at hp, fun p hp u hu => ?_⟩
  obtain ⟨s, hs, rfl⟩ := List.mem_map.1 hp
  obtain ⟨st', hs⟩ := ownSlots_mem hs
  obtain ⟨v, hv, hr⟩ := h.sl _ _ _ hs
  have hv' : look F s = some u := hu
  rw [hv] at hv'
  have hvu := Option.some.inj hv'
  have hr : v = .slice (e id).oa (e id).n (e id).c := hr
  rw [← hvu, hr, b1]
  exact Dat.ofSl b3.view
 ·rename_i st k E E2 t xs hm
  cases hf
  obtain ⟨b1, b2, b3⟩ := h.mem _ _ _ (findK_mem hm)
  refine ⟨Gk.mask lab k, fun _ _ => rfl, Stp.mask tp (by simp), rfl, fun p hp => by simp at hp, fun p hp u hu => ?_⟩
  obtain ⟨s, hs, rfl⟩ := List.mem_map.1 hp
  obtain ⟨st', hs⟩ := ownSlots_mem hs
  obtain ⟨v, hv, hr⟩ := h.sl _ _ _ hs
  have hv' : look F s = some u := hu
  rw [hv] at hv'
  have hvu := Option.some.inj hv'
  have hr : v = .slice (e id).oa (e id).n (e id).c := hr
  rw [← hvu, hr, b1]
  exact Dat.ofSl (t := .sl t) b3.view
 ·rename_i st k T t x off rid hs0 hm
  split at hf
  ·rename_i st2 q E u xs hm2
   split at hf
   ·rename_i x' hkq hs
    cases hf
    obtain ⟨b1, b2, b3⟩ := h.mem _ _ _ (findK_mem hm2)
    have b1 : (e rid).n = xs.length := b1
    obtain ⟨G, cs, c1, c2, c3, c4, c5⟩ := h.mem _ _ _ (findK_mem hm)
    have hne : k ≠ q := fun e => by subst e; simp at hkq
    refine ⟨Gk.mask lab q, fun _ _ => rfl, Stp.mask tp (by simp), rfl, fun p hp => ?_, fun p hp u' hu => ?_⟩
    ·simp at hp; subst hp
     refine boxOf_ok ?_
     rw [List.map_cons] at c5
     obtain ⟨hnin, hnd⟩ := List.nodup_cons.1 c5
     have hoff : (emp cs hs0)[off]? = some (.slice (e rid).oa (e rid).n (e rid).c) := by
      rw [emp_ne fun h hm he => hnin (List.mem_map.2 ⟨h, hm, he⟩)]
      exact c4 (off, rid) (by simp)
     have hsl : (rep (.sl u)).rd (Gk.mask lab q) w [.slice (e rid).oa (e rid).n (e rid).c] xs := ⟨(e rid).oa, (e rid).c, by rw [b1], b3.view⟩
     obtain ⟨hle, hrd⟩ := setAt_rd (u := .sl u) ((rep t).keep Keeps.mask c3) hsl hs
     refine ⟨G, cs, c1, ⟨c2.1, ?_⟩, ?_, fun h hm => c4 h (by simp [hm]), hnd⟩
     ·unfold Gk.mask; rw [c2.2, if_neg hne]
     ·have hlo : off < (emp cs hs0).length := (List.getElem?_eq_some_iff.1 hoff).1
      have e1 : ((emp cs hs0).set off (.slice none 0 0)).take off ++ [.slice (e rid).oa (e rid).n (e rid).c] ++ ((emp cs hs0).set off (.slice none 0 0)).drop (off + csz (.sl u)) = emp cs hs0 := by
       show _ ++ _ ++ ((emp cs hs0).set off _).drop (off + 1) = emp cs hs0
       rw [List.take_set_of_le (Nat.le_refl _), List.drop_set_of_lt (by omega)]
       have e2 : (emp cs hs0)[off] = .slice (e rid).oa (e rid).n (e rid).c := by
        have := List.getElem?_eq_getElem hlo
        rw [hoff] at this; exact (Option.some.inj this).symm
       rw [← e2, List.append_assoc, List.singleton_append, ← List.drop_eq_getElem_cons hlo, List.take_append_drop]
      exact e1 ▸ hrd
    ·obtain ⟨s, hs', rfl⟩ := List.mem_map.1 hp
     obtain ⟨st', hs'⟩ := ownSlots_mem hs'
     obtain ⟨v, hv, hr⟩ := h.sl _ _ _ hs'
     have hv' : look F s = some u' := hu
     rw [hv] at hv'
     have hvu := Option.some.inj hv'
     have hr : v = .slice (e rid).oa (e rid).n (e rid).c := hr
     rw [← hvu, hr, b1]
     exact Dat.ofSl b3.view
   ·cases hf
  ·cases hf
 ·cases hf
def frzAll : List Nat → PS → Option PS
 | [], ps => some ps
 | id :: r, ps => match frz ps id with
  | some out => match chkOut ps out with
   | true => frzAll r (apply ps none out)
   | false => none
  | none => none
theorem frzAll_ok : ∀ {ids : List Nat} {ps ps' : PS} {lab : Lab}, frzAll ids ps = some ps' → Inv pts w0 lab0 e ps F lab w → (∃ lab', Inv pts w0 lab0 e ps' F lab' w) ∧ Pres ps ps'
 | [], ps, ps', lab, hf, h => by cases hf; exact ⟨⟨lab, h⟩, Pres.refl _⟩
 | id :: r, ps, ps', lab, hf, h => by
  unfold frzAll at hf
  split at hf
  ·rename_i out ho
   split at hf
   ·rename_i hc
    obtain ⟨lab', hp⟩ := frz_ok (N := 0) h.sim h.cx.top ho
    have h2 := h.step hp hc
    obtain ⟨h3, h4⟩ := frzAll_ok hf h2
    exact ⟨h3, (Pres.apply _ _ _).trans h4⟩
   ·cases hf
  ·cases hf
def tall : Nat := let _f := @evOp; 0
noncomputable def forceN {R : Type} (n : Nat) (k : Nat → R) : R := (fun _ => Nat.rec (motive := fun _ => R) (k 0) (fun m _ => k (m + 1)) n) tall
theorem forceN_eq {R : Type} (n : Nat) (k : Nat → R) : forceN n k = k n := by cases n <;> rfl
noncomputable def forceS {R : Type} (b : SV) (k : SV → R) : R :=
 match b with
 | .dat t x => k (.dat t x) | .agn t x l => k (.agn t x l) | .agh t x off id => forceN id fun id => k (.agh t x off id) | .clb f id => forceN id fun id => k (.clb f id) | .nil => k .nil | .und => k .und | .pnil => k .pnil
 | .ptr id off => forceN id fun id => k (.ptr id off) | .own id => forceN id fun id => k (.own id) | .eptr id i off => forceN id fun id => k (.eptr id i off) | .dptr t x off => k (.dptr t x off)
 | .rix id => forceN id fun id => k (.rix id) | .rlen id => forceN id fun id => k (.rlen id) | .rsl id => forceN id fun id => k (.rsl id) | .rnx id => forceN id fun id => k (.rnx id) | .rcn id => forceN id fun id => k (.rcn id) | .mp id => forceN id fun id => k (.mp id) | .garr t xs => k (.garr t xs) | .tup l => k (.tup l)
theorem forceS_eq {R : Type} (b : SV) (k : SV → R) : forceS b k = k b := by
 cases b <;> unfold forceS <;> first | rfl | exact forceN_eq _ _
noncomputable def forceH {R : Type} (l : List (Nat × Nat)) : (List (Nat × Nat) → R) → R :=
 List.rec (motive := fun _ => (List (Nat × Nat) → R) → R) (fun k => k []) (fun x _ ih k => Prod.casesOn (motive := fun _ => R) x fun o r => forceN o fun o => forceN r fun r => ih fun l => k ((o, r) :: l)) l
theorem forceH_eq {R : Type} : ∀ (l : List (Nat × Nat)) (k : List (Nat × Nat) → R), forceH l k = k l
 | [], k => rfl
 | (o, r) :: l, k => by
  show forceN o (fun o => forceN r fun r => forceH l fun l => k ((o, r) :: l)) = _
  rw [forceN_eq, forceN_eq, forceH_eq l]
noncomputable def forceM {R : Type} (b : MEnt) (k : MEnt → R) : R :=
 match b with
 | .box q T t x => k (.box q T t x) | .boxh q T t x hs => forceH hs fun hs => k (.boxh q T t x hs) | .row q E t xs => k (.row q E t xs) | .src q t xs => k (.src q t xs)
 | .rgh t xs => k (.rgh t xs) | .rgi h t xs i ox => forceN h fun h => k (.rgi h t xs i ox) | .rgc n => k (.rgc n) | .rgj h n i more => forceN h fun h => k (.rgj h n i more) | .mp q T t f => k (.mp q T t f) | .rq q E E2 t xs => k (.rq q E E2 t xs) | .rp q E E2 t xs => k (.rp q E E2 t xs)
theorem forceM_eq {R : Type} (b : MEnt) (k : MEnt → R) : forceM b k = k b := by
 cases b <;> unfold forceM <;> first | rfl | exact forceH_eq _ (fun r => k (.boxh _ _ _ _ r)) | exact forceN_eq _ (fun h => k (.rgi h _ _ _ _)) | exact forceN_eq _ (fun h => k (.rgj h _ _ _))
noncomputable def forceL {R β : Type} (f : (b : β) → (β → R) → R) (l : List (Nat × Nat × β)) : (List (Nat × Nat × β) → R) → R :=
 List.rec (motive := fun _ => (List (Nat × Nat × β) → R) → R) (fun k => k []) (fun x _ ih k => Prod.casesOn (motive := fun _ => R) x fun s y => Prod.casesOn (motive := fun _ => R) y fun st b => forceN s fun s => forceN st fun st => f b fun b => ih fun r => k ((s, st, b) :: r)) l
theorem forceL_eq {R β : Type} {f : (b : β) → (β → R) → R} (hf : ∀ b k, f b k = k b) : ∀ (l : List (Nat × Nat × β)) (k : List (Nat × Nat × β) → R), forceL f l k = k l
 | [], k => rfl
 | (s, st, b) :: r, k => by
  show forceN s (fun s => forceN st fun st => f b fun b => forceL f r fun r => k ((s, st, b) :: r)) = _
  rw [forceN_eq, forceN_eq, hf, forceL_eq hf r]
noncomputable def forceP {R : Type} (ps : PS) (k : PS → R) : R := forceN ps.nxt fun n => forceL forceS ps.sl fun sl => forceL forceM ps.mem fun mem => k ⟨n, sl, mem⟩
theorem forceP_eq {R : Type} (ps : PS) (k : PS → R) : forceP ps k = k ps := by
 unfold forceP
 rw [forceN_eq, forceL_eq forceS_eq, forceL_eq forceM_eq]
def setK : List (Nat × Nat × SV) → Nat → SV → List (Nat × Nat × SV)
 | [], _, _ => []
 | (k, st, b) :: r, s, sv => match Nat.beq k s with
  | true => (k, st, sv) :: r
  | false => (k, st, b) :: setK r s sv
theorem setK_id : ∀ {l : List (Nat × Nat × SV)} {s st : Nat} {sv : SV}, findK l s = some (st, sv) → setK l s sv = l
 | [], _, _, _, h => by cases h
 | (k, st', b) :: r, s, st, sv, h => by
  unfold findK at h
  unfold setK
  split at h
  ·rename_i hb
   cases h
   simp only [hb]
  ·rename_i hb
   simp only [hb]
   rw [setK_id h]
def setLit (ps : PS) (s : Nat) (c : Bool) : PS := ⟨ps.nxt, setK ps.sl s (.dat .bool c), ps.mem⟩
theorem setLit_id {s st : Nat} {c : Bool} (h : findK ps.sl s = some (st, .dat .bool c)) : setLit ps s c = ps := by
 unfold setLit; rw [setK_id h]
def fzA : List PK → List Operand → List Operand
 | .r _ _ :: ps, _ :: xs => fzA ps xs
 | _ :: ps, x :: xs => x :: fzA ps xs
 | [], xs => xs
 | _, [] => []
def qMark (hold : List Nat) (x : Operand) : Bool := match tmpOf x with
 | some s => hasN hold (1000000 + s)
 | none => false
def wMark (hold : List Nat) (x : Operand) : Bool := match tmpOf x with
 | some s => hasN hold (5000000 + s)
 | none => false
def gMark (hold : List Nat) (x : Operand) : Bool := match tmpOf x with
 | some s => hasN hold (2000000 + s)
 | none => false
def fzX {P : Program} (T : Tab P) : Op → List Operand
 | .store _ x v => match holdOf T.hold x with
  | some _ => []
  | none => match qMark T.hold x with
   | true => []
   | false => match wMark T.hold x with
    | true => [v]
    | false => [v, x]
 | .box _ v => [v]
 | .load t x => match findTE T.te t with
  | some e => match aggT e.pt with
   | true => match gMark T.hold x with
    | true => []
    | false => [x]
   | false => []
  | none => []
 | .build _ parts => (parts.toList.filter fun p => !qMark T.hold p.2).map (·.2)
 | .buildSlice _ _ parts => match parts.toList with
  | [(0, x)] => match qMark T.hold x with
   | true => []
   | false => [x]
  | l => l.map (·.2)
 | .call c => match c.callee with
  | .value (.func f) => match findCon T.cs f with
   | some q => match flatR (q.rs ++ outs q.ps) with
    | true => []
    | false => fzA q.ps c.args.toList
   | none => []
  | .value (.tmp _) => c.args.toList
  | _ => []
 | .makeFunc _ _ caps => match capMark T.hold caps.toList with
  | true => []
  | false => caps.toList
 | .field _ x _ => [x]
 | .mapUpdate _ _ _ z => [z]
 | _ => []
def repI (id : Nat) : List (Nat × Nat) → List Nat → List Nat
 | [], l => l
 | _ :: r, l => id :: repI id r l
def fzIds (ps : PS) : List Operand → List Nat
 | [] => []
 | x :: r => match resO ps x with
  | some (.own id, some (.row _ _ _ _)) => match hasN (fzIds ps r) id with
   | true => fzIds ps r
   | false => id :: fzIds ps r
  | some (.own id, some (.rq _ _ _ _ _)) => match hasN (fzIds ps r) id with
   | true => fzIds ps r
   | false => id :: fzIds ps r
  | some (.ptr id _, some (.boxh _ _ _ _ hs)) => match hasN (fzIds ps r) id with
   | true => fzIds ps r
   | false => repI id hs (fzIds ps r)
  | _ => fzIds ps r
def dropL (id : Nat) : List (Nat × Nat) → List Nat
 | _ :: h :: r => id :: dropL id (h :: r)
 | _ => []
def fzP {P : Program} (T : Tab P) (ps : PS) : Op → List Nat
 | .load _ x => match gMark T.hold x, resO ps x with
  | true, some (.ptr id 0, some (.boxh _ _ _ _ hs)) => dropL id hs
  | _, _ => []
 | _ => []
def fzO {P : Program} (T : Tab P) (ps : PS) (op : Op) : List Nat := (fzP T ps op).foldr (fun x l => x :: l) (fzIds ps (fzX T op))
noncomputable def ex1 (T : Tab P) (N : Nat) (own rng : List Nat) {R : Type} (o : Oper) (ps : PS) (K : PS → Out → Option R) : Option R :=
 match dOK N o.dst with
 | true => (evOp T own rng ps o.dst o.op).go fun out => match chkOut ps out with
  | true => K ps out
  | false => none
 | false => none
def sk1 (N : Nat) {R : Type} (o : Oper) (ps : PS) (K : PS → Out → Option R) : Option R :=
 match dOK N o.dst with
 | true => K ps (o1 .und)
 | false => none
noncomputable def run1 (T : Tab P) (N : Nat) (own rng : List Nat) (all : List Oper) {R : Type} (o : Oper) (ps : PS) (K : PS → Out → Option R) : Option R :=
 match o.guard with
 | none => ex1 T N own rng o ps K
 | some (j, b) => match gslot all j with
  | none => none
  | some dj => match findK ps.sl dj with
   | none => none
   | some (_, sv) => match isBool sv with
    | some c => cond c
      (match b with | true => ex1 T N own rng o (setLit ps dj true) K | false => sk1 N o (setLit ps dj true) K)
      (match b with | true => sk1 N o (setLit ps dj false) K | false => ex1 T N own rng o (setLit ps dj false) K)
    | none => match isUnd sv, o.dst with
     | true, some _ => sk1 N o ps K
     | _, _ => none
theorem ex1_some {T : Tab P} {own rng : List Nat} {all : List Oper} {R : Type} {q : R} {o : Oper} {K : PS → Out → Option R} (hg : GW all ps o.guard) (h : ex1 T N own rng o ps K = some q) : ∃ out, Stepo T N own rng all o ps out ∧ K ps out = some q := by
 unfold ex1 at h
 split at h
 ·rename_i hd
  obtain ⟨out, h1, h2⟩ := go_some h
  split at h2
  ·rename_i hc
   exact ⟨_, ⟨hd, hc, .inl ⟨hg, h1⟩⟩, h2⟩
  ·cases h2
 ·cases h
theorem sk1_some {T : Tab P} {own rng : List Nat} {all : List Oper} {R : Type} {q : R} {o : Oper} {K : PS → Out → Option R} (hg : GN all ps o) (h : sk1 N o ps K = some q) : ∃ out, Stepo T N own rng all o ps out ∧ K ps out = some q := by
 unfold sk1 at h
 split at h
 ·rename_i hd
  exact ⟨_, ⟨hd, chk_und, .inr ⟨hg, rfl⟩⟩, h⟩
 ·cases h
theorem run1_some {T : Tab P} {own rng : List Nat} {all : List Oper} {R : Type} {q : R} {o : Oper} {K : PS → Out → Option R} (h : run1 T N own rng all o ps K = some q) : ∃ out, Stepo T N own rng all o ps out ∧ K ps out = some q := by
 unfold run1 at h
 split at h
 ·rename_i hg
  exact ex1_some (by rw [hg]; trivial) h
 ·rename_i j b hg
  split at h
  ·cases h
  ·rename_i dj hdj
   split at h
   ·cases h
   ·rename_i st sv hf
    split at h
    ·rename_i c hc
     obtain rfl := isBool_eq hc
     cases c with
     | true =>
      have e1 := setLit_id hf
      simp only [cond_true] at h
      cases b with
      | true =>
       simp only [e1] at h
       exact ex1_some (by rw [hg]; exact ⟨dj, st, hdj, hf⟩) h
      | false =>
       simp only [e1] at h
       exact sk1_some ⟨j, false, dj, st, hg, hdj, .inl hf⟩ h
     | false =>
      have e1 := setLit_id hf
      simp only [cond_false] at h
      cases b with
      | true =>
       simp only [e1] at h
       exact sk1_some ⟨j, true, dj, st, hg, hdj, .inl hf⟩ h
      | false =>
       simp only [e1] at h
       exact ex1_some (by rw [hg]; exact ⟨dj, st, hdj, hf⟩) h
    ·split at h
     ·rename_i hu hd
      obtain rfl := isUnd_eq hu
      exact sk1_some ⟨j, b, dj, st, hg, hdj, .inr ⟨hf, by rw [hd]; simp⟩⟩ h
     ·cases h
noncomputable def runS (T : Tab P) (N : Nat) (own rng : List Nat) (all : List Oper) {R : Type} : List Oper → PS → (PS → Option R) → Option R
 | [], ps, K => K ps
 | o :: r, ps, K => match frzAll (fzO T ps o.op) ps with
  | some ps => run1 T N own rng all o ps fun ps out => runS T N own rng all r (apply ps o.dst out) K
  | none => none
theorem runS_ok {T : Tab P} {own rng : List Nat} {all : List Oper} {R : Type} {q : R} : ∀ {l : List Oper} {ps : PS} {e : Env} {F : List (Nat × Value)} {lab : Lab} {w : World} {K : PS → Option R} {kont : Kont}, runS T N own rng all l ps K = some q → Inv pts w0 lab0 e ps F lab w →
  (∀ ps' e' F' lab' w', Pres ps ps' → Inv pts w0 lab0 e' ps' F' lab' w' → K ps' = some q → EW N .normal F' w' kont) → LW P N all.toArray l F w kont
 | [], ps, e, F, lab, w, K, kont, h, hi, hk => LW.nil (hk _ _ _ _ _ (Pres.refl _) hi h)
 | o :: r, ps, e, F, lab, w, K, kont, h, hi, hk => by
  unfold runS at h
  split at h
  ·rename_i ps1 hf
   obtain ⟨⟨lab1, hi1⟩, hp1⟩ := frzAll_ok hf hi
   obtain ⟨out, hs, h2⟩ := run1_some h
   refine seq_op hs hi1 fun e' F' lab' w' hi2 => ?_
   exact runS_ok h2 hi2 fun ps' e'' F'' lab'' w'' hp hi3 hK => hk _ _ _ _ _ ((hp1.trans (Pres.apply _ _ _)).trans hp) hi3 hK
  ·cases h
end
end Go.Gk
