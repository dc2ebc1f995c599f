/-
  Contracts of functions, and calls by them. Over whatever program; no condition.
-/
import Derived.Test.YtbfkbakadpkgoaaGreatDoorYRo
namespace Go.Gk
open Go.RowKit
inductive PK where
 | d (t : PT) | p (T : TypeId) (t : PT) | r (E : TypeId) (t : PT)
inductive RK where
 | d (t : PT) | o (E : TypeId) (t : PT) | p (T : TypeId) (t : PT) | x (T : TypeId) (t : PT) | h (t : PT) (off : Nat) (E : TypeId) (u : PT)
def PK.den : PK → Type
 | .d t => Gk.den t | .p _ t => Gk.den t | .r _ t => List (Gk.den t)
def RK.den : RK → Type
 | .d t => Gk.den t | .o _ t => List (Gk.den t) | .p _ t => Gk.den t | .x _ t => Gk.den t | .h t _ _ u => Gk.den t × List (Gk.den u)
def cur : List PK → Type → Type
 | [], R => R
 | p :: ps, R => p.den → cur ps R
def hl : List PK → Type
 | [] => Unit
 | p :: ps => p.den × hl ps
def app1 {R : Type} : (ps : List PK) → cur ps R → hl ps → R
 | [], f, _ => f
 | _ :: ps, f, a => app1 ps (f a.1) a.2
def tupR' : RK → List RK → Type
 | r, [] => r.den
 | r, s :: ss => r.den × tupR' s ss
def tupR : List RK → Type
 | [] => Unit
 | r :: rs => tupR' r rs
def hlR : List RK → Type
 | [] => Unit
 | r :: rs => r.den × hlR rs
def toHL' : (r : RK) → (rs : List RK) → tupR' r rs → hlR (r :: rs)
 | _, [], x => (x, ())
 | _, s :: ss, x => (x.1, toHL' s ss x.2)
def toHL : (rs : List RK) → tupR rs → hlR rs
 | [], _ => ()
 | r :: rs, x => toHL' r rs x
def ofHL' : (r : RK) → (rs : List RK) → hlR (r :: rs) → tupR' r rs
 | _, [], x => x.1
 | _, s :: ss, x => (x.1, ofHL' s ss x.2)
def ofHL : (rs : List RK) → hlR rs → tupR rs
 | [], _ => ()
 | r :: rs, x => ofHL' r rs x
theorem toHL_ofHL' : ∀ (rs : List RK) (r : RK) (x : hlR (r :: rs)), toHL' r rs (ofHL' r rs x) = x
 | [], _, (_, ()) => rfl
 | s :: ss, r, (a, x) => by show (a, toHL' s ss (ofHL' s ss x)) = (a, x); rw [toHL_ofHL' ss s x]
theorem toHL_ofHL : ∀ (rs : List RK) (x : hlR rs), toHL rs (ofHL rs x) = x
 | [], () => rfl
 | r :: rs, x => toHL_ofHL' rs r x
def outs : List PK → List RK
 | [] => []
 | .d _ :: ps => outs ps
 | .r _ _ :: ps => outs ps
 | .p T t :: ps => .x T t :: outs ps
def hasP : List PK → Bool
 | [] => false
 | .d _ :: ps => hasP ps
 | .r _ _ :: ps => hasP ps
 | .p _ _ :: _ => true
def hasQ : List PK → Bool
 | [] => false
 | .d _ :: ps => hasQ ps
 | .r _ _ :: _ => true
 | .p _ _ :: _ => true
theorem hasQ_P : ∀ {ps : List PK}, hasP ps = true → hasQ ps = true
 | [], h => by cases h
 | .d _ :: ps, h => hasQ_P (ps := ps) h
 | .r _ _ :: _, _ => rfl
 | .p _ _ :: _, _ => rfl
theorem hasQ_noP {ps : List PK} (h : hasQ ps = false) : hasP ps = false := by
 cases hp : hasP ps with
 | false => rfl
 | true => rw [hasQ_P hp] at h; cases h
def ArgsOK (kp gp : Nat) (lab : Lab) (w : World) : (ps : List PK) → hl ps → List Value → Prop
 | [], _, [] => True
 | .d t :: ps, a, v :: vs => Dat t a.1 lab w v ∧ ArgsOK kp gp lab w ps a.2 vs
 | .p T t :: ps, a, v :: vs => v = .pointer (some ⟨gp, 0, none⟩) ∧ (∃ cs, Box lab w kp gp T cs ∧ (rep t).rd lab w cs a.1) ∧ ArgsOK kp gp lab w ps a.2 vs
 | .r E t :: ps, a, v :: vs => (∃ oa c, v = .slice oa (List.length (α := den t) a.1) c ∧ Own (rep t) lab w kp E oa c a.1) ∧ ArgsOK kp gp lab w ps a.2 vs
 | _, _, _ => False
def oneQ : List PK → Bool
 | [] => true
 | .d _ :: ps => oneQ ps
 | .p _ _ :: ps => !hasQ ps
 | .r _ _ :: ps => !hasQ ps
def ResOK (k kp gp : Nat) (lab : Lab) (w : World) : (rs : List RK) → hlR rs → List Value → Prop
 | [], _, [] => True
 | .d t :: rs, r, v :: vs => Dat t r.1 lab w v ∧ ResOK k kp gp lab w rs r.2 vs
 | .o E t :: rs, r, v :: vs => (∃ oa c, v = .slice oa (List.length (α := den t) r.1) c ∧ Own (rep t) lab w k E oa c r.1) ∧ ResOK k kp gp lab w rs r.2 vs
 | .p T t :: rs, r, v :: vs => (∃ g cs, v = .pointer (some ⟨g, 0, none⟩) ∧ Box lab w k g T cs ∧ (rep t).rd lab w cs r.1) ∧ ResOK k kp gp lab w rs r.2 vs
 | .h t off E u :: rs, r, v :: vs => (∃ (cs : List Value) (oa : Option Addr) (c : Nat), v = .agg cs.toArray ∧ (rep t).rd lab w (cs.set off (.slice none 0 0)) r.1.1 ∧ cs[off]? = some (.slice oa (List.length (α := den u) r.1.2) c) ∧ Own (rep u) lab w k E oa c r.1.2) ∧ ResOK k kp gp lab w rs r.2 vs
 | .x T t :: rs, r, vs => (∃ cs, Box lab w kp gp T cs ∧ (rep t).rd lab w cs r.1) ∧ ResOK k kp gp lab w rs r.2 vs
 | _, _, _ => False
def retv : List Value → Value
 | [v] => v
 | vs => .tuple vs.toArray
def ksP (ps : List PK) (kp : Nat) : List Nat := match hasQ ps with | true => [kp] | false => []
def OKc (P : Program) (fid : FuncId) (ps : List PK) (rs : List RK) (a : hl ps) (r : hlR (rs ++ outs ps)) : Prop :=
 ∀ (k kp gp : Nat) (lab : Lab) (w : World) (vs : List Value), Top lab w → GL lab w → (hasQ ps = true → kp ≠ 0) → k ≠ 0 → ArgsOK kp gp lab w ps a vs →
  Calls P fid vs.toArray w fun e w' => ∃ lab' us, e = .returned (retv us) ∧ Stp (ksP ps kp) lab w lab' w' ∧ ResOK k kp gp lab' w' (rs ++ outs ps) r us
structure Con (P : Program) where
 fid : FuncId
 ps : List PK
 rs : List RK
 fn : Fn? P fid
 m : cur ps (Option (tupR (rs ++ outs ps)))
 ok : ∀ a r, app1 ps m a = some r → OKc P fid ps rs a (toHL _ r)
def findCon {P : Program} : List (Con P) → FuncId → Option (Con P)
 | [], _ => none
 | c :: r, f => match Nat.beq c.fid f with
  | true => some c
  | false => findCon r f
theorem findCon_id {P : Program} : ∀ {l : List (Con P)} {f : FuncId} {c : Con P}, findCon l f = some c → c.fid = f
 | [], _, _, h => by cases h
 | q :: r, f, c, h => by
  unfold findCon at h
  split at h
  ·rename_i hb; cases h; exact Nat.eq_of_beq_eq_true hb
  ·exact findCon_id h
def flatT : PT → Bool
 | .sl _ => false | .cp _ => false | .clo _ _ => false | .tree => false | .pr a b => flatT a && flatT b | .st t => flatT t | _ => true
theorem flat_rd {lab lab' : Lab} {w w' : World} : ∀ {t : PT} {cs : List Value} {x : den t}, flatT t = true → (rep t).rd lab w cs x → (rep t).rd lab' w' cs x
 | .int _, _, _, _, h => h
 | .bool, _, _, _, h => h
 | .str, _, _, _, h => h
 | .un, _, _, _, h => h
 | .err, _, _, _, h => h
 | .fl, _, _, _, h => h
 | .sl _, _, _, hf, _ => by cases hf
 | .cp _, _, _, hf, _ => by cases hf
 | .clo _ _, _, _, hf, _ => by cases hf
 | .tree, _, _, hf, _ => by cases hf
 | .st t, _, _, hf, h => flat_rd (t := t) hf h
 | .pr a b, cs, x, hf, h => by
  simp only [flatT, Bool.and_eq_true] at hf
  obtain ⟨c1, c2, h1, h2, h3⟩ := h
  exact ⟨c1, c2, h1, flat_rd hf.1 h2, flat_rd hf.2 h3⟩
def flatR : List RK → Bool
 | [] => true
 | .d t :: rs => flatT t && flatR rs
 | .x _ t :: rs => flatT t && flatR rs
 | _ :: _ => false
def flatRo : List RK → Bool
 | [] => true
 | .d t :: rs => flatT t && flatRo rs
 | .o _ t :: rs => flatT t && flatRo rs
 | _ :: _ => false
structure CA (ps : List PK) where
 a : hl ps
 vk : List Nat
 po : Option (Nat × Nat)
 ro : Option Nat
def viewT (t : PT) (a : RA) : Option (den t × Nat) :=
 match a with
 | (.own _, some (.row k _ t' xs)) => match castT (.sl t') t xs with
  | some y => some (y, k)
  | none => none
 | (.ptr _ 0, some (.box k _ t' x)) => match castT (.cp t') t (some x) with
  | some y => some (y, k)
  | none => none
 | _ => none
def callArgs : (ps : List PK) → List RA → Option (CA ps)
 | [], [] => some ⟨(), [], none, none⟩
 | .d t :: ps, a :: as => match callArgs ps as with
  | none => none
  | some c => match asT t a with
   | some x => some ⟨(x, c.a), c.vk, c.po, c.ro⟩
   | none => match viewT t a with
    | some (x, k) => some ⟨(x, c.a), k :: c.vk, c.po, c.ro⟩
    | none => none
 | .p T t :: ps, a :: as => match callArgs ps as with
  | none => none
  | some c => match a, c.po with
   | (.ptr id 0, some (.box k T' t' x)), none => match Nat.beq T T' && !Nat.beq k 0 && !hasQ ps, castT t' t x with
    | true, some y => some ⟨(y, c.a), c.vk, some (id, k), none⟩
    | _, _ => none
   | _, _ => none
 | .r E t :: ps, a :: as => match callArgs ps as with
  | none => none
  | some c => match hasQ ps, a with
   | false, (.own _, some (.row k E' t' xs)) => match Nat.beq E E' && !Nat.beq k 0, castT (.sl t') (.sl t) xs with
    | true, some y => some ⟨(y, c.a), c.vk, none, some k⟩
    | _, _ => none
   | false, (.nil, _) => some ⟨([], c.a), c.vk, none, none⟩
   | _, _ => none
 | _, _ => none
def maskL : List Nat → Lab → Lab
 | [], lab => lab
 | k :: ks, lab => Gk.mask (maskL ks lab) k
theorem Top.maskL {w : World} : ∀ {ks : List Nat} {lab : Lab}, Top lab w → Top (maskL ks lab) w
 | [], _, t => t
 | _ :: _, _, t => (Top.maskL t).mask
theorem Keeps.maskL {w : World} : ∀ {ks : List Nat} {lab : Lab}, Keeps lab w (maskL ks lab) w
 | [], _ => Keeps.rfl'
 | k :: ks, lab => ⟨Nat.le_refl _, fun b hb h0 => ⟨by
   have := (Keeps.maskL (ks := ks) (lab := lab) (w := w)).2 b hb h0
   show Gk.mask (Gk.maskL ks lab) k b = 0
   unfold Gk.mask; rw [this.1]; split <;> rfl, rfl⟩⟩
theorem maskL_or : ∀ (ks : List Nat) (lab : Lab) (b : Nat), maskL ks lab b = 0 ∧ (lab b = 0 ∨ lab b ∈ ks) ∨ maskL ks lab b = lab b ∧ lab b ∉ ks
 | [], lab, b => .inr ⟨rfl, by simp⟩
 | k :: ks, lab, b => by
  show Gk.mask (maskL ks lab) k b = 0 ∧ _ ∨ Gk.mask (maskL ks lab) k b = lab b ∧ _
  unfold Gk.mask
  rcases maskL_or ks lab b with ⟨h1, h2⟩ | ⟨h1, h2⟩
  ·refine .inl ⟨by rw [h1]; split <;> rfl, ?_⟩
   rcases h2 with h2 | h2
   ·exact .inl h2
   ·exact .inr (by simp [h2])
  ·rw [h1]
   by_cases hk : lab b = k
   ·exact .inl ⟨by rw [if_pos hk], .inr (by simp [hk])⟩
   ·exact .inr ⟨by rw [if_neg hk], by simp [hk, h2]⟩
theorem Box.atM {lab : Lab} {w : World} {k g T : Nat} {cs : List Value} {ks : List Nat} (b : Box lab w k g T cs) (hk : k ∈ ks) : At (maskL ks lab) w ⟨g, 0, none⟩ cs := fun j u hu => by
 refine ⟨?_, ?_⟩
 ·show maskL ks lab g = 0
  rcases maskL_or ks lab g with ⟨h, _⟩ | ⟨_, h⟩
  ·exact h
  ·rw [b.2] at h; exact absurd hk h
 ·rw [add_lit0, Nat.zero_add, b.cell]; exact hu
theorem Own.maskS {t : PT} {lab : Lab} {w : World} {k E c : Nat} {oa : Option Addr} {xs : List (den t)} (o : Own (rep t) lab w k E oa c xs) : ∀ {ks : List Nat}, k ∈ ks → SL (rep t) (maskL ks lab) w oa c xs := by
 intro ks hk
 have s := o.view
 refine ⟨s.1, s.2.1, fun i x hx => ?_⟩
 obtain ⟨ad, cs, h1, h2, h3⟩ := s.at_ hx
 have kp : Keeps (Gk.mask lab k) w (maskL ks lab) w := ⟨Nat.le_refl _, fun b hb h0 => ⟨by
  rcases maskL_or ks lab b with ⟨h, _⟩ | ⟨h, hn⟩
  ·exact h
  ·unfold Gk.mask at h0
   by_cases hbk : lab b = k
   ·rw [hbk] at hn; exact absurd hk hn
   ·rw [if_neg hbk] at h0; rw [h]; exact h0, rfl⟩⟩
 exact ⟨ad, cs, h1, (rep t).keep kp h2, h3.keep kp⟩
section
variable {P : Program} {N : Nat} {ops : Array Oper} {F : List (Nat × Value)} {w w' : World} {e : Env} {lab lab' : Lab} {nid : Nat} {d : Nat} {v u : Value}
variable {ty : TypeId} {pos : String} {af : Array Edge} {g : Option (Nat × Bool)}
inductive ArgsA (F : List (Nat × Value)) (e : Env) (lab : Lab) (w : World) : List Operand → List RA → List Value → Prop where
 | nil : ArgsA F e lab w [] [] []
 | cons {x a v xs as vs} : ev F x = some v → AOK e lab w a v → ArgsA F e lab w xs as vs → ArgsA F e lab w (x :: xs) (a :: as) (v :: vs)
theorem ArgsA.evs {xs : List Operand} {as : List RA} {vs : List Value} (h : ArgsA F e lab w xs as vs) : Gk.evs F xs = some vs := by
 induction h with
 | nil => rfl
 | cons h1 _ _ ih => exact evs_cons h1 ih
theorem callArgs_nop : ∀ {ps : List PK} {as : List RA} {c : CA ps}, callArgs ps as = some c → (hasP ps = true ↔ ∃ p, c.po = some p)
 | [], [], c, h => by cases h; simp [hasP]
 | [], _ :: _, c, h => by cases h
 | .d t :: ps, [], c, h => by cases h
 | .p T t :: ps, [], c, h => by cases h
 | .r T t :: ps, [], c, h => by cases h
 | .r E t :: ps, a :: as, c, h => by
  unfold callArgs at h
  split at h
  ·cases h
  ·split at h
   ·rename_i hq
    split at h
    ·cases h
     show hasP ps = true ↔ _
     rw [hasQ_noP hq]; simp
    ·cases h
   ·rename_i hq
    cases h
    show hasP ps = true ↔ _
    rw [hasQ_noP hq]; simp
   ·cases h
 | .d t :: ps, a :: as, c, h => by
  unfold callArgs at h
  split at h
  ·cases h
  ·rename_i c' hc
   have ih := callArgs_nop hc
   split at h
   ·cases h; exact ih
   ·split at h
    ·cases h; exact ih
    ·cases h
 | .p T t :: ps, a :: as, c, h => by
  unfold callArgs at h
  split at h
  ·cases h
  ·rename_i c' hc
   split at h
   ·split at h
    ·cases h; simp [hasP]
    ·cases h
   ·cases h
def kpOf {ps : List PK} (c : CA ps) (k : Nat) : Nat := match c.po with
 | some p => p.2
 | none => c.ro.getD k
theorem args_any {kp kp' G G' : Nat} : ∀ {ps : List PK} {a : hl ps} {vs : List Value}, hasQ ps = false → ArgsOK kp G lab w ps a vs → ArgsOK kp' G' lab w ps a vs
 | [], _, [], _, _ => trivial
 | [], _, _ :: _, _, h => h.elim
 | .d t :: ps, a, [], _, h => h.elim
 | .d t :: ps, a, _ :: vs, hn, h => ⟨h.1, args_any (ps := ps) hn h.2⟩
 | .p _ _ :: _, _, _, hn, _ => by cases hn
 | .r _ _ :: _, _, _, hn, _ => by cases hn
theorem callArgs_noq : ∀ {ps : List PK} {as : List RA} {c : CA ps}, callArgs ps as = some c → hasQ ps = false → c.po = none ∧ c.ro = none
 | [], [], c, h, _ => by cases h; exact ⟨rfl, rfl⟩
 | [], _ :: _, c, h, _ => by cases h
 | .d t :: ps, [], c, h, _ => by cases h
 | .p _ _ :: _, _, _, _, hn => by cases hn
 | .r _ _ :: _, _, _, _, hn => by cases hn
 | .d t :: ps, a :: as, c, h, hn => by
  unfold callArgs at h
  split at h
  ·cases h
  ·rename_i c' hc
   have ih := callArgs_noq hc hn
   split at h
   ·cases h; exact ih
   ·split at h
    ·cases h; exact ih
    ·cases h
theorem Own.maskN {t : PT} {lab : Lab} {w : World} {k E c : Nat} {oa : Option Addr} {xs : List (den t)} (o : Own (rep t) lab w k E oa c xs) : ∀ {ks : List Nat}, k ∉ ks → Own (rep t) (maskL ks lab) w k E oa c xs
 | [], _ => o
 | q :: ks, h => by
  have h1 : k ≠ q := fun e => h (by simp [e])
  exact (Own.maskN o fun hm => h (by simp [hm])).mask (by rw [beq_false h1])
theorem callArgs_ok {G k0 : Nat} (xs : List Operand) : ∀ {ps : List PK} {as : List RA} {vs : List Value} {c : CA ps} {vk : List Nat}, ArgsA F e lab w xs as vs → callArgs ps as = some c → (∀ k ∈ c.vk, k ∈ vk) → (∀ p, c.po = some p → p.2 ∉ vk ∧ (e p.1).oa = some ⟨G, 0, none⟩) → (∀ q, c.ro = some q → q ∉ vk) →
  ArgsOK (kpOf c k0) G (maskL vk lab) w ps c.a vs := by
 intro ps as vs c vk h
 induction h generalizing ps with
 | nil =>
  intro hc hv hp hro
  cases ps with
  | nil => trivial
  | cons p ps => cases p <;> cases hc
 | cons hx ha hrest ih =>
  intro hc hv hp hro
  cases ps with
  | nil => cases hc
  | cons p ps =>
  cases p with
  | d t =>
   unfold callArgs at hc
   split at hc
   ·cases hc
   ·rename_i c' hc'
    split at hc
    ·rename_i y hy
     cases hc
     exact ⟨(asT_ok ha hy).keep Keeps.maskL, ih hc' hv hp hro⟩
    ·split at hc
     ·rename_i y k hy
      cases hc
      refine ⟨?_, ih hc' (fun q hq => hv q (by simp [hq])) hp hro⟩
      unfold viewT at hy
      split at hy
      ·rename_i id q E t' ys _
       split at hy
       ·rename_i y' hcast
        cases hy
        obtain ⟨rfl, rfl⟩ := castT_some hcast
        obtain ⟨b1, b2, b3⟩ := ha.2 _ rfl
        have b1 : (e id).n = ys.length := b1
        have h2 := ha.1
        have h2 : _ = Value.slice (e id).oa (e id).n (e id).c := h2
        rw [b1] at h2
        rw [h2]
        exact Dat.ofSl (b3.maskS (hv _ (by simp)))
       ·cases hy
      ·rename_i id q T' t' x' _
       split at hy
       ·rename_i y' hcast
        cases hy
        obtain ⟨rfl, rfl⟩ := castT_some hcast
        obtain ⟨G', cs, c1, c2, c3⟩ := ha.2 _ rfl
        obtain ⟨G'', c4, c5⟩ := ha.1
        have c1 : (e id).oa = some ⟨G', 0, none⟩ := c1
        rw [c1] at c4; cases c4
        exact ⟨[_], ⟨⟨G', 0, none⟩, cs, by rw [c5], c2.atM (hv _ (by simp)), (rep t').keep Keeps.maskL c3⟩, rfl⟩
       ·cases hy
      ·cases hy
     ·cases hc
  | p T t =>
   unfold callArgs at hc
   split at hc
   ·cases hc
   ·rename_i c' hc'
    split at hc
    ·rename_i id k T' t' y hpo
     split at hc
     ·rename_i y' hb hcast
      cases hc
      simp only [Bool.and_eq_true] at hb
      obtain rfl := Nat.eq_of_beq_eq_true hb.1.1
      obtain ⟨rfl, rfl⟩ := castT_some hcast
      obtain ⟨hk, hG⟩ := hp _ rfl
      obtain ⟨g', cs, b1, b2, b3⟩ := ha.2 _ rfl
      have b1 : (e id).oa = some ⟨g', 0, none⟩ := b1
      have hG : (e id).oa = some ⟨G, 0, none⟩ := hG
      rw [b1] at hG; cases hG
      obtain ⟨g2, h3, h4⟩ := ha.1
      have h3 : (e id).oa = some ⟨g2, 0, none⟩ := h3
      rw [b1] at h3; cases h3
      have hnp := callArgs_nop hc'
      refine ⟨h4, ⟨cs, ⟨b2.1, ?_⟩, (rep _).keep Keeps.maskL b3⟩, ?_⟩
      ·show maskL vk lab G = k
       rcases maskL_or vk lab G with ⟨_, h | h⟩ | ⟨h, _⟩
       ·rw [b2.2] at h; simp [h] at hb
       ·rw [b2.2] at h; exact absurd h hk
       ·rw [h, b2.2]
      · -- no pointer among the rest
       have hq : hasQ ps = false := by simpa using hb.2
       obtain ⟨n1, n2⟩ := callArgs_noq hc' hq
       exact args_any hq (ih hc' hv (by rw [n1]; intro p hp; cases hp) (by rw [n2]; intro p hp; cases hp))
     ·cases hc
    ·cases hc
  | r E t =>
   unfold callArgs at hc
   split at hc
   ·cases hc
   ·rename_i c' hc'
    split at hc
    ·rename_i id k E' t' ys hq
     obtain ⟨n1, n2⟩ := callArgs_noq hc' hq
     split at hc
     ·rename_i y hb hcast
      cases hc
      simp only [Bool.and_eq_true] at hb
      obtain rfl := Nat.eq_of_beq_eq_true hb.1
      obtain ⟨h0, h1⟩ := castT_some hcast
      cases h0
      cases h1
      obtain ⟨b1, b2, b3⟩ := ha.2 _ rfl
      have b1 : (e id).n = ys.length := b1
      have h2 := ha.1
      have h2 : _ = Value.slice (e id).oa (e id).n (e id).c := h2
      rw [b1] at h2
      exact ⟨⟨_, _, h2, b3.maskN (hro _ rfl)⟩, args_any hq (ih hc' hv (by rw [n1]; intro p hp; cases hp) (by rw [n2]; intro p hp; cases hp))⟩
     ·cases hc
    ·rename_i hq
     obtain ⟨n1, n2⟩ := callArgs_noq hc' hq
     cases hc
     exact ⟨⟨none, 0, ha.1, Own.nil⟩, args_any hq (ih hc' hv (by rw [n1]; intro p hp; cases hp) (by rw [n2]; intro p hp; cases hp))⟩
    ·cases hc
def resSV (nid : Nat) : (rs : List RK) → hlR rs → List SV
 | [], _ => []
 | .d t :: rs, r => .dat t r.1 :: resSV nid rs r.2
 | .o _ _ :: rs, r => .own nid :: resSV nid rs r.2
 | .p _ _ :: rs, r => .ptr nid 0 :: resSV nid rs r.2
 | .x _ _ :: rs, r => resSV nid rs r.2
 | .h t off _ _ :: rs, r => .agh t r.1.1 off nid :: resSV nid rs r.2
def resPut (nid k : Nat) (po : Nat × Nat) : (rs : List RK) → hlR rs → List (Nat × MEnt)
 | [], _ => []
 | .d _ :: rs, r => resPut nid k po rs r.2
 | .o E t :: rs, r => (nid, .row k E t r.1) :: resPut nid k po rs r.2
 | .p T t :: rs, r => (nid, .box k T t r.1) :: resPut nid k po rs r.2
 | .x T t :: rs, r => (po.1, .box po.2 T t r.1) :: resPut nid k po rs r.2
 | .h _ _ E u :: rs, r => (nid, .row k E u r.1.2) :: resPut nid k po rs r.2
def freshN : List RK → Nat
 | [] => 0
 | .o _ _ :: rs => freshN rs + 1
 | .p _ _ :: rs => freshN rs + 1
 | .h _ _ _ _ :: rs => freshN rs + 1
 | _ :: rs => freshN rs
def retSV : List SV → SV
 | [s] => s
 | l => .tup l
def callOut (nid k : Nat) (po : Option (Nat × Nat)) (ro : Option Nat) (rs : List RK) (r : hlR rs) : Out :=
 ⟨retSV (resSV nid rs r), k :: (match po with | some p => [p.2] | none => match ro with | some q => [q] | none => []), resPut nid k (po.getD (0, 0)) rs r, []⟩
def opCall (c : Con P) (nid k : Nat) (as : List RA) : OpRes :=
 match callArgs c.ps as, Nat.beq k 0, Nat.ble (freshN (c.rs ++ outs c.ps)) 1 with
 | some ca, false, true => match ca.vk.isEmpty || ((flatR (c.rs ++ outs c.ps) || (flatRo (c.rs ++ outs c.ps) && !hasQ c.ps)) && (match ca.po with | some p => !ca.vk.contains p.2 | none => true)) with
  | true => match (match ca.ro with | some q => !ca.vk.contains q | none => true) with
   | true => .bnd (tupR (c.rs ++ outs c.ps)) (app1 c.ps c.m ca.a) fun r => .ret (callOut nid k ca.po ca.ro _ (toHL _ r))
   | false => .stuck
  | false => .stuck
 | _, _, _ => .stuck
def datOut (o : Out) : Option Out :=
 match o.sv, o.puts, o.re with
 | .own id, [(id', .row k _ t xs)], [] => match Nat.beq id id' && o.ks.contains k with
  | true => some ⟨.dat (.sl t) xs, o.ks, [], []⟩
  | false => none
 | .agh t x off id, [(id', .row k _ u xs)], [] => match Nat.beq id id' && o.ks.contains k && aggT t, setAt t off (.sl u) x xs with
  | true, some x' => some ⟨.dat t x', o.ks, [], []⟩
  | _, _ => none
 | _, _, _ => none
def opCallB (c : Con P) (nid k : Nat) (as : List RA) : OpRes :=
 match callArgs c.ps as, Nat.beq k 0, Nat.ble (freshN (c.rs ++ outs c.ps)) 1 with
 | some ca, false, true => match ca.vk.isEmpty || ((flatR (c.rs ++ outs c.ps) || (flatRo (c.rs ++ outs c.ps) && !hasQ c.ps)) && (match ca.po with | some p => !ca.vk.contains p.2 | none => true)) with
  | true => match (match ca.ro with | some q => !ca.vk.contains q | none => true) with
   | true => .bnd (tupR (c.rs ++ outs c.ps)) (app1 c.ps c.m ca.a) fun r => match datOut (callOut nid k ca.po ca.ro _ (toHL _ r)) with | some o => .ret o | none => .stuck
   | false => .stuck
  | false => .stuck
 | _, _, _ => .stuck
def freshEI (lab : Lab) (w : World) (k : Nat) : (rs : List RK) → hlR rs → List Value → EI → Prop
 | .o E t :: _, r, v :: _, ei => v = .slice ei.oa ei.n ei.c ∧ ei.n = List.length (α := den t) r.1 ∧ ei.sz = csz t ∧ Own (rep t) lab w k E ei.oa ei.c r.1
 | .p T t :: _, r, v :: _, ei => ∃ g cs, ei.oa = some ⟨g, 0, none⟩ ∧ v = .pointer (some ⟨g, 0, none⟩) ∧ Box lab w k g T cs ∧ (rep t).rd lab w cs r.1
 | .h t off E u :: _, r, v :: _, ei => (∃ cs : List Value, v = .agg cs.toArray ∧ (rep t).rd lab w (cs.set off (.slice none 0 0)) r.1.1 ∧ cs[off]? = some (.slice ei.oa ei.n ei.c)) ∧ ei.n = List.length (α := den u) r.1.2 ∧ ei.sz = csz u ∧ Own (rep u) lab w k E ei.oa ei.c r.1.2
 | .d _ :: rs, r, _ :: vs, ei => freshEI lab w k rs r.2 vs ei
 | .x _ _ :: rs, r, vs, ei => freshEI lab w k rs r.2 vs ei
 | _, _, _, _ => True
theorem fresh_ex {k kp gp : Nat} : ∀ {rs : List RK} {r : hlR rs} {us : List Value}, ResOK k kp gp lab w rs r us → ∃ ei, freshEI lab w k rs r us ei
 | [], _, _, _ => ⟨⟨none, 0, 0, 0, 0, .un, []⟩, trivial⟩
 | .d t :: rs, r, [], h => h.elim
 | .d t :: rs, r, u :: us, h => by obtain ⟨ei, h'⟩ := fresh_ex h.2; exact ⟨ei, h'⟩
 | .o E t :: rs, r, [], h => h.elim
 | .o E t :: rs, r, u :: us, h => by
  obtain ⟨⟨oa, c, h1, h2⟩, _⟩ := h
  exact ⟨⟨oa, List.length (α := den t) r.1, c, csz t, 0, .un, []⟩, h1, rfl, rfl, h2⟩
 | .p T t :: rs, r, [], h => h.elim
 | .p T t :: rs, r, u :: us, h => by
  obtain ⟨⟨g, cs, h1, h2, h3⟩, _⟩ := h
  exact ⟨⟨some ⟨g, 0, none⟩, 0, 0, 0, 0, .un, []⟩, g, cs, rfl, h1, h2, h3⟩
 | .h t off E u :: rs, r, [], h => h.elim
 | .h t off E u :: rs, r, v :: us, h => by
  obtain ⟨⟨cs, oa, c, h1, h2, h3, h4⟩, _⟩ := h
  exact ⟨⟨oa, List.length (α := den u) r.1.2, c, csz u, 0, .un, []⟩, ⟨cs, h1, h2, h3⟩, rfl, rfl, h4⟩
 | .x T t :: rs, r, us, h => by obtain ⟨ei, h'⟩ := fresh_ex h.2; exact ⟨ei, h'⟩
theorem res_sv {k kp gp : Nat} {e' : Env} (nid : Nat) : ∀ {rs : List RK} {r : hlR rs} {us : List Value}, ResOK k kp gp lab w rs r us → (freshN rs = 0 ∨ freshN rs ≤ 1 ∧ freshEI lab w k rs r us (e' nid)) → All2 (fun s u => RV0 e' s lab w u) (resSV nid rs r) us
 | [], _, [], _, _ => .nil
 | [], _, _ :: _, h, _ => h.elim
 | .d t :: rs, r, [], h, _ => h.elim
 | .d t :: rs, r, u :: us, h, hf => .cons h.1 (res_sv nid h.2 hf)
 | .o E t :: rs, r, [], h, _ => h.elim
 | .o E t :: rs, r, u :: us, h, hf => by
  rcases hf with hf | ⟨hf, h1, h2, _⟩
  ·simp [freshN] at hf
  ·exact .cons (by show u = _; rw [h1]) (res_sv nid h.2 (.inl (by simp [freshN] at hf; omega)))
 | .p T t :: rs, r, [], h, _ => h.elim
 | .p T t :: rs, r, u :: us, h, hf => by
  rcases hf with hf | ⟨hf, g, cs, h1, h2, _⟩
  ·simp [freshN] at hf
  ·exact .cons ⟨g, h1, h2⟩ (res_sv nid h.2 (.inl (by simp [freshN] at hf; omega)))
 | .h t off E u :: rs, r, [], h, _ => h.elim
 | .h t off E u :: rs, r, v :: us, h, hf => by
  rcases hf with hf | ⟨hf, h1, _⟩
  ·simp [freshN] at hf
  ·exact .cons h1 (res_sv nid h.2 (.inl (by simp [freshN] at hf; omega)))
 | .x T t :: rs, r, us, h, hf => by
  have : resSV nid (.x T t :: rs) r = resSV nid rs r.2 := rfl
  rw [this]
  exact res_sv nid h.2 hf
theorem res_put {k kp gp : Nat} {rs0 : List RK} {e' : Env} (nid : Nat) {po : Nat × Nat} (hpo : ∀ T t, RK.x T t ∈ rs0 → po.2 = kp) (hgp : ∀ T t, RK.x T t ∈ rs0 → (e' po.1).oa = some ⟨gp, 0, none⟩) : ∀ {rs : List RK} {r : hlR rs} {us : List Value}, (∀ q ∈ rs, q ∈ rs0) → ResOK k kp gp lab w rs r us → (freshN rs = 0 ∨ freshN rs ≤ 1 ∧ freshEI lab w k rs r us (e' nid)) →
  ∀ p ∈ resPut nid k po rs r, MemOK e' lab w p.1 p.2
 | [], _, _, _, _, _, p, hp => by simp [resPut] at hp
 | .d t :: rs, r, [], _, h, _, _, _ => h.elim
 | .d t :: rs, r, u :: us, hs, h, hf, p, hp => res_put nid hpo hgp (fun q hq => hs q (by simp [hq])) h.2 hf p hp
 | .o E t :: rs, r, [], _, h, _, _, _ => h.elim
 | .o E t :: rs, r, u :: us, hs, h, hf, p, hp => by
  rcases hf with hf | ⟨hf, h1, h2, h3, h4⟩
  ·simp [freshN] at hf
  ·rcases List.mem_cons.1 hp with rfl | hp
   ·exact ⟨h2, h3, h4⟩
   ·exact res_put nid hpo hgp (fun q hq => hs q (by simp [hq])) h.2 (.inl (by simp [freshN] at hf; omega)) p hp
 | .p T t :: rs, r, [], _, h, _, _, _ => h.elim
 | .p T t :: rs, r, u :: us, hs, h, hf, p, hp => by
  rcases hf with hf | ⟨hf, g, cs, h1, h2, h3, h4⟩
  ·simp [freshN] at hf
  ·rcases List.mem_cons.1 hp with rfl | hp
   ·exact ⟨g, cs, h1, h3, h4⟩
   ·exact res_put nid hpo hgp (fun q hq => hs q (by simp [hq])) h.2 (.inl (by simp [freshN] at hf; omega)) p hp
 | .h t off E u :: rs, r, [], _, h, _, _, _ => h.elim
 | .h t off E u :: rs, r, v :: us, hs, h, hf, p, hp => by
  rcases hf with hf | ⟨hf, _, h2, h3, h4⟩
  ·simp [freshN] at hf
  ·rcases List.mem_cons.1 hp with rfl | hp
   ·exact ⟨h2, h3, h4⟩
   ·exact res_put nid hpo hgp (fun q hq => hs q (by simp [hq])) h.2 (.inl (by simp [freshN] at hf; omega)) p hp
 | .x T t :: rs, r, us, hs, h, hf, p, hp => by
  rcases List.mem_cons.1 hp with rfl | hp
  ·obtain ⟨cs, h1, h2⟩ := h.1
   exact ⟨gp, cs, hgp T t (hs _ (by simp)), by rw [hpo T t (hs _ (by simp))]; exact h1, h2⟩
  ·exact res_put nid hpo hgp (fun q hq => hs q (by simp [hq])) h.2 hf p hp
theorem ret_RV {e' : Env} {ss : List SV} {us : List Value} (h : All2 (fun s u => RV0 e' s lab w u) ss us) : RV e' (retSV ss) lab w (retv us) := by
 cases h with
 | nil => exact ⟨[], rfl, .nil⟩
 | cons h1 h2 =>
  cases h2 with
  | nil => exact RV.of0 h1
  | cons h2 h3 => exact ⟨_, rfl, .cons h1 (.cons h2 h3)⟩
theorem res_flat {k kp gp : Nat} {lab2 : Lab} : ∀ {rs : List RK} {r : hlR rs} {us : List Value}, flatR rs = true → (∀ T t, RK.x T t ∈ rs → lab gp = kp → lab2 gp = kp) → ResOK k kp gp lab w rs r us → ResOK k kp gp lab2 w rs r us
 | [], _, [], _, _, _ => trivial
 | [], _, _ :: _, _, _, h => h.elim
 | .d t :: rs, r, [], _, _, h => h.elim
 | .d t :: rs, r, u :: us, hf, hl, h => by
  simp only [flatR, Bool.and_eq_true] at hf
  obtain ⟨⟨cs, h1, h2⟩, h3⟩ := h
  exact ⟨⟨cs, flat_rd hf.1 h1, h2⟩, res_flat hf.2 (fun T t hm => hl T t (by simp [hm])) h3⟩
 | .o E t :: rs, r, _, hf, _, _ => by cases hf
 | .p T t :: rs, r, _, hf, _, _ => by cases hf
 | .h _ _ _ _ :: rs, r, _, hf, _, _ => by cases hf
 | .x T t :: rs, r, us, hf, hl, h => by
  simp only [flatR, Bool.and_eq_true] at hf
  obtain ⟨⟨cs, h1, h2⟩, h3⟩ := h
  exact ⟨⟨cs, ⟨h1.1, hl T t (by simp) h1.2⟩, flat_rd hf.1 h2⟩, res_flat hf.2 (fun T t hm => hl T t (by simp [hm])) h3⟩
theorem Alls.flat {t : PT} {lab lab2 : Lab} {w : World} (hf : flatT t = true) : ∀ {css : List (List Value)} {xs : List (den t)}, Alls (rep t) lab w css xs → Alls (rep t) lab2 w css xs
 | [], [], _ => trivial
 | _ :: _, _ :: _, ⟨h1, h2⟩ => ⟨flat_rd hf h1, Alls.flat hf h2⟩
theorem res_flatO {k kp gp : Nat} {lab2 : Lab} : ∀ {rs : List RK} {r : hlR rs} {us : List Value}, flatRo rs = true → (∀ b, lab b = k → lab2 b = k) → ResOK k kp gp lab w rs r us → ResOK k kp gp lab2 w rs r us
 | [], _, [], _, _, _ => trivial
 | [], _, _ :: _, _, _, h => h.elim
 | .d t :: rs, r, [], _, _, h => h.elim
 | .d t :: rs, r, u :: us, hf, hl, h => by
  simp only [flatRo, Bool.and_eq_true] at hf
  obtain ⟨⟨cs, h1, h2⟩, h3⟩ := h
  exact ⟨⟨cs, flat_rd hf.1 h1, h2⟩, res_flatO hf.2 hl h3⟩
 | .o E t :: rs, r, [], _, _, h => h.elim
 | .o E t :: rs, r, u :: us, hf, hl, h => by
  simp only [flatRo, Bool.and_eq_true] at hf
  obtain ⟨⟨oa, c, h1, css, h2, h3⟩, h4⟩ := h
  refine ⟨⟨oa, c, h1, css, h2.flat hf.1, ?_⟩, res_flatO hf.2 hl h4⟩
  rcases h3 with h3 | ⟨g, cur, b1, b2, b3, b4, b5, b6, b7⟩
  ·exact .inl h3
  ·exact .inr ⟨g, cur, b1, b2, b3, b4, b5, b6, hl g b7⟩
 | .p T t :: rs, r, _, hf, _, _ => by cases hf
 | .h _ _ _ _ :: rs, r, _, hf, _, _ => by cases hf
 | .x T t :: rs, r, us, hf, _, _ => by cases hf
theorem outs_mem {T : TypeId} {t : PT} : ∀ {ps : List PK}, RK.x T t ∈ outs ps → hasP ps = true
 | [], h => by simp [outs] at h
 | .d _ :: ps, h => outs_mem (ps := ps) h
 | .r _ _ :: ps, h => outs_mem (ps := ps) h
 | .p _ _ :: ps, h => rfl
theorem nb_ne {k : Nat} (h : (!Nat.beq k 0) = true) : k ≠ 0 := fun e => by subst e; cases h
theorem call_box {xs : List Operand} {ps : List PK} {as : List RA} {vs : List Value} {cc : CA ps} (h : ArgsA F e lab w xs as vs) : callArgs ps as = some cc → ∀ p, cc.po = some p → ∃ G, (e p.1).oa = some ⟨G, 0, none⟩ ∧ p.2 ≠ 0 ∧ lab G = p.2 := by
 induction h generalizing ps with
 | nil =>
  intro hc p hp
  cases ps with
  | nil => cases hc; cases hp
  | cons p ps => cases p <;> cases hc
 | cons hx ha hrest ih =>
  intro hc p hp
  cases ps with
  | nil => cases hc
  | cons q ps =>
  cases q with
  | d t =>
   unfold callArgs at hc
   split at hc
   ·cases hc
   ·rename_i c' hc'
    split at hc
    ·cases hc; exact ih hc' p hp
    ·split at hc
     ·cases hc; exact ih hc' p hp
     ·cases hc
  | p T t =>
   unfold callArgs at hc
   split at hc
   ·cases hc
   ·split at hc
    ·split at hc
     ·rename_i y' hb hcast
      cases hc
      cases hp
      obtain ⟨g', cs, b1, b2, b3⟩ := ha.2 _ rfl
      simp only [Bool.and_eq_true] at hb
      exact ⟨g', b1, nb_ne hb.1.2, b2.2⟩
     ·cases hc
    ·cases hc
  | r E t =>
   unfold callArgs at hc
   split at hc
   ·cases hc
   ·split at hc
    ·split at hc
     ·cases hc; cases hp
     ·cases hc
    ·cases hc; cases hp
    ·cases hc
theorem call_row {ps : List PK} {as : List RA} {cc : CA ps} (h : callArgs ps as = some cc) : ∀ q, cc.ro = some q → q ≠ 0 ∧ cc.po = none := by
 induction ps generalizing as with
 | nil =>
  intro q hq
  cases as with
  | nil => cases h; cases hq
  | cons _ _ => cases h
 | cons p ps ih =>
  intro q hq
  cases as with
  | nil => cases p <;> cases h
  | cons a as =>
  cases p with
  | d t =>
   unfold callArgs at h
   split at h
   ·cases h
   ·rename_i c' hc'
    split at h
    ·cases h; exact ih hc' q hq
    ·split at h
     ·cases h; exact ih hc' q hq
     ·cases h
  | p T t =>
   unfold callArgs at h
   split at h
   ·cases h
   ·split at h
    ·split at h
     ·cases h; cases hq
     ·cases h
    ·cases h
  | r E t =>
   unfold callArgs at h
   split at h
   ·cases h
   ·split at h
    ·split at h
     ·rename_i hb _
      cases h
      cases hq
      simp only [Bool.and_eq_true] at hb
      exact ⟨nb_ne hb.2, rfl⟩
     ·cases h
    ·cases h; cases hq
    ·cases h
theorem loc_callG {c : Con P} {k : Nat} {xs : List Operand} {as : List RA} {vs : List Value} {out : Out} {o : Oper} (hcall : ∀ (R : Ending → World → Prop) (K : Kont), Calls P c.fid vs.toArray w R → (∀ e' w', R e' w' → ∃ v, e' = .returned v ∧ LW P N ops [] ((d, v) :: F) w' K) → LW P N ops [o] F w K) (hx : c.rs.all (fun r => match r with | .x _ _ => false | _ => true) = true) (ha : ArgsA F e lab w xs as vs) (hids : ∀ ca : CA c.ps, callArgs c.ps as = some ca → ∀ p, ca.po = some p → p.1 < nid)
  (hr : Res (opCall c nid k as) out) (tp : Top lab w) (gl : GL lab w) :
  LW P N ops [o] F w (Fin N F e nid lab w (some d) out) := by
 unfold opCall at hr
 split at hr
 ·rename_i ca hca hk hfr
  split at hr
  ·rename_i hview
   split at hr
   ·rename_i hrow
    cases hr with
    | bnd hm hr =>
     rename_i r
     obtain rfl := hr.ret_eq
     have hk0 : k ≠ 0 := ne0 hk
     have hfr' : freshN (c.rs ++ outs c.ps) ≤ 1 := Nat.le_of_ble_eq_true hfr
     have hnp := callArgs_nop hca
     -- the box behind the pointer
     obtain ⟨G, hG⟩ : ∃ G, ∀ p, ca.po = some p → (e p.1).oa = some ⟨G, 0, none⟩ ∧ p.2 ≠ 0 ∧ lab G = p.2 := by
      cases hpo : ca.po with
      | none => exact ⟨0, fun p h => by cases h⟩
      | some p =>
       obtain ⟨G, h⟩ := call_box ha hca p hpo
       exact ⟨G, fun q hq => by cases hq; exact h⟩
     have hxp : ∀ {T t}, RK.x T t ∈ c.rs ++ outs c.ps → hasP c.ps = true := fun {T t} hm => by
      rcases List.mem_append.1 hm with hm | hm
      ·have := List.all_eq_true.1 hx _ hm; cases this
      ·exact outs_mem hm
     have hvk : ∀ p, ca.po = some p → p.2 ∉ ca.vk := by
      intro p hp
      simp only [Bool.or_eq_true, Bool.and_eq_true] at hview
      rcases hview with hv | ⟨_, hv⟩
      ·intro hm; rw [List.isEmpty_iff.1 hv] at hm; simp at hm
      ·rw [hp] at hv; simpa using hv
     have hargs := callArgs_ok (G := G) (k0 := k) xs ha hca (vk := ca.vk) (fun _ h => h) (fun p hp => ⟨hvk p hp, (hG p hp).1⟩) (fun q hq => by
      rw [hq] at hrow; simpa using hrow)
     have hkp : hasQ c.ps = true → kpOf ca k ≠ 0 := fun _ => by
      unfold kpOf
      cases hp : ca.po with
      | some p => exact (hG p hp).2.1
      | none =>
       cases hq : ca.ro with
       | some q => exact (call_row hca q hq).1
       | none => exact hk0
     have hkpo : ∀ p, ca.po = some p → kpOf ca k = p.2 := fun p hp => by unfold kpOf; rw [hp]
     refine hcall _ _ (c.ok _ _ hm k (kpOf ca k) G (maskL ca.vk lab) w vs tp.maskL (gl.keep Keeps.maskL) hkp hk0 hargs) ?_
     rintro _ w' ⟨lab1, us, rfl, hs, hres⟩
     refine ⟨_, rfl, LW.nil fun q hq => ?_⟩
     -- the labels behind the call
     obtain ⟨lab2, hs2, hres2⟩ : ∃ lab2, Stp (k :: (match ca.po with | some p => [p.2] | none => match ca.ro with | some q => [q] | none => [])) lab w lab2 w' ∧ ResOK k (kpOf ca k) G lab2 w' (c.rs ++ outs c.ps) (toHL _ r) us := by
      have hks : ∀ q, (ksP c.ps (kpOf ca k)).contains q = true → (k :: (match ca.po with | some p => [p.2] | none => match ca.ro with | some q => [q] | none => [])).contains q = true := fun q hq => by
       unfold ksP at hq
       split at hq
       ·unfold kpOf at hq
        cases hp : ca.po with
        | some p => rw [hp] at hq; simp at hq ⊢; exact .inr hq
        | none =>
         rw [hp] at hq
         cases hr : ca.ro with
         | some r => rw [hr] at hq; simp at hq ⊢; exact .inr hq
         | none => rw [hr] at hq; simp at hq ⊢; exact hq
       ·simp at hq
      by_cases hem : ca.vk = []
      ·rw [hem] at hs
       exact ⟨lab1, hs.mono hks, hres⟩
      ·have hflat : flatR (c.rs ++ outs c.ps) = true ∨ flatRo (c.rs ++ outs c.ps) = true ∧ hasQ c.ps = false := by
        simp only [Bool.or_eq_true, Bool.and_eq_true, Bool.not_eq_true'] at hview
        rcases hview with hv | ⟨hv, _⟩
        ·exact absurd (List.isEmpty_iff.1 hv) hem
        ·exact hv
       refine ⟨fun b => if b < w.heap.size then lab b else lab1 b, ⟨hs.os, hs.tape, hs.output, hs.size, fun b hb hl => ?_, fun b hb _ => if_pos hb, fun b hb => ?_⟩, ?_⟩
       rotate_left 2
       ·rcases hflat with hflat | ⟨hflat, hnq⟩
        ·refine res_flat hflat (fun T t hm hl => ?_) hres
         obtain ⟨p, hp⟩ := hnp.1 (hxp hm)
         show (if G < w.heap.size then lab G else lab1 G) = _
         split
         ·rw [hkpo p hp]; exact (hG p hp).2.2
         ·exact hl
        ·refine res_flatO hflat (fun b hb => ?_) hres
         show (if b < w.heap.size then lab b else lab1 b) = k
         split
         ·rename_i hlt
          have h1 := hs.same b hlt (.inr (by unfold ksP; rw [hnq]; rfl))
          rw [hb] at h1
          rcases maskL_or ca.vk lab b with ⟨h, _⟩ | ⟨h, _⟩
          ·rw [h] at h1; exact absurd h1 hk0
          ·rw [← h, ← h1]
         ·exact hb
       ·refine hs.block b hb ?_
        rcases maskL_or ca.vk lab b with ⟨h, _⟩ | ⟨h, _⟩
        ·exact .inl h
        ·rw [h]
         rcases hl with hl | hl
         ·exact .inl hl
         ·refine .inr ?_
          cases hc : (ksP c.ps (kpOf ca k)).contains (lab b) with
          | false => rfl
          | true => rw [hks _ hc] at hl; cases hl
       ·have := hs.size
        show (if b < w.heap.size then lab b else lab1 b) = 0
        rw [if_neg (by omega)]; exact hs.top b hb
     obtain ⟨ei, hei⟩ := fresh_ex hres2
     have hfe : freshN (c.rs ++ outs c.ps) = 0 ∨ freshN (c.rs ++ outs c.ps) ≤ 1 ∧ freshEI lab2 w' k (c.rs ++ outs c.ps) (toHL _ r) us (upE e nid ei nid) := .inr ⟨hfr', by rw [upE_eq]; exact hei⟩
     refine ⟨rfl, upE e nid ei, lab2, _, hq, fun _ hi => upE_out hi, hs2, ret_RV (res_sv nid hres2 hfe), ?_, fun p hp => by simp [callOut] at hp⟩
     refine res_put (rs0 := c.rs ++ outs c.ps) nid (gp := G) ?_ (fun T t hm => ?_) (fun _ h => h) hres2 hfe
     ·intro T t hm
      obtain ⟨p, hp⟩ := hnp.1 (hxp hm)
      rw [hkpo p hp, hp]; rfl
     ·obtain ⟨p, hp⟩ := hnp.1 (hxp hm)
      rw [hp]
      have hlt := hids ca hca p hp
      show (upE e nid ei p.1).oa = _
      rw [upE_ne (by omega)]
      exact (hG p hp).1
   ·cases hr
  ·cases hr
 ·cases hr
theorem loc_call {c : Con P} {f : FuncId} {k : Nat} {xs : List Operand} {as : List RA} {vs : List Value} {ts : Array TypeId} {out : Out} (hf : c.fid = f) (hx : c.rs.all (fun r => match r with | .x _ _ => false | _ => true) = true) (ha : ArgsA F e lab w xs as vs) (hids : ∀ ca : CA c.ps, callArgs c.ps as = some ca → ∀ p, ca.po = some p → p.1 < nid)
  (hr : Res (opCall c nid k as) out) (tp : Top lab w) (gl : GL lab w) (hw : Wn ops F g) (hd : Nat.blt d N = true) :
  LW P N ops [⟨some d, .call { callee := .value (.func f), args := xs.toArray, argTypes := ts }, ty, pos, af, g⟩] F w (Fin N F e nid lab w (some d) out) := by
 subst hf
 exact loc_callG (fun R K h1 h2 => LW.call c.fn h1 hw hd ha.evs h2) hx ha hids hr tp gl
theorem LW.callC {f : FuncId} {xs : List Operand} {vs ps : List Value} {ts : Array TypeId} {s : Nat} {R : Ending → World → Prop} {rest : List Oper} {K : Kont} (hf : Fn? P f) (hc : Calls P f (vs ++ ps).toArray w R) (hw : Wn ops F g) (hdN : Nat.blt d N = true) (hs : ev F (.tmp s) = some (.func (.func f) #[] ps.toArray)) (hx : evs F xs = some vs)
  (h : ∀ e w', R e w' → ∃ v, e = .returned v ∧ LW P N ops rest ((d, v) :: F) w' K) : LW P N ops (⟨some d, .call { callee := .value (.tmp s), args := xs.toArray, argTypes := ts }, ty, pos, af, g⟩ :: rest) F w K :=
 LW.gen rfl hw fun a ha => by
  obtain ⟨fn, h1, h2, h3⟩ := hf.fn
  unfold Oper.wp
  have hr : (execOp a.eval ⟨some d, .call { callee := .value (.tmp s), args := xs.toArray, argTypes := ts }, ty, pos, af, g⟩).run P w = .ok (.enter f (vs ++ ps).toArray) w := by
   have e : (xs.toArray.map a.eval) = vs.toArray := by rw [List.map_toArray, ha.evals hx]
   simp only [execOp, resolve, e, ha.eval hs, Deferred.ofValue, invoke, callFunc, Sem.run_bind, Sem.run_pure, Result.andThen_ok, run_program, h1, h2, h3, Bool.false_eq_true, if_false]; simp
  rw [hr, Oper.upon_enter]
  refine hc.mono fun e w' hR => ?_
  obtain ⟨v, rfl, hl⟩ := h e w' hR
  exact hl _ (ha.put hdN v)
def capRA : (t : PT) → den t → Option (List RA)
 | .un, _ => some []
 | .pr (.cp a) b, x => match capRA b x.2 with
  | some r => some ((.dat (.cp a) x.1, none) :: r)
  | none => none
 | _, _ => none
theorem capRA_ok : ∀ {t : PT} {x : den t} {as : List RA} {ps : List Value}, capRA t x = some as → (rep t).rd lab w ps x → ArgsA F e lab w (ps.map .const) as ps
 | .un, x, as, ps, h, hr => by
  cases h
  have hr : ps = [] := hr
  subst hr; exact .nil
 | .pr (.cp a) b, x, as, ps, h, hr => by
  unfold capRA at h
  split at h
  ·rename_i r hb
   cases h
   obtain ⟨c1, c2, rfl, h1, h2⟩ := hr
   obtain ⟨p, rfl⟩ : ∃ p, c1 = [p] := List.length_eq_one_iff.1 ((rep (.cp a)).len h1)
   exact .cons rfl ⟨⟨[p], h1, rfl⟩, fun m hm => by cases hm⟩ (capRA_ok hb h2)
  ·cases h
 | .int _, _, _, _, h, _ => by cases h
 | .bool, _, _, _, h, _ => by cases h
 | .str, _, _, _, h, _ => by cases h
 | .sl _, _, _, _, h, _ => by cases h
 | .st _, _, _, _, h, _ => by cases h
 | .cp _, _, _, _, h, _ => by cases h
 | .clo _ _, _, _, _, h, _ => by cases h
 | .tree, _, _, _, h, _ => by cases h
 | .err, _, _, _, h, _ => by cases h
 | .fl, _, _, _, h, _ => by cases h
 | .pr (.int _) _, _, _, _, h, _ => by cases h
 | .pr .bool _, _, _, _, h, _ => by cases h
 | .pr .str _, _, _, _, h, _ => by cases h
 | .pr (.sl _) _, _, _, _, h, _ => by cases h
 | .pr (.pr _ _) _, _, _, _, h, _ => by cases h
 | .pr (.st _) _, _, _, _, h, _ => by cases h
 | .pr .un _, _, _, _, h, _ => by cases h
 | .pr (.clo _ _) _, _, _, _, h, _ => by cases h
 | .pr .tree _, _, _, _, h, _ => by cases h
 | .pr .err _, _, _, _, h, _ => by cases h
 | .pr .fl _, _, _, _, h, _ => by cases h
theorem ArgsA.append {xs ys : List Operand} {as bs : List RA} {vs us : List Value} (h : ArgsA F e lab w xs as vs) (h2 : ArgsA F e lab w ys bs us) : ArgsA F e lab w (xs ++ ys) (as ++ bs) (vs ++ us) := by
 induction h with
 | nil => exact h2
 | cons a b _ ih => exact .cons a b ih
theorem loc_callC {c : Con P} {k : Nat} {xs : List Operand} {as cs : List RA} {vs : List Value} {ts : Array TypeId} {s : Nat} {t : PT} {y : den t} {out : Out} (hs : ∃ v, ev F (.tmp s) = some v ∧ Dat (.clo c.fid t) (some y) lab w v) (hcs : capRA t y = some cs) (hx : c.rs.all (fun r => match r with | .x _ _ => false | _ => true) = true) (ha : ArgsA F e lab w xs as vs) (hids : ∀ ca : CA c.ps, callArgs c.ps (as ++ cs) = some ca → ∀ p, ca.po = some p → p.1 < nid)
  (hr : Res (opCall c nid k (as ++ cs)) out) (tp : Top lab w) (gl : GL lab w) (hw : Wn ops F g) (hd : Nat.blt d N = true) :
  LW P N ops [⟨some d, .call { callee := .value (.tmp s), args := xs.toArray, argTypes := ts }, ty, pos, af, g⟩] F w (Fin N F e nid lab w (some d) out) := by
 obtain ⟨v, h1, ds, ⟨ps, h2, h3⟩, h4⟩ := hs
 have h4 : ds = [v] := h4
 rw [h2] at h4
 have hv : v = .func (.func c.fid) #[] ps.toArray := by simpa using h4.symm
 subst hv
 exact loc_callG (fun R K h5 h6 => LW.callC c.fn h5 hw hd h1 ha.evs h6) hx (ha.append (capRA_ok hcs h3)) hids hr tp gl
theorem LW.cons1 {P : Program} {N : Nat} {F : List (Nat × Value)} {w : World} {K : Kont} {ops : Array Oper} {o : Oper} {rest : List Oper} {Q : Kont} (h : LW P N ops [o] F w Q) (hk : ∀ e a' w', Q e a' w' → e = .normal ∧ wpList P ops K rest a' w') : LW P N ops (o :: rest) F w K := fun a ha => by
 have hw := h a ha
 unfold wpList at hw ⊢
 split
 ·rename_i hwant
  rw [if_pos hwant] at hw
  rcases hw with hw | ⟨_, a', w', hq⟩
  ·refine .inl ?_
   unfold Oper.wp at hw ⊢
   generalize (execOp a.eval o).run P w = q at hw ⊢
   have nx : ∀ a' w', wpList P ops Q [] a' w' → wpList P ops K rest a' w' := fun a' w' hh => (hk _ _ _ hh).2
   cases q with
   | ok nxt w' =>
    cases nxt <;> simp only [Oper.upon] at hw ⊢ <;> first | exact nx _ _ hw | (refine hw.mono fun e w'' he => ?_; cases e with | returned v => exact nx _ _ he | panicked c => exact absurd (hk _ _ _ he).1 (by simp) | outgrown => exact (let ⟨a', w', hq⟩ := (show LetsOut Q from he); absurd (hk _ _ _ hq).1 (by simp))) | exact hw.mono fun _ _ he => nx _ _ he | exact hw
   | halt x w' =>
    cases x <;> simp only [Oper.upon] at hw ⊢ <;> first | exact hw | (obtain ⟨h0, _⟩ := hk _ _ _ hw; cases h0)
  ·obtain ⟨h0, _⟩ := hk _ _ _ hq; cases h0
 ·rename_i hwant
  rw [if_neg hwant] at hw
  exact (hk _ _ _ hw).2
theorem opCallB_ok {c : Con P} {k : Nat} {as : List RA} {out : Out} (h : Res (opCallB c nid k as) out) : ∃ o1, Res (opCall c nid k as) o1 ∧ datOut o1 = some out := by
 unfold opCallB at h
 unfold opCall
 split at h
 ·split at h
  ·split at h
   ·cases h with
    | bnd hm hr =>
     dsimp only at hr
     split at hr
     ·rename_i o ho
      obtain rfl := hr.ret_eq
      exact ⟨_, .bnd hm .ret, ho⟩
     ·cases hr
   ·cases h
  ·cases h
 ·cases h
theorem Fin.data {dd : Option Nat} {o1 o2 : Out} {ex : Exit} {a : Act} (hd : datOut o1 = some o2) (h : Fin N F e nid lab w dd o1 ex a w') : Fin N F e nid lab w dd o2 ex a w' := by
 obtain ⟨sv, ks, puts, re⟩ := o1
 unfold datOut at hd
 split at hd
 ·rename_i id id' k E t xs h1 h2 h3
  have h1 : sv = .own id := h1
  have h2 : puts = [(id', .row k E t xs)] := h2
  have h3 : re = [] := h3
  subst h1 h2 h3
  split at hd
  ·rename_i hb
   cases hd
   rw [Bool.and_eq_true] at hb
   obtain rfl := Nat.eq_of_beq_eq_true hb.1
   obtain ⟨h0, e', lab', v, hs, p1, p2, p3, p4, p5⟩ := h
   have hm := p4 _ (List.mem_singleton.2 rfl)
   obtain ⟨b1, b2, b3⟩ := hm
   have p3 : v = .slice (e' id).oa (e' id).n (e' id).c := p3
   refine ⟨h0, e', Gk.mask lab' k, v, hs, p1, p2.trans (Stp.mask p2.top hb.2), ?_, fun p hp => by simp at hp, fun p hp => by simp at hp⟩
   rw [p3, b1]
   exact Dat.ofSl b3.view
  ·cases hd
 ·rename_i t x off id id' k E u xs h1 h2 h3
  have h1 : sv = .agh t x off id := h1
  have h2 : puts = [(id', .row k E u xs)] := h2
  have h3 : re = [] := h3
  subst h1 h2 h3
  split at hd
  ·rename_i x' hb hs'
   cases hd
   simp only [Bool.and_eq_true] at hb
   obtain rfl := Nat.eq_of_beq_eq_true hb.1.1
   obtain ⟨h0, e', lab', v, hs, p1, p2, p3, p4, p5⟩ := h
   have hm := p4 _ (List.mem_singleton.2 rfl)
   obtain ⟨b1, b2, b3⟩ := hm
   have b1 : (e' id).n = xs.length := b1
   obtain ⟨cs, rfl, c3, c4⟩ := p3
   refine ⟨h0, e', Gk.mask lab' k, .agg cs.toArray, hs, p1, p2.trans (Stp.mask p2.top hb.1.2), ?_, fun p hp => by simp at hp, fun p hp => by simp at hp⟩
   have hsl : (rep (.sl u)).rd (Gk.mask lab' k) w' [.slice (e' id).oa (e' id).n (e' id).c] xs := ⟨(e' id).oa, (e' id).c, by rw [b1], b3.view⟩
   obtain ⟨hle, hrd⟩ := setAt_rd (u := .sl u) ((rep t).keep Keeps.mask c3) hsl hs'
   have hlo : off < cs.length := (List.getElem?_eq_some_iff.1 c4).1
   have e1 : (cs.set off (.slice none 0 0)).take off ++ [.slice (e' id).oa (e' id).n (e' id).c] ++ (cs.set off (.slice none 0 0)).drop (off + csz (.sl u)) = cs := by
    show _ ++ _ ++ (cs.set off _).drop (off + 1) = cs
    rw [List.take_set_of_le (Nat.le_refl _), List.drop_set_of_lt (by omega)]
    have e2 : cs[off] = .slice (e' id).oa (e' id).n (e' id).c := by
     have := List.getElem?_eq_getElem hlo
     rw [c4] at this; exact (Option.some.inj this).symm
    rw [← e2, List.append_assoc, List.singleton_append, ← List.drop_eq_getElem_cons hlo, List.take_append_drop]
   rw [e1] at hrd
   exact ⟨cs, hrd, by unfold IsV; rw [hb.2]⟩
  ·cases hd
 ·cases hd
theorem loc_callD {c : Con P} {f : FuncId} {k : Nat} {xs : List Operand} {as : List RA} {vs : List Value} {ts : Array TypeId} {out : Out} (hf : c.fid = f) (hx : c.rs.all (fun r => match r with | .x _ _ => false | _ => true) = true) (ha : ArgsA F e lab w xs as vs) (hids : ∀ ca : CA c.ps, callArgs c.ps as = some ca → ∀ p, ca.po = some p → p.1 < nid)
  (hr : Res (opCallB c nid k as) out) (tp : Top lab w) (gl : GL lab w) (hw : Wn ops F g) (hd : Nat.blt d N = true) :
  LW P N ops [⟨some d, .call { callee := .value (.func f), args := xs.toArray, argTypes := ts }, ty, pos, af, g⟩] F w (Fin N F e nid lab w (some d) out) := by
 obtain ⟨o1, hr1, hd1⟩ := opCallB_ok hr
 refine LW.cons1 (Q := Fin N F e nid lab w (some d) o1) ?_ fun e' a' w' hq => (by have h0 : e' = .normal := hq.1; subst h0; exact ⟨rfl, wpList_nil (Fin.data hd1 hq)⟩)
 exact loc_call hf hx ha hids hr1 tp gl hw hd
theorem loc_callB {c : Con P} {k id g0 : Nat} {m : Option MEnt} {xs : List Operand} {as : List RA} {vs : List Value} {ts : Array TypeId} {s : Nat} {out : Out} (hs : ev F (.tmp s) = some (.func (.func c.fid) #[] #[.pointer (some ⟨g0, 0, none⟩)])) (ho : (e id).oa = some ⟨g0, 0, none⟩) (hm : ∀ q, m = some q → MemOK e lab w id q) (hx : c.rs.all (fun r => match r with | .x _ _ => false | _ => true) = true) (ha : ArgsA F e lab w xs as vs) (hids : ∀ ca : CA c.ps, callArgs c.ps (as ++ [(.ptr id 0, m)]) = some ca → ∀ p, ca.po = some p → p.1 < nid)
  (hr : Res (opCallB c nid k (as ++ [(.ptr id 0, m)])) out) (tp : Top lab w) (gl : GL lab w) (hw : Wn ops F g) (hd : Nat.blt d N = true) :
  LW P N ops [⟨some d, .call { callee := .value (.tmp s), args := xs.toArray, argTypes := ts }, ty, pos, af, g⟩] F w (Fin N F e nid lab w (some d) out) := by
 obtain ⟨o1, hr1, hd1⟩ := opCallB_ok hr
 refine LW.cons1 (Q := Fin N F e nid lab w (some d) o1) ?_ fun e' a' w' hq => (by have h0 : e' = .normal := hq.1; subst h0; exact ⟨rfl, wpList_nil (Fin.data hd1 hq)⟩)
 exact loc_callG (fun R K h5 h6 => LW.callC (ps := [.pointer (some ⟨g0, 0, none⟩)]) c.fn h5 hw hd hs ha.evs h6) hx (ha.append (.cons (x := .const (.pointer (some ⟨g0, 0, none⟩))) (a := (.ptr id 0, m)) rfl ⟨⟨g0, ho, rfl⟩, hm⟩ .nil)) hids hr1 tp gl
def capL : List RA → Option ((t : PT) × den t × List Nat)
 | [] => some ⟨.un, (), []⟩
 | (.ptr _ 0, some (.box k _ t x)) :: r => match capL r with
  | some ⟨t', y, ks⟩ => some ⟨.pr (.cp t) t', (some x, y), k :: ks⟩
  | none => none
 | _ => none
theorem capL_ok {xs : List Operand} {as : List RA} {vs : List Value} (h : ArgsA F e lab w xs as vs) : ∀ {t : PT} {y : den t} {ks ks' : List Nat}, capL as = some ⟨t, y, ks⟩ → (∀ k ∈ ks, k ∈ ks') → (rep t).rd (maskL ks' lab) w vs y := by
 induction h with
 | nil => intro t y ks ks' h _; cases h; rfl
 | cons hx ha _ ih =>
  intro t y ks ks' h hk
  unfold capL at h
  split at h
  ·rename_i heq; cases heq
  ·rename_i id k T t1 x1 r heq
   injection heq with e1 e2
   subst e1 e2
   split at h
   ·rename_i t' y' ks1 hr
    cases h
    obtain ⟨b1, b2⟩ := ha
    obtain ⟨G, cs, c1, c2, c3⟩ := b2 _ rfl
    obtain ⟨G', c4, c5⟩ := b1
    have c1 : (e id).oa = some ⟨G, 0, none⟩ := c1
    rw [c1] at c4; cases c4
    refine ⟨[_], _, rfl, ⟨⟨G, 0, none⟩, cs, by rw [c5], c2.atM (hk k (by simp)), (rep t1).keep Keeps.maskL c3⟩, ih hr fun q hq => hk q (by simp [hq])⟩
   ·cases h
  ·cases h
def opMakeF (f : FuncId) (as : List RA) : OpRes :=
 match capL as with
 | some ⟨t, y, ks⟩ => .ret ⟨.dat (.clo f t) (some y), ks, [], []⟩
 | none => .stuck
theorem Stp.maskL (t : Top lab w) {ks : List Nat} : Stp ks lab w (Gk.maskL ks lab) w := by
 refine ⟨rfl, rfl, rfl, Nat.le_refl _, fun _ _ _ => rfl, fun b hb hl => ?_, t.maskL⟩
 rcases maskL_or ks lab b with ⟨h, h2⟩ | ⟨h, _⟩
 ·rcases h2 with h2 | h2
  ·rw [h, h2]
  ·rcases hl with hl | hl
   ·rw [h, hl]
   ·have : ks.contains (lab b) = true := by simpa using h2
    rw [this] at hl; cases hl
 ·exact h
def opMakeB (f : FuncId) (as : List RA) : OpRes :=
 match as with
 | [(.ptr id 0, _)] => .ret (o1 (.clb f id))
 | _ => .stuck
theorem loc_makeB {f : FuncId} {xs : List Operand} {as : List RA} {vs : List Value} {out : Out} (ha : ArgsA F e lab w xs as vs) (hr : Res (opMakeB f as) out) (tp : Top lab w) (hw : Wn ops F g) (hd : Nat.blt d N = true) :
  LW P N ops [⟨some d, .makeFunc (.func f) #[] xs.toArray, ty, pos, af, g⟩] F w (Fin N F e nid lab w (some d) out) := by
 unfold opMakeB at hr
 split at hr
 ·rename_i id m
  obtain rfl := hr.ret_eq
  cases ha with
  | cons hx hv hrest =>
  cases hrest
  rename_i x v
  obtain ⟨G, h1, rfl⟩ := hv.1
  refine LW.gen rfl hw fun a hq => ?_
  unfold Oper.wp
  have hev : (([x] : List Operand).toArray.map a.eval) = #[.pointer (some ⟨G, 0, none⟩)] := by
   have := hq.eval hx
   simp [this]
  have hrun : (execOp a.eval ⟨some d, .makeFunc (.func f) #[] ([x] : List Operand).toArray, ty, pos, af, g⟩).run P w = .ok (.value (.func (.func f) #[] #[.pointer (some ⟨G, 0, none⟩)])) w := by
   simp only [execOp, Instr.makeFunc, hev, Sem.run_bind, Sem.run_pure, Result.andThen_ok]; simp
  rw [hrun, Oper.upon_value]
  exact wpList_nil ⟨rfl, e, lab, .func (.func f) #[] #[.pointer (some ⟨G, 0, none⟩)], hq.put hd _, fun _ _ => rfl, Stp.refl tp, ⟨G, h1, rfl⟩, fun p hp => by simp [o1] at hp, fun p hp => by simp [o1] at hp⟩
 ·cases hr
theorem loc_makeF {f : FuncId} {xs : List Operand} {as : List RA} {vs : List Value} {out : Out} (ha : ArgsA F e lab w xs as vs) (hr : Res (opMakeF f as) out) (tp : Top lab w) (hw : Wn ops F g) (hd : Nat.blt d N = true) :
  LW P N ops [⟨some d, .makeFunc (.func f) #[] xs.toArray, ty, pos, af, g⟩] F w (Fin N F e nid lab w (some d) out) := by
 unfold opMakeF at hr
 split at hr
 ·rename_i t y ks hc
  obtain rfl := hr.ret_eq
  refine LW.gen rfl hw fun a hq => ?_
  unfold Oper.wp
  have hev : (xs.toArray.map a.eval) = vs.toArray := by rw [List.map_toArray, hq.evals ha.evs]
  have hrun : (execOp a.eval ⟨some d, .makeFunc (.func f) #[] xs.toArray, ty, pos, af, g⟩).run P w = .ok (.value (.func (.func f) #[] vs.toArray)) w := by
   simp only [execOp, Instr.makeFunc, hev, Sem.run_bind, Sem.run_pure, Result.andThen_ok]; simp
  rw [hrun, Oper.upon_value]
  refine wpList_nil ⟨rfl, e, Gk.maskL ks lab, .func (.func f) #[] vs.toArray, hq.put hd _, fun _ _ => rfl, Stp.maskL tp, ?_, fun p hp => by simp at hp, fun p hp => by simp at hp⟩
  exact ⟨[.func (.func f) #[] vs.toArray], ⟨vs, rfl, capL_ok ha hc fun _ h => h⟩, rfl⟩
 ·cases hr
end
end Go.Gk
