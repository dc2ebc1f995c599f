/-
  The evaluator's state: slots, entries of memory, what they say of a world, and what a step leaves of it. Over whatever program; no condition.
-/
import Derived.Test.YtbfkbakadpkgoaaGreatDoorPt
import Derived.Lib.DecodeN
import Derived.Lib.ItoaNum
namespace Go.Gk
open Go.RowKit
inductive SV where
 | dat (t : PT) (x : den t)
 | agn (t : PT) (x : den t) (l : List (Nat × TypeId × PT))
 | agh (t : PT) (x : den t) (off id : Nat)
 | clb (f : FuncId) (id : Nat)
 | nil | und | pnil
 | ptr (id off : Nat)
 | own (id : Nat)
 | eptr (id i off : Nat)
 | dptr (t : PT) (x : den t) (off : Nat)
 | rix (id : Nat) | rlen (id : Nat) | rsl (id : Nat) | rnx (id : Nat) | rcn (id : Nat)
 | mp (id : Nat)
 | garr (t : PT) (xs : List (den t))
 | tup (l : List SV)
inductive MEnt where
 | box (k : Nat) (T : TypeId) (t : PT) (x : den t)
 | boxh (k : Nat) (T : TypeId) (t : PT) (x : den t) (hs : List (Nat × Nat))
 | row (k : Nat) (E : TypeId) (t : PT) (xs : List (den t))
 | src (k : Nat) (t : PT) (xs : List (den t))
 | rgh (t : PT) (xs : List (den t))
 | rgi (h : Nat) (t : PT) (xs : List (den t)) (k : Nat) (ox : Option (den t))
 | rgc (n : Int)
 | rgj (h : Nat) (n : Int) (k : Nat) (more : Bool)
 | mp (k : Nat) (T : TypeId) (t : PT) (f : List (UInt8 × den t))
 | rq (k : Nat) (E E2 : TypeId) (t : PT) (xs : List (List (den t)))
 | rp (k : Nat) (E E2 : TypeId) (t : PT) (xs : List (List (den t)))
def MEnt.lbl : MEnt → Nat
 | .mp k _ _ _ => k | .rq k _ _ _ _ => k | .rp k _ _ _ _ => k | .box k _ _ _ => k | .boxh k _ _ _ _ => k | .row k _ _ _ => k | .src k _ _ => k | .rgh _ _ => 0 | .rgi _ _ _ _ _ => 0 | .rgc _ => 0 | .rgj _ _ _ _ => 0
def isRg : MEnt → Bool
 | .rgh _ _ => true | .rgi _ _ _ _ _ => true | .rgc _ => true | .rgj _ _ _ _ => true | _ => false
structure EI where
 oa : Option Addr
 n : Nat
 c : Nat
 sz : Nat
 z : Int
 lt : PT
 ls : List (den lt)
abbrev Env := Nat → EI
inductive All2 {α β : Type} (R : α → β → Prop) : List α → List β → Prop where
 | nil : All2 R [] []
 | cons {a b l m} : R a b → All2 R l m → All2 R (a :: l) (b :: m)
def RV0 (e : Env) (sv : SV) (lab : Lab) (w : World) (v : Value) : Prop :=
 match sv with
 | .dat t x => Dat t x lab w v
 | .agn t x l => Dat t x lab w v ∧ ∃ cs, v = .agg cs ∧ ∀ h ∈ l, cs[h.1]? = some (.slice none 0 0)
 | .agh t x off id => ∃ cs : List Value, v = .agg cs.toArray ∧ (rep t).rd lab w (cs.set off (.slice none 0 0)) x ∧ cs[off]? = some (.slice (e id).oa (e id).n (e id).c)
 | .clb f id => ∃ g, (e id).oa = some ⟨g, 0, none⟩ ∧ v = .func (.func f) #[] #[.pointer (some ⟨g, 0, none⟩)]
 | .nil => v = .slice none 0 0
 | .und => v = undef
 | .pnil => v = .pointer none
 | .ptr id off => ∃ g, (e id).oa = some ⟨g, 0, none⟩ ∧ v = .pointer (some ⟨g, off, none⟩)
 | .own id => v = .slice (e id).oa (e id).n (e id).c
 | .eptr id i off => ∃ p, OAt (e id).oa (e id).sz i p ∧ v = .pointer (some (p.add off))
 | .dptr t x off => ∃ p cs, v = .pointer (some (p.add off)) ∧ At lab w p cs ∧ (rep t).rd lab w cs x
 | .rix id => v = .int .i64 ((e id).n : Int)
 | .rlen id => v = .int .i64 ((e id).ls.length : Int)
 | .rsl id => ∃ oa c, v = .slice oa (e id).ls.length c ∧ SL (rep (e id).lt) lab w oa c (e id).ls
 | .rnx id => v = .int .i64 (((e id).n + 1 : Nat) : Int)
 | .rcn id => v = .int .i64 (e id).z
 | .mp id => ∃ g, (e id).oa = some ⟨g, 0, none⟩ ∧ v = .map (some g)
 | .garr t xs => ∃ us : List Value, v = .agg us.toArray ∧ All2 (fun x u => Dat t x lab w u) xs us
 | .tup _ => False
theorem All2.imp {α β : Type} {R S : α → β → Prop} {l : List α} {m : List β} (h : All2 R l m) (hi : ∀ a b, a ∈ l → R a b → S a b) : All2 S l m := by
 induction h with
 | nil => exact .nil
 | cons h _ ih => exact .cons (hi _ _ (by simp) h) (ih fun a b ha => hi a b (by simp [ha]))
theorem All2.len {α β : Type} {R : α → β → Prop} {l : List α} {m : List β} (h : All2 R l m) : l.length = m.length := by
 induction h with
 | nil => rfl
 | cons _ _ ih => simp [ih]
theorem All2.get {α β : Type} {R : α → β → Prop} {l : List α} {m : List β} (h : All2 R l m) : ∀ {i : Nat} {a : α}, l[i]? = some a → ∃ b, m[i]? = some b ∧ R a b := by
 induction h with
 | nil => intro i a h; simp at h
 | cons h _ ih =>
  intro i a ha
  cases i with
  | zero => simp at ha; subst ha; exact ⟨_, rfl, h⟩
  | succ i => simpa using ih (by simpa using ha)
def RV (e : Env) (sv : SV) (lab : Lab) (w : World) (v : Value) : Prop :=
 match sv with
 | .tup l => ∃ vs, v = .tuple vs.toArray ∧ All2 (fun s u => RV0 e s lab w u) l vs
 | s => RV0 e s lab w v
theorem garr_keep {t : PT} {lab lab' : Lab} {w w' : World} (hk : Keeps lab w lab' w') : ∀ {xs : List (den t)} {us : List Value}, All2 (fun x u => Dat t x lab w u) xs us → All2 (fun x u => Dat t x lab' w' u) xs us := fun h => h.imp fun _ _ _ h => Dat.keep hk h
theorem RV.of0 {e : Env} {sv : SV} {lab : Lab} {w : World} {v : Value} (h : RV0 e sv lab w v) : RV e sv lab w v := by
 cases sv <;> first | exact h | exact h.elim
def refs0 : SV → List Nat
 | .agh _ _ _ id => [id] | .clb _ id => [id] | .mp id => [id] | .ptr id _ => [id] | .own id => [id] | .eptr id _ _ => [id] | .rix id => [id] | .rlen id => [id] | .rsl id => [id] | .rnx id => [id] | .rcn id => [id] | _ => []
def refs : SV → List Nat
 | .tup l => l.flatMap refs0
 | s => refs0 s
def Rep.raw : Rep Value where
 sz := 1
 rd := fun _ _ cs x => cs = [x] ∧ x.oneCell' = true
 len := fun h => by rw [h.1]; rfl
 one := fun h u hu => by rw [h.1] at hu; simp at hu; rw [hu]; exact h.2
 keep := fun _ h => h
def Apart (oa oa' : Option Addr) : Prop := ∀ g g', oa = some ⟨g, 0, none⟩ → oa' = some ⟨g', 0, none⟩ → g ≠ g'
def relo (lab : Lab) (oa : Option Addr) (k : Nat) : Lab := fun b => match oa with
 | some a => if b = a.block then k else lab b
 | none => lab b
def OwnQ (t : PT) (lab : Lab) (w : World) (k E E2 : Nat) (oa : Option Addr) (c : Nat) (xs : List (List (den t))) : Prop :=
 (xs = [] ∧ oa = none ∧ c = 0) ∨ ∃ (ys : List (List (den t))) (z : List (den t)) (vs : List Value) (a' : Option Addr) (c' : Nat), xs = ys ++ [z] ∧ Own Rep.raw lab w k E oa c (vs ++ [.slice a' z.length c']) ∧ All2 (fun y v => Dat (.sl t) y lab w v) ys vs ∧ Own (rep t) lab w k E2 a' c' z ∧ Apart oa a'
def OwnP (t : PT) (lab : Lab) (w : World) (k E : Nat) (oa : Option Addr) (c : Nat) (xs : List (List (den t))) : Prop :=
 ∃ (ys : List (List (den t))) (z : List (den t)) (vs : List Value) (u : Value), xs = ys ++ [z] ∧ Own Rep.raw lab w k E oa c (vs ++ [u]) ∧ All2 (fun y v => Dat (.sl t) y lab w v) ys vs
section
variable {α β : Type} {t : PT} {lab lab' : Lab} {w w' : World}
theorem All2.append {R : α → β → Prop} {l l2 : List α} {m m2 : List β} (h : All2 R l m) (h2 : All2 R l2 m2) : All2 R (l ++ l2) (m ++ m2) := by
 induction h with
 | nil => exact h2
 | cons h _ ih => exact .cons h ih
theorem All2.datKeep {ys : List (List (den t))} {vs : List Value} (h : All2 (fun y v => Dat (.sl t) y lab w v) ys vs) (hk : Keeps lab w lab' w') : All2 (fun y v => Dat (.sl t) y lab' w' v) ys vs := h.imp fun _ _ _ h => h.keep hk
end
def MapR (t : PT) (lab : Lab) (w : World) : List MapEntry → List (UInt8 × den t) → Prop
 | [], [] => True
 | e :: es, x :: f => e.key = .int .u8 (x.1.toNat : Int) ∧ Dat t x.2 lab w e.val ∧ MapR t lab w es f
 | _, _ => False
theorem MapR.keep {t : PT} {lab lab' : Lab} {w w' : World} (hk : Keeps lab w lab' w') : ∀ {es : List MapEntry} {f : List (UInt8 × den t)}, MapR t lab w es f → MapR t lab' w' es f
 | [], [], _ => trivial
 | _ :: _, _ :: _, h => ⟨h.1, h.2.1.keep hk, MapR.keep hk h.2.2⟩
 | [], _ :: _, h => h.elim
 | _ :: _, [], h => h.elim
def emp : List Value → List (Nat × Nat) → List Value
 | cs, [] => cs
 | cs, h :: r => (emp cs r).set h.1 (.slice none 0 0)
theorem emp_len : ∀ {cs : List Value} {hs : List (Nat × Nat)}, (emp cs hs).length = cs.length
 | _, [] => rfl
 | cs, h :: r => by show ((emp cs r).set _ _).length = _; rw [List.length_set, emp_len]
theorem emp_ne : ∀ {cs : List Value} {hs : List (Nat × Nat)} {i : Nat}, (∀ h ∈ hs, h.1 ≠ i) → (emp cs hs)[i]? = cs[i]?
 | _, [], _, _ => rfl
 | cs, h :: r, i, hn => by
  show ((emp cs r).set _ _)[i]? = _
  rw [List.getElem?_set_ne (hn h (by simp)), emp_ne fun x hx => hn x (by simp [hx])]
theorem emp_set_ne : ∀ {cs : List Value} {hs : List (Nat × Nat)} {o : Nat} {u : Value}, (∀ h ∈ hs, h.1 ≠ o) → emp (cs.set o u) hs = (emp cs hs).set o u
 | _, [], _, _, _ => rfl
 | cs, h :: r, o, u, hn => by
  show (emp (cs.set o u) r).set _ _ = ((emp cs r).set _ _).set _ _
  rw [emp_set_ne fun x hx => hn x (by simp [hx]), List.set_comm _ _ (hn h (by simp)).symm]
theorem emp_set : ∀ {cs : List Value} {hs : List (Nat × Nat)} {o : Nat} {u : Value}, (∃ h ∈ hs, h.1 = o) → emp (cs.set o u) hs = emp cs hs
 | _, [], _, _, h => by obtain ⟨_, h, _⟩ := h; cases h
 | cs, h :: r, o, u, hn => by
  show (emp (cs.set o u) r).set h.1 _ = (emp cs r).set h.1 _
  by_cases h0 : ∃ x ∈ r, x.1 = o
  ·rw [emp_set h0]
  ·obtain ⟨x, hx, rfl⟩ := hn
   rcases List.mem_cons.1 hx with rfl | hx
   ·rw [emp_set_ne fun y hy e => h0 ⟨y, hy, e⟩, List.set_set]
   ·exact absurd ⟨x, hx, rfl⟩ h0
theorem emp_nil : ∀ {cs : List Value} {hs : List (Nat × Nat)}, (∀ h ∈ hs, cs[h.1]? = some (.slice none 0 0)) → emp cs hs = cs
 | _, [], _ => rfl
 | cs, h :: r, hn => by
  show (emp cs r).set h.1 _ = cs
  rw [emp_nil fun x hx => hn x (by simp [hx])]
  obtain ⟨h1, h2⟩ := List.getElem?_eq_some_iff.1 (hn h (by simp))
  rw [← h2, List.set_getElem_self]
def holeAt : List (Nat × Nat) → Nat → Option Nat
 | [], _ => none
 | (o, r) :: l, off => match Nat.beq o off with
  | true => some r
  | false => holeAt l off
def repH : List (Nat × Nat) → Nat → Nat → List (Nat × Nat)
 | [], _, _ => []
 | (o, r) :: l, off, r' => match Nat.beq o off with
  | true => (o, r') :: repH l off r'
  | false => (o, r) :: repH l off r'
theorem holeAt_mem : ∀ {hs : List (Nat × Nat)} {off rid : Nat}, holeAt hs off = some rid → (off, rid) ∈ hs
 | (o, r) :: l, off, rid, h => by
  unfold holeAt at h
  split at h
  ·rename_i hb
   obtain rfl := Nat.eq_of_beq_eq_true hb
   cases h; simp
  ·exact List.mem_cons_of_mem _ (holeAt_mem h)
theorem holeAt_none : ∀ {hs : List (Nat × Nat)} {off : Nat}, holeAt hs off = none → ∀ h ∈ hs, h.1 ≠ off
 | (o, r) :: l, off, h, q, hq => by
  unfold holeAt at h
  split at h
  ·cases h
  ·rename_i hb
   rcases List.mem_cons.1 hq with rfl | hq
   ·exact fun e => by have e : o = off := e; subst e; simp at hb
   ·exact holeAt_none h q hq
theorem repH_map : ∀ {hs : List (Nat × Nat)} {off r : Nat}, (repH hs off r).map (·.1) = hs.map (·.1)
 | [], _, _ => rfl
 | (o, q) :: l, off, r => by
  unfold repH
  split <;> simp [repH_map]
theorem repH_mem : ∀ {hs : List (Nat × Nat)} {off r : Nat} {h : Nat × Nat}, h ∈ repH hs off r → (h = (off, r)) ∨ (h ∈ hs ∧ h.1 ≠ off)
 | [], _, _, _, h => by cases h
 | (o, q) :: l, off, r, h, hm => by
  unfold repH at hm
  split at hm
  ·rename_i hb
   obtain rfl := Nat.eq_of_beq_eq_true hb
   rcases List.mem_cons.1 hm with rfl | hm
   ·exact .inl rfl
   ·rcases repH_mem hm with h1 | h1
    ·exact .inl h1
    ·exact .inr ⟨by simp [h1.1], h1.2⟩
  ·rename_i hb
   rcases List.mem_cons.1 hm with rfl | hm
   ·exact .inr ⟨by simp, fun e => by have e : o = off := e; subst e; simp at hb⟩
   ·rcases repH_mem hm with h1 | h1
    ·exact .inl h1
    ·exact .inr ⟨by simp [h1.1], h1.2⟩
theorem repH_in : ∀ {hs : List (Nat × Nat)} {off r : Nat} {h : Nat × Nat}, h ∈ hs → h.1 ≠ off → h ∈ repH hs off r
 | [], _, _, _, h, _ => by cases h
 | (o, q) :: l, off, r, h, hm, hn => by
  unfold repH
  split
  ·rename_i hb
   obtain rfl := Nat.eq_of_beq_eq_true hb
   rcases List.mem_cons.1 hm with rfl | hm
   ·exact absurd rfl hn
   ·exact List.mem_cons_of_mem _ (repH_in hm hn)
  ·rcases List.mem_cons.1 hm with rfl | hm
   ·simp
   ·exact List.mem_cons_of_mem _ (repH_in hm hn)
theorem emp_map : ∀ {cs : List Value} {hs hs' : List (Nat × Nat)}, hs.map (·.1) = hs'.map (·.1) → emp cs hs = emp cs hs'
 | _, [], [], _ => rfl
 | _, [], _ :: _, h => by cases h
 | _, _ :: _, [], h => by cases h
 | cs, a :: r, b :: r', h => by
  rw [List.map_cons, List.map_cons, List.cons.injEq] at h
  show (emp cs r).set a.1 _ = (emp cs r').set b.1 _
  rw [emp_map h.2, h.1]
def MemOK (e : Env) (lab : Lab) (w : World) (id : Nat) (m : MEnt) : Prop :=
 match m with
 | .box k T t x => ∃ g cs, (e id).oa = some ⟨g, 0, none⟩ ∧ Box lab w k g T cs ∧ (rep t).rd lab w cs x
 | .boxh k T t x hs => ∃ g cs, (e id).oa = some ⟨g, 0, none⟩ ∧ Box lab w k g T cs ∧ (rep t).rd lab w (emp cs hs) x ∧ (∀ h ∈ hs, cs[h.1]? = some (.slice (e h.2).oa (e h.2).n (e h.2).c)) ∧ (hs.map (·.1)).Nodup
 | .row k E t xs => (e id).n = xs.length ∧ (e id).sz = csz t ∧ Own (rep t) lab w k E (e id).oa (e id).c xs
 | .src k t xs => (e id).n = xs.length ∧ FlatO (rep t) lab w k (e id).oa xs
 | .rgh t xs => (⟨(e id).lt, (e id).ls⟩ : (t : PT) × List (den t)) = ⟨t, xs⟩ ∧ xs.length ≤ maxLen
 | .rgi h t xs k ox => (e id).n = k ∧ (⟨(e h).lt, (e h).ls⟩ : (t : PT) × List (den t)) = ⟨t, xs⟩ ∧ xs[k]? = ox ∧ k ≤ xs.length ∧ xs.length ≤ maxLen
 | .rgc n => (e id).z = n
 | .mp k _ t f => ∃ g es clock, (e id).oa = some ⟨g, 0, none⟩ ∧ w.heap[g]? = some (.map es clock) ∧ lab g = k ∧ MapR t lab w es.toList f
 | .rq k E E2 t xs => (e id).n = xs.length ∧ (e id).sz = 1 ∧ OwnQ t lab w k E E2 (e id).oa (e id).c xs
 | .rp k E _ t xs => (e id).n = xs.length ∧ (e id).sz = 1 ∧ OwnP t lab w k E (e id).oa (e id).c xs
 | .rgj h n k more => (e id).n = k ∧ (e h).z = n ∧ (more = true → (k : Int) < n) ∧ (more = false → n ≤ (k : Int)) ∧ n ≤ 9223372036854775807
def mrefs : MEnt → List Nat
 | .rgi h _ _ _ _ => [h] | .rgj h _ _ _ => [h] | .boxh _ _ _ _ hs => hs.map (·.2) | _ => []
theorem nb0 {n : Nat} (h : 0 < n) : (!Nat.beq n 0) = true := by
 cases n with
 | zero => omega
 | succ n => rfl
theorem ne0 {n : Nat} (h : Nat.beq n 0 = false) : n ≠ 0 := fun e => by subst e; cases h
theorem kb {n : Nat} {c : Bool} : (Nat.beq n 0 || !c) = true ↔ n = 0 ∨ c = false := by cases n <;> cases c <;> simp [Nat.beq]
structure Stp (ks : List Nat) (lab : Lab) (w : World) (lab' : Lab) (w' : World) : Prop where
 os : w'.os = w.os
 tape : w'.tape = w.tape
 output : w'.output = w.output
 size : w.heap.size ≤ w'.heap.size
 block : ∀ b, b < w.heap.size → (lab b = 0 ∨ ks.contains (lab b) = false) → w'.heap[b]? = w.heap[b]?
 same : ∀ b, b < w.heap.size → (lab b = 0 ∨ ks.contains (lab b) = false) → lab' b = lab b
 top : ∀ b, w'.heap.size ≤ b → lab' b = 0
section
variable {ks : List Nat} {lab lab' lab2 : Lab} {w w' w2 : World} {e e' : Env} {sv : SV} {v : Value} {m : MEnt} {id k : Nat}
theorem Stp.keeps (h : Stp ks lab w lab' w') : Keeps lab w lab' w' := ⟨h.size, fun b hb h0 => ⟨(h.same b hb (.inl h0)).trans h0, h.block b hb (.inl h0)⟩⟩
theorem Stp.refl (t : Top lab w) : Stp ks lab w lab w := ⟨rfl, rfl, rfl, Nat.le_refl _, fun _ _ _ => rfl, fun _ _ _ => rfl, t⟩
theorem Ste.stp (h : Ste lab k w lab' w') (hk : ks.contains k = true ∨ k = 0) : Stp ks lab w lab' w' := by
 refine ⟨h.os, h.tape, h.output, h.size, fun b hb hl => h.block b hb ?_, fun b hb _ => h.same b hb, h.top⟩
 rcases hk with hk | hk
 ·rcases Nat.eq_zero_or_pos k with h0 | h0
  ·exact .inl h0
  ·refine .inr fun e => ?_
   rcases hl with hl | hl
   ·omega
   ·rw [e, hk] at hl; cases hl
 ·exact .inl hk
theorem Stp.mask (t : Top lab w) (hk : ks.contains k = true) : Stp ks lab w (Gk.mask lab k) w := by
 refine ⟨rfl, rfl, rfl, Nat.le_refl _, fun _ _ _ => rfl, fun b hb hl => ?_, t.mask⟩
 unfold Gk.mask
 by_cases hb : lab b = k
 ·rcases hl with hl | hl
  ·rw [hl]; split <;> rfl
  ·rw [hb, hk] at hl; cases hl
 ·rw [if_neg hb]
theorem Stp.trans (h : Stp ks lab w lab2 w2) (h2 : Stp ks lab2 w2 lab' w') : Stp ks lab w lab' w' := by
 refine ⟨h2.os.trans h.os, h2.tape.trans h.tape, h2.output.trans h.output, Nat.le_trans h.size h2.size, fun b hb hl => ?_, fun b hb hl => ?_, h2.top⟩
 ·have e1 := h.same b hb hl
  exact (h2.block b (Nat.lt_of_lt_of_le hb h.size) (by rw [e1]; exact hl)).trans (h.block b hb hl)
 ·have e1 := h.same b hb hl
  exact (h2.same b (Nat.lt_of_lt_of_le hb h.size) (by rw [e1]; exact hl)).trans e1
theorem Stp.mono {ks' : List Nat} (h : Stp ks lab w lab' w') (hs : ∀ k, ks.contains k = true → ks'.contains k = true) : Stp ks' lab w lab' w' := by
 have key : ∀ b, (lab b = 0 ∨ ks'.contains (lab b) = false) → (lab b = 0 ∨ ks.contains (lab b) = false) := fun b hl => by
  rcases hl with hl | hl
  ·exact .inl hl
  ·refine .inr ?_
   cases hc : ks.contains (lab b) with
   | false => rfl
   | true => rw [hs _ hc] at hl; cases hl
 exact ⟨h.os, h.tape, h.output, h.size, fun b hb hl => h.block b hb (key b hl), fun b hb hl => h.same b hb (key b hl), h.top⟩
theorem Cx.stp {pts : List Nat} {w0 : World} {lab0 : Lab} (h : Cx pts w0 lab0 w lab) (s : Stp ks lab w lab' w') (h1 : ks.contains 1 = false) : Cx pts w0 lab0 w' lab' := by
 have key : ∀ b, b < w0.heap.size → b ∉ pts → (lab b = 0 ∨ ks.contains (lab b) = false) := fun b hb hp => by
  rw [h.low b hb hp]
  have := lin_le lab0 b
  rcases Nat.eq_zero_or_pos (lin lab0 b) with h0 | h0
  ·exact .inl h0
  ·have : lin lab0 b = 1 := by omega
   rw [this]; exact .inr h1
 refine ⟨s.os.trans h.os, s.tape.trans h.tape, s.output.trans h.output, Nat.le_trans h.size s.size, fun b hb hp => ?_, fun b hb hp => ?_, s.top⟩
 ·exact (s.block b (Nat.lt_of_lt_of_le hb h.size) (key b hb hp)).trans (h.block b hb hp)
 ·exact (s.same b (Nat.lt_of_lt_of_le hb h.size) (key b hb hp)).trans (h.low b hb hp)
theorem RV0.keep (hk : Keeps lab w lab' w') (h : RV0 e sv lab w v) : RV0 e sv lab' w' v := by
 cases sv <;> first | exact h | skip
 ·exact Dat.keep hk h
 ·exact ⟨Dat.keep hk h.1, h.2⟩
 ·obtain ⟨cs, h1, h2, h3⟩ := h
  exact ⟨cs, h1, (rep _).keep hk h2, h3⟩
 ·obtain ⟨p, cs, h1, h2, h3⟩ := h
  exact ⟨p, cs, h1, h2.keep hk, (rep _).keep hk h3⟩
 ·obtain ⟨oa, c, h1, h2⟩ := h
  exact ⟨oa, c, h1, h2.keep hk⟩
 ·obtain ⟨us, h1, h2⟩ := h
  exact ⟨us, h1, garr_keep hk h2⟩
theorem RV_eq (h : ∀ l, sv ≠ .tup l) : RV e sv lab w v = RV0 e sv lab w v := by
 cases sv <;> first | rfl | exact absurd rfl (h _)
theorem refs_eq (h : ∀ l, sv ≠ .tup l) : refs sv = refs0 sv := by
 cases sv <;> first | rfl | exact absurd rfl (h _)
theorem tup_or (sv : SV) : (∃ l, sv = .tup l) ∨ ∀ l, sv ≠ .tup l := by
 cases sv <;> first | exact .inl ⟨_, rfl⟩ | exact .inr fun _ h => by cases h
theorem RV.keep (hk : Keeps lab w lab' w') (h : RV e sv lab w v) : RV e sv lab' w' v := by
 rcases tup_or sv with ⟨l, rfl⟩ | ht
 ·obtain ⟨vs, h1, h2⟩ := h
  exact ⟨vs, h1, h2.imp fun _ _ _ h => RV0.keep hk h⟩
 ·rw [RV_eq ht] at h ⊢
  exact RV0.keep hk h
theorem RV0.env (he : ∀ i ∈ refs0 sv, e' i = e i) (h : RV0 e sv lab w v) : RV0 e' sv lab w v := by
 cases sv <;> first | exact h | (have := he _ (List.mem_singleton.2 rfl); unfold RV0 at h ⊢; dsimp only at h ⊢; rw [this]; exact h)
theorem RV.env (he : ∀ i ∈ refs sv, e' i = e i) (h : RV e sv lab w v) : RV e' sv lab w v := by
 rcases tup_or sv with ⟨l, rfl⟩ | ht
 ·obtain ⟨vs, h1, h2⟩ := h
  exact ⟨vs, h1, h2.imp fun a _ ha h => RV0.env (fun i hi => he i (List.mem_flatMap.2 ⟨a, ha, hi⟩)) h⟩
 ·rw [RV_eq ht] at h ⊢
  rw [refs_eq ht] at he
  exact RV0.env he h
theorem MemOK.env (he : e' id = e id) (hr : ∀ i ∈ mrefs m, e' i = e i) (h : MemOK e lab w id m) : MemOK e' lab w id m := by
 cases m with
 | rgi q t xs k ox =>
  have := hr q (List.mem_singleton.2 rfl)
  unfold MemOK at h ⊢; dsimp only at h ⊢; rw [he, this]; exact h
 | rgj q n k more =>
  have := hr q (List.mem_singleton.2 rfl)
  unfold MemOK at h ⊢; dsimp only at h ⊢; rw [he, this]; exact h
 | boxh k T t x hs =>
  obtain ⟨g, cs, h1, h2, h3, h4, h5⟩ := h
  exact ⟨g, cs, by rw [he]; exact h1, h2, h3, fun q hq => by rw [hr q.2 (List.mem_map.2 ⟨q, hq, rfl⟩)]; exact h4 q hq, h5⟩
 | _ => unfold MemOK at h ⊢; dsimp only at h ⊢; rw [he]; exact h
theorem Box.stp {g T : Nat} {cs : List Value} (b : Box lab w k g T cs) (s : Stp ks lab w lab' w') (hk : ks.contains k = false) : Box lab' w' k g T cs := by
 have h := b.2
 exact ⟨(s.block g b.lt (.inr (by rw [h]; exact hk))).trans b.1, (s.same g b.lt (.inr (by rw [h]; exact hk))).trans h⟩
theorem Stp.ke (s : Stp ks lab w lab' w') : Ke (ks.filter (fun k => !Nat.beq k 0)) lab w lab' w' := by
 refine ⟨s.size, fun b hb h => ?_⟩
 have : lab b = 0 ∨ ks.contains (lab b) = false := by
  rcases Nat.eq_zero_or_pos (lab b) with h0 | h0
  ·exact .inl h0
  ·refine .inr ?_
   cases hc : ks.contains (lab b) with
   | false => rfl
   | true =>
    have hm : lab b ∈ ks := by simpa using hc
    have : lab b ∈ ks.filter (fun k => !Nat.beq k 0) := List.mem_filter.2 ⟨hm, nb0 h0⟩
    have h2 : (ks.filter (fun k => !Nat.beq k 0)).contains (lab b) = true := by simpa using this
    rw [h2] at h; cases h
 exact ⟨s.same b hb this, s.block b hb this⟩
theorem ke_no0 : (ks.filter (fun k => !Nat.beq k 0)).contains 0 = false := by
 cases h : (ks.filter (fun k => !Nat.beq k 0)).contains 0 with
 | false => rfl
 | true =>
  simp at h
theorem ke_no (h : ks.contains k = false) : (ks.filter (fun k => !Nat.beq k 0)).contains k = false := by
 cases hc : (ks.filter (fun k => !Nat.beq k 0)).contains k with
 | false => rfl
 | true =>
  have h1 : k ∈ ks.filter (fun k => !Nat.beq k 0) := by simpa using hc
  have h2 : ks.contains k = true := by simpa using (List.mem_filter.1 h1).1
  rw [h2] at h; cases h
theorem OwnQ.stp {E E2 c : Nat} {oa : Option Addr} {t : PT} {ks : List Nat} {xs : List (List (den t))} (o : OwnQ t lab w k E E2 oa c xs) (s : Stp ks lab w lab' w') (hk : ks.contains k = false) : OwnQ t lab' w' k E E2 oa c xs := by
 rcases o with h | ⟨ys, z, vs, a', c', rfl, h1, h2, h3, h4⟩
 ·exact .inl h
 ·exact .inr ⟨ys, z, vs, a', c', rfl, h1.ke s.ke ke_no0 (ke_no hk), h2.datKeep s.keeps, h3.ke s.ke ke_no0 (ke_no hk), h4⟩
theorem OwnP.stp {E E2 c : Nat} {oa : Option Addr} {t : PT} {ks : List Nat} {xs : List (List (den t))} (o : OwnP t lab w k E oa c xs) (s : Stp ks lab w lab' w') (hk : ks.contains k = false) : OwnP t lab' w' k E oa c xs := by
 obtain ⟨ys, z, vs, u, rfl, h1, h2⟩ := o
 exact ⟨ys, z, vs, u, rfl, h1.ke s.ke ke_no0 (ke_no hk), h2.datKeep s.keeps⟩
theorem MemOK.stp (s : Stp ks lab w lab' w') (hk : m.lbl = 0 ∨ ks.contains m.lbl = false) (hp : m.lbl = 0 → isRg m = true) (h : MemOK e lab w id m) : MemOK e lab' w' id m := by
 cases m with
 | rgh t xs => exact h
 | rgi q t xs k ox => exact h
 | rgc n => exact h
 | rgj q n k more => exact h
 | mp k T t f =>
  obtain ⟨g, es, clock, h1, h2, h3, h4⟩ := h
  rcases hk with hk | hk
  ·cases hp hk
  ·have hlt : g < w.heap.size := (Array.getElem?_eq_some_iff.1 h2).1
   have hs : lab g = 0 ∨ ks.contains (lab g) = false := .inr (by rw [h3]; exact hk)
   exact ⟨g, es, clock, h1, (s.block g hlt hs).trans h2, (s.same g hlt hs).trans h3, h4.keep s.keeps⟩
 | box k T t x =>
  obtain ⟨g, cs, h1, h2, h3⟩ := h
  rcases hk with hk | hk
  ·cases hp hk
  ·exact ⟨g, cs, h1, h2.stp s hk, (rep t).keep s.keeps h3⟩
 | boxh k T t x hs =>
  obtain ⟨g, cs, h1, h2, h3, h4⟩ := h
  rcases hk with hk | hk
  ·cases hp hk
  ·exact ⟨g, cs, h1, h2.stp s hk, (rep t).keep s.keeps h3, h4⟩
 | row k E t xs =>
  obtain ⟨h1, h2, h3⟩ := h
  rcases hk with hk | hk
  ·cases hp hk
  ·exact ⟨h1, h2, h3.ke s.ke ke_no0 (ke_no hk)⟩
 | src k t xs =>
  obtain ⟨h1, h2⟩ := h
  rcases hk with hk | hk
  ·cases hp hk
  ·exact ⟨h1, h2.ke s.ke ke_no0 (ke_no hk)⟩
 | rq k E E2 t xs =>
  obtain ⟨h1, h2, h3⟩ := h
  rcases hk with hk | hk
  ·cases hp hk
  ·exact ⟨h1, h2, h3.stp s hk⟩
 | rp k E E2 t xs =>
  obtain ⟨h1, h2, h3⟩ := h
  rcases hk with hk | hk
  ·cases hp hk
  ·exact ⟨h1, h2, OwnP.stp (E2 := E2) h3 s hk⟩
end
structure PS where
 nxt : Nat
 sl : List (Nat × Nat × SV)
 mem : List (Nat × Nat × MEnt)
def findK {β : Type} : List (Nat × Nat × β) → Nat → Option (Nat × β)
 | [], _ => none
 | (k, st, b) :: r, s => match Nat.beq k s with
  | true => some (st, b)
  | false => findK r s
def dropK {β : Type} : List (Nat × Nat × β) → Nat → List (Nat × Nat × β)
 | [], _ => []
 | (k, st, b) :: r, s => match Nat.beq k s with
  | true => dropK r s
  | false => (k, st, b) :: dropK r s
theorem findK_mem {β : Type} : ∀ {l : List (Nat × Nat × β)} {s st : Nat} {b : β}, findK l s = some (st, b) → (s, st, b) ∈ l
 | [], _, _, _, h => by simp [findK] at h
 | (k, st', b') :: r, s, st, b, h => by
  unfold findK at h
  split at h
  ·rename_i hb
   have := Nat.eq_of_beq_eq_true hb; subst this
   simp at h; obtain ⟨rfl, rfl⟩ := h; simp
  ·exact List.mem_cons_of_mem _ (findK_mem h)
theorem dropK_mem {β : Type} : ∀ {l : List (Nat × Nat × β)} {s : Nat} {x : Nat × Nat × β}, x ∈ dropK l s ↔ x ∈ l ∧ x.1 ≠ s
 | [], s, x => by simp [dropK]
 | (k, st, b) :: r, s, x => by
  unfold dropK
  split
  ·rename_i hb
   have := Nat.eq_of_beq_eq_true hb; subst this
   rw [dropK_mem, List.mem_cons]
   constructor
   ·exact fun ⟨h1, h2⟩ => ⟨.inr h1, h2⟩
   ·rintro ⟨rfl | h1, h2⟩
    ·exact absurd rfl h2
    ·exact ⟨h1, h2⟩
  ·rename_i hb
   have hne : k ≠ s := fun e => by subst e; simp at hb
   rw [List.mem_cons, dropK_mem, List.mem_cons]
   constructor
   ·rintro (rfl | ⟨h1, h2⟩)
    ·exact ⟨.inl rfl, hne⟩
    ·exact ⟨.inr h1, h2⟩
   ·rintro ⟨rfl | h1, h2⟩
    ·exact .inl rfl
    ·exact .inr ⟨h1, h2⟩
def KN {β : Type} (l : List (Nat × Nat × β)) : Prop := l.Pairwise fun a b => a.1 ≠ b.1
theorem KN.uniq {β : Type} : ∀ {l : List (Nat × Nat × β)}, KN l → ∀ {s st st' : Nat} {b b' : β}, (s, st, b) ∈ l → (s, st', b') ∈ l → st = st' ∧ b = b'
 | [], _, _, _, _, _, _, h, _ => by simp at h
 | x :: r, hn, s, st, st', b, b', h1, h2 => by
  obtain ⟨hx, hr⟩ := List.pairwise_cons.1 hn
  rcases List.mem_cons.1 h1 with e1 | m1
  ·rcases List.mem_cons.1 h2 with e2 | m2
   ·have e := e1.trans e2.symm
    injection e with _ h; injection h with ha hb; exact ⟨ha, hb⟩
   ·exact (hx _ m2 (by rw [← e1])).elim
  ·rcases List.mem_cons.1 h2 with e2 | m2
   ·exact (hx _ m1 (by rw [← e2])).elim
   ·exact KN.uniq hr m1 m2
theorem KN.filter {β : Type} {l : List (Nat × Nat × β)} (h : KN l) (p : Nat × Nat × β → Bool) : KN (l.filter p) := List.Pairwise.filter p h
theorem dropK_sub {β : Type} : ∀ {l : List (Nat × Nat × β)} {s : Nat}, List.Sublist (dropK l s) l
 | [], _ => List.Sublist.refl _
 | (k, st, b) :: r, s => by
  unfold dropK
  split
  ·exact List.Sublist.cons _ dropK_sub
  ·exact List.Sublist.cons_cons _ dropK_sub
theorem KN.put {β : Type} {l : List (Nat × Nat × β)} (h : KN l) (s st : Nat) (b : β) : KN ((s, st, b) :: dropK l s) := by
 refine List.pairwise_cons.2 ⟨fun x hx => ?_, List.Pairwise.sublist dropK_sub h⟩
 exact fun e => (dropK_mem.1 hx).2 e.symm
structure Out where
 sv : SV
 ks : List Nat
 puts : List (Nat × MEnt)
 re : List (Nat × SV)
def killM (ks : List Nat) : List (Nat × Nat × MEnt) → List (Nat × Nat × MEnt)
 | [] => []
 | (i, st, m) :: r => match Nat.beq m.lbl 0 || !ks.contains m.lbl with
  | true => (i, st, m) :: killM ks r
  | false => killM ks r
theorem killM_mem {ks : List Nat} : ∀ {l : List (Nat × Nat × MEnt)} {x : Nat × Nat × MEnt}, x ∈ killM ks l ↔ x ∈ l ∧ (x.2.2.lbl = 0 ∨ ks.contains x.2.2.lbl = false)
 | [], x => by simp [killM]
 | (i, st, m) :: r, x => by
  unfold killM
  split
  ·rename_i hb
   have hb' : m.lbl = 0 ∨ ks.contains m.lbl = false := kb.1 hb
   rw [List.mem_cons, killM_mem, List.mem_cons]
   constructor
   ·rintro (rfl | ⟨h1, h2⟩)
    ·exact ⟨.inl rfl, hb'⟩
    ·exact ⟨.inr h1, h2⟩
   ·rintro ⟨rfl | h1, h2⟩
    ·exact .inl rfl
    ·exact .inr ⟨h1, h2⟩
  ·rename_i hb
   have hb' : ¬ (m.lbl = 0 ∨ ks.contains m.lbl = false) := fun h => by rw [kb.2 h] at hb; cases hb
   rw [killM_mem, List.mem_cons]
   constructor
   ·exact fun ⟨h1, h2⟩ => ⟨.inr h1, h2⟩
   ·rintro ⟨rfl | h1, h2⟩
    ·exact absurd h2 hb'
    ·exact ⟨h1, h2⟩
def putsM (st : Nat) : List (Nat × MEnt) → List (Nat × Nat × MEnt) → List (Nat × Nat × MEnt)
 | [], l => l
 | (i, m) :: r, l => putsM st r ((i, st, m) :: dropK l i)
def reS (st : Nat) : List (Nat × SV) → List (Nat × Nat × SV) → List (Nat × Nat × SV)
 | [], l => l
 | (s, v) :: r, l => reS st r ((s, st, v) :: dropK l s)
def putS0 (st : Nat) (d : Option Nat) (sv : SV) (l : List (Nat × Nat × SV)) : List (Nat × Nat × SV) :=
 match d with
 | some d => (d, st, sv) :: dropK l d
 | none => l
def apply (ps : PS) (d : Option Nat) (o : Out) : PS :=
 ⟨ps.nxt + 4, putS0 ps.nxt d o.sv (reS ps.nxt o.re ps.sl), putsM ps.nxt o.puts (killM o.ks ps.mem)⟩
theorem putsM_mem {st : Nat} : ∀ {p : List (Nat × MEnt)} {l : List (Nat × Nat × MEnt)} {x : Nat × Nat × MEnt}, x ∈ putsM st p l → x ∈ l ∨ (x.2.1 = st ∧ (x.1, x.2.2) ∈ p)
 | [], l, x, h => .inl h
 | (i, m) :: r, l, x, h => by
  unfold putsM at h
  rcases putsM_mem h with h | ⟨h1, h2⟩
  ·rcases List.mem_cons.1 h with rfl | h
   ·exact .inr ⟨rfl, by simp⟩
   ·exact .inl (dropK_mem.1 h).1
  ·exact .inr ⟨h1, by simp [h2]⟩
theorem reS_mem {st : Nat} : ∀ {p : List (Nat × SV)} {l : List (Nat × Nat × SV)} {x : Nat × Nat × SV}, x ∈ reS st p l → x ∈ l ∨ (x.2.1 = st ∧ (x.1, x.2.2) ∈ p)
 | [], l, x, h => .inl h
 | (i, m) :: r, l, x, h => by
  unfold reS at h
  rcases reS_mem h with h | ⟨h1, h2⟩
  ·rcases List.mem_cons.1 h with rfl | h
   ·exact .inr ⟨rfl, by simp⟩
   ·exact .inl (dropK_mem.1 h).1
  ·exact .inr ⟨h1, by simp [h2]⟩
theorem KN.putsM {st : Nat} : ∀ {p : List (Nat × MEnt)} {l : List (Nat × Nat × MEnt)}, KN l → KN (Gk.putsM st p l)
 | [], _, h => h
 | (i, m) :: r, l, h => by
  show KN (Gk.putsM st r ((i, st, m) :: dropK l i))
  exact KN.putsM (h.put i st m)
theorem KN.reS {st : Nat} : ∀ {p : List (Nat × SV)} {l : List (Nat × Nat × SV)}, KN l → KN (Gk.reS st p l)
 | [], _, h => h
 | (i, m) :: r, l, h => by
  show KN (Gk.reS st r ((i, st, m) :: dropK l i))
  exact KN.reS (h.put i st m)
theorem killM_sub {ks : List Nat} : ∀ {l : List (Nat × Nat × MEnt)}, List.Sublist (killM ks l) l
 | [] => List.Sublist.refl _
 | (i, st, m) :: r => by
  unfold killM
  split
  ·exact List.Sublist.cons_cons _ killM_sub
  ·exact List.Sublist.cons _ killM_sub
theorem KN.killM {ks : List Nat} {l : List (Nat × Nat × MEnt)} (h : KN l) : KN (Gk.killM ks l) := List.Pairwise.sublist killM_sub h
structure WF (ps : PS) : Prop where
 sl : ∀ s st sv, (s, st, sv) ∈ ps.sl → st < ps.nxt ∧ ∀ i ∈ refs sv, i < ps.nxt
 mem : ∀ i st m, (i, st, m) ∈ ps.mem → st < ps.nxt ∧ i < ps.nxt ∧ ∀ j ∈ mrefs m, j < ps.nxt
 lbl : ∀ i st m, (i, st, m) ∈ ps.mem → m.lbl = 0 → isRg m = true
 ns : KN ps.sl
 nm : KN ps.mem
 n0 : 0 < ps.nxt
def A0 (pts : List Nat) (e : Env) : Prop := ∀ g ∈ pts, (e 0).oa = some ⟨g, 0, none⟩
structure Pres (base ps : PS) : Prop where
 nxt : base.nxt ≤ ps.nxt
 sl : ∀ s st sv, (s, st, sv) ∈ ps.sl → st < base.nxt → (s, st, sv) ∈ base.sl
 mem : ∀ i st m, (i, st, m) ∈ ps.mem → st < base.nxt → (i, st, m) ∈ base.mem
theorem Pres.refl (ps : PS) : Pres ps ps := ⟨Nat.le_refl _, fun _ _ _ h _ => h, fun _ _ _ h _ => h⟩
theorem Pres.trans {a b c : PS} (h : Pres a b) (h2 : Pres b c) : Pres a c :=
 ⟨Nat.le_trans h.nxt h2.nxt, fun s st sv hm hl => h.sl s st sv (h2.sl s st sv hm (Nat.lt_of_lt_of_le hl h.nxt)) hl, fun i st m hm hl => h.mem i st m (h2.mem i st m hm (Nat.lt_of_lt_of_le hl h.nxt)) hl⟩
theorem Pres.apply (ps : PS) (d : Option Nat) (o : Out) : Pres ps (apply ps d o) := by
 refine ⟨Nat.le_add_right _ _, fun s st sv hm hl => ?_, fun i st m hm hl => ?_⟩
 ·have key : (s, st, sv) ∈ reS ps.nxt o.re ps.sl := by
   cases d with
   | none => exact hm
   | some d =>
    rcases List.mem_cons.1 hm with h | h
    ·injection h with _ h; injection h with h _; omega
    ·exact (dropK_mem.1 h).1
  rcases reS_mem key with h | ⟨h, _⟩
  ·exact h
  ·exact absurd h (Nat.ne_of_lt hl)
 ·rcases putsM_mem hm with h | ⟨h, _⟩
  ·exact (killM_mem.1 h).1
  ·exact absurd h (Nat.ne_of_lt hl)
def outB (nxt : Nat) (o : Out) : Bool :=
 (refs o.sv).all (fun i => Nat.blt i (nxt + 4)) && o.puts.all (fun p => Nat.blt p.1 (nxt + 4) && (mrefs p.2).all (fun i => Nat.blt i (nxt + 4)) && (isRg p.2 || !Nat.beq p.2.lbl 0)) && o.re.all (fun p => (refs p.2).all fun i => Nat.blt i (nxt + 4))
theorem blt_lt {a b : Nat} (h : Nat.blt a b = true) : a < b := Nat.le_of_ble_eq_true h
theorem WF.apply {ps : PS} (h : WF ps) (d : Option Nat) {o : Out} (ho : outB ps.nxt o = true) : WF (apply ps d o) := by
 simp only [outB, Bool.and_eq_true] at ho
 obtain ⟨⟨h1, h2⟩, h3⟩ := ho
 have keyS : ∀ s st sv, (s, st, sv) ∈ reS ps.nxt o.re ps.sl → st < ps.nxt + 4 ∧ ∀ i ∈ refs sv, i < ps.nxt + 4 := fun s st sv hm => by
  rcases reS_mem hm with hm | ⟨hs, hm⟩
  ·obtain ⟨a, b⟩ := h.sl s st sv hm
   exact ⟨by omega, fun i hi => by have := b i hi; omega⟩
  ·have := List.all_eq_true.1 (List.all_eq_true.1 h3 _ hm)
   refine ⟨?_, fun i hi => blt_lt (this i hi)⟩
   have hs : st = ps.nxt := hs
   omega
 have keyM : ∀ p ∈ o.puts, p.1 < ps.nxt + 4 ∧ (∀ j ∈ mrefs p.2, j < ps.nxt + 4) ∧ (p.2.lbl = 0 → isRg p.2 = true) := fun p hp => by
  have := List.all_eq_true.1 h2 p hp
  simp only [Bool.and_eq_true, Bool.or_eq_true] at this
  obtain ⟨⟨a, b⟩, c⟩ := this
  refine ⟨blt_lt a, fun j hj => blt_lt (List.all_eq_true.1 b j hj), fun h0 => ?_⟩
  rcases c with c | c
  ·exact c
  ·rw [h0] at c; cases c
 refine ⟨fun s st sv hm => ?_, fun i st m hm => ?_, fun i st m hm h0 => ?_, ?_, h.nm.killM.putsM, Nat.lt_of_lt_of_le h.n0 (Nat.le_add_right _ _)⟩
 ·cases d with
  | none => exact keyS s st sv hm
  | some d =>
   rcases List.mem_cons.1 hm with he | hm
   ·injection he with _ he; injection he with he1 he2
    subst he1 he2
    refine ⟨?_, fun i hi => blt_lt (List.all_eq_true.1 h1 i hi)⟩
    show ps.nxt < ps.nxt + 4
    omega
   ·exact keyS s st sv (dropK_mem.1 hm).1
 ·rcases putsM_mem hm with hm | ⟨hs, hm⟩
  ·obtain ⟨a, b, c⟩ := h.mem i st m (killM_mem.1 hm).1
   exact ⟨Nat.lt_of_lt_of_le a (Nat.le_add_right _ _), Nat.lt_of_lt_of_le b (Nat.le_add_right _ _), fun j hj => Nat.lt_of_lt_of_le (c j hj) (Nat.le_add_right _ _)⟩
  ·obtain ⟨a, b, _⟩ := keyM _ hm
   have hs : st = ps.nxt := hs
   refine ⟨?_, a, b⟩
   show st < ps.nxt + 4
   omega
 ·rcases putsM_mem hm with hm | ⟨hs, hm⟩
  ·exact h.lbl i st m (killM_mem.1 hm).1 h0
  ·exact (keyM _ hm).2.2 h0
 ·cases d with
  | none => exact h.ns.reS
  | some d => exact h.ns.reS.put d ps.nxt o.sv
def gls : List Nat := [0, 1, 2, 4, 5, 6, 7]
def GF (w : World) : Prop := (∃ m, w.cell? ⟨7, 0, none⟩ = some (.int .i64 m)) ∧ ((∀ c, c < 256 → w.cell? ⟨1, c, none⟩ = some (.int .u8 (Lib.firstT c))) ∧ (∀ i, i < 16 → w.cell? ⟨2, 2 * i, none⟩ = some (.int .u8 (Lib.accLo i)) ∧ w.cell? ⟨2, 2 * i + 1, none⟩ = some (.int .u8 (Lib.accHi i)))) ∧ (w.cell? ⟨0, 0, none⟩ = some (strV [102, 97, 108, 115, 101]) ∧ w.cell? ⟨0, 1, none⟩ = some (strV [116, 114, 117, 101]) ∧ w.cell? ⟨0, 2, none⟩ = some (strV [110, 117, 108, 108]) ∧ w.cell? ⟨0, 3, none⟩ = some (strV [117, 110, 100, 101, 102, 105, 110, 101, 100])) ∧ (∃ t p, w.heap[4]? = some (.cells (Lib.pow10Tab.map fun z => Value.int .u64 z).toArray t p)) ∧ (∃ tp p, w.cell? ⟨5, 0, none⟩ = some (.iface tp p)) ∧ (∃ tp p, w.cell? ⟨6, 0, none⟩ = some (.iface tp p))
def GL (lab : Lab) (w : World) : Prop := ∃ w0, GF w0 ∧ ∀ g ∈ gls, g < w.heap.size ∧ lab g = 0 ∧ w.heap[g]? = w0.heap[g]?
theorem GL.keep {lab lab' : Lab} {w w' : World} (hk : Keeps lab w lab' w') (h : GL lab w) : GL lab' w' := by
 obtain ⟨w0, h0, h1⟩ := h
 refine ⟨w0, h0, fun g hg => ?_⟩
 obtain ⟨a, b, c⟩ := h1 g hg
 obtain ⟨d, e⟩ := hk.2 g a b
 exact ⟨Nat.lt_of_lt_of_le a hk.1, d, e.trans c⟩
structure Sim (e : Env) (ps : PS) (F : List (Nat × Value)) (lab : Lab) (w : World) : Prop where
 sl : ∀ s st sv, (s, st, sv) ∈ ps.sl → ∃ v, look F s = some v ∧ RV e sv lab w v
 mem : ∀ i st m, (i, st, m) ∈ ps.mem → MemOK e lab w i m
 gl : GL lab w
theorem look_ne {F : List (Nat × Value)} {d s : Nat} {v : Value} (h : s ≠ d) : look ((d, v) :: F) s = look F s := by
 have : Nat.beq d s = false := beq_false fun e => h e.symm
 simp [look, this]
theorem look_eq {F : List (Nat × Value)} {d : Nat} {v : Value} : look ((d, v) :: F) d = some v := by simp [look]
def upF (F : List (Nat × Value)) (d : Option Nat) (v : Value) : List (Nat × Value) :=
 match d with
 | some d => (d, v) :: F
 | none => F
def OpPost (N : Nat) (F : List (Nat × Value)) (e : Env) (nid : Nat) (lab : Lab) (w : World) (d : Option Nat) (o : Out) (e' : Env) (lab' : Lab) (w' : World) (v : Value) : Prop :=
 (∀ i, (i < nid ∨ nid + 4 ≤ i) → e' i = e i) ∧ Stp o.ks lab w lab' w' ∧ RV e' o.sv lab' w' v ∧ (∀ p ∈ o.puts, MemOK e' lab' w' p.1 p.2) ∧ (∀ p ∈ o.re, ∀ u, look F p.1 = some u → RV e' p.2 lab' w' u)
theorem Sim.apply {N : Nat} {e e' : Env} {ps : PS} {F : List (Nat × Value)} {lab lab' : Lab} {w w' : World} {d : Option Nat} {o : Out} {v : Value} (h : Sim e ps F lab w) (wf : WF ps)
  (hp : OpPost N F e ps.nxt lab w d o e' lab' w' v) (hre : ∀ p ∈ o.re, ∃ u, look F p.1 = some u) : Sim e' (apply ps d o) (upF F d v) lab' w' := by
 obtain ⟨h1, h2, h3, h4, h5⟩ := hp
 have keyS : ∀ s st sv, (s, st, sv) ∈ reS ps.nxt o.re ps.sl → ∃ u, look F s = some u ∧ RV e' sv lab' w' u := fun s st sv hm => by
  rcases reS_mem hm with hm | ⟨_, hm⟩
  ·obtain ⟨u, hu, hr⟩ := h.sl s st sv hm
   exact ⟨u, hu, (hr.keep h2.keeps).env fun i hi => h1 i (.inl ((wf.sl s st sv hm).2 i hi))⟩
  ·obtain ⟨u, hu⟩ := hre _ hm
   exact ⟨u, hu, h5 _ hm u hu⟩
 refine ⟨fun s st sv hm => ?_, fun i st m hm => ?_, h.gl.keep h2.keeps⟩
 ·cases d with
  | none => exact keyS s st sv hm
  | some d =>
   rcases List.mem_cons.1 hm with he | hm
   ·injection he with he0 he; injection he with he1 he2
    subst he0 he1 he2
    exact ⟨v, look_eq, h3⟩
   ·obtain ⟨hm, hne⟩ := dropK_mem.1 hm
    obtain ⟨u, hu, hr⟩ := keyS s st sv hm
    exact ⟨u, by show look ((d, v) :: F) s = some u; rw [look_ne hne]; exact hu, hr⟩
 ·rcases putsM_mem hm with hm | ⟨_, hm⟩
  ·obtain ⟨hm, hl⟩ := killM_mem.1 hm
   obtain ⟨_, hi, hj⟩ := wf.mem i st m hm
   exact ((h.mem i st m hm).stp h2 hl (wf.lbl i st m hm)).env (h1 i (.inl hi)) fun j hj' => h1 j (.inl (hj j hj'))
  ·exact h4 _ hm
end Go.Gk
