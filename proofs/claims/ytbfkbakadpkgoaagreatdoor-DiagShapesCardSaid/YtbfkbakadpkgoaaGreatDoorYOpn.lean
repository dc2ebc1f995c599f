/-
  Arguments of a row opened to what the evaluator's contracts speak of, and the row shut. Over whatever program; no condition.
-/
import Derived.Test.YtbfkbakadpkgoaaGreatDoorYEn
import Derived.Test.YtbfkbakadpkgoaaGreatDoorOpen
import Derived.HandedShaped
namespace Go.Gk
open Go.RowKit Go.ChangeShapes Go.WideShapes Go.WideElems
def inT : (t : PT) → den t → Prop
 | .int .i64, n => -9223372036854775808 ≤ (show Int from n) ∧ (show Int from n) < 9223372036854775808
 | .int _, _ => True
 | .bool, _ => True
 | .str, l => List.length (α := UInt8) l ≤ maxLen
 | .sl t, l => List.length (α := den t) l ≤ maxLen ∧ ∀ x ∈ (show List (den t) from l), inT t x
 | .pr a b, x => inT a x.1 ∧ inT b x.2
 | .st t, x => inT t x
 | .un, _ => True
 | .cp _, _ => True
 | .clo _ _, _ => True
 | .tree, _ => True
 | .err, _ => True
 | .fl, _ => True
section
variable {P : Program} {t e : TypeId}
theorem OpensT.i64 (ht : P.underlying t = some (.int .i64)) : Opens P t (rep (.int .i64)) (inT (.int .i64)) := fun h => by
 obtain ⟨n, h1, h2⟩ := Opens.i64 ht h
 exact ⟨n, h1, h2⟩
theorem OpensT.u8 (ht : P.underlying t = some (.int .u8)) : Opens P t (rep (.int .u8)) (inT (.int .u8)) := fun h => by
 obtain ⟨n, h1, _⟩ := Opens.u8 ht h
 exact ⟨n, h1, trivial⟩
theorem OpensT.u64 (ht : P.underlying t = some (.int .u64)) : Opens P t (rep (.int .u64)) (inT (.int .u64)) := fun {H enc w base spare held fuel cs x} h => by
 obtain ⟨n, rfl, _, hw⟩ := DataW.trod_int ht h
 simp only [Lit.wf, Bool.and_eq_true, decide_eq_true_eq] at hw
 have h1 : IntKind.u64.min = 0 := rfl
 have h2 : IntKind.u64.max = 18446744073709551615 := rfl
 refine ⟨(UInt64.ofNat n.toNat : UInt64), ?_, trivial⟩
 show [Value.int .u64 n] = [.int .u64 (UInt64.toNat (UInt64.ofNat n.toNat) : Int)]
 have e1 : (UInt64.ofNat n.toNat).toNat = n.toNat := by rw [UInt64.toNat_ofNat']; omega
 rw [e1, Int.toNat_of_nonneg (by omega)]
theorem OpensT.bool (ht : P.underlying t = some .bool) : Opens P t (rep .bool) (inT .bool) := fun h => by
 obtain ⟨b, h1, _⟩ := Opens.bool ht h
 exact ⟨b, h1, trivial⟩
theorem OpensT.str (ht : P.underlying t = some .string) : Opens P t (rep .str) (inT .str) := fun h => by
 obtain ⟨b, h1, h2⟩ := Opens.str ht h
 exact ⟨b, h1, h2⟩
theorem OpensT.sl {pt : PT} (ht : P.underlying t = some (.slice e)) (hC : P.cellsOf e = csz pt) (ho : Opens P e (rep pt) (inT pt)) : Opens P t (rep (.sl pt)) (inT (.sl pt)) := fun h => by
 obtain ⟨b, h1, h2⟩ := Opens.sl ht (hC.trans (rep_sz pt).symm) ho h
 exact ⟨b, h1, h2⟩
def OpensF (P : Program) (t : TypeId) (j off : Nat) (pt : PT) : Prop :=
 ∀ {H : Type} {enc : TypeId × Value → H} {w : World} {base : Nat} {spare : Nat → Bool} {held : Bool} {fuel : Nat} {cs : List Value} {x : DataW H × List MemPlace}, P.underlying t = some (.struct (P.fieldsOf t)) → DataW.trod enc P w base spare held fuel t cs = some x → cs.length = P.cellsOf t → ∃ e, (rep pt).rd lab0 w (cs.drop off) e ∧ inT pt e
theorem OpensF.cons {j off : Nat} {ft : TypeId} {a b : PT} (off' : Nat) (hf : fieldB P t j off ft (csz a) = true) (ho' : Nat.beq (off + csz a) off' = true) (ho : Opens P ft (rep a) (inT a)) (hr : OpensF P t (j + 1) off' b) : OpensF P t j off (.pr a b) := fun {H enc w base spare held fuel cs x} hu h hn => by
 obtain ⟨e, h1, h2⟩ := Opens.field hu h j off (csz a) hf ho
 obtain ⟨r, h3, h4⟩ := hr hu h hn
 rw [← Nat.eq_of_beq_eq_true ho'] at h3
 refine ⟨(e, r), ⟨_, _, ?_, h1, h3⟩, h2, h4⟩
 rw [← List.drop_drop, List.take_append_drop]
theorem OpensT.st {pt : PT} (hu : P.underlying t = some (.struct (P.fieldsOf t))) (hf : OpensF P t 0 0 pt) : Opens P t (rep (.st pt)) (inT (.st pt)) := fun {H enc w base spare held fuel cs x} h => by
 obtain ⟨_, _, _, _, hlen, _, _⟩ := DataW.trod_struct hu h
 obtain ⟨e, h1, h2⟩ := hf hu h hlen
 exact ⟨e, h1, h2⟩
theorem field_at {H : Type} {enc : TypeId × Value → H} {w : World} {base : Nat} {spare : Nat → Bool} {held : Bool} {fuel : Nat} {cs : List Value} {x : DataW H × List MemPlace} (ht : P.underlying t = some (.struct (P.fieldsOf t))) (h : DataW.trod enc P w base spare held fuel t cs = some x)
  (j off : Nat) {ft : TypeId} (k : Nat) (hf : fieldB P t j off ft k = true) : ∃ n y, fuel = n + 1 ∧ DataW.trod enc P w base spare held n ft ((cs.drop off).take k) = some y := by
 obtain ⟨xs, n, hn, _, _, hl, hg⟩ := DataW.trod_struct ht h
 unfold fieldB at hf
 split at hf
 ·rename_i f hj
  simp only [Bool.and_eq_true] at hf
  obtain ⟨⟨h1, h2⟩, h3⟩ := hf
  have h1 := Nat.eq_of_beq_eq_true h1
  have h2 : f.type = ft := Nat.eq_of_beq_eq_true h2
  have h3 := Nat.eq_of_beq_eq_true h3
  have := hg j f hj
  rw [h1, h3, h2] at this
  have hlt : j < xs.length := by rw [hl]; exact (Array.getElem?_eq_some_iff.1 hj).1
  rw [List.getElem?_eq_getElem hlt] at this
  exact ⟨n, _, hn, this⟩
 ·cases hf
theorem OpensT.tree {ik uk bs eb is : TypeId} (hu : P.underlying t = some (.struct (P.fieldsOf t))) (hc : Nat.beq (P.cellsOf t) 4 = true) (f0 : fieldB P t 0 0 ik 1 = true) (f1 : fieldB P t 1 1 uk 1 = true) (f2 : fieldB P t 2 2 bs 1 = true) (f3 : fieldB P t 3 3 is 1 = true)
  (hik : P.underlying ik = some (.int .i64)) (huk : P.underlying uk = some (.int .u64)) (hbs : P.underlying bs = some (.slice eb)) (hbc : P.cellsOf eb = csz (.int .u8)) (heb : P.underlying eb = some (.int .u8)) (his : P.underlying is = some (.slice t)) : Opens P t (rep .tree) (inT .tree) := by
 have hC : P.cellsOf t = 4 := Nat.eq_of_beq_eq_true hc
 have key : ∀ (fuel : Nat) {H : Type} {enc : TypeId × Value → H} {w : World} {base : Nat} {spare : Nat → Bool} {held : Bool} {cs : List Value} {x : DataW H × List MemPlace}, DataW.trod enc P w base spare held fuel t cs = some x → ∃ e, Rep.tree.rd lab0 w cs e := by
  intro fuel
  induction fuel using Nat.strongRecOn with
  | _ fuel ih =>
   intro H enc w base spare held cs x h
   obtain ⟨_, _, _, _, hlen, _, _⟩ := DataW.trod_struct hu h
   rw [hC] at hlen
   obtain ⟨e0, r0, _⟩ := Opens.field hu h 0 0 1 f0 (OpensT.i64 hik)
   obtain ⟨e1, r1, _⟩ := Opens.field hu h 1 1 1 f1 (OpensT.u64 huk)
   obtain ⟨e2, r2, _⟩ := Opens.field hu h 2 2 1 f2 (OpensT.sl hbs hbc (OpensT.u8 heb))
   obtain ⟨n, y, hn, h3⟩ := field_at hu h 3 3 1 f3
   have h4 : ∃ l : List Tr, (Rep.sl Rep.tree).rd lab0 w ((cs.drop 3).take 1) l := by
    rcases DataW.trod_slice his h3 with ⟨e, _⟩ | ⟨a, len, cap, elems, rest, m, hm, e, _, _, hl, hmx, hel, hi, _, _⟩
    ·exact ⟨[], none, 0, e, SL.nil⟩
    ·have hq : ∀ i, i < len → ∃ z, ∃ cs', Rep.tree.rd lab0 w cs' z ∧ At lab0 w (a.add (i * 4)) cs' := fun i hil => by
      have h5 := hi i hil
      have hlt : i < elems.length := by omega
      rw [List.getElem?_eq_getElem hlt, hC] at h5
      cases hcl : w.cells? base (a.add (i * 4)) 4 with
      | none => rw [hcl] at h5; cases h5
      | some cs' =>
       rw [hcl] at h5
       obtain ⟨z, hz⟩ := ih m (by omega) (show DataW.trod enc P w base spare held m t cs' = some elems[i] from h5)
       obtain ⟨_, hcl2, hat⟩ := World.cells?_some hcl
       refine ⟨z, cs', hz, fun j u hu => ⟨rfl, ?_⟩⟩
       have hj : j < cs'.length := (List.getElem?_eq_some_iff.1 hu).1
       rw [hat j (by omega), hu]
     obtain ⟨xs, hxl, hxs⟩ := list_of hq
     refine ⟨xs, some a, cap, by rw [e, hxl], by omega, hmx, fun i y hy => ?_⟩
     obtain ⟨cs', h1, h2⟩ := hxs i y hy
     exact ⟨a, cs', rfl, h1, h2⟩
   obtain ⟨l, r3⟩ := h4
   match cs, hlen with
   | [c0, c1, c2, c3], _ => exact ⟨.mk e0 e1 e2 l, tree_iff.2 ⟨[c0], [c1, c2, c3], rfl, r0, [c1], [c2, c3], rfl, r1, [c2], [c3], rfl, r2, r3⟩⟩
 intro H enc w base spare held fuel cs x h
 obtain ⟨e, he⟩ := key fuel h
 exact ⟨e, he, trivial⟩
def Shaped (pt : PT) (v : Value) : Prop := IsV pt v.cells.toList v
theorem Shaped.int {w : World} {r : Reach} {base : Nat} {v : Value} {k : IntKind} (ht : P.underlying t = some (.int k)) (h : Value.okWide P w r base t v) : Shaped (.int k) v := by
 obtain ⟨n, rfl⟩ := okWide_int ht h; rfl
theorem Shaped.bool {w : World} {r : Reach} {base : Nat} {v : Value} (ht : P.underlying t = some .bool) (h : Value.okWide P w r base t v) : Shaped .bool v := by
 obtain ⟨n, rfl⟩ := okWide_bool ht h; rfl
theorem Shaped.str {w : World} {r : Reach} {base : Nat} {v : Value} (ht : P.underlying t = some .string) (h : Value.okWide P w r base t v) : Shaped .str v := by
 obtain ⟨n, rfl⟩ := okWide_string ht h; rfl
theorem Shaped.sl {w : World} {r : Reach} {base : Nat} {v : Value} {pt : PT} (ht : P.underlying t = some (.slice e)) (h : Value.okWide P w r base t v) : Shaped (.sl pt) v := by
 obtain ⟨a, l, c, rfl⟩ := okWide_slice ht h; rfl
theorem Shaped.st {w : World} {r : Reach} {base : Nat} {v : Value} {pt : PT} (ht : P.underlying t = some (.struct (P.fieldsOf t))) (h : Value.okWide P w r base t v) : Shaped (.st pt) v := by
 obtain ⟨cs, rfl, _⟩ := okWide_struct ht h
 show Value.agg cs = Value.agg cs.toList.toArray
 simp
theorem Shaped.tree {w : World} {r : Reach} {base : Nat} {v : Value} (ht : P.underlying t = some (.struct (P.fieldsOf t))) (h : Value.okWide P w r base t v) : Shaped .tree v := by
 obtain ⟨cs, rfl, _⟩ := okWide_struct ht h
 show Value.agg cs = Value.agg cs.toList.toArray
 simp
theorem arg_dat {H : Type} {enc : TypeId × Value → H} {w : World} {base : Nat} {spare : Nat → Bool} {held : Bool} {v : Value} {d : DataW H} {p : List MemPlace} {pt : PT} (ho : Opens P t (rep pt) (inT pt)) (h : DataW.Trod enc P w base spare held t v d p) (hs : Shaped pt v) : ∃ e, Dat pt e lab0 w v ∧ inT pt e := by
 obtain ⟨e, h1, h2⟩ := Opens.arg ho h
 exact ⟨e, ⟨_, h1, hs⟩, h2⟩
theorem returnsInHanded_of_change_both {H : Type} {enc : TypeId × Value → H} {a : Assume} {C : Checked} {os : Os} {f : FuncId} {fn : Func} {s : ChangeSpec} {conds : List PathCond} {apart fresh handsOn again : Bool} {X : World → Array Value → Prop}
  (hX : ∀ (w w' : World) (args : Array Value), w.heap = w'.heap → X w args → X w' args)
  (own : ownKnob C.prog.godebug = none) (started : os.Started) (noInit : C.prog.inits.idxOf? f = none) (hfn : C.prog.funcs[f]? = some fn)
  (witness : ∃ (w : World) (tape : Tape) (i : Input), w.os = os ∧ (w.forCall tape i).Shaped C.prog ∧ i.vars = [] ∧ Input.okWide C.prog (w.forCall tape i) .any w.heap.size f i ∧
   ((s.pre enc C.prog fn conds apart (w.forCall tape i).memory i.args ∧ X (w.forCall tape i).memory i.args) ∧ sizedMet enc C.prog fn (OpenSpec.ofChange s) apart (w.forCall tape i).memory i.args) ∧ a.holds C.prog (lone (Frame.enter C.prog f i.args .normal) [] (w.forCall tape i)))
  (contract : ∀ (W : World) (base : Nat) (args : Array Value) (ds gs : List (DataW H)) (before : List MemPlace),
   (∀ (j : Nat) t v, fn.params[j]? = some t → args[j]? = some v → Value.okWide C.prog W .any base t v) →
   DataW.Whole enc C.prog fn.params.toList s.vars apart W args.toList ds gs before →
   X W args → W.ShapedOpen C.prog →
   Calls C.prog f args W fun e W' => ∃ v, e = .returned v ∧ s.post enc C.prog fn apart fresh handsOn again W args v W') :
  ReturnsInHanded a C os f .any (fun w args => (s.pre enc C.prog fn conds apart w args ∧ X w args) ∧ sizedMet enc C.prog fn (OpenSpec.ofChange s) apart w args) (s.post enc C.prog fn apart fresh handsOn again) := by
 refine returnsInHanded_of_calls own started noInit witness ?_
 intro w tape i _ hsh _ hok hpre hholds
 obtain ⟨_, _, _, fn', hfn', _, _, _, _, hval⟩ := hok
 have e : fn' = fn := Option.some.inj (hfn'.symm.trans hfn)
 subst e
 obtain ⟨⟨⟨ds, gs, before, hw, hc⟩, hx⟩, hz⟩ := hpre
 have hw' := DataW.Whole.of_heap (w' := w.forCall tape i) (by rfl) hw
 refine (contract (w.forCall tape i) w.heap.size i.args ds gs before hval hw' (hX _ _ _ (by rfl) hx) hsh).mono fun e W' ⟨v, he, hp⟩ => ?_
 subst he
 exact ChangeSpec.post_blind hp
theorem Stp.below {W W' : World} {lab' : Lab} (h : Stp [] lab0 W lab' W') : Below W.heap.size W W' := ⟨h.os, h.tape, h.output, h.size, fun k hk => h.block k hk (.inl rfl)⟩
end
end Go.Gk
