/-
  Arguments that read as data, opened to the lists that the walks speak of; and what a row asks behind a call that wrote nothing that was there. Over whatever program; no condition.
-/
import Derived.Test.YtbfkbakadpkgoaaGreatDoorRow
import Derived.ProofKit
import Derived.Deep.Slices
namespace Go.Gk
open Go.RowKit Go.ChangeShapes Go.WideShapes Go.WideElems
def lab0 : Lab := fun _ => 0
theorem lab0_top (w : World) : Top lab0 w := fun _ _ => rfl
def Opens (P : Program) (t : TypeId) {α : Type} (ρ : Rep α) (I : α → Prop) : Prop :=
 ∀ {H : Type} {enc : TypeId × Value → H} {w : World} {base : Nat} {spare : Nat → Bool} {held : Bool} {fuel : Nat} {cs : List Value} {x : DataW H × List MemPlace}, DataW.trod enc P w base spare held fuel t cs = some x → ∃ e, ρ.rd lab0 w cs e ∧ I e
section
variable {P : Program} {t e : TypeId} {α : Type} {ρ : Rep α} {I : α → Prop}
theorem wf_i64 {n : Int} (h : (Lit.int .i64 n).wf = true) : -9223372036854775808 ≤ n ∧ n < 9223372036854775808 := by
 simp only [Lit.wf, Bool.and_eq_true, decide_eq_true_eq] at h
 have h1 : IntKind.i64.min = -9223372036854775808 := rfl
 have h2 : IntKind.i64.max = 9223372036854775807 := rfl
 omega
theorem Opens.i64 (ht : P.underlying t = some (.int .i64)) : Opens P t Rep.i64 (fun n => -9223372036854775808 ≤ n ∧ n < 9223372036854775808) := fun h => by
 obtain ⟨n, rfl, _, hw⟩ := DataW.trod_int ht h
 exact ⟨n, rfl, wf_i64 hw⟩
theorem Opens.u8 (ht : P.underlying t = some (.int .u8)) : Opens P t Rep.u8 (fun _ => True) := fun h => by
 obtain ⟨n, rfl, _, hw⟩ := DataW.trod_int ht h
 simp only [Lit.wf, Bool.and_eq_true, decide_eq_true_eq] at hw
 have h1 : IntKind.u8.min = 0 := rfl
 have h2 : IntKind.u8.max = 255 := rfl
 refine ⟨UInt8.ofNat n.toNat, ?_, trivial⟩
 show [Value.int .u8 n] = [.int .u8 _]
 have e1 : (UInt8.ofNat n.toNat).toNat = n.toNat := by rw [UInt8.toNat_ofNat']; omega
 rw [e1, Int.toNat_of_nonneg (by omega)]
theorem Opens.bool (ht : P.underlying t = some .bool) : Opens P t Rep.bool (fun _ => True) := fun h => by
 obtain ⟨b, rfl, _⟩ := DataW.trod_bool ht h
 exact ⟨b, rfl, trivial⟩
theorem Opens.str (ht : P.underlying t = some .string) : Opens P t Rep.str (fun l => l.length ≤ maxLen) := fun h => by
 obtain ⟨s, rfl, _, hw⟩ := DataW.trod_string ht h
 exact ⟨s.data.toList, rfl, hw⟩
theorem list_of {n : Nat} {Q : Nat → α → Prop} (h : ∀ i, i < n → ∃ e, Q i e) : ∃ xs : List α, xs.length = n ∧ ∀ i x, xs[i]? = some x → Q i x := by
 induction n with
 | zero => exact ⟨[], rfl, fun i x hx => by simp at hx⟩
 | succ n ih =>
  obtain ⟨xs, hl, hq⟩ := ih (fun i hi => h i (by omega))
  obtain ⟨e, he⟩ := h n (by omega)
  refine ⟨xs ++ [e], by simp [hl], fun i x hx => ?_⟩
  by_cases hi : i < xs.length
  ·rw [List.getElem?_append_left hi] at hx; exact hq i x hx
  ·rw [List.getElem?_append_right (by omega)] at hx
   have : i = n := by
    have := (List.getElem?_eq_some_iff.1 hx).1
    simp at this; omega
   subst this
   rw [hl] at hx
   simp at hx; subst hx; exact he
theorem Opens.sl (ht : P.underlying t = some (.slice e)) (hC : P.cellsOf e = ρ.sz) (ho : Opens P e ρ I) : Opens P t (Rep.sl ρ) (fun xs => xs.length ≤ maxLen ∧ ∀ x ∈ xs, I x) := fun {H enc w base spare held fuel cs x} h => by
 rcases Go.Deep.open_slice ht h with ⟨rfl, _⟩ | ⟨a, len, cap, m, n, D, Pl, rfl, _, hl, hm, hmm, _, hi⟩
 ·exact ⟨[], ⟨none, 0, rfl, SL.nil⟩, by simp⟩
 ·have hlm : len ≤ m := by rw [hmm]; split <;> omega
  have hq : ∀ i, i < len → ∃ y, (∃ cs', ρ.rd lab0 w cs' y ∧ At lab0 w (a.add (i * ρ.sz)) cs') ∧ I y := fun i hil => by
   obtain ⟨cs', hc, hx⟩ := hi i (by omega)
   rw [hC] at hc
   obtain ⟨y, hy, hI⟩ := ho hx
   obtain ⟨_, hcl, hat⟩ := World.cells?_some hc
   refine ⟨y, ⟨cs', hy, fun j u hu => ⟨rfl, ?_⟩⟩, hI⟩
   have hj : j < cs'.length := (List.getElem?_eq_some_iff.1 hu).1
   have := hat j (by omega)
   rw [this, hu]
  obtain ⟨xs, hxl, hxs⟩ := list_of hq
  refine ⟨xs, ⟨some a, cap, by rw [hxl], ?_⟩, by omega, fun y hy => ?_⟩
  ·refine ⟨by omega, hm, fun i y hy => ?_⟩
   obtain ⟨⟨cs', h1, h2⟩, _⟩ := hxs i y hy
   exact ⟨a, cs', rfl, h1, h2⟩
  ·obtain ⟨i, hy⟩ := List.getElem?_of_mem hy
   exact (hxs i y hy).2
def fieldB (P : Program) (t : TypeId) (j off : Nat) (ft : TypeId) (k : Nat) : Bool :=
 match (P.fieldsOf t)[j]? with
 | some f => Nat.beq f.offset off && Nat.beq f.type ft && Nat.beq (P.cellsOf f.type) k
 | none => false
theorem Opens.field {H : Type} {enc : TypeId × Value → H} {w : World} {base : Nat} {spare : Nat → Bool} {held : Bool} {fuel : Nat} {cs : List Value} {x : DataW H × List MemPlace} (ht : P.underlying t = some (.struct (P.fieldsOf t))) (h : DataW.trod enc P w base spare held fuel t cs = some x)
  (j off : Nat) {ft : TypeId} (k : Nat) (hf : fieldB P t j off ft k = true) (ho : Opens P ft ρ I) : ∃ e, ρ.rd lab0 w ((cs.drop off).take k) e ∧ I e := by
 obtain ⟨xs, n, _, _, _, hl, hg⟩ := DataW.trod_struct ht h
 unfold fieldB at hf
 split at hf
 ·rename_i f hj
  simp only [Bool.and_eq_true] at hf
  obtain ⟨⟨h1, h2⟩, h3⟩ := hf
  have h1 := Nat.eq_of_beq_eq_true h1
  have h2 : f.type = ft := Nat.eq_of_beq_eq_true h2
  have h3 := Nat.eq_of_beq_eq_true h3
  have := hg j f hj
  rw [h1, h3, h2] at this
  have hlt : j < xs.length := by rw [hl]; exact (Array.getElem?_eq_some_iff.1 hj).1
  rw [List.getElem?_eq_getElem hlt] at this
  exact ho this
 ·cases hf
theorem Opens.arg {H : Type} {enc : TypeId × Value → H} {w : World} {base : Nat} {spare : Nat → Bool} {held : Bool} {v : Value} {d : DataW H} {p : List MemPlace} (ho : Opens P t ρ I) (h : DataW.Trod enc P w base spare held t v d p) : ∃ e, ρ.rd lab0 w v.cells.toList e ∧ I e := by
 obtain ⟨fuel, hf⟩ := h
 exact ho hf
end
theorem Ste.below {W W' : World} {lab lab' : Lab} (h : Ste lab 0 W lab' W') : Below W.heap.size W W' := ⟨h.os, h.tape, h.output, h.size, fun k hk => h.block k hk (.inl rfl)⟩
def rowedB (P : Program) (ts : List TypeId) : Bool := ts.all fun t => P.readableRec t && decide (t < P.types.size)
theorem trodAll_below {H : Type} {enc : TypeId × Value → H} {P : Program} (hl : laidOutB P = true) {W W' : World} (hb : Below W.heap.size W W') {sp : Nat → Bool} :
  ∀ {ts : List TypeId} {vs : List Value} {ds : List (DataW H)} {ps : List MemPlace}, rowedB P ts = true → DataW.TrodAll enc P W 0 (fun _ => true) true ts vs ds ps → (∀ x ∈ ps, x.block < W.heap.size) → (∀ x ∈ ps, sp x.block = true) → DataW.TrodAll enc P W' 0 sp true ts vs ds ps
 | [], vs, ds, ps, _, h, _, _ => by
  obtain ⟨rfl, rfl, rfl⟩ := trodAll_nil h
  exact trodAll_mk0
 | t :: ts, vs, ds, ps, hr, h, hlt, hsp => by
  simp only [rowedB, List.all_cons, Bool.and_eq_true, decide_eq_true_eq] at hr
  obtain ⟨v, vs', d, ds', p, q, rfl, rfl, rfl, h1, h2⟩ := trodAll_cons h
  refine ⟨p, q, Trod_stays hl hr.1.1 hr.1.2 h1 (fun x hx => hb.same (hlt x (by simp [hx]))) (fun x hx => hsp x (by simp [hx])), trodAll_below hl hb (by unfold rowedB; exact hr.2) h2 (fun x hx => hlt x (by simp [hx])) (fun x hx => hsp x (by simp [hx])), rfl⟩
theorem post_true {H : Type} {enc : TypeId × Value → H} {P : Program} {f : Func} {s : ChangeSpec} {W W' : World} {args : Array Value} {ds gs : List (DataW H)} {before : List MemPlace} {tb : TypeId} (hl : laidOutB P = true) (hr : rowedB P f.params.toList = true) (hb : Below W.heap.size W W')
  (hW : DataW.Whole enc P f.params.toList s.vars false W args.toList ds gs before) (hv : s.vars = []) (hrt : f.resultTypes = #[tb]) (hbool : P.underlying tb = some .bool) (hfn : s.fn H (ds ++ gs) = { results := [.lit (.bool true)], args := ds }) :
  s.post enc P f false true false false W args (.bool true) W' := by
 have hlt : ∀ x ∈ before, x.block < W.heap.size := hW.lt
 have hWW := hW
 obtain ⟨p, q, hA, hV, hpq, hz, _⟩ := hWW
 rw [hv] at hV
 obtain ⟨rfl, rfl⟩ := trodVars_none hV
 rw [List.append_nil] at hpq
 subst hpq
 have hres : ∀ (b : Nat) (sp : Nat → Bool) (hd : Bool), DataW.TrodAll enc P W' b sp hd f.resultTypes.toList ((Value.bool true).resultList f.resultTypes.size) (s.fn H (ds ++ [])).results [] := fun b sp hd => by
  rw [hfn, hrt]
  exact trodAll_mk1 (shut_bool hbool true)
 have hargs : ∀ sp : Nat → Bool, (∀ x ∈ before, sp x.block = true) → DataW.TrodAll enc P W' 0 sp true f.params.toList args.toList (s.fn H (ds ++ [])).args before := fun sp hsp => by
  rw [hfn]
  exact trodAll_below hl hb hr hA hlt hsp
 have hvars : ∀ sp : Nat → Bool, DataW.TrodVars enc P W' sp s.vars (s.fn H (ds ++ [])).vars [] := fun sp => by rw [hfn, hv]; rfl
 have hold : ∀ x ∈ before, (fun b => decide (b < W.heap.size)) x.block = true := fun x hx => by simpa using hlt x hx
 refine ⟨ds, [], before, [], before, [], hW, hres _ _ _, hargs _ hold, hvars _, hb.frame _, fun _ => ?_⟩
 refine ⟨ok_one hrt rfl (okWide_bool_mk hbool true), _, _, ([] ++ before) ++ [], ⟨[] ++ before, [], trodAll_append (hargs _ (fun _ _ => rfl)) (hres _ _ _), hvars _, rfl, ?_, ?_⟩, ?_⟩
 ·intro b off hp
  have hp' : MemPlace.cell b off ∈ before := by simpa using hp
  rw [hb.frozen (p := ⟨b, off, none⟩) (hlt _ hp')]
  exact hz b off hp'
 ·intro ha; cases ha
 ·intro x hx _
  simpa using hx
end Go.Gk
