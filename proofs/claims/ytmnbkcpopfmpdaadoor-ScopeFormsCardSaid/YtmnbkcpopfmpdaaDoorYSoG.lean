/-
  What a call of sort.SliceStable on a row of the caller's own does: the row holds a permutation of what it held, in order. Over whatever program; no condition.
-/
import Derived.Test.YtmnbkcpopfmpdaaDoorYSoW
import Derived.Test.YtmnbkcpopfmpdaaDoorYEn
import Derived.Lib.ReflectliteSwap
namespace Go.Gk
open Go Go.RowKit

section
variable {β : Type} {ρ : Rep β} {lab : Lab} {w : World} {k E c : Nat} {xs : List β}
theorem box_setCells {gr T : Nat} (hk : Nat.beq k 0 = false) : ∀ (vs : List Value) (s : Nat) (cs : List Value) (w : World), Box lab w k gr T cs → Top lab w → s + vs.length ≤ cs.length →
    Box lab (w.setCells gr s vs) k gr T (cs.take s ++ vs ++ cs.drop (s + vs.length)) ∧ Ste lab k w lab (w.setCells gr s vs)
  | [], s, cs, w, b, t, _ => ⟨by show Box lab w k gr T _; simpa using b, ⟨rfl, rfl, rfl, Nat.le_refl _, fun _ _ _ => rfl, fun _ _ => rfl, t⟩⟩
  | v :: vs, s, cs, w, b, t, hl => by
    simp only [List.length_cons] at hl
    have hst := Ste.setCell (w := w) (i := s) t hk b.2 v
    have b1 := b.set (o := s) v
    obtain ⟨b2, h2⟩ := box_setCells hk vs (s + 1) (cs.set s v) (w.setCell ⟨gr, s, none⟩ v) b1 hst.top (by simp; omega)
    refine ⟨?_, ?_⟩
    · have hlt : s < cs.length := by omega
      have e : cs.take s ++ v :: vs ++ cs.drop (s + (v :: vs).length) = (cs.set s v).take (s + 1) ++ vs ++ (cs.set s v).drop (s + 1 + vs.length) := by
        rw [List.take_set, List.drop_set_of_lt (by omega), List.take_succ_eq_append_getElem hlt, List.set_append_right _ _ (by simp; omega)]
        simp [Nat.min_eq_left (Nat.le_of_lt hlt), Nat.add_assoc, Nat.add_comm 1]
      rw [e]; exact b2
    · show Ste lab k w lab ((w.setCell ⟨gr, s, none⟩ v).setCells gr (s + 1) vs)
      exact ⟨h2.os.trans hst.os, h2.tape.trans hst.tape, h2.output.trans hst.output, Nat.le_trans hst.size h2.size, fun b hb hx => (h2.block b (Nat.lt_of_lt_of_le hb hst.size) hx).trans (hst.block b hb hx), fun b hb => rfl, h2.top⟩
theorem setCells_other {gr b : Nat} (hb : b ≠ gr) : ∀ {vs : List Value} {s : Nat} {w : World}, (w.setCells gr s vs).heap[b]? = w.heap[b]?
  | [], _, _ => rfl
  | v :: vs, s, w => by
    show ((w.setCell ⟨gr, s, none⟩ v).setCells gr (s + 1) vs).heap[b]? = _
    rw [setCells_other hb]
    exact heap_setCell_other w _ b v (by simpa using hb)
theorem own_setCells {n gr : Nat} {e' : β} {vs : List Value} (t : Top lab w) (hk : Nat.beq k 0 = false) (o : Own ρ lab w k E (some ⟨gr, 0, none⟩) c xs) (hn : n < xs.length) (hl : vs.length = ρ.sz)
    (hy : ρ.rd lab w vs e') : Ste lab k w lab (w.setCells gr (n * ρ.sz) vs) ∧ Own ρ lab (w.setCells gr (n * ρ.sz) vs) k E (some ⟨gr, 0, none⟩) c (xs.set n e') := by
  obtain ⟨css, a1, a2⟩ := o
  rcases a2 with ⟨h, _⟩ | ⟨g', cur, ha, hg, h3, h4, h5, h6, h7⟩
  · cases h
  · cases ha
    have hlen := fun cs h => (a1.each cs h).1
    have hb : (n + 1) * ρ.sz ≤ xs.length * ρ.sz := Nat.mul_le_mul_right _ hn
    rw [Nat.add_mul] at hb
    have hcap : xs.length * ρ.sz ≤ c * ρ.sz := Nat.mul_le_mul_right _ h3
    have b : Box lab w k gr E cur.toList := ⟨hg, h7⟩
    obtain ⟨b', hst⟩ := box_setCells hk vs (n * ρ.sz) cur.toList w b t (by simp; omega)
    refine ⟨hst, css.set n vs, (a1.keep hst.keeps).set n (ρ.keep hst.keeps hy), .inr ⟨gr, _, rfl, b'.1, by simpa using h3, h4, ?_, ?_, b'.2⟩⟩
    · simp; omega
    · rw [flatten_setAll n css vs hlen (by rw [a1.len]; exact hn), ← h6, hl]
      simp only [List.length_set]
      have hsz : (cur.toList.take (n * ρ.sz)).length = n * ρ.sz := by simp; omega
      have e1 : cur.toList.take (n * ρ.sz) = (cur.toList.take (xs.length * ρ.sz)).take (n * ρ.sz) := by rw [List.take_take, Nat.min_eq_left (by omega)]
      have e2 : xs.length * ρ.sz - (n * ρ.sz + ρ.sz) + (n * ρ.sz + ρ.sz) = xs.length * ρ.sz := by omega
      rw [List.take_append, List.take_of_length_le (l := cur.toList.take (n * ρ.sz) ++ vs) (by simp only [List.length_append, hsz, hl]; omega), List.length_append, hsz, hl, List.take_drop, Nat.add_comm (n * ρ.sz + ρ.sz), e2, ← e1]
/-- An element's cells. -/
theorem own_cells {n gr : Nat} {x : β} (o : Own ρ lab w k E (some ⟨gr, 0, none⟩) c xs) (hx : xs[n]? = some x) : ∃ cs, ρ.rd lab w cs x ∧ cs.length = ρ.sz ∧ (∀ u ∈ cs, u.oneCell' = true) ∧ (∀ j v, cs[j]? = some v → w.cell? ⟨gr, 0 + n * ρ.sz + j, none⟩ = some v) ∧ (∀ j, w.frozen? ⟨gr, j, none⟩ = false) := by
  obtain ⟨css, a1, a2⟩ := o
  rcases a2 with ⟨h, _⟩ | ⟨g', cur, ha, hg, h3, h4, h5, h6, h7⟩
  · cases h
  · cases ha
    obtain ⟨cs, hc, hrd⟩ := a1.get hx
    have hlen := fun cs h => (a1.each cs h).1
    have hn : n < xs.length := (List.getElem?_eq_some_iff.1 hx).1
    have hb : (n + 1) * ρ.sz ≤ xs.length * ρ.sz := Nat.mul_le_mul_right _ hn
    rw [Nat.add_mul] at hb
    refine ⟨cs, hrd, ρ.len hrd, ρ.one hrd, fun j v hv => ?_, fun j => frozen_of_row w gr j cur E hg⟩
    have hj : j < ρ.sz := by rw [← ρ.len hrd]; exact (List.getElem?_eq_some_iff.1 hv).1
    have e1 := flatten_get css hlen n j cs hc hj
    rw [← h6, List.getElem?_take_of_lt (by omega)] at e1
    rw [cell_of_row w gr _ cur E (0, 0) hg, Nat.zero_add]
    rw [← hv, ← e1]; simp
theorem Own.stp {lab' : Lab} {w' : World} {ks : List Nat} {oa : Option Addr} (o : Own ρ lab w k E oa c xs) (s : Stp ks lab w lab' w') (hk : ks.contains k = false) : Own ρ lab' w' k E oa c xs := o.ke s.ke ke_no0 (ke_no hk)
end
theorem toList_swp {β : Type} [Inhabited β] (d : Array β) (i j : Nat) : (Sort.swp d i j).toList = (d.toList.set i d[j]!).set j d[i]! := by simp [Sort.swp]
theorem getList {β : Type} [Inhabited β] {d : Array β} {i : Nat} (h : i < d.size) : d.toList[i]? = some d[i]! := by
  rw [getElem!_pos d i h]; simp [h]
theorem stp_same {lab : Lab} {W W' : World} (t : Top lab W) (hos : W'.os = W.os) (htp : W'.tape = W.tape) (hou : W'.output = W.output) (hsz : W.heap.size ≤ W'.heap.size) (hb : ∀ b, b < W.heap.size → W'.heap[b]? = W.heap[b]?) : Stp [] lab W lab W' :=
  ⟨hos, htp, hou, hsz, fun b h _ => hb b h, fun _ _ _ => rfl, fun b h => t b (Nat.le_trans hsz h)⟩
theorem Stp.to {ks : List Nat} {lab lab1 lab2 : Lab} {w W V : World} (h : Stp ks lab w lab1 W) (h2 : Stp [] lab1 W lab2 V) : Stp ks lab w lab2 V := h.trans (h2.mono fun k hk => by simp at hk)

/-- What is asked of 'less', bound to a pointer to the slice's variable. -/
def LessIs (P : Program) (t : PT) (clo : Nat) (lt : den t → den t → Bool) : Prop :=
  ∀ (lab : Lab) (W : World) (G : Nat) (oa : Option Addr) (c : Nat) (xs : List (den t)) (i j : Nat) (x y : den t), xs[i]? = some x → xs[j]? = some y → Top lab W → GL lab W → xs.length ≤ c → c ≤ maxLen → At lab W ⟨G, 0, none⟩ [.slice oa xs.length c] → SL (rep t) lab W oa c xs →
    Calls P clo #[.int .i64 i, .int .i64 j, .pointer (some ⟨G, 0, none⟩)] W fun e W' => e = .returned (.bool (lt x y)) ∧ ∃ lab2, Stp [] lab W lab2 W'
open Go.Proofs Go.Shelf Go.Lib Go.Sort
theorem sort_ok {P : Program} {ρ : Ren} (L : LaysGt.n8 P ρ) {t : PT} [Inhabited (den t)] {T e E : TypeId} {i ie : TypeInfo} (hi : P.info? T = some i) (hd : i.desc = .slice e) (hpk : P.packed T = false) (hie : P.info? e = some ie) {ke : Nat} (hke : ∀ w, (Extern.Rtype.kind e).run P w = .ok ke w)
    (hs1 : ie.size = csz t) (hagg : ∀ w, (isAgg e).run P w = .ok true w) {lt : den t → den t → Bool} (hO : SWO lt) {clo : Nat} (eg : ∀ args w, (callFunc clo args).run P w = .ok (.enter clo args) w)
    (hf : ∀ n, ∃ f, P.funcs.findIdx? (·.name == "internal/reflectlite" ++ ".Swapper$" ++ toString (swapperK n ie ke)) = some f ∧ (2 ≤ n → ∃ gS, ∀ args W, (callFunc f args).run P W = ((Extern.ReflectliteSwapper.swap gS args).run P W).andThen fun v w' => .ok (.value v) w'))
    (hless : LessIs P t clo lt) {lab : Lab} {w : World} {k c G : Nat} {oa : Option Addr} {xs : List (den t)} (hl : xs.length ≤ LIM) (tp : Top lab w) (gl : GL lab w) (hk : k ≠ 0) (o : Own (rep t) lab w k E oa c xs) (hc : w.cell? ⟨G, 0, none⟩ = some (.slice oa xs.length c)) (hGk : lab G ≠ k) (hG0 : lab G ≠ 0) :
    Calls P (ρ.f 8) #[.iface T (.slice oa xs.length c), .func (.func clo) #[] #[.pointer (some ⟨G, 0, none⟩)]] w fun e' w' => e' = .returned (.tuple #[]) ∧ ∃ lab' ys, SrtOf lt xs ys ∧ Stp [k] lab w lab' w' ∧ Own (rep t) lab' w' k E oa c ys := by
  have hlen : xs.length ≤ 4294967296 := hl
  have hGl : G < w.heap.size := by have := block_lt_of_cell hc; exact this
  rcases Nat.lt_or_ge xs.length 2 with h2 | h2
  · obtain ⟨f, hf1, _⟩ := hf xs.length
    refine (Any.sort_SliceStable_tiny L T e i ie hi hd hpk hie ke hke oa xs.length c (by omega) f hf1 (.func clo) #[] _ w).mono ?_
    rintro e' w' ⟨rfl, os, rfl⟩
    have hst : Stp [] lab w lab (grow w os) := stp_same tp rfl rfl rfl (by rw [size_grow]; omega) fun b hb => heap_grow_old w os hb
    refine ⟨rfl, lab, xs, ⟨List.Perm.refl _, ?_⟩, hst.mono fun k hk => by simp at hk, o.stp hst rfl⟩
    match xs, h2 with
    | [], _ => exact List.Pairwise.nil
    | [x], _ => exact List.pairwise_singleton _ _
  · obtain ⟨gr, rfl⟩ : ∃ gr, oa = some ⟨gr, 0, none⟩ := by
      obtain ⟨css, _, h⟩ := o
      rcases h with ⟨_, _, h⟩ | ⟨g, cur, h, _⟩
      · rw [h] at h2; simp at h2
      · exact ⟨g, h⟩
    have hkb : Nat.beq k 0 = false := beq_false hk
    obtain ⟨hgr, hgrk⟩ : gr < w.heap.size ∧ lab gr = k := by
      obtain ⟨css, _, h⟩ := o
      rcases h with ⟨h, _⟩ | ⟨g, cur, h, hg, _, _, _, _, h7⟩
      · cases h
      · cases h; exact ⟨(Array.getElem?_eq_some_iff.1 hg).1, h7⟩
    obtain ⟨f, hf1, hf2⟩ := hf xs.length
    obtain ⟨gS, hx⟩ := hf2 h2
    have hB : sliceBound P e ie ke (some ⟨gr, 0, none⟩) xs.length c = #[.slice (some ⟨gr, 0, none⟩) xs.length c, typeHandle P e] := by
      unfold sliceBound; rw [if_neg (swapperK_gt _ _ _ h2)]
    refine (Any.sort_SliceStable_of_stable (R := fun w' => ∃ lab' ys, SrtOf lt xs ys ∧ Stp [k] lab w lab' w' ∧ Own (rep t) lab' w' k E (some ⟨gr, 0, none⟩) c ys) L T e i ie hi hd hpk hie ke hke _ xs.length c (by omega) f hf1 (.func clo) #[] _ w ?_)
    rw [hB]
    let St : Array (den t) → World → Prop := fun d W => d.size = xs.length ∧ ∃ lab', Stp [k] lab w lab' W ∧ Own (rep t) lab' W k E (some ⟨gr, 0, none⟩) c d.toList
    have S : SoSt P lt clo #[.pointer (some ⟨G, 0, none⟩)] f #[.slice (some ⟨gr, 0, none⟩) xs.length c, typeHandle P e] xs.length w.heap.size St := by
      refine ⟨fun d W h => ?_, fun d W ob h => ?_, fun d W q h => ?_, fun d W i j h hi hj => ?_, fun d W i j h hi hj => ?_⟩
      · obtain ⟨h1, lab', h2, _⟩ := h
        exact ⟨h1, h2.size⟩
      · obtain ⟨h1, lab', h2, h3⟩ := h
        have hst : Stp [] lab' W lab' (W.alloc ob) := stp_same h2.top rfl rfl rfl (by simp) fun b hb => Below.heap_alloc W ob b hb
        exact ⟨h1, lab', h2.to hst, h3.stp hst rfl⟩
      · obtain ⟨h1, lab', h2, h3⟩ := h
        have hst : Stp [] lab' W lab' (W.drewN q) := stp_same h2.top rfl rfl rfl (Nat.le_refl _) fun b hb => rfl
        exact ⟨h1, lab', h2.to hst, h3.stp hst rfl⟩
      · obtain ⟨h1, lab', h2, h3⟩ := h
        have hlt : d.toList.length = xs.length := by rw [Array.length_toList]; exact h1
        have kp : Keeps lab' W (maskL [k, lab G] lab') W := Keeps.maskL
        have hG : W.heap[G]? = w.heap[G]? := h2.block G hGl (.inr (by simp; exact hGk))
        have hGs : lab' G = lab G := h2.same G hGl (.inr (by simp; exact hGk))
        have hcW : W.cell? ⟨G, 0, none⟩ = some (.slice (some ⟨gr, 0, none⟩) xs.length c) := by rw [World.cell?_of_block (w := w) hG]; exact hc
        have hAt : At (maskL [k, lab G] lab') W ⟨G, 0, none⟩ [.slice (some ⟨gr, 0, none⟩) d.toList.length c] := fun q u hq => by
          match q with
          | 0 =>
            simp at hq
            refine ⟨?_, ?_⟩
            · show maskL [k, lab G] lab' G = 0
              rcases maskL_or [k, lab G] lab' G with ⟨h, _⟩ | ⟨_, h⟩
              · exact h
              · exact absurd (by rw [hGs]; simp) h
            · rw [← hq, h1]; exact hcW
          | q + 1 => simp at hq
        have hSL : SL (rep t) (maskL [k, lab G] lab') W (some ⟨gr, 0, none⟩) c d.toList := h3.sl kp fun b _ hb => by
          rcases maskL_or [k, lab G] lab' b with ⟨h, _⟩ | ⟨_, h⟩
          · exact h
          · exact absurd (by rw [hb]; simp) h
        refine (hless (maskL [k, lab G] lab') W G _ c d.toList i j _ _ (getList (by omega)) (getList (by omega)) (Top.maskL h2.top) ((gl.keep h2.keeps).keep kp) hSL.1 hSL.2.1 hAt hSL).mono ?_
        rintro e' W' ⟨rfl, lab2, hst⟩
        have hst2 : Stp [] lab' W lab' W' := stp_same h2.top hst.os hst.tape hst.output hst.size fun b hb => hst.block b hb (.inr rfl)
        exact ⟨rfl, ⟨h1, lab', h2.to hst2, h3.stp hst2 rfl⟩, hst.size, fun b _ hb => hst.block b hb (.inr rfl)⟩
      · obtain ⟨h1, lab', h2, h3⟩ := h
        have hli : i < d.size := by omega
        have hlj : j < d.size := by omega
        obtain ⟨X, x1, x2, x3, x4, x5⟩ := own_cells h3 (getList hli)
        obtain ⟨Y, y1, y2, y3, y4, y5⟩ := own_cells h3 (getList hlj)
        have hX : X.length = ie.size := by rw [x2, hs1]; exact rep_sz t
        have hY : Y.length = ie.size := by rw [y2, hs1]; exact rep_sz t
        have hsz : (rep t).sz = ie.size := (rep_sz t).trans hs1.symm
        have hrun := run_swap_cells (P := P) gS e ie hie hagg gr 0 xs.length c i j hi hj X Y hX hY x3 y3 W (fun q v hq => by rw [← hsz]; exact x4 q v hq) (fun q v hq => by rw [← hsz]; exact y4 q v hq) (fun q _ => x5 _) (fun q _ => y5 _)
        obtain ⟨s1, o1⟩ := own_setCells (n := i) (e' := d[j]!) (vs := Y) h2.top hkb h3 (by rw [Array.length_toList]; exact hli) y2 y1
        obtain ⟨s2, o2⟩ := own_setCells (n := j) (e' := d[i]!) (vs := X) s1.top hkb o1 (by rw [List.length_set, Array.length_toList]; exact hlj) x2 ((rep t).keep s1.keeps x1)
        rw [hsz] at s1 s2 o2
        refine ⟨_, ?_, ⟨by rw [size_swp]; exact h1, lab', (h2.trans (s1.stp (.inl (by simp)))).trans (s2.stp (.inl (by simp))), ?_⟩, ?_⟩
        · rw [hx]
          have e1 : #[Value.int .i64 (i : Nat), .int .i64 (j : Nat)] ++ #[.slice (some ⟨gr, 0, none⟩) xs.length c, typeHandle P e] = #[Value.int .i64 (i : Nat), .int .i64 (j : Nat), .slice (some ⟨gr, 0, none⟩) xs.length c, typeHandle P e] := rfl
          rw [e1, hrun]
          simp only [Nat.zero_add]
          rfl
        · rw [toList_swp]; exact o2
        · refine ⟨Nat.le_trans s1.size s2.size, fun b hb hbl => ?_⟩
          have hne : b ≠ gr := by omega
          rw [setCells_other hne, setCells_other hne]
    have hS0 : St xs.toArray (stableWorld P ρ T (some ⟨gr, 0, none⟩) xs.length c w) := by
      have hst : Stp [] lab w lab (stableWorld P ρ T (some ⟨gr, 0, none⟩) xs.length c w) := by
        refine stp_same tp rfl rfl rfl ?_ fun b hb => ?_
        · unfold stableWorld; simp; omega
        · unfold stableWorld
          rw [Below.heap_alloc _ _ _ (by simp; omega), Below.heap_alloc _ _ _ hb]
      exact ⟨by simp, lab, hst.mono fun k hk => by simp at hk, o.stp hst rfl⟩
    refine (stable_ok ({ L with } : LaysGt.n15 P ρ) hO eg S (by omega) xs.toArray _ hS0).mono ?_
    rintro e' w' ⟨rfl, d', hpm, hsr, ⟨hd1, lab', hst, hown⟩, _⟩
    refine ⟨rfl, lab', d'.toList, ⟨?_, ?_⟩, hst, hown⟩
    · have := hpm.2.2
      rw [show xs.length = d'.size from hd1.symm, Array.extract_size] at this
      have e2 : (xs.toArray.extract 0 d'.size).toList = xs := by rw [hd1]; simp
      rw [e2] at this
      exact this
    · refine List.pairwise_iff_getElem.2 fun a b ha hb hab => ?_
      have hb' : b < d'.size := by simpa using hb
      have := hsr a b (Nat.zero_le _) hab (by omega)
      rw [getElem!_pos d' a (by omega), getElem!_pos d' b hb'] at this
      simpa using this
end Go.Gk
