/-
  The row of ScopeForms: its arguments opened, the walk and the plain law joined. No condition.
-/
import Derived.Test.YtmnbkcpopfmpdaaDoorQRf
import Derived.Test.YtmnbkcpopfmpdaaDoorCo4
import Derived.Test.YtmnbkcpopfmpdaaDoorYOpn
import Derived.Test.YtmnbkcpopfmpdaaDoorRows
import Derived.Test.YtmnbkcpopfmpdaaDoorTie
import Derived.Test.YtmnbkcpopfmpdaaDoorCards
import Derived.Lay
import Derived.LaidMore
import Derived.ProofKit
import Derived.OpenShut
import Derived.SevenTiedAt
import Derived.Stop.Joined
import Derived.Shelf.Vars
namespace Go.Proofs.YtmnbkcpopfmpdaaDoor
open Go.Gk Go.RowKit Go.ChangeShapes Go.WideShapes Go.ChangeAt Go.WideElems
theorem kUnd_22 : Tryd.prog.underlying 22 = some (.slice 49) := by kernel_rfl
theorem kUnd_3 : Tryd.prog.underlying 3 = some (.int .i64) := by kernel_rfl
theorem kUnd_4 : Tryd.prog.underlying 4 = some .bool := by kernel_rfl
theorem kUnd_23 : Tryd.prog.underlying 23 = some (.slice 3) := by kernel_rfl
theorem OT_49 : Opens Tryd.prog 49 (rep P_api_Permit) (inT P_api_Permit) := OpensT.st (by kernel_rfl) (OpensF.cons (j := 0) 1 (by kernel_rfl) (by kernel_rfl) (OpensT.str kUnd_9) (OpensF.cons (j := 1) 2 (by kernel_rfl) (by kernel_rfl) (OpensT.bool kUnd_4) (OpensF.last (j := 2) (by kernel_rfl) (by kernel_rfl) (OpensT.i64 kUnd_3))))
theorem own_none : ownKnob Tryd.prog.godebug = none := by kernel_rfl
theorem gl_start {W : World} {l : List (String × DataW Unit)} (_ : laidMetH Tryd.prog l W) (hsh : W.ShapedOpen Tryd.prog) : GL lab0 W := by
  obtain ⟨m, hm⟩ := Go.Proofs.cell_of_shapedOpen_int (zero := #[.int .i64 0]) (t := 3) (g := 0) hsh (of_decide_eq_true (by kernel_rfl)) (by kernel_rfl) rfl (by kernel_rfl) (by kernel_rfl) Tryd.underlying3
  refine ⟨W, ⟨m, hm⟩, fun g hg => ?_⟩
  obtain rfl : g = 0 := List.mem_singleton.1 hg
  exact ⟨World.block_lt_of_cell? _ _ hm, rfl, rfl⟩

theorem laid_out : laidOutB Tryd.prog = true := by kernel_rfl
set_option maxRecDepth 100000 in
set_option maxHeartbeats 1000000 in
theorem scopeForms_lifted (os : Os) (started : os.Started) (H : Type) (enc : TypeId × Value → H) :
    ReturnsInHanded {} Tryd.checked os 6 .any (fun w args => (Rows.scopeFormsSpec.pre enc Tryd.prog Tryd.f6 Rows.scopeFormsRow.domain false w args ∧ laidMetH Tryd.prog Rows.scopeFormsRow.laid w) ∧ sizedMet enc Tryd.prog Tryd.f6 (OpenSpec.ofChange Rows.scopeFormsSpec) false w args) (Rows.scopeFormsSpec.post enc Tryd.prog Tryd.f6 false true false false) := by
  refine returnsInHanded_of_change_both (C := Tryd.checked) (X := fun w _ => laidMetH Tryd.prog Rows.scopeFormsRow.laid w) (fun _ _ _ hh h => h.of_heap hh) own_none started (by kernel_rfl) Tryd.func6
    (ChangeSpec.witness_shaped (enc := enc) (C := Tryd.checked) (os := os) (X := fun w _ => laidMetH Tryd.prog Rows.scopeFormsRow.laid w) false (World.laidAll Tryd.prog os Rows.scopeFormsRow.laid) #[.slice none 0 0, .slice none 0 0, .slice none 0 0, .slice none 0 0] 8 (World.laidAll_os _ _ _)
      (World.shaped_of_ZipB (by kernel_rfl) (by kernel_rfl)) (by kernel_rfl) (by kernel_rfl) (by kernel_rfl)
      (by rw [MakeChecks.laidMetH_plain _ _ _ (by kernel_rfl)]; exact laidMet_laidAll _ (by kernel_rfl) (by kernel_rfl))) ?_
  intro W base args ds gs before hval0 hW hL hsh
  have gl : GL lab0 W := gl_start hL hsh
  have hval : ∀ (j : Nat) t v, Tryd.f6.params[j]? = some t → args[j]? = some v → Value.okWide Tryd.prog W .any base t v := hval0
  have hW' := hW
  obtain ⟨p, q, hA0, hV, rfl, hfz, hnd⟩ := hW
  have hp : Tryd.f6.params = #[22, 22, 23, 23] := by kernel_rfl
  have hA : DataW.TrodAll enc Tryd.prog W 0 (fun _ => true) true Tryd.f6.params.toList args.toList ds p := hA0
  rw [hp] at hA hval
  clear hA0 hval0
  obtain ⟨rfl, rfl⟩ := trodVars_none hV
  obtain ⟨v0, vs0, d0, ds0, p0, q0, hargs, rfl, rfl, h0, hA0⟩ := trodAll_cons hA
  obtain ⟨v1, vs1, d1, ds1, p1, q1, rfl, rfl, rfl, h1, hA1⟩ := trodAll_cons hA0
  obtain ⟨v2, vs2, d2, ds2, p2, q2, rfl, rfl, rfl, h2, hA2⟩ := trodAll_cons hA1
  obtain ⟨v3, vs3, d3, ds3, p3, q3, rfl, rfl, rfl, h3, hA3⟩ := trodAll_cons hA2
  obtain ⟨rfl, rfl, rfl⟩ := trodAll_nil hA3
  obtain ⟨al⟩ := args
  have hargs : al = [v0, v1, v2, v3] := hargs
  subst hargs
  obtain ⟨e0, D0, i0⟩ := arg_dat (pt := (.sl P_api_Permit)) (OpensT.sl kUnd_22 (by kernel_rfl) OT_49) h0 (Shaped.sl kUnd_22 (hval 0 22 v0 rfl rfl))
  obtain ⟨e1, D1, i1⟩ := arg_dat (pt := (.sl P_api_Permit)) (OpensT.sl kUnd_22 (by kernel_rfl) OT_49) h1 (Shaped.sl kUnd_22 (hval 1 22 v1 rfl rfl))
  obtain ⟨e2, D2, i2⟩ := arg_dat (pt := (.sl (.int .i64))) (OpensT.sl kUnd_23 (by kernel_rfl) (OpensT.i64 kUnd_3)) h2 (Shaped.sl kUnd_23 (hval 2 23 v2 rfl rfl))
  obtain ⟨e3, D3, i3⟩ := arg_dat (pt := (.sl (.int .i64))) (OpensT.sl kUnd_23 (by kernel_rfl) (OpensT.i64 kUnd_3)) h3 (Shaped.sl kUnd_23 (hval 3 23 v3 rfl rfl))
  clear hval
  have hc : OKc Tryd.prog 6 [.d (.sl P_api_Permit), .d (.sl P_api_Permit), .d (.sl (.int .i64)), .d (.sl (.int .i64))] [.d .bool] (e0, e1, e2, e3, ()) (true, ()) := con_coreseclaw39_ScopeForms.ok (e0, e1, e2, e3, ()) true (ScopeForms_true e0 e1 e2 e3 i2.1 i3.1)
  refine (hc 3 3 0 lab0 W [v0, v1, v2, v3] (lab0_top W) gl (fun h => by cases h) (by decide) ⟨D0, D1, D2, D3, trivial⟩).mono fun e W' ⟨lab', us, he, hs, hr⟩ => ?_
  match us, hr with
  | [u], ⟨hb, _⟩ =>
    obtain rfl : u = .bool true := Dat.bool hb
    subst he
    exact ⟨_, rfl, post_true laid_out (by kernel_rfl) (Stp.below hs) hW' rfl (by kernel_rfl) kUnd_4 rfl⟩
theorem scopeForms_bare : Rows.ScopeFormsSaid :=
  OpenClaim.holds_of_wide 6 Tryd.f6 rfl rfl rfl rfl rfl rfl rfl ⟨rfl, rfl, rfl, rfl, rfl⟩ rfl rfl rfl rfl rfl (by kernel_rfl) Tryd.func6 (by kernel_rfl)
    (of_decide_eq_true (by kernel_rfl)) (by unfold Func.isWrapper; first | (rw [if_pos (by decide +kernel)]; kernel_rfl) | (rw [if_neg (by decide +kernel)]; exact ⟨rfl, rfl⟩))
    (fun os started H enc _ => scopeForms_lifted os started H enc)
theorem scopeForms_holds : Rows.ScopeFormsCardSaid :=
  Claim7.holds_tied_plain_at .later [] [.data, .pinned] true (true, "c21b081e4945739a6ff4b9ce1027a70420908685e95275e48686680c722961a2") false scopeForms_bare (fun _ h => by cases h) (by kernel_rfl) (fun _ h => by cases h) scopeForms_row_tie rfl ⟨rfl, rfl⟩ (by kernel_rfl) rfl
    (fun f fn hf hfn => by
      obtain rfl : f = 6 := Option.some.inj ((show Tryd.prog.funcNamed "coresec/coreseclaw39.ScopeForms" = some 6 by kernel_rfl).symm.trans hf) |>.symm
      obtain rfl : fn = Tryd.f6 := (Option.some.inj (Tryd.func6.symm.trans hfn)).symm
      exact ⟨by kernel_rfl, fun j t ht => by
        rw [show Tryd.f6.params = #[22, 22, 23, 23] by kernel_rfl] at ht
        have hm : t ∈ [22, 22, 23, 23] := by simpa using Array.mem_of_getElem? ht
        have hall : ([22, 22, 23, 23].all fun u => !Tryd.prog.wantsStandIn u) = true := by kernel_rfl
        exact (show Tryd.prog.wantsStandIn t = false by simpa using List.all_eq_true.1 hall t hm)⟩)
    (by kernel_rfl)
end Go.Proofs.YtmnbkcpopfmpdaaDoor
