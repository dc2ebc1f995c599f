/-
  The row of RelaySeparates: its arguments opened, the walk and the plain law joined. No condition.
-/
import Derived.Test.YtcbkmlfkfhfliaaDoorQ93
import Derived.Test.YtcbkmlfkfhfliaaDoorCo
import Derived.Test.YtcbkmlfkfhfliaaDoorYOpn
import Derived.Test.YtcbkmlfkfhfliaaDoorRows
import Derived.Test.YtcbkmlfkfhfliaaDoorTie
import Derived.Test.YtcbkmlfkfhfliaaDoorCards
import Derived.Lay
import Derived.LaidMore
import Derived.ProofKit
import Derived.OpenShut
import Derived.SevenTiedAt
import Derived.Stop.Joined
import Derived.Shelf.Vars
namespace Go.Proofs.YtcbkmlfkfhfliaaDoor
open Go.Gk Go.RowKit Go.ChangeShapes Go.WideShapes Go.ChangeAt Go.WideElems
theorem kUnd_22 : Tryd.prog.underlying 22 = some (.slice 3) := by kernel_rfl
theorem kUnd_3 : Tryd.prog.underlying 3 = some (.int .i64) := by kernel_rfl
theorem kUnd_4 : Tryd.prog.underlying 4 = some .bool := by kernel_rfl
theorem own_none : ownKnob Tryd.prog.godebug = none := by kernel_rfl
theorem gl_start {W : World} {l : List (String × DataW Unit)} (_ : laidMetH Tryd.prog l W) (_ : W.ShapedOpen Tryd.prog) : GL lab0 W := ⟨W, rfl, fun g hg => by cases hg⟩

theorem laid_out : laidOutB Tryd.prog = true := by kernel_rfl
set_option maxRecDepth 100000 in
set_option maxHeartbeats 1000000 in
theorem relaySeparates_lifted (os : Os) (started : os.Started) (H : Type) (enc : TypeId × Value → H) :
    ReturnsInHanded {} Tryd.checked os 3 .any (fun w args => (Rows.relaySeparatesSpec.pre enc Tryd.prog Tryd.f3 Rows.relaySeparatesRow.domain false w args ∧ laidMetH Tryd.prog Rows.relaySeparatesRow.laid w) ∧ sizedMet enc Tryd.prog Tryd.f3 (OpenSpec.ofChange Rows.relaySeparatesSpec) false w args) (Rows.relaySeparatesSpec.post enc Tryd.prog Tryd.f3 false true false false) := by
  refine returnsInHanded_of_change_both (C := Tryd.checked) (X := fun w _ => laidMetH Tryd.prog Rows.relaySeparatesRow.laid w) (fun _ _ _ hh h => h.of_heap hh) own_none started (by kernel_rfl) Tryd.func3
    (ChangeSpec.witness_shaped (enc := enc) (C := Tryd.checked) (os := os) (X := fun w _ => laidMetH Tryd.prog Rows.relaySeparatesRow.laid w) false (World.laidAll Tryd.prog os Rows.relaySeparatesRow.laid) #[.slice none 0 0, .int .i64 0] 8 (World.laidAll_os _ _ _)
      (World.shaped_of_ZipB (by kernel_rfl) (by kernel_rfl)) (by kernel_rfl) (by kernel_rfl) (by kernel_rfl)
      (by rw [MakeChecks.laidMetH_plain _ _ _ (by kernel_rfl)]; exact laidMet_laidAll _ (by kernel_rfl) (by kernel_rfl))) ?_
  intro W base args ds gs before hval0 hW hL hsh
  have gl : GL lab0 W := gl_start hL hsh
  have hval : ∀ (j : Nat) t v, Tryd.f3.params[j]? = some t → args[j]? = some v → Value.okWide Tryd.prog W .any base t v := hval0
  have hW' := hW
  obtain ⟨p, q, hA0, hV, rfl, hfz, hnd⟩ := hW
  have hp : Tryd.f3.params = #[22, 3] := by kernel_rfl
  have hA : DataW.TrodAll enc Tryd.prog W 0 (fun _ => true) true Tryd.f3.params.toList args.toList ds p := hA0
  rw [hp] at hA hval
  clear hA0 hval0
  obtain ⟨rfl, rfl⟩ := trodVars_none hV
  obtain ⟨v0, vs0, d0, ds0, p0, q0, hargs, rfl, rfl, h0, hA0⟩ := trodAll_cons hA
  obtain ⟨v1, vs1, d1, ds1, p1, q1, rfl, rfl, rfl, h1, hA1⟩ := trodAll_cons hA0
  obtain ⟨rfl, rfl, rfl⟩ := trodAll_nil hA1
  obtain ⟨al⟩ := args
  have hargs : al = [v0, v1] := hargs
  subst hargs
  obtain ⟨e0, D0, i0⟩ := arg_dat (pt := (.sl (.int .i64))) (OpensT.sl kUnd_22 (by kernel_rfl) (OpensT.i64 kUnd_3)) h0 (Shaped.sl kUnd_22 (hval 0 22 v0 rfl rfl))
  obtain ⟨e1, D1, i1⟩ := arg_dat (pt := (.int .i64)) (OpensT.i64 kUnd_3) h1 (Shaped.int kUnd_3 (hval 1 3 v1 rfl rfl))
  clear hval
  have hc : OKc Tryd.prog 3 [.d (.sl (.int .i64)), .d (.int .i64)] [.d .bool] (e0, e1, ()) (true, ()) := con_coreseclaw34_RelaySeparates.ok (e0, e1, ()) true (RelaySeparates_true e0 e1 i0.1)
  refine (hc 3 3 0 lab0 W [v0, v1] (lab0_top W) gl (fun h => by cases h) (by decide) ⟨D0, D1, trivial⟩).mono fun e W' ⟨lab', us, he, hs, hr⟩ => ?_
  match us, hr with
  | [u], ⟨hb, _⟩ =>
    obtain rfl : u = .bool true := Dat.bool hb
    subst he
    exact ⟨_, rfl, post_true laid_out (by kernel_rfl) (Stp.below hs) hW' rfl (by kernel_rfl) kUnd_4 rfl⟩
theorem relaySeparates_bare : Rows.RelaySeparatesSaid :=
  OpenClaim.holds_of_wide 3 Tryd.f3 rfl rfl rfl rfl rfl rfl rfl ⟨rfl, rfl, rfl, rfl, rfl⟩ rfl rfl rfl rfl rfl (by kernel_rfl) Tryd.func3 (by kernel_rfl)
    (of_decide_eq_true (by kernel_rfl)) (by unfold Func.isWrapper; first | (rw [if_pos (by decide +kernel)]; kernel_rfl) | (rw [if_neg (by decide +kernel)]; exact ⟨rfl, rfl⟩))
    (fun os started H enc _ => relaySeparates_lifted os started H enc)
theorem relaySeparates_holds : Rows.RelaySeparatesCardSaid :=
  Claim7.holds_tied_plain_at .later [] [.data, .pinned] true (true, "8c15efaa710bba9d6a7b7a619f266cac01dc5080f010f446fdc7ccbba042a69b") false relaySeparates_bare (fun _ h => by cases h) (by kernel_rfl) (fun _ h => by cases h) relaySeparates_row_tie rfl ⟨rfl, rfl⟩ (by kernel_rfl) rfl
    (fun f fn hf hfn => by
      obtain rfl : f = 3 := Option.some.inj ((show Tryd.prog.funcNamed "coresec/coreseclaw34.RelaySeparates" = some 3 by kernel_rfl).symm.trans hf) |>.symm
      obtain rfl : fn = Tryd.f3 := (Option.some.inj (Tryd.func3.symm.trans hfn)).symm
      exact ⟨by kernel_rfl, fun j t ht => by
        rw [show Tryd.f3.params = #[22, 3] by kernel_rfl] at ht
        have hm : t ∈ [22, 3] := by simpa using Array.mem_of_getElem? ht
        have hall : ([22, 3].all fun u => !Tryd.prog.wantsStandIn u) = true := by kernel_rfl
        exact (show Tryd.prog.wantsStandIn t = false by simpa using List.all_eq_true.1 hall t hm)⟩)
    (by kernel_rfl)
end Go.Proofs.YtcbkmlfkfhfliaaDoor
