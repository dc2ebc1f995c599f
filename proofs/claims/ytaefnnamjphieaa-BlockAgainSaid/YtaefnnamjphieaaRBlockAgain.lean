/-
  The row of BlockAgain: its arguments opened, the walk and the plain law joined.
-/
import Derived.Test.YtaefnnamjphieaaL18F
import Derived.Test.YtaefnnamjphieaaWBlockAgain
import Derived.Test.YtaefnnamjphieaaOpen
import Derived.Test.YtaefnnamjphieaaRows
namespace Go.Proofs.Ytaefnnamjphieaa
open Go.Gk Go.RowKit Go.ChangeShapes Go.WideShapes Go.ChangeAt Go.WideElems
theorem kUnd_3 : Try.prog.underlying 3 = some (.int .i64) := by kernel_rfl
theorem own_none : ownKnob Try.prog.godebug = none := by kernel_rfl
theorem laid_out : laidOutB Try.prog = true := by kernel_rfl
set_option maxRecDepth 100000 in
set_option maxHeartbeats 1000000 in
theorem blockAgain_lifted (os : Os) (started : os.Started) (H : Type) (enc : TypeId × Value → H) :
    ReturnsInHanded {} Try.checked os 6 .any (Rows.blockAgainSpec.pre6 enc Try.prog Try.f6 Rows.blockAgainRow.domain false) (Rows.blockAgainSpec.post enc Try.prog Try.f6 false true false false) := by
  refine returnsInHanded_of_change (C := Try.checked) own_none started (by kernel_rfl) Try.func6
    (ChangeSpec.witness6 (enc := enc) (C := Try.checked) false ⟨#[], #[.int .i64 0, .int .i64 0, .int .i64 0], []⟩ 8 (by kernel_rfl) (by kernel_rfl) (by kernel_rfl) (by kernel_rfl)) ?_
  intro W base args ds gs before hval0 hW hcnd _
  have hval : ∀ (j : Nat) t v, Try.f6.params[j]? = some t → args[j]? = some v → Value.okWide Try.prog W .any base t v := hval0
  have hW' := hW
  obtain ⟨p, q, hA0, hV, rfl, hfz, hnd⟩ := hW
  have hp : Try.f6.params = #[3, 3, 3] := by kernel_rfl
  have hA : DataW.TrodAll enc Try.prog W 0 (fun _ => true) true Try.f6.params.toList args.toList ds p := hA0
  rw [hp] at hA hval
  clear hA0 hval0
  obtain ⟨rfl, rfl⟩ := trodVars_none hV
  obtain ⟨v0, vs0, d0, ds0, p0, q0, hargs, rfl, rfl, h0, hA0⟩ := trodAll_cons hA
  obtain ⟨v1, vs1, d1, ds1, p1, q1, rfl, rfl, rfl, h1, hA1⟩ := trodAll_cons hA0
  obtain ⟨v2, vs2, d2, ds2, p2, q2, rfl, rfl, rfl, h2, hA2⟩ := trodAll_cons hA1
  obtain ⟨rfl, rfl, rfl⟩ := trodAll_nil hA2
  obtain ⟨al⟩ := args
  have hargs : al = [v0, v1, v2] := hargs
  subst hargs
  obtain ⟨e0, r0, i0⟩ := Opens.arg (Opens.i64 kUnd_3) h0
  obtain ⟨z_, rfl⟩ := okWide_int kUnd_3 (hval 0 3 v0 rfl rfl); have r0 : [Value.int .i64 z_] = [.int .i64 e0] := r0; cases r0
  obtain ⟨e1, r1, i1⟩ := Opens.arg (Opens.i64 kUnd_3) h1
  obtain ⟨z_, rfl⟩ := okWide_int kUnd_3 (hval 1 3 v1 rfl rfl); have r1 : [Value.int .i64 z_] = [.int .i64 e1] := r1; cases r1
  obtain ⟨e2, r2, i2⟩ := Opens.arg (Opens.i64 kUnd_3) h2
  obtain ⟨z_, rfl⟩ := okWide_int kUnd_3 (hval 2 3 v2 rfl rfl); have r2 : [Value.int .i64 z_] = [.int .i64 e2] := r2; cases r2
  clear hval
  refine (c_coreseclaw18_BlockAgain (BlockAgain_true e0 e1 e2) (lab0_top W)).mono fun e W' ⟨he, hs, _⟩ => ?_
  subst he
  exact ⟨_, rfl, post_true laid_out (by kernel_rfl) hs.below hW' rfl (by kernel_rfl) kUnd_4 rfl⟩
theorem blockAgain_holds : Rows.BlockAgainSaid :=
  OpenClaim.holds_of_wide 6 Try.f6 rfl rfl rfl rfl rfl rfl rfl ⟨rfl, rfl, rfl, rfl, rfl⟩ rfl rfl rfl rfl rfl (by kernel_rfl) Try.func6 (by kernel_rfl)
    (of_decide_eq_true (by kernel_rfl)) (by unfold Func.isWrapper; first | (rw [if_pos (by decide +kernel)]; kernel_rfl) | (rw [if_neg (by decide +kernel)]; exact ⟨rfl, rfl⟩))
    (fun os started H enc _ => blockAgain_lifted os started H enc)
end Go.Proofs.Ytaefnnamjphieaa
