/-
  The row of BlockWhole: its arguments opened, the walk and the plain law joined.
-/
import Derived.Test.YtaefnnamjphieaaL18H
import Derived.Test.YtaefnnamjphieaaWBlockWhole
import Derived.Test.YtaefnnamjphieaaOpen
import Derived.Test.YtaefnnamjphieaaRows
namespace Go.Proofs.Ytaefnnamjphieaa
open Go.Gk Go.RowKit Go.ChangeShapes Go.WideShapes Go.ChangeAt Go.WideElems
theorem kUnd_3 : Try.prog.underlying 3 = some (.int .i64) := by kernel_rfl
theorem own_none : ownKnob Try.prog.godebug = none := by kernel_rfl
theorem laid_out : laidOutB Try.prog = true := by kernel_rfl
set_option maxRecDepth 100000 in
set_option maxHeartbeats 1000000 in
theorem blockWhole_lifted (os : Os) (started : os.Started) (H : Type) (enc : TypeId × Value → H) :
    ReturnsInHanded {} Try.checked os 5 .any (Rows.blockWholeSpec.pre6 enc Try.prog Try.f5 Rows.blockWholeRow.domain false) (Rows.blockWholeSpec.post enc Try.prog Try.f5 false true false false) := by
  refine returnsInHanded_of_change (C := Try.checked) own_none started (by kernel_rfl) Try.func5
    (ChangeSpec.witness6 (enc := enc) (C := Try.checked) false ⟨#[], #[.slice none 0 0, .slice none 0 0, .int .i64 0, .int .i64 0], []⟩ 8 (by kernel_rfl) (by kernel_rfl) (by kernel_rfl) (by kernel_rfl)) ?_
  intro W base args ds gs before hval0 hW hcnd _
  have hval : ∀ (j : Nat) t v, Try.f5.params[j]? = some t → args[j]? = some v → Value.okWide Try.prog W .any base t v := hval0
  have hW' := hW
  obtain ⟨p, q, hA0, hV, rfl, hfz, hnd⟩ := hW
  have hp : Try.f5.params = #[24, 23, 3, 3] := by kernel_rfl
  have hA : DataW.TrodAll enc Try.prog W 0 (fun _ => true) true Try.f5.params.toList args.toList ds p := hA0
  rw [hp] at hA hval
  clear hA0 hval0
  obtain ⟨rfl, rfl⟩ := trodVars_none hV
  obtain ⟨v0, vs0, d0, ds0, p0, q0, hargs, rfl, rfl, h0, hA0⟩ := trodAll_cons hA
  obtain ⟨v1, vs1, d1, ds1, p1, q1, rfl, rfl, rfl, h1, hA1⟩ := trodAll_cons hA0
  obtain ⟨v2, vs2, d2, ds2, p2, q2, rfl, rfl, rfl, h2, hA2⟩ := trodAll_cons hA1
  obtain ⟨v3, vs3, d3, ds3, p3, q3, rfl, rfl, rfl, h3, hA3⟩ := trodAll_cons hA2
  obtain ⟨rfl, rfl, rfl⟩ := trodAll_nil hA3
  obtain ⟨al⟩ := args
  have hargs : al = [v0, v1, v2, v3] := hargs
  subst hargs
  obtain ⟨e0, r0, i0⟩ := Opens.arg (Opens.sl kUnd_24 (by kernel_rfl) (Opens.u8 kUnd_5)) h0
  obtain ⟨za_, zl_, zc_, rfl⟩ := okWide_slice kUnd_24 (hval 0 24 v0 rfl rfl); obtain ⟨oa0, n0, r0, s0⟩ := r0; have r0 : [Value.slice za_ zl_ zc_] = [.slice oa0 e0.length n0] := r0; cases r0
  obtain ⟨e1, r1, i1⟩ := Opens.arg (Opens.sl kUnd_23 (by kernel_rfl) (Opens.i64 kUnd_3)) h1
  obtain ⟨za_, zl_, zc_, rfl⟩ := okWide_slice kUnd_23 (hval 1 23 v1 rfl rfl); obtain ⟨oa1, n1, r1, s1⟩ := r1; have r1 : [Value.slice za_ zl_ zc_] = [.slice oa1 e1.length n1] := r1; cases r1
  obtain ⟨e2, r2, i2⟩ := Opens.arg (Opens.i64 kUnd_3) h2
  obtain ⟨z_, rfl⟩ := okWide_int kUnd_3 (hval 2 3 v2 rfl rfl); have r2 : [Value.int .i64 z_] = [.int .i64 e2] := r2; cases r2
  obtain ⟨e3, r3, i3⟩ := Opens.arg (Opens.i64 kUnd_3) h3
  obtain ⟨z_, rfl⟩ := okWide_int kUnd_3 (hval 3 3 v3 rfl rfl); have r3 : [Value.int .i64 z_] = [.int .i64 e3] := r3; cases r3
  clear hval
  refine (c_coreseclaw18_BlockWhole (BlockWhole_true e0 e1 e2 e3 i1.1) (lab0_top W) s0 s1).mono fun e W' ⟨he, hs, _⟩ => ?_
  subst he
  exact ⟨_, rfl, post_true laid_out (by kernel_rfl) hs.below hW' rfl (by kernel_rfl) kUnd_4 rfl⟩
theorem blockWhole_holds : Rows.BlockWholeSaid :=
  OpenClaim.holds_of_wide 5 Try.f5 rfl rfl rfl rfl rfl rfl rfl ⟨rfl, rfl, rfl, rfl, rfl⟩ rfl rfl rfl rfl rfl (by kernel_rfl) Try.func5 (by kernel_rfl)
    (of_decide_eq_true (by kernel_rfl)) (by unfold Func.isWrapper; first | (rw [if_pos (by decide +kernel)]; kernel_rfl) | (rw [if_neg (by decide +kernel)]; exact ⟨rfl, rfl⟩))
    (fun os started H enc _ => blockWhole_lifted os started H enc)
end Go.Proofs.Ytaefnnamjphieaa
