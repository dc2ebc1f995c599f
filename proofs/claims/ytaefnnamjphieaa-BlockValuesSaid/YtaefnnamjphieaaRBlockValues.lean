/-
  The row of BlockValues: its arguments opened, the walk and the plain law joined.
-/
import Derived.Test.YtaefnnamjphieaaL18B
import Derived.Test.YtaefnnamjphieaaWBlockValues
import Derived.Test.YtaefnnamjphieaaOpen
import Derived.Test.YtaefnnamjphieaaRows
namespace Go.Proofs.Ytaefnnamjphieaa
open Go.Gk Go.RowKit Go.ChangeShapes Go.WideShapes Go.ChangeAt Go.WideElems
theorem kUnd_3 : Try.prog.underlying 3 = some (.int .i64) := by kernel_rfl
def I_26 : S_api_Block → Prop := fun x => (fun n : Int => -9223372036854775808 ≤ n ∧ n < 9223372036854775808) x.Num ∧ (fun _ => True) x.More ∧ (fun n : Int => -9223372036854775808 ≤ n ∧ n < 9223372036854775808) x.Size ∧ True
theorem O_26 : Opens Try.prog 26 R_api_Block I_26 := fun {H enc w base spare held fuel cs x} h => by
  have hs : Try.prog.underlying 26 = some (.struct (Try.prog.fieldsOf 26)) := by kernel_rfl
  obtain ⟨_, _, _, _, hlen, _, _⟩ := DataW.trod_struct hs h
  have hl : cs.length = 3 := hlen.trans (by kernel_rfl)
  obtain ⟨c0, c1, c2, rfl⟩ : ∃ c0 c1 c2, cs = [c0, c1, c2] := by
    match cs, hl with
    | [c0, c1, c2], _ => exact ⟨_, _, _, rfl⟩
  obtain ⟨e0, r0, i0⟩ := Opens.field hs h 0 0 1 (by kernel_rfl) (Opens.i64 kUnd_3)
  obtain ⟨e1, r1, i1⟩ := Opens.field hs h 1 1 1 (by kernel_rfl) (Opens.bool kUnd_4)
  obtain ⟨e2, r2, i2⟩ := Opens.field hs h 2 2 1 (by kernel_rfl) (Opens.i64 kUnd_3)
  have r0 : [c0] = [.int .i64 e0] := r0; cases r0
  have r1 : [c1] = [.bool e1] := r1; cases r1
  have r2 : [c2] = [.int .i64 e2] := r2; cases r2
  exact ⟨⟨e0, e1, e2⟩, ⟨rfl, trivial⟩, i0, i1, i2, trivial⟩
theorem own_none : ownKnob Try.prog.godebug = none := by kernel_rfl
theorem laid_out : laidOutB Try.prog = true := by kernel_rfl
set_option maxRecDepth 100000 in
set_option maxHeartbeats 1000000 in
theorem blockValues_lifted (os : Os) (started : os.Started) (H : Type) (enc : TypeId × Value → H) :
    ReturnsInHanded {} Try.checked os 8 .any (Rows.blockValuesSpec.pre6 enc Try.prog Try.f8 Rows.blockValuesRow.domain false) (Rows.blockValuesSpec.post enc Try.prog Try.f8 false true false false) := by
  refine returnsInHanded_of_change (C := Try.checked) own_none started (by kernel_rfl) Try.func8
    (ChangeSpec.witness6 (enc := enc) (C := Try.checked) false ⟨#[], #[Value.agg #[.int .i64 0, .bool false, .int .i64 0], .slice none 0 0, .int .i64 0, .int .i64 0], []⟩ 8 (by kernel_rfl) (by kernel_rfl) (by kernel_rfl) (by kernel_rfl)) ?_
  intro W base args ds gs before hval0 hW hcnd _
  have hval : ∀ (j : Nat) t v, Try.f8.params[j]? = some t → args[j]? = some v → Value.okWide Try.prog W .any base t v := hval0
  have hW' := hW
  obtain ⟨p, q, hA0, hV, rfl, hfz, hnd⟩ := hW
  have hp : Try.f8.params = #[26, 24, 3, 3] := by kernel_rfl
  have hA : DataW.TrodAll enc Try.prog W 0 (fun _ => true) true Try.f8.params.toList args.toList ds p := hA0
  rw [hp] at hA hval
  clear hA0 hval0
  obtain ⟨rfl, rfl⟩ := trodVars_none hV
  obtain ⟨v0, vs0, d0, ds0, p0, q0, hargs, rfl, rfl, h0, hA0⟩ := trodAll_cons hA
  obtain ⟨v1, vs1, d1, ds1, p1, q1, rfl, rfl, rfl, h1, hA1⟩ := trodAll_cons hA0
  obtain ⟨v2, vs2, d2, ds2, p2, q2, rfl, rfl, rfl, h2, hA2⟩ := trodAll_cons hA1
  obtain ⟨v3, vs3, d3, ds3, p3, q3, rfl, rfl, rfl, h3, hA3⟩ := trodAll_cons hA2
  obtain ⟨rfl, rfl, rfl⟩ := trodAll_nil hA3
  obtain ⟨al⟩ := args
  have hargs : al = [v0, v1, v2, v3] := hargs
  subst hargs
  obtain ⟨e0, r0, i0⟩ := Opens.arg O_26 h0
  obtain ⟨⟨zl_⟩, rfl, _⟩ := okWide_struct (by kernel_rfl : Try.prog.underlying 26 = some (.struct (Try.prog.fieldsOf 26))) (hval 0 26 v0 rfl rfl); obtain ⟨r0, _⟩ := r0; have r0 : zl_ = [.int .i64 e0.Num, .bool e0.More, .int .i64 e0.Size] := r0; subst r0
  obtain ⟨e1, r1, i1⟩ := Opens.arg (Opens.sl kUnd_24 (by kernel_rfl) (Opens.u8 kUnd_5)) h1
  obtain ⟨za_, zl_, zc_, rfl⟩ := okWide_slice kUnd_24 (hval 1 24 v1 rfl rfl); obtain ⟨oa1, n1, r1, s1⟩ := r1; have r1 : [Value.slice za_ zl_ zc_] = [.slice oa1 e1.length n1] := r1; cases r1
  obtain ⟨e2, r2, i2⟩ := Opens.arg (Opens.i64 kUnd_3) h2
  obtain ⟨z_, rfl⟩ := okWide_int kUnd_3 (hval 2 3 v2 rfl rfl); have r2 : [Value.int .i64 z_] = [.int .i64 e2] := r2; cases r2
  obtain ⟨e3, r3, i3⟩ := Opens.arg (Opens.i64 kUnd_3) h3
  obtain ⟨z_, rfl⟩ := okWide_int kUnd_3 (hval 3 3 v3 rfl rfl); have r3 : [Value.int .i64 z_] = [.int .i64 e3] := r3; cases r3
  clear hval
  refine (c_coreseclaw18_BlockValues (BlockValues_true e0 e1 e2 e3) (lab0_top W) s1).mono fun e W' ⟨he, hs, _⟩ => ?_
  subst he
  exact ⟨_, rfl, post_true laid_out (by kernel_rfl) hs.below hW' rfl (by kernel_rfl) kUnd_4 rfl⟩
theorem blockValues_holds : Rows.BlockValuesSaid :=
  OpenClaim.holds_of_wide 8 Try.f8 rfl rfl rfl rfl rfl rfl rfl ⟨rfl, rfl, rfl, rfl, rfl⟩ rfl rfl rfl rfl rfl (by kernel_rfl) Try.func8 (by kernel_rfl)
    (of_decide_eq_true (by kernel_rfl)) (by unfold Func.isWrapper; first | (rw [if_pos (by decide +kernel)]; kernel_rfl) | (rw [if_neg (by decide +kernel)]; exact ⟨rfl, rfl⟩))
    (fun os started H enc _ => blockValues_lifted os started H enc)
end Go.Proofs.Ytaefnnamjphieaa
