/-
  The row of BlockPuts: its arguments opened, the walk and the plain law joined.
-/
import Derived.Test.YtaefnnamjphieaaL18G
import Derived.Test.YtaefnnamjphieaaWBlockPuts
import Derived.Test.YtaefnnamjphieaaOpen
import Derived.Test.YtaefnnamjphieaaRows
namespace Go.Proofs.Ytaefnnamjphieaa
open Go.Gk Go.RowKit Go.ChangeShapes Go.WideShapes Go.ChangeAt Go.WideElems
theorem kUnd_3 : Try.prog.underlying 3 = some (.int .i64) := by kernel_rfl
def I_63 : S_api_Partial → Prop := fun x => (fun n : Int => -9223372036854775808 ≤ n ∧ n < 9223372036854775808) x.Peer ∧ (fun xs : List UInt8 => xs.length ≤ maxLen ∧ ∀ x ∈ xs, (fun _ => True) x) x.Key ∧ (fun xs : List UInt8 => xs.length ≤ maxLen ∧ ∀ x ∈ xs, (fun _ => True) x) x.Data ∧ (fun n : Int => -9223372036854775808 ≤ n ∧ n < 9223372036854775808) x.Until ∧ True
theorem O_63 : Opens Try.prog 63 R_api_Partial I_63 := fun {H enc w base spare held fuel cs x} h => by
  have hs : Try.prog.underlying 63 = some (.struct (Try.prog.fieldsOf 63)) := by kernel_rfl
  obtain ⟨_, _, _, _, hlen, _, _⟩ := DataW.trod_struct hs h
  have hl : cs.length = 4 := hlen.trans (by kernel_rfl)
  obtain ⟨c0, c1, c2, c3, rfl⟩ : ∃ c0 c1 c2 c3, cs = [c0, c1, c2, c3] := by
    match cs, hl with
    | [c0, c1, c2, c3], _ => exact ⟨_, _, _, _, rfl⟩
  obtain ⟨e0, r0, i0⟩ := Opens.field hs h 0 0 1 (by kernel_rfl) (Opens.i64 kUnd_3)
  obtain ⟨e1, r1, i1⟩ := Opens.field hs h 1 1 1 (by kernel_rfl) (Opens.sl kUnd_24 (by kernel_rfl) (Opens.u8 kUnd_5))
  obtain ⟨e2, r2, i2⟩ := Opens.field hs h 2 2 1 (by kernel_rfl) (Opens.sl kUnd_24 (by kernel_rfl) (Opens.u8 kUnd_5))
  obtain ⟨e3, r3, i3⟩ := Opens.field hs h 3 3 1 (by kernel_rfl) (Opens.i64 kUnd_3)
  have r0 : [c0] = [.int .i64 e0] := r0; cases r0
  obtain ⟨oa1_, n1_, q_, s1_⟩ := r1; have q_ : [c1] = [.slice oa1_ e1.length n1_] := q_; cases q_
  obtain ⟨oa2_, n2_, q_, s2_⟩ := r2; have q_ : [c2] = [.slice oa2_ e2.length n2_] := q_; cases q_
  have r3 : [c3] = [.int .i64 e3] := r3; cases r3
  exact ⟨⟨e0, e1, e2, e3⟩, ⟨oa1_, n1_, oa2_, n2_, rfl, s1_, s2_, trivial⟩, i0, i1, i2, i3, trivial⟩
def I_26 : S_api_Block → Prop := fun x => (fun n : Int => -9223372036854775808 ≤ n ∧ n < 9223372036854775808) x.Num ∧ (fun _ => True) x.More ∧ (fun n : Int => -9223372036854775808 ≤ n ∧ n < 9223372036854775808) x.Size ∧ True
theorem O_26 : Opens Try.prog 26 R_api_Block I_26 := fun {H enc w base spare held fuel cs x} h => by
  have hs : Try.prog.underlying 26 = some (.struct (Try.prog.fieldsOf 26)) := by kernel_rfl
  obtain ⟨_, _, _, _, hlen, _, _⟩ := DataW.trod_struct hs h
  have hl : cs.length = 3 := hlen.trans (by kernel_rfl)
  obtain ⟨c0, c1, c2, rfl⟩ : ∃ c0 c1 c2, cs = [c0, c1, c2] := by
    match cs, hl with
    | [c0, c1, c2], _ => exact ⟨_, _, _, rfl⟩
  obtain ⟨e0, r0, i0⟩ := Opens.field hs h 0 0 1 (by kernel_rfl) (Opens.i64 kUnd_3)
  obtain ⟨e1, r1, i1⟩ := Opens.field hs h 1 1 1 (by kernel_rfl) (Opens.bool kUnd_4)
  obtain ⟨e2, r2, i2⟩ := Opens.field hs h 2 2 1 (by kernel_rfl) (Opens.i64 kUnd_3)
  have r0 : [c0] = [.int .i64 e0] := r0; cases r0
  have r1 : [c1] = [.bool e1] := r1; cases r1
  have r2 : [c2] = [.int .i64 e2] := r2; cases r2
  exact ⟨⟨e0, e1, e2⟩, ⟨rfl, trivial⟩, i0, i1, i2, trivial⟩
theorem own_none : ownKnob Try.prog.godebug = none := by kernel_rfl
theorem laid_out : laidOutB Try.prog = true := by kernel_rfl
set_option maxRecDepth 100000 in
set_option maxHeartbeats 1000000 in
theorem blockPuts_lifted (os : Os) (started : os.Started) (H : Type) (enc : TypeId × Value → H) :
    ReturnsInHanded {} Try.checked os 3 .any (Rows.blockPutsSpec.pre6 enc Try.prog Try.f3 Rows.blockPutsRow.domain false) (Rows.blockPutsSpec.post enc Try.prog Try.f3 false true false false) := by
  refine returnsInHanded_of_change (C := Try.checked) own_none started (by kernel_rfl) Try.func3
    (ChangeSpec.witness6 (enc := enc) (C := Try.checked) false ⟨#[], #[.slice none 0 0, .slice none 0 0, .int .i64 0, .slice none 0 0, Value.agg #[.int .i64 0, .bool false, .int .i64 0], .slice none 0 0, .int .i64 0], []⟩ 8 (by kernel_rfl) (by kernel_rfl) (by kernel_rfl) (by kernel_rfl)) ?_
  intro W base args ds gs before hval0 hW hcnd _
  have hval : ∀ (j : Nat) t v, Try.f3.params[j]? = some t → args[j]? = some v → Value.okWide Try.prog W .any base t v := hval0
  have hW' := hW
  obtain ⟨p, q, hA0, hV, rfl, hfz, hnd⟩ := hW
  have hp : Try.f3.params = #[22, 23, 3, 24, 26, 24, 3] := by kernel_rfl
  have hA : DataW.TrodAll enc Try.prog W 0 (fun _ => true) true Try.f3.params.toList args.toList ds p := hA0
  rw [hp] at hA hval
  clear hA0 hval0
  obtain ⟨rfl, rfl⟩ := trodVars_none hV
  obtain ⟨v0, vs0, d0, ds0, p0, q0, hargs, rfl, rfl, h0, hA0⟩ := trodAll_cons hA
  obtain ⟨v1, vs1, d1, ds1, p1, q1, rfl, rfl, rfl, h1, hA1⟩ := trodAll_cons hA0
  obtain ⟨v2, vs2, d2, ds2, p2, q2, rfl, rfl, rfl, h2, hA2⟩ := trodAll_cons hA1
  obtain ⟨v3, vs3, d3, ds3, p3, q3, rfl, rfl, rfl, h3, hA3⟩ := trodAll_cons hA2
  obtain ⟨v4, vs4, d4, ds4, p4, q4, rfl, rfl, rfl, h4, hA4⟩ := trodAll_cons hA3
  obtain ⟨v5, vs5, d5, ds5, p5, q5, rfl, rfl, rfl, h5, hA5⟩ := trodAll_cons hA4
  obtain ⟨v6, vs6, d6, ds6, p6, q6, rfl, rfl, rfl, h6, hA6⟩ := trodAll_cons hA5
  obtain ⟨rfl, rfl, rfl⟩ := trodAll_nil hA6
  obtain ⟨al⟩ := args
  have hargs : al = [v0, v1, v2, v3, v4, v5, v6] := hargs
  subst hargs
  obtain ⟨e0, r0, i0⟩ := Opens.arg (Opens.sl kUnd_22 (by kernel_rfl) O_63) h0
  obtain ⟨za_, zl_, zc_, rfl⟩ := okWide_slice kUnd_22 (hval 0 22 v0 rfl rfl); obtain ⟨oa0, n0, r0, s0⟩ := r0; have r0 : [Value.slice za_ zl_ zc_] = [.slice oa0 e0.length n0] := r0; cases r0
  obtain ⟨e1, r1, i1⟩ := Opens.arg (Opens.sl kUnd_23 (by kernel_rfl) (Opens.i64 kUnd_3)) h1
  obtain ⟨za_, zl_, zc_, rfl⟩ := okWide_slice kUnd_23 (hval 1 23 v1 rfl rfl); obtain ⟨oa1, n1, r1, s1⟩ := r1; have r1 : [Value.slice za_ zl_ zc_] = [.slice oa1 e1.length n1] := r1; cases r1
  obtain ⟨e2, r2, i2⟩ := Opens.arg (Opens.i64 kUnd_3) h2
  obtain ⟨z_, rfl⟩ := okWide_int kUnd_3 (hval 2 3 v2 rfl rfl); have r2 : [Value.int .i64 z_] = [.int .i64 e2] := r2; cases r2
  obtain ⟨e3, r3, i3⟩ := Opens.arg (Opens.sl kUnd_24 (by kernel_rfl) (Opens.u8 kUnd_5)) h3
  obtain ⟨za_, zl_, zc_, rfl⟩ := okWide_slice kUnd_24 (hval 3 24 v3 rfl rfl); obtain ⟨oa3, n3, r3, s3⟩ := r3; have r3 : [Value.slice za_ zl_ zc_] = [.slice oa3 e3.length n3] := r3; cases r3
  obtain ⟨e4, r4, i4⟩ := Opens.arg O_26 h4
  obtain ⟨⟨zl_⟩, rfl, _⟩ := okWide_struct (by kernel_rfl : Try.prog.underlying 26 = some (.struct (Try.prog.fieldsOf 26))) (hval 4 26 v4 rfl rfl); obtain ⟨r4, _⟩ := r4; have r4 : zl_ = [.int .i64 e4.Num, .bool e4.More, .int .i64 e4.Size] := r4; subst r4
  obtain ⟨e5, r5, i5⟩ := Opens.arg (Opens.sl kUnd_24 (by kernel_rfl) (Opens.u8 kUnd_5)) h5
  obtain ⟨za_, zl_, zc_, rfl⟩ := okWide_slice kUnd_24 (hval 5 24 v5 rfl rfl); obtain ⟨oa5, n5, r5, s5⟩ := r5; have r5 : [Value.slice za_ zl_ zc_] = [.slice oa5 e5.length n5] := r5; cases r5
  obtain ⟨e6, r6, i6⟩ := Opens.arg (Opens.i64 kUnd_3) h6
  obtain ⟨z_, rfl⟩ := okWide_int kUnd_3 (hval 6 3 v6 rfl rfl); have r6 : [Value.int .i64 z_] = [.int .i64 e6] := r6; cases r6
  clear hval
  refine (c_coreseclaw18_BlockPuts (BlockPuts_true e0 e1 e2 e3 e4 e5 e6 i1.1) (lab0_top W) s0 s1 s3 s5).mono fun e W' ⟨he, hs, _⟩ => ?_
  subst he
  exact ⟨_, rfl, post_true laid_out (by kernel_rfl) hs.below hW' rfl (by kernel_rfl) kUnd_4 rfl⟩
theorem blockPuts_holds : Rows.BlockPutsSaid :=
  OpenClaim.holds_of_wide 3 Try.f3 rfl rfl rfl rfl rfl rfl rfl ⟨rfl, rfl, rfl, rfl, rfl⟩ rfl rfl rfl rfl rfl (by kernel_rfl) Try.func3 (by kernel_rfl)
    (of_decide_eq_true (by kernel_rfl)) (by unfold Func.isWrapper; first | (rw [if_pos (by decide +kernel)]; kernel_rfl) | (rw [if_neg (by decide +kernel)]; exact ⟨rfl, rfl⟩))
    (fun os started H enc _ => blockPuts_lifted os started H enc)
end Go.Proofs.Ytaefnnamjphieaa
