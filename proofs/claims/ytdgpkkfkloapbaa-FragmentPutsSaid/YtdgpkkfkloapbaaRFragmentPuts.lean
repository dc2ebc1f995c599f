/-
  The row of FragmentPuts: its arguments opened, the walk and the plain law joined. No condition.
-/
import Derived.Test.YtdgpkkfkloapbaaQ43
import Derived.Test.YtdgpkkfkloapbaaCo
import Derived.Test.YtdgpkkfkloapbaaYOpn
import Derived.Test.YtdgpkkfkloapbaaRows
namespace Go.Proofs.Ytdgpkkfkloapbaa
open Go.Gk Go.RowKit Go.ChangeShapes Go.WideShapes Go.ChangeAt Go.WideElems
theorem kUnd_50 : Try.prog.underlying 50 = some (.slice 54) := by kernel_rfl
theorem kUnd_3 : Try.prog.underlying 3 = some (.int .i64) := by kernel_rfl
theorem kUnd_5 : Try.prog.underlying 5 = some (.int .u8) := by kernel_rfl
theorem kUnd_23 : Try.prog.underlying 23 = some (.slice 63) := by kernel_rfl
theorem kUnd_26 : Try.prog.underlying 26 = some (.slice 3) := by kernel_rfl
theorem kUnd_4 : Try.prog.underlying 4 = some .bool := by kernel_rfl
theorem OT_54 : Opens Try.prog 54 (rep P_api_Partial) (inT P_api_Partial) := OpensT.st (by kernel_rfl) (OpensF.cons (j := 0) 1 (by kernel_rfl) (by kernel_rfl) (OpensT.i64 kUnd_3) (OpensF.cons (j := 1) 2 (by kernel_rfl) (by kernel_rfl) (OpensT.sl kUnd_22 (by kernel_rfl) (OpensT.u8 kUnd_5)) (OpensF.cons (j := 2) 3 (by kernel_rfl) (by kernel_rfl) (OpensT.sl kUnd_22 (by kernel_rfl) (OpensT.u8 kUnd_5)) (OpensF.last (j := 3) (by kernel_rfl) (by kernel_rfl) (OpensT.i64 kUnd_3)))))
theorem OT_63 : Opens Try.prog 63 (rep P_api_Option) (inT P_api_Option) := OpensT.st (by kernel_rfl) (OpensF.cons (j := 0) 1 (by kernel_rfl) (by kernel_rfl) (OpensT.i64 kUnd_3) (OpensF.last (j := 1) (by kernel_rfl) (by kernel_rfl) (OpensT.sl kUnd_22 (by kernel_rfl) (OpensT.u8 kUnd_5))))
theorem OT_25 : Opens Try.prog 25 (rep P_api_Message) (inT P_api_Message) := OpensT.st (by kernel_rfl) (OpensF.cons (j := 0) 1 (by kernel_rfl) (by kernel_rfl) (OpensT.i64 kUnd_3) (OpensF.cons (j := 1) 2 (by kernel_rfl) (by kernel_rfl) (OpensT.i64 kUnd_3) (OpensF.cons (j := 2) 3 (by kernel_rfl) (by kernel_rfl) (OpensT.i64 kUnd_3) (OpensF.cons (j := 3) 4 (by kernel_rfl) (by kernel_rfl) (OpensT.sl kUnd_22 (by kernel_rfl) (OpensT.u8 kUnd_5)) (OpensF.cons (j := 4) 5 (by kernel_rfl) (by kernel_rfl) (OpensT.sl kUnd_23 (by kernel_rfl) OT_63) (OpensF.last (j := 5) (by kernel_rfl) (by kernel_rfl) (OpensT.sl kUnd_22 (by kernel_rfl) (OpensT.u8 kUnd_5))))))))
theorem own_none : ownKnob Try.prog.godebug = none := by kernel_rfl
theorem laid_out : laidOutB Try.prog = true := by kernel_rfl
set_option maxRecDepth 100000 in
set_option maxHeartbeats 1000000 in
theorem fragmentPuts_lifted (os : Os) (started : os.Started) (H : Type) (enc : TypeId × Value → H) :
    ReturnsInHanded {} Try.checked os 6 .any (Rows.fragmentPutsSpec.pre6 enc Try.prog Try.f6 Rows.fragmentPutsRow.domain false) (Rows.fragmentPutsSpec.post enc Try.prog Try.f6 false true false false) := by
  refine returnsInHanded_of_change (C := Try.checked) own_none started (by kernel_rfl) Try.func6
    (ChangeSpec.witness6 (enc := enc) (C := Try.checked) false ⟨#[], #[.slice none 0 0, Value.agg #[.int .i64 0, .int .i64 0, .int .i64 0, .slice none 0 0, .slice none 0 0, .slice none 0 0], .slice none 0 0, .int .i64 0, .int .i64 0, .int .i64 0], []⟩ 8 (by kernel_rfl) (by kernel_rfl) (by kernel_rfl) (by kernel_rfl)) ?_
  intro W base args ds gs before hval0 hW hcnd _
  have hval : ∀ (j : Nat) t v, Try.f6.params[j]? = some t → args[j]? = some v → Value.okWide Try.prog W .any base t v := hval0
  have hW' := hW
  obtain ⟨p, q, hA0, hV, rfl, hfz, hnd⟩ := hW
  have hp : Try.f6.params = #[50, 25, 26, 3, 3, 3] := by kernel_rfl
  have hA : DataW.TrodAll enc Try.prog W 0 (fun _ => true) true Try.f6.params.toList args.toList ds p := hA0
  rw [hp] at hA hval
  clear hA0 hval0
  obtain ⟨rfl, rfl⟩ := trodVars_none hV
  obtain ⟨v0, vs0, d0, ds0, p0, q0, hargs, rfl, rfl, h0, hA0⟩ := trodAll_cons hA
  obtain ⟨v1, vs1, d1, ds1, p1, q1, rfl, rfl, rfl, h1, hA1⟩ := trodAll_cons hA0
  obtain ⟨v2, vs2, d2, ds2, p2, q2, rfl, rfl, rfl, h2, hA2⟩ := trodAll_cons hA1
  obtain ⟨v3, vs3, d3, ds3, p3, q3, rfl, rfl, rfl, h3, hA3⟩ := trodAll_cons hA2
  obtain ⟨v4, vs4, d4, ds4, p4, q4, rfl, rfl, rfl, h4, hA4⟩ := trodAll_cons hA3
  obtain ⟨v5, vs5, d5, ds5, p5, q5, rfl, rfl, rfl, h5, hA5⟩ := trodAll_cons hA4
  obtain ⟨rfl, rfl, rfl⟩ := trodAll_nil hA5
  obtain ⟨al⟩ := args
  have hargs : al = [v0, v1, v2, v3, v4, v5] := hargs
  subst hargs
  obtain ⟨e0, D0, i0⟩ := arg_dat (pt := (.sl P_api_Partial)) (OpensT.sl kUnd_50 (by kernel_rfl) OT_54) h0 (Shaped.sl kUnd_50 (hval 0 50 v0 rfl rfl))
  obtain ⟨e1, D1, i1⟩ := arg_dat (pt := P_api_Message) OT_25 h1 (Shaped.st (by kernel_rfl) (hval 1 25 v1 rfl rfl))
  obtain ⟨e2, D2, i2⟩ := arg_dat (pt := (.sl (.int .i64))) (OpensT.sl kUnd_26 (by kernel_rfl) (OpensT.i64 kUnd_3)) h2 (Shaped.sl kUnd_26 (hval 2 26 v2 rfl rfl))
  obtain ⟨e3, D3, i3⟩ := arg_dat (pt := (.int .i64)) (OpensT.i64 kUnd_3) h3 (Shaped.int kUnd_3 (hval 3 3 v3 rfl rfl))
  obtain ⟨e4, D4, i4⟩ := arg_dat (pt := (.int .i64)) (OpensT.i64 kUnd_3) h4 (Shaped.int kUnd_3 (hval 4 3 v4 rfl rfl))
  obtain ⟨e5, D5, i5⟩ := arg_dat (pt := (.int .i64)) (OpensT.i64 kUnd_3) h5 (Shaped.int kUnd_3 (hval 5 3 v5 rfl rfl))
  clear hval
  have hc : OKc Try.prog 6 [.d (.sl P_api_Partial), .d P_api_Message, .d (.sl (.int .i64)), .d (.int .i64), .d (.int .i64), .d (.int .i64)] [.d .bool] (e0, e1, e2, e3, e4, e5, ()) (true, ()) := con_coreseclaw33_FragmentPuts.ok (e0, e1, e2, e3, e4, e5, ()) true (FragmentPuts_true e0 e1 e2 e3 e4 e5 i2.1)
  refine (hc 3 3 0 lab0 W [v0, v1, v2, v3, v4, v5] (lab0_top W) (fun h => by cases h) (by decide) ⟨D0, D1, D2, D3, D4, D5, trivial⟩).mono fun e W' ⟨lab', us, he, hs, hr⟩ => ?_
  match us, hr with
  | [u], ⟨hb, _⟩ =>
    obtain rfl : u = .bool true := Dat.bool hb
    subst he
    exact ⟨_, rfl, post_true laid_out (by kernel_rfl) (Stp.below hs) hW' rfl (by kernel_rfl) kUnd_4 rfl⟩
theorem fragmentPuts_holds : Rows.FragmentPutsSaid :=
  OpenClaim.holds_of_wide 6 Try.f6 rfl rfl rfl rfl rfl rfl rfl ⟨rfl, rfl, rfl, rfl, rfl⟩ rfl rfl rfl rfl rfl (by kernel_rfl) Try.func6 (by kernel_rfl)
    (of_decide_eq_true (by kernel_rfl)) (by unfold Func.isWrapper; first | (rw [if_pos (by decide +kernel)]; kernel_rfl) | (rw [if_neg (by decide +kernel)]; exact ⟨rfl, rfl⟩))
    (fun os started H enc _ => fragmentPuts_lifted os started H enc)
end Go.Proofs.Ytdgpkkfkloapbaa
