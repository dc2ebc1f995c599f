/-
  The row of CacheFresh: its arguments opened, the walk and the plain law joined. No condition.
-/
import Derived.Test.YtdiidghfmpobaaaQ25
import Derived.Test.YtdiidghfmpobaaaCo
import Derived.Test.YtdiidghfmpobaaaYOpn
import Derived.Test.YtdiidghfmpobaaaRows
namespace Go.Proofs.Ytdiidghfmpobaaa
open Go.Gk Go.RowKit Go.ChangeShapes Go.WideShapes Go.ChangeAt Go.WideElems
theorem kUnd_27 : Try.prog.underlying 27 = some (.slice 3) := by kernel_rfl
theorem kUnd_3 : Try.prog.underlying 3 = some (.int .i64) := by kernel_rfl
theorem kUnd_4 : Try.prog.underlying 4 = some .bool := by kernel_rfl
theorem own_none : ownKnob Try.prog.godebug = none := by kernel_rfl
theorem laid_out : laidOutB Try.prog = true := by kernel_rfl
set_option maxRecDepth 100000 in
set_option maxHeartbeats 1000000 in
theorem cacheFresh_lifted (os : Os) (started : os.Started) (H : Type) (enc : TypeId × Value → H) :
    ReturnsInHanded {} Try.checked os 7 .any (Rows.cacheFreshSpec.pre6 enc Try.prog Try.f7 Rows.cacheFreshRow.domain false) (Rows.cacheFreshSpec.post enc Try.prog Try.f7 false true false false) := by
  refine returnsInHanded_of_change (C := Try.checked) own_none started (by kernel_rfl) Try.func7
    (ChangeSpec.witness6 (enc := enc) (C := Try.checked) false ⟨#[], #[.slice none 0 0], []⟩ 8 (by kernel_rfl) (by kernel_rfl) (by kernel_rfl) (by kernel_rfl)) ?_
  intro W base args ds gs before hval0 hW hcnd _
  have hval : ∀ (j : Nat) t v, Try.f7.params[j]? = some t → args[j]? = some v → Value.okWide Try.prog W .any base t v := hval0
  have hW' := hW
  obtain ⟨p, q, hA0, hV, rfl, hfz, hnd⟩ := hW
  have hp : Try.f7.params = #[27] := by kernel_rfl
  have hA : DataW.TrodAll enc Try.prog W 0 (fun _ => true) true Try.f7.params.toList args.toList ds p := hA0
  rw [hp] at hA hval
  clear hA0 hval0
  obtain ⟨rfl, rfl⟩ := trodVars_none hV
  obtain ⟨v0, vs0, d0, ds0, p0, q0, hargs, rfl, rfl, h0, hA0⟩ := trodAll_cons hA
  obtain ⟨rfl, rfl, rfl⟩ := trodAll_nil hA0
  obtain ⟨al⟩ := args
  have hargs : al = [v0] := hargs
  subst hargs
  obtain ⟨e0, D0, i0⟩ := arg_dat (pt := (.sl (.int .i64))) (OpensT.sl kUnd_27 (by kernel_rfl) (OpensT.i64 kUnd_3)) h0 (Shaped.sl kUnd_27 (hval 0 27 v0 rfl rfl))
  clear hval
  have hc : OKc Try.prog 7 [.d (.sl (.int .i64))] [.d .bool] (e0, ()) (true, ()) := con_coreseclaw20_CacheFresh.ok (e0, ()) true (CacheFresh_true e0 i0.1)
  refine (hc 3 3 0 lab0 W [v0] (lab0_top W) ⟨W, rfl, fun g hg => by cases hg⟩ (fun h => by cases h) (by decide) ⟨D0, trivial⟩).mono fun e W' ⟨lab', us, he, hs, hr⟩ => ?_
  match us, hr with
  | [u], ⟨hb, _⟩ =>
    obtain rfl : u = .bool true := Dat.bool hb
    subst he
    exact ⟨_, rfl, post_true laid_out (by kernel_rfl) (Stp.below hs) hW' rfl (by kernel_rfl) kUnd_4 rfl⟩
theorem cacheFresh_holds : Rows.CacheFreshSaid :=
  OpenClaim.holds_of_wide 7 Try.f7 rfl rfl rfl rfl rfl rfl rfl ⟨rfl, rfl, rfl, rfl, rfl⟩ rfl rfl rfl rfl rfl (by kernel_rfl) Try.func7 (by kernel_rfl)
    (of_decide_eq_true (by kernel_rfl)) (by unfold Func.isWrapper; first | (rw [if_pos (by decide +kernel)]; kernel_rfl) | (rw [if_neg (by decide +kernel)]; exact ⟨rfl, rfl⟩))
    (fun os started H enc _ => cacheFresh_lifted os started H enc)
end Go.Proofs.Ytdiidghfmpobaaa
