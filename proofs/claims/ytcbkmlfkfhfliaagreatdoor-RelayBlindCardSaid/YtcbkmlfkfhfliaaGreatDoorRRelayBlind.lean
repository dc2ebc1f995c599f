/-
  The row of RelayBlind: its arguments opened, the walk and the plain law joined. No condition.
-/
import Derived.Test.YtcbkmlfkfhfliaaGreatDoorQR17
import Derived.Test.YtcbkmlfkfhfliaaGreatDoorCo5
import Derived.Test.YtcbkmlfkfhfliaaGreatDoorYOpn
import Derived.Test.YtcbkmlfkfhfliaaGreatDoorRows
import Derived.Test.YtcbkmlfkfhfliaaGreatDoorTie
import Derived.Test.YtcbkmlfkfhfliaaGreatDoorCards
import Derived.Lay
import Derived.LaidMore
import Derived.ProofKit
import Derived.OpenShut
import Derived.SevenTiedAt
import Derived.Stop.Joined
import Derived.Shelf.Vars
namespace Go.Proofs.YtcbkmlfkfhfliaaGreatDoor
open Go.Gk Go.RowKit Go.ChangeShapes Go.WideShapes Go.ChangeAt Go.WideElems
theorem kUnd_30 : Tryz.prog.underlying 30 = some (.slice 3) := by kernel_rfl
theorem kUnd_3 : Tryz.prog.underlying 3 = some (.int .i64) := by kernel_rfl
theorem kUnd_4 : Tryz.prog.underlying 4 = some .bool := by kernel_rfl
theorem own_none : ownKnob Tryz.prog.godebug = none := by kernel_rfl
theorem gl_start {W : World} {l : List (String × DataW Unit)} (_ : laidMetH Tryz.prog l W) (_ : W.ShapedOpen Tryz.prog) : GL lab0 W := ⟨W, rfl, fun g hg => by cases hg⟩

theorem laid_out : laidOutB Tryz.prog = true := by kernel_rfl
set_option maxRecDepth 100000 in
set_option maxHeartbeats 1000000 in
theorem relayBlind_lifted (os : Os) (started : os.Started) (H : Type) (enc : TypeId × Value → H) :
    ReturnsInHanded {} Tryz.checked os 5 .any (fun w args => (Rows.relayBlindSpec.pre enc Tryz.prog Tryz.f5 Rows.relayBlindRow.domain false w args ∧ laidMetH Tryz.prog Rows.relayBlindRow.laid w) ∧ sizedMet enc Tryz.prog Tryz.f5 (OpenSpec.ofChange Rows.relayBlindSpec) false w args) (Rows.relayBlindSpec.post enc Tryz.prog Tryz.f5 false true false false) := by
  refine returnsInHanded_of_change_both (C := Tryz.checked) (X := fun w _ => laidMetH Tryz.prog Rows.relayBlindRow.laid w) (fun _ _ _ hh h => h.of_heap hh) own_none started (by kernel_rfl) Tryz.func5
    (ChangeSpec.witness_shaped (enc := enc) (C := Tryz.checked) (os := os) (X := fun w _ => laidMetH Tryz.prog Rows.relayBlindRow.laid w) false (World.laidAll Tryz.prog os Rows.relayBlindRow.laid) #[.slice none 0 0, .int .i64 0] 8 (World.laidAll_os _ _ _)
      (World.shaped_of_ZipB (by kernel_rfl) (by kernel_rfl)) (by kernel_rfl) (by kernel_rfl) (by kernel_rfl)
      (by rw [MakeChecks.laidMetH_plain _ _ _ (by kernel_rfl)]; exact laidMet_laidAll _ (by kernel_rfl) (by kernel_rfl))) ?_
  intro W base args ds gs before hval0 hW hL hsh
  have gl : GL lab0 W := gl_start hL hsh
  have hval : ∀ (j : Nat) t v, Tryz.f5.params[j]? = some t → args[j]? = some v → Value.okWide Tryz.prog W .any base t v := hval0
  have hW' := hW
  obtain ⟨p, q, hA0, hV, rfl, hfz, hnd⟩ := hW
  have hp : Tryz.f5.params = #[30, 3] := by kernel_rfl
  have hA : DataW.TrodAll enc Tryz.prog W 0 (fun _ => true) true Tryz.f5.params.toList args.toList ds p := hA0
  rw [hp] at hA hval
  clear hA0 hval0
  obtain ⟨rfl, rfl⟩ := trodVars_none hV
  obtain ⟨v0, vs0, d0, ds0, p0, q0, hargs, rfl, rfl, h0, hA0⟩ := trodAll_cons hA
  obtain ⟨v1, vs1, d1, ds1, p1, q1, rfl, rfl, rfl, h1, hA1⟩ := trodAll_cons hA0
  obtain ⟨rfl, rfl, rfl⟩ := trodAll_nil hA1
  obtain ⟨al⟩ := args
  have hargs : al = [v0, v1] := hargs
  subst hargs
  obtain ⟨e0, D0, i0⟩ := arg_dat (pt := (.sl (.int .i64))) (OpensT.sl kUnd_30 (by kernel_rfl) (OpensT.i64 kUnd_3)) h0 (Shaped.sl kUnd_30 (hval 0 30 v0 rfl rfl))
  obtain ⟨e1, D1, i1⟩ := arg_dat (pt := (.int .i64)) (OpensT.i64 kUnd_3) h1 (Shaped.int kUnd_3 (hval 1 3 v1 rfl rfl))
  clear hval
  have hc : OKc Tryz.prog 5 [.d (.sl (.int .i64)), .d (.int .i64)] [.d .bool] (e0, e1, ()) (true, ()) := con_coreseclaw34_RelayBlind.ok (e0, e1, ()) true (RelayBlind_true e0 e1 i0.1)
  refine (hc 3 3 0 lab0 W [v0, v1] (lab0_top W) gl (fun h => by cases h) (by decide) ⟨D0, D1, trivial⟩).mono fun e W' ⟨lab', us, he, hs, hr⟩ => ?_
  match us, hr with
  | [u], ⟨hb, _⟩ =>
    obtain rfl : u = .bool true := Dat.bool hb
    subst he
    exact ⟨_, rfl, post_true laid_out (by kernel_rfl) (Stp.below hs) hW' rfl (by kernel_rfl) kUnd_4 rfl⟩
theorem relayBlind_bare : Rows.RelayBlindSaid :=
  OpenClaim.holds_of_wide 5 Tryz.f5 rfl rfl rfl rfl rfl rfl rfl ⟨rfl, rfl, rfl, rfl, rfl⟩ rfl rfl rfl rfl rfl (by kernel_rfl) Tryz.func5 (by kernel_rfl)
    (of_decide_eq_true (by kernel_rfl)) (by unfold Func.isWrapper; first | (rw [if_pos (by decide +kernel)]; kernel_rfl) | (rw [if_neg (by decide +kernel)]; exact ⟨rfl, rfl⟩))
    (fun os started H enc _ => relayBlind_lifted os started H enc)
theorem relayBlind_holds : Rows.RelayBlindCardSaid :=
  Claim7.holds_tied_plain_at .later [] [.data, .pinned] true (true, "b2f156770911af480f14d069ff0cb866ae8e9c66ff39321a7831408cec37dd3f") false relayBlind_bare (fun _ h => by cases h) (by kernel_rfl) (fun _ h => by cases h) relayBlind_row_tie rfl ⟨rfl, rfl⟩ (by kernel_rfl) rfl
    (fun f fn hf hfn => by
      obtain rfl : f = 5 := Option.some.inj ((show Tryz.prog.funcNamed "coresec/coreseclaw34.RelayBlind" = some 5 by kernel_rfl).symm.trans hf) |>.symm
      obtain rfl : fn = Tryz.f5 := (Option.some.inj (Tryz.func5.symm.trans hfn)).symm
      exact ⟨by kernel_rfl, fun j t ht => by
        rw [show Tryz.f5.params = #[30, 3] by kernel_rfl] at ht
        have hm : t ∈ [30, 3] := by simpa using Array.mem_of_getElem? ht
        have hall : ([30, 3].all fun u => !Tryz.prog.wantsStandIn u) = true := by kernel_rfl
        exact (show Tryz.prog.wantsStandIn t = false by simpa using List.all_eq_true.1 hall t hm)⟩)
    (by kernel_rfl)
end Go.Proofs.YtcbkmlfkfhfliaaGreatDoor
