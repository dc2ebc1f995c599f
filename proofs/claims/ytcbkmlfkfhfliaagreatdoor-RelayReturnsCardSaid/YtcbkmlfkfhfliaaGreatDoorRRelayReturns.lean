/-
  The row of RelayReturns: its arguments opened, the walk and the plain law joined. No condition.
-/
import Derived.Test.YtcbkmlfkfhfliaaGreatDoorQR16
import Derived.Test.YtcbkmlfkfhfliaaGreatDoorCo4
import Derived.Test.YtcbkmlfkfhfliaaGreatDoorYOpn
import Derived.Test.YtcbkmlfkfhfliaaGreatDoorRows
import Derived.Test.YtcbkmlfkfhfliaaGreatDoorTie
import Derived.Test.YtcbkmlfkfhfliaaGreatDoorCards
import Derived.Lay
import Derived.LaidMore
import Derived.ProofKit
import Derived.OpenShut
import Derived.SevenTiedAt
import Derived.Stop.Joined
import Derived.Shelf.Vars
namespace Go.Proofs.YtcbkmlfkfhfliaaGreatDoor
open Go.Gk Go.RowKit Go.ChangeShapes Go.WideShapes Go.ChangeAt Go.WideElems
theorem kUnd_3 : Tryz.prog.underlying 3 = some (.int .i64) := by kernel_rfl
theorem kUnd_23 : Tryz.prog.underlying 23 = some (.slice 72) := by kernel_rfl
theorem kUnd_5 : Tryz.prog.underlying 5 = some (.int .u8) := by kernel_rfl
theorem kUnd_27 : Tryz.prog.underlying 27 = some (.slice 75) := by kernel_rfl
theorem kUnd_22 : Tryz.prog.underlying 22 = some (.slice 69) := by kernel_rfl
theorem kUnd_4 : Tryz.prog.underlying 4 = some .bool := by kernel_rfl
theorem kUnd_30 : Tryz.prog.underlying 30 = some (.slice 3) := by kernel_rfl
theorem OT_75 : Opens Tryz.prog 75 (rep P_api_Option) (inT P_api_Option) := OpensT.st (by kernel_rfl) (OpensF.cons (j := 0) 1 (by kernel_rfl) (by kernel_rfl) (OpensT.i64 kUnd_3) (OpensF.last (j := 1) (by kernel_rfl) (by kernel_rfl) (OpensT.sl kUnd_26 (by kernel_rfl) (OpensT.u8 kUnd_5))))
theorem OT_29 : Opens Tryz.prog 29 (rep P_api_Message) (inT P_api_Message) := OpensT.st (by kernel_rfl) (OpensF.cons (j := 0) 1 (by kernel_rfl) (by kernel_rfl) (OpensT.i64 kUnd_3) (OpensF.cons (j := 1) 2 (by kernel_rfl) (by kernel_rfl) (OpensT.i64 kUnd_3) (OpensF.cons (j := 2) 3 (by kernel_rfl) (by kernel_rfl) (OpensT.i64 kUnd_3) (OpensF.cons (j := 3) 4 (by kernel_rfl) (by kernel_rfl) (OpensT.sl kUnd_26 (by kernel_rfl) (OpensT.u8 kUnd_5)) (OpensF.cons (j := 4) 5 (by kernel_rfl) (by kernel_rfl) (OpensT.sl kUnd_27 (by kernel_rfl) OT_75) (OpensF.last (j := 5) (by kernel_rfl) (by kernel_rfl) (OpensT.sl kUnd_26 (by kernel_rfl) (OpensT.u8 kUnd_5))))))))
theorem OT_72 : Opens Tryz.prog 72 (rep P_api_Cached) (inT P_api_Cached) := OpensT.st (by kernel_rfl) (OpensF.cons (j := 0) 1 (by kernel_rfl) (by kernel_rfl) (OpensT.sl kUnd_26 (by kernel_rfl) (OpensT.u8 kUnd_5)) (OpensF.cons (j := 1) 7 (by kernel_rfl) (by kernel_rfl) OT_29 (OpensF.cons (j := 2) 8 (by kernel_rfl) (by kernel_rfl) (OpensT.i64 kUnd_3) (OpensF.last (j := 3) (by kernel_rfl) (by kernel_rfl) (OpensT.i64 kUnd_3)))))
theorem OT_69 : Opens Tryz.prog 69 (rep P_api_Hop) (inT P_api_Hop) := OpensT.st (by kernel_rfl) (OpensF.cons (j := 0) 1 (by kernel_rfl) (by kernel_rfl) (OpensT.i64 kUnd_3) (OpensF.cons (j := 1) 2 (by kernel_rfl) (by kernel_rfl) (OpensT.sl kUnd_26 (by kernel_rfl) (OpensT.u8 kUnd_5)) (OpensF.cons (j := 2) 3 (by kernel_rfl) (by kernel_rfl) (OpensT.sl kUnd_26 (by kernel_rfl) (OpensT.u8 kUnd_5)) (OpensF.cons (j := 3) 4 (by kernel_rfl) (by kernel_rfl) (OpensT.sl kUnd_26 (by kernel_rfl) (OpensT.u8 kUnd_5)) (OpensF.last (j := 4) (by kernel_rfl) (by kernel_rfl) (OpensT.bool kUnd_4))))))
theorem OT_25 : Opens Tryz.prog 25 (rep P_api_Proxy) (inT P_api_Proxy) := OpensT.st (by kernel_rfl) (OpensF.cons (j := 0) 1 (by kernel_rfl) (by kernel_rfl) (OpensT.i64 kUnd_3) (OpensF.cons (j := 1) 2 (by kernel_rfl) (by kernel_rfl) (OpensT.sl kUnd_22 (by kernel_rfl) OT_69) (OpensF.cons (j := 2) 3 (by kernel_rfl) (by kernel_rfl) (OpensT.sl kUnd_23 (by kernel_rfl) OT_72) (OpensF.last (j := 3) (by kernel_rfl) (by kernel_rfl) (OpensT.i64 kUnd_3)))))
theorem own_none : ownKnob Tryz.prog.godebug = none := by kernel_rfl
theorem gl_start {W : World} {l : List (String × DataW Unit)} (_ : laidMetH Tryz.prog l W) (_ : W.ShapedOpen Tryz.prog) : GL lab0 W := ⟨W, rfl, fun g hg => by cases hg⟩

theorem laid_out : laidOutB Tryz.prog = true := by kernel_rfl
set_option maxRecDepth 100000 in
set_option maxHeartbeats 1000000 in
theorem relayReturns_lifted (os : Os) (started : os.Started) (H : Type) (enc : TypeId × Value → H) :
    ReturnsInHanded {} Tryz.checked os 4 .any (fun w args => (Rows.relayReturnsSpec.pre enc Tryz.prog Tryz.f4 Rows.relayReturnsRow.domain false w args ∧ laidMetH Tryz.prog Rows.relayReturnsRow.laid w) ∧ sizedMet enc Tryz.prog Tryz.f4 (OpenSpec.ofChange Rows.relayReturnsSpec) false w args) (Rows.relayReturnsSpec.post enc Tryz.prog Tryz.f4 false true false false) := by
  refine returnsInHanded_of_change_both (C := Tryz.checked) (X := fun w _ => laidMetH Tryz.prog Rows.relayReturnsRow.laid w) (fun _ _ _ hh h => h.of_heap hh) own_none started (by kernel_rfl) Tryz.func4
    (ChangeSpec.witness_shaped (enc := enc) (C := Tryz.checked) (os := os) (X := fun w _ => laidMetH Tryz.prog Rows.relayReturnsRow.laid w) false (World.laidAll Tryz.prog os Rows.relayReturnsRow.laid) #[Value.agg #[.int .i64 0, .slice none 0 0, .slice none 0 0, .int .i64 0], Value.agg #[.int .i64 0, .int .i64 0, .int .i64 0, .slice none 0 0, .slice none 0 0, .slice none 0 0], .slice none 0 0, .int .i64 0] 8 (World.laidAll_os _ _ _)
      (World.shaped_of_ZipB (by kernel_rfl) (by kernel_rfl)) (by kernel_rfl) (by kernel_rfl) (by kernel_rfl)
      (by rw [MakeChecks.laidMetH_plain _ _ _ (by kernel_rfl)]; exact laidMet_laidAll _ (by kernel_rfl) (by kernel_rfl))) ?_
  intro W base args ds gs before hval0 hW hL hsh
  have gl : GL lab0 W := gl_start hL hsh
  have hval : ∀ (j : Nat) t v, Tryz.f4.params[j]? = some t → args[j]? = some v → Value.okWide Tryz.prog W .any base t v := hval0
  have hW' := hW
  obtain ⟨p, q, hA0, hV, rfl, hfz, hnd⟩ := hW
  have hp : Tryz.f4.params = #[25, 29, 30, 3] := by kernel_rfl
  have hA : DataW.TrodAll enc Tryz.prog W 0 (fun _ => true) true Tryz.f4.params.toList args.toList ds p := hA0
  rw [hp] at hA hval
  clear hA0 hval0
  obtain ⟨rfl, rfl⟩ := trodVars_none hV
  obtain ⟨v0, vs0, d0, ds0, p0, q0, hargs, rfl, rfl, h0, hA0⟩ := trodAll_cons hA
  obtain ⟨v1, vs1, d1, ds1, p1, q1, rfl, rfl, rfl, h1, hA1⟩ := trodAll_cons hA0
  obtain ⟨v2, vs2, d2, ds2, p2, q2, rfl, rfl, rfl, h2, hA2⟩ := trodAll_cons hA1
  obtain ⟨v3, vs3, d3, ds3, p3, q3, rfl, rfl, rfl, h3, hA3⟩ := trodAll_cons hA2
  obtain ⟨rfl, rfl, rfl⟩ := trodAll_nil hA3
  obtain ⟨al⟩ := args
  have hargs : al = [v0, v1, v2, v3] := hargs
  subst hargs
  obtain ⟨e0, D0, i0⟩ := arg_dat (pt := P_api_Proxy) OT_25 h0 (Shaped.st (by kernel_rfl) (hval 0 25 v0 rfl rfl))
  obtain ⟨e1, D1, i1⟩ := arg_dat (pt := P_api_Message) OT_29 h1 (Shaped.st (by kernel_rfl) (hval 1 29 v1 rfl rfl))
  obtain ⟨e2, D2, i2⟩ := arg_dat (pt := (.sl (.int .i64))) (OpensT.sl kUnd_30 (by kernel_rfl) (OpensT.i64 kUnd_3)) h2 (Shaped.sl kUnd_30 (hval 2 30 v2 rfl rfl))
  obtain ⟨e3, D3, i3⟩ := arg_dat (pt := (.int .i64)) (OpensT.i64 kUnd_3) h3 (Shaped.int kUnd_3 (hval 3 3 v3 rfl rfl))
  clear hval
  have hc : OKc Tryz.prog 4 [.d P_api_Proxy, .d P_api_Message, .d (.sl (.int .i64)), .d (.int .i64)] [.d .bool] (e0, e1, e2, e3, ()) (true, ()) := con_coreseclaw34_RelayReturns.ok (e0, e1, e2, e3, ()) true (RelayReturns_true e0 e1 e2 e3 i2.1)
  refine (hc 3 3 0 lab0 W [v0, v1, v2, v3] (lab0_top W) gl (fun h => by cases h) (by decide) ⟨D0, D1, D2, D3, trivial⟩).mono fun e W' ⟨lab', us, he, hs, hr⟩ => ?_
  match us, hr with
  | [u], ⟨hb, _⟩ =>
    obtain rfl : u = .bool true := Dat.bool hb
    subst he
    exact ⟨_, rfl, post_true laid_out (by kernel_rfl) (Stp.below hs) hW' rfl (by kernel_rfl) kUnd_4 rfl⟩
theorem relayReturns_bare : Rows.RelayReturnsSaid :=
  OpenClaim.holds_of_wide 4 Tryz.f4 rfl rfl rfl rfl rfl rfl rfl ⟨rfl, rfl, rfl, rfl, rfl⟩ rfl rfl rfl rfl rfl (by kernel_rfl) Tryz.func4 (by kernel_rfl)
    (of_decide_eq_true (by kernel_rfl)) (by unfold Func.isWrapper; first | (rw [if_pos (by decide +kernel)]; kernel_rfl) | (rw [if_neg (by decide +kernel)]; exact ⟨rfl, rfl⟩))
    (fun os started H enc _ => relayReturns_lifted os started H enc)
theorem relayReturns_holds : Rows.RelayReturnsCardSaid :=
  Claim7.holds_tied_plain_at .later [] [.data, .pinned] true (true, "b2f156770911af480f14d069ff0cb866ae8e9c66ff39321a7831408cec37dd3f") false relayReturns_bare (fun _ h => by cases h) (by kernel_rfl) (fun _ h => by cases h) relayReturns_row_tie rfl ⟨rfl, rfl⟩ (by kernel_rfl) rfl
    (fun f fn hf hfn => by
      obtain rfl : f = 4 := Option.some.inj ((show Tryz.prog.funcNamed "coresec/coreseclaw34.RelayReturns" = some 4 by kernel_rfl).symm.trans hf) |>.symm
      obtain rfl : fn = Tryz.f4 := (Option.some.inj (Tryz.func4.symm.trans hfn)).symm
      exact ⟨by kernel_rfl, fun j t ht => by
        rw [show Tryz.f4.params = #[25, 29, 30, 3] by kernel_rfl] at ht
        have hm : t ∈ [25, 29, 30, 3] := by simpa using Array.mem_of_getElem? ht
        have hall : ([25, 29, 30, 3].all fun u => !Tryz.prog.wantsStandIn u) = true := by kernel_rfl
        exact (show Tryz.prog.wantsStandIn t = false by simpa using List.all_eq_true.1 hall t hm)⟩)
    (by kernel_rfl)
end Go.Proofs.YtcbkmlfkfhfliaaGreatDoor
