/-
  The row of OptionChecks: its arguments opened, the walk and the plain law joined. No condition.
-/
import Derived.Test.YtllomdfckciedaaDoorQ63
import Derived.Test.YtllomdfckciedaaDoorCo
import Derived.Test.YtllomdfckciedaaDoorYOpn
import Derived.Test.YtllomdfckciedaaDoorRows
import Derived.Test.YtllomdfckciedaaDoorTie
import Derived.Test.YtllomdfckciedaaDoorCards
import Derived.Lay
import Derived.LaidMore
import Derived.ProofKit
import Derived.OpenShut
import Derived.SevenTiedAt
import Derived.Stop.Joined
import Derived.Shelf.Vars
import Derived.Lib.LaidU8T
namespace Go.Proofs.YtllomdfckciedaaDoor
open Go.Gk Go.RowKit Go.ChangeShapes Go.WideShapes Go.ChangeAt Go.WideElems
theorem kUnd_22 : Tryd.prog.underlying 22 = some (.slice 3) := by kernel_rfl
theorem kUnd_3 : Tryd.prog.underlying 3 = some (.int .i64) := by kernel_rfl
theorem kUnd_4 : Tryd.prog.underlying 4 = some .bool := by kernel_rfl
theorem own_none : ownKnob Tryd.prog.godebug = none := by kernel_rfl
def u8ren : Go.Shelf.Ren := ⟨fun n => n, fun | 119 => 117 | 138 => 119 | 139 => 120 | n => n, fun | 3 => 0 | 4 => 1 | n => n⟩
theorem gl_start {W : World} (h : laidMetH Tryd.prog [("unicode/utf8.acceptRanges", Rows.laid_unicode_utf8_acceptRanges), ("unicode/utf8.first", Rows.laid_unicode_utf8_first)] W) (hsh : W.ShapedOpen Tryd.prog) : GL lab0 W := by
  obtain ⟨m, hm⟩ := Go.Proofs.cell_of_shapedOpen_int (zero := #[.int .i64 0]) (t := 3) (g := 2) hsh (of_decide_eq_true (by kernel_rfl)) (by kernel_rfl) rfl (by kernel_rfl) (by kernel_rfl) Tryd.underlying3
  rw [MakeChecks.laidMetH_plain _ _ _ (by kernel_rfl)] at h
  have d1 : Rows.laid_unicode_utf8_first = Lib.firstData := by kernel_rfl
  have d2 : (Rows.laid_unicode_utf8_acceptRanges : DataW Unit) = Lib.acceptData := by kernel_rfl
  rw [d1, d2] at h
  have hU : Lib.Utf8Tabs 0 1 W := utf8Tabs_of_readsT (ρ := u8ren) ⟨by kernel_rfl, by kernel_rfl, by kernel_rfl, by kernel_rfl⟩ ⟨by kernel_rfl, by kernel_rfl, by kernel_rfl, by kernel_rfl, by kernel_rfl, by kernel_rfl, by kernel_rfl⟩ (Lib.laidMet.reads h (by simp)) (Lib.laidMet.reads h (by simp))
  refine ⟨W, ⟨⟨m, hm⟩, hU⟩, fun g hg => ?_⟩
  have hg : g = 0 ∨ g = 1 ∨ g = 2 := by simpa [gls] using hg
  rcases hg with rfl | rfl | rfl
  · exact ⟨World.block_lt_of_cell? _ _ (hU.1 0 (by omega)), rfl, rfl⟩
  · exact ⟨World.block_lt_of_cell? _ _ (hU.2 0 (by omega)).1, rfl, rfl⟩
  · exact ⟨World.block_lt_of_cell? _ _ hm, rfl, rfl⟩

theorem laid_out : laidOutB Tryd.prog = true := by kernel_rfl
set_option maxRecDepth 100000 in
set_option maxHeartbeats 1000000 in
theorem optionChecks_lifted (os : Os) (started : os.Started) (H : Type) (enc : TypeId × Value → H) :
    ReturnsInHanded {} Tryd.checked os 8 .any (fun w args => (Rows.optionChecksSpec.pre enc Tryd.prog Tryd.f8 Rows.optionChecksRow.domain false w args ∧ laidMetH Tryd.prog Rows.optionChecksRow.laid w) ∧ sizedMet enc Tryd.prog Tryd.f8 (OpenSpec.ofChange Rows.optionChecksSpec) false w args) (Rows.optionChecksSpec.post enc Tryd.prog Tryd.f8 false true false false) := by
  refine returnsInHanded_of_change_both (C := Tryd.checked) (X := fun w _ => laidMetH Tryd.prog Rows.optionChecksRow.laid w) (fun _ _ _ hh h => h.of_heap hh) own_none started (by kernel_rfl) Tryd.func8
    (ChangeSpec.witness_shaped (enc := enc) (C := Tryd.checked) (os := os) (X := fun w _ => laidMetH Tryd.prog Rows.optionChecksRow.laid w) false (World.laidAll Tryd.prog os Rows.optionChecksRow.laid) #[.slice none 0 0] 8 (World.laidAll_os _ _ _)
      (World.shaped_of_ZipB (by kernel_rfl) (by kernel_rfl)) (by kernel_rfl) (by kernel_rfl) (by kernel_rfl)
      (by rw [MakeChecks.laidMetH_plain _ _ _ (by kernel_rfl)]; exact laidMet_laidAll _ (by kernel_rfl) (by kernel_rfl))) ?_
  intro W base args ds gs before hval0 hW hL hsh
  have gl : GL lab0 W := gl_start hL hsh
  have hval : ∀ (j : Nat) t v, Tryd.f8.params[j]? = some t → args[j]? = some v → Value.okWide Tryd.prog W .any base t v := hval0
  have hW' := hW
  obtain ⟨p, q, hA0, hV, rfl, hfz, hnd⟩ := hW
  have hp : Tryd.f8.params = #[22] := by kernel_rfl
  have hA : DataW.TrodAll enc Tryd.prog W 0 (fun _ => true) true Tryd.f8.params.toList args.toList ds p := hA0
  rw [hp] at hA hval
  clear hA0 hval0
  obtain ⟨rfl, rfl⟩ := trodVars_none hV
  obtain ⟨v0, vs0, d0, ds0, p0, q0, hargs, rfl, rfl, h0, hA0⟩ := trodAll_cons hA
  obtain ⟨rfl, rfl, rfl⟩ := trodAll_nil hA0
  obtain ⟨al⟩ := args
  have hargs : al = [v0] := hargs
  subst hargs
  obtain ⟨e0, D0, i0⟩ := arg_dat (pt := (.sl (.int .i64))) (OpensT.sl kUnd_22 (by kernel_rfl) (OpensT.i64 kUnd_3)) h0 (Shaped.sl kUnd_22 (hval 0 22 v0 rfl rfl))
  clear hval
  have hc : OKc Tryd.prog 8 [.d (.sl (.int .i64))] [.d .bool] (e0, ()) (true, ()) := con_coreseclaw16_OptionChecks.ok (e0, ()) true (OptionChecks_true e0 i0.1)
  refine (hc 3 3 0 lab0 W [v0] (lab0_top W) gl (fun h => by cases h) (by decide) ⟨D0, trivial⟩).mono fun e W' ⟨lab', us, he, hs, hr⟩ => ?_
  match us, hr with
  | [u], ⟨hb, _⟩ =>
    obtain rfl : u = .bool true := Dat.bool hb
    subst he
    exact ⟨_, rfl, post_true laid_out (by kernel_rfl) (Stp.below hs) hW' rfl (by kernel_rfl) kUnd_4 rfl⟩
theorem optionChecks_bare : Rows.OptionChecksSaid :=
  OpenClaim.holds_of_wide 8 Tryd.f8 rfl rfl rfl rfl rfl rfl rfl ⟨rfl, rfl, rfl, rfl, rfl⟩ rfl rfl rfl rfl rfl (by kernel_rfl) Tryd.func8 (by kernel_rfl)
    (of_decide_eq_true (by kernel_rfl)) (by unfold Func.isWrapper; first | (rw [if_pos (by decide +kernel)]; kernel_rfl) | (rw [if_neg (by decide +kernel)]; exact ⟨rfl, rfl⟩))
    (fun os started H enc _ => optionChecks_lifted os started H enc)
theorem optionChecks_holds : Rows.OptionChecksCardSaid :=
  Claim7.holds_tied_plain_at .later [] [.data, .pinned] true (true, "3a8e78bb35204b2cd5db6b44e823919026d2f2ab7f7ea97393bdef5d217ab3ab") false optionChecks_bare (fun _ h => by cases h) (by kernel_rfl) (fun _ h => by cases h) optionChecks_row_tie rfl ⟨rfl, rfl⟩ (by kernel_rfl) rfl
    (fun f fn hf hfn => by
      obtain rfl : f = 8 := Option.some.inj ((show Tryd.prog.funcNamed "coresec/coreseclaw16.OptionChecks" = some 8 by kernel_rfl).symm.trans hf) |>.symm
      obtain rfl : fn = Tryd.f8 := (Option.some.inj (Tryd.func8.symm.trans hfn)).symm
      exact ⟨by kernel_rfl, fun j t ht => by
        rw [show Tryd.f8.params = #[22] by kernel_rfl] at ht
        have hm : t ∈ [22] := by simpa using Array.mem_of_getElem? ht
        have hall : ([22].all fun u => !Tryd.prog.wantsStandIn u) = true := by kernel_rfl
        exact (show Tryd.prog.wantsStandIn t = false by simpa using List.all_eq_true.1 hall t hm)⟩)
    (by kernel_rfl)
end Go.Proofs.YtllomdfckciedaaDoor
