/- TopChain: the law holds for every list of numbers and every two numbers: its tied card. No condition. -/
import Derived.Test.YtimjjookppejeaaGreatDoorW2
import Derived.Test.YtimjjookppejeaaGreatDoorC18
import Derived.Test.YtimjjookppejeaaGreatDoorZy
import Derived.Test.YtimjjookppejeaaGreatDoorZo
import Derived.Test.YtimjjookppejeaaGreatDoorRows
import Derived.Test.YtimjjookppejeaaGreatDoorTie
import Derived.Test.YtimjjookppejeaaGreatDoorCards
import Derived.Lay
import Derived.LaidMore
import Derived.ProofKit
import Derived.OpenShut
import Derived.SevenTiedAt
import Derived.Stop.Joined
import Derived.Shelf.Vars
import Derived.Lib.LaidU8T
import Derived.Lib.LaidTab
import Derived.LaidLaws
namespace Go.Proofs.YtimjjookppejeaaGreatDoor
open Go.Gk Go.RowKit Go.ChangeShapes Go.WideShapes Go.ChangeAt Go.WideElems
theorem D_:Tryz.prog.underlying 22=some (.slice 3):=by kernel_rfl
theorem wQ:Tryz.prog.underlying 3=some (.int .i64):=by kernel_rfl
theorem Or:Tryz.prog.underlying 4=some .bool:=by kernel_rfl
theorem GX:ownKnob Tryz.prog.godebug=none:=by kernel_rfl
def QY:Go.Shelf.Ren:=⟨fun n=>n,fun |119=>260 |138=>262 |139=>263 |n=>n,fun |3=>1 |4=>2 |n=>n⟩
theorem A4{P:Program}{w:World}{base fuel:Nat}{sp:Nat→Bool}{held:Bool}{t e:TypeId}{cs:List Value}{ds:List (List UInt8)}{p:List MemPlace}(ht:P.underlying t=some (.array ds.length e))(he:P.underlying e=some .string)(hce:P.cellsOf e=1)
  (h:DataW.trod (fun _=>()) P w base sp held fuel t cs=some (.agg (ds.map fun d=>.lit (.string d)),p)) : ∀(i:Nat) (d:List UInt8),ds[i]?=some d→cs[i]?=some (dG d):=by
 intro i d hi
 obtain⟨xs,m,_,hx,hl,hxl,hall⟩:=DataW.trod_array ht h
 have hlt:i<ds.length:=(List.getElem?_eq_some_iff.1 hi).1
 have h1:=hall i hlt
 rw[hce,Nat.mul_one,List.getElem?_eq_getElem (by omega)]at h1
 obtain⟨s,hc,hxs,_⟩:=DataW.trod_string he h1
 have h2:cs[i]?=some (.string s):=by
  have:=congrArg (fun l:List Value=>l[0]?) hc
  simpa [List.getElem?_take,List.getElem?_drop]using this
 have h3:(xs.map (·.1))=ds.map fun d=>DataW.lit (.string d):=by
  have:=congrArg Prod.fst hx
  simpa using this.symm
 have h4:=congrArg (fun l=>l[i]?) h3
 simp only[List.getElem?_map,hi,Option.map_some]at h4
 rw[List.getElem?_eq_getElem (by omega),Option.map_some,hxs]at h4
 have h5:s.data.toList=d:=by
  have:=Option.some.inj h4
  simpa using this
 rw[h2,←h5]
 show some (Value.string s)=some (dG s.data.toList)
 rfl
theorem HT {W : World} (h : laidMetH Tryz.prog [("math/bits.deBruijn32tab", Rows.laid_math_bits_deBruijn32tab), ("math/bits.deBruijn64tab", Rows.laid_math_bits_deBruijn64tab), ("internal/strconv.uint64pow10", Rows.laid_internal_strconv_uint64pow10), ("unicode/utf8.acceptRanges", Rows.laid_unicode_utf8_acceptRanges), ("strconv.ErrRange", Rows.laid_strconv_ErrRange), ("strconv.ErrSyntax", Rows.laid_strconv_ErrSyntax), ("coresec/diag.names", Rows.laid_coresec_diag_names), ("unicode/utf8.first", Rows.laid_unicode_utf8_first)] W) (hsh : W.ShapedOpen Tryz.prog) : GL aU W := by
 obtain⟨m,hm⟩:=Go.Proofs.cell_of_shapedOpen_int (zero:=#[.int .i64 0]) (t:=3) (g:=4) hsh (of_decide_eq_true (by kernel_rfl)) (by kernel_rfl) rfl (by kernel_rfl) (by kernel_rfl) Tryz.underlying3
 rw[MakeChecks.laidMetH_plain _ _ _ (by kernel_rfl)]at h
 have r1 : Lib.VarReads Tryz.prog W "unicode/utf8.first" Rows.laid_unicode_utf8_first := Lib.laidMet.reads h (by simp)
 have r2 : Lib.VarReads Tryz.prog W "unicode/utf8.acceptRanges" Rows.laid_unicode_utf8_acceptRanges := Lib.laidMet.reads h (by simp)
 have r3 : Lib.VarReads Tryz.prog W "internal/strconv.uint64pow10" Rows.laid_internal_strconv_uint64pow10 := Lib.laidMet.reads h (by simp)
 have r4 : Lib.VarReads Tryz.prog W "coresec/diag.names" Rows.laid_coresec_diag_names := Lib.laidMet.reads h (by simp)
 have r5 : Lib.VarReads Tryz.prog W "strconv.ErrSyntax" Rows.laid_strconv_ErrSyntax := Lib.laidMet.reads h (by simp)
 have r6 : Lib.VarReads Tryz.prog W "strconv.ErrRange" Rows.laid_strconv_ErrRange := Lib.laidMet.reads h (by simp)
 have d1:Rows.laid_unicode_utf8_first=Lib.firstData:=by kernel_rfl
 have d2:(Rows.laid_unicode_utf8_acceptRanges:DataW Unit)=Lib.acceptData:=by kernel_rfl
 have d3:(Rows.laid_internal_strconv_uint64pow10:DataW Unit)=Lib.tabData .u64 Lib.pow10Tab:=by kernel_rfl
 rw[d1]at r1
 rw[d2]at r2
 rw[d3]at r3
 have hU:Lib.Utf8Tabs 1 2 W:=utf8Tabs_of_readsT (ρ:=QY) ⟨by kernel_rfl,by kernel_rfl,by kernel_rfl,by kernel_rfl⟩ ⟨by kernel_rfl,by kernel_rfl,by kernel_rfl,by kernel_rfl,by kernel_rfl,by kernel_rfl,by kernel_rfl⟩ r1 r2
 have hP : ∃t p,W.heap[5]?=some (.cells (Lib.pow10Tab.map fun z=>Value.int .u64 z).toArray t p):=by
  obtain⟨g,t,cs,fuel,p,hg,hty,hvar,hd⟩:=r3
  obtain rfl := Option.some.inj ((show Tryz.prog.globalNamed "internal/strconv.uint64pow10" = some 5 by kernel_rfl).symm.trans hg)
  obtain rfl:=Option.some.inj ((show(Tryz.prog.globals[5]?).map (·.type)=some 364 by kernel_rfl).symm.trans hty)
  have hcs:=Lib.cells_of_tab (n:=20) (e:=42) (k:=.u64) (by kernel_rfl) (by kernel_rfl) (by kernel_rfl) (by kernel_rfl) hd
  unfold World.var? at hvar
  rw [show Tryz.prog.globalNamed "internal/strconv.uint64pow10" = some 5 by kernel_rfl, Option.bind_some] at hvar
  split at hvar
  ·rename_i cs' t' p' he
   cases hvar
   exact⟨t',p',by rw[he,←hcs]⟩
  ·cases hvar
 have hN:W.cell? ⟨0,0,none⟩=some (dG [102,97,108,115,101])∧W.cell? ⟨0,1,none⟩=some (dG [116,114,117,101])∧W.cell? ⟨0,2,none⟩=some (dG [110,117,108,108])∧W.cell? ⟨0,3,none⟩=some (dG [117,110,100,101,102,105,110,101,100]):=by
  obtain⟨g,t,cs,fuel,p,hg,hty,hvar,hd⟩:=r4
  obtain rfl := Option.some.inj ((show Tryz.prog.globalNamed "coresec/diag.names" = some 0 by kernel_rfl).symm.trans hg)
  obtain rfl:=Option.some.inj ((show(Tryz.prog.globals[0]?).map (·.type)=some 234 by kernel_rfl).symm.trans hty)
  have hc:=A4 (e:=9) (ds:=[[102,97,108,115,101],[116,114,117,101],[110,117,108,108],[117,110,100,101,102,105,110,101,100]]) (by kernel_rfl) (by kernel_rfl) (by kernel_rfl) hd
  have hv : ∀i,W.cell? ⟨0,i,none⟩=cs.toList[i]?:=fun i=>by rw[World.var?_cell hg hvar i,Array.getElem?_toList]
  exact⟨(hv 0).trans (hc 0 _ rfl),(hv 1).trans (hc 1 _ rfl),(hv 2).trans (hc 2 _ rfl),(hv 3).trans (hc 3 _ rfl)⟩
 have hE : ∀ (n : String) (d : DataW Unit) (g : Nat), Tryz.prog.globalNamed n = some g → (Tryz.prog.globals[g]?).map (·.type) = some 242 → Lib.VarReads Tryz.prog W n (.iface "*errors.errorString" d) → ∃ tp p, W.cell? ⟨g, 0, none⟩ = some (.iface tp p) := by
  intro n d g hg hty ⟨g',t,cs,fuel,p,hg',hty',hvar,hd⟩
  obtain rfl:=Option.some.inj (hg.symm.trans hg')
  obtain rfl:=Option.some.inj (hty.symm.trans hty')
  obtain⟨_,u,v,hcs,_⟩:=iface_of_trod Tryz.underlying242 hd
  refine⟨u,v,?_⟩
  rw[World.var?_cell hg hvar 0,←Array.getElem?_toList,hcs]
  rfl
 have h5:=hE _ _ 6 (by kernel_rfl) (by kernel_rfl) r5
 have h6:=hE _ _ 7 (by kernel_rfl) (by kernel_rfl) r6
 refine⟨W,⟨⟨m,hm⟩,hU,hN,hP,h5,h6⟩,fun g hg=>?_⟩
 have hg:g=0∨g=1∨g=2∨g=4∨g=5∨g=6∨g=7:=by simpa [TJ]using hg
 rcases hg with rfl |rfl |rfl |rfl |rfl |rfl |rfl
 ·exact⟨World.block_lt_of_cell? _ _ hN.1,rfl,rfl⟩
 ·exact⟨World.block_lt_of_cell? _ _ (hU.1 0 (by omega)),rfl,rfl⟩
 ·exact⟨World.block_lt_of_cell? _ _ (hU.2 0 (by omega)).1,rfl,rfl⟩
 ·exact⟨World.block_lt_of_cell? _ _ hm,rfl,rfl⟩
 ·obtain⟨t,p,he⟩:=hP
  exact⟨(Array.getElem?_eq_some_iff.1 he).1,rfl,rfl⟩
 ·obtain⟨_,_,he⟩:=h5
  exact⟨World.block_lt_of_cell? _ _ he,rfl,rfl⟩
 ·obtain⟨_,_,he⟩:=h6
  exact⟨World.block_lt_of_cell? _ _ he,rfl,rfl⟩
theorem IA:laidOutB Tryz.prog=true:=by kernel_rfl
set_option maxRecDepth 100000 in
set_option maxHeartbeats 1000000 in
theorem uy(os:Os)(started:os.Started)(H:Type)(enc:TypeId×Value→H):
  ReturnsInHanded {} Tryz.checked os 3 .any (fun w args=>(Rows.topChainSpec.pre enc Tryz.prog Tryz.f3 Rows.topChainRow.domain false w args∧laidMetH Tryz.prog Rows.topChainRow.laid w)∧sizedMet enc Tryz.prog Tryz.f3 (OpenSpec.ofChange Rows.topChainSpec) false w args) (Rows.topChainSpec.post enc Tryz.prog Tryz.f3 false true false false):=by
 refine jV (C:=Tryz.checked) (X:=fun w _=>laidMetH Tryz.prog Rows.topChainRow.laid w) (fun _ _ _ hh h=>h.of_heap hh) GX started (by kernel_rfl) Tryz.func3
  (ChangeSpec.witness_shaped (enc:=enc) (C:=Tryz.checked) (os:=os) (X:=fun w _=>laidMetH Tryz.prog Rows.topChainRow.laid w) false (World.laidAll Tryz.prog os Rows.topChainRow.laid) #[.slice none 0 0,.int .i64 0,.int .i64 0] 8 (World.laidAll_os _ _ _)
   (World.shaped_of_ZipB (by kernel_rfl) (by kernel_rfl)) (by kernel_rfl) (by kernel_rfl) (by kernel_rfl)
   (by rw[MakeChecks.laidMetH_plain _ _ _ (by kernel_rfl)];exact laidMet_laidAll _ (by kernel_rfl) (by kernel_rfl))) ?_
 intro W base args ds gs before hval0 hW hL hsh
 have gl:GL aU W:=HT hL hsh
 have hval : ∀(j:Nat) t v,Tryz.f3.params[j]?=some t→args[j]?=some v→Value.okWide Tryz.prog W .any base t v:=hval0
 have hW':=hW
 obtain⟨p,q,hA0,hV,rfl,hfz,hnd⟩:=hW
 have hp:Tryz.f3.params = #[22,3,3]:=by kernel_rfl
 have hA:DataW.TrodAll enc Tryz.prog W 0 (fun _=>true) true Tryz.f3.params.toList args.toList ds p:=hA0
 rw[hp]at hA hval
 clear hA0 hval0
 obtain⟨rfl,rfl⟩:=trodVars_none hV
 obtain⟨v0,vs0,d0,ds0,p0,q0,hargs,rfl,rfl,h0,hA0⟩:=trodAll_cons hA
 obtain⟨v1,vs1,d1,ds1,p1,q1,rfl,rfl,rfl,h1,hA1⟩:=trodAll_cons hA0
 obtain⟨v2,vs2,d2,ds2,p2,q2,rfl,rfl,rfl,h2,hA2⟩:=trodAll_cons hA1
 obtain⟨rfl,rfl,rfl⟩:=trodAll_nil hA2
 obtain⟨al⟩:=args
 have hargs:al = [v0,v1,v2]:=hargs
 subst hargs
 obtain⟨e0,D0,i0⟩:=y_ (pt:=(.sl (.int .i64))) (OpensT.sl D_ (by kernel_rfl) (OpensT.i64 wQ)) h0 (Shaped.sl D_ (hval 0 22 v0 rfl rfl))
 obtain⟨e1,D1,i1⟩:=y_ (pt:=(.int .i64)) (OpensT.i64 wQ) h1 (Shaped.int wQ (hval 1 3 v1 rfl rfl))
 obtain⟨e2,D2,i2⟩:=y_ (pt:=(.int .i64)) (OpensT.i64 wQ) h2 (Shaped.int wQ (hval 2 3 v2 rfl rfl))
 clear hval
 have hc:Sn Tryz.prog 3 [.d (.sl (.int .i64)),.d (.int .i64),.d (.int .i64)] [.d .bool] (e0,e1,e2,()) (true,()):=nh.ok (e0,e1,e2,()) true (xA e0 e1 e2 i0.1)
 refine(hc 3 3 0 aU W [v0,v1,v2] (IB W) gl (fun h=>by cases h) (by decide) ⟨D0,D1,D2,trivial⟩).mono fun e W' ⟨lab',us,he,hs,hr⟩=>?_
 match us,hr with
 | [u],⟨hb,_⟩=>
  obtain rfl:u = .bool true:=aV.bool hb
  subst he
  exact⟨_,rfl,Ft IA (by kernel_rfl) (gu.below hs) hW' rfl (by kernel_rfl) Or rfl⟩
theorem xE:Rows.TopChainSaid:=
 OpenClaim.holds_of_wide 3 Tryz.f3 rfl rfl rfl rfl rfl rfl rfl ⟨rfl,rfl,rfl,rfl,rfl⟩ rfl rfl rfl rfl rfl Ee Tryz.func3 F1
  (of_decide_eq_true (by kernel_rfl)) (by unfold Func.isWrapper;first | (rw[if_pos (by decide +kernel)];kernel_rfl) | (rw[if_neg (by decide +kernel)];exact⟨rfl,rfl⟩))
  (fun os started H enc _=>uy os started H enc)
theorem topChain_holds:Rows.TopChainCardSaid:=
 Claim7.holds_tied_plain_at .later [] [.data, .data, .data, .data, .sentinel, .sentinel, .data, .pinned] true (true, "7e5b6e6ca1693a0882e6365793c0bc3e6be4b97a76f27548791a693c2a6469a1") true xE (fun _ h => by cases h) (by kernel_rfl) (fun _ h => by cases h) topChain_row_tie rfl ⟨rfl, rfl⟩ (by kernel_rfl) rfl
  (fun f fn hf hfn=>by
   obtain rfl:f=3:=Option.some.inj (Ee.symm.trans hf) |>.symm
   obtain rfl:fn=Tryz.f3:=(Option.some.inj (Tryz.func3.symm.trans hfn)).symm
   exact⟨by kernel_rfl,fun j t ht=>by
    rw[show Tryz.f3.params = #[22,3,3] by kernel_rfl]at ht
    have hm:t∈[22,3,3]:=by simpa using Array.mem_of_getElem? ht
    have hall:([22,3,3].all fun u=>!Tryz.prog.wantsStandIn u)=true:=by kernel_rfl
    exact(show Tryz.prog.wantsStandIn t=false by simpa using List.all_eq_true.1 hall t hm)⟩)
  (by kernel_rfl)
end Go.Proofs.YtimjjookppejeaaGreatDoor
