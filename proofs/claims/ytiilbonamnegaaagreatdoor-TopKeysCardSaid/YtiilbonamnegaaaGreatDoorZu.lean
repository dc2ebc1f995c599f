/- A part of the proof of TopKeys. No condition. -/
import Derived.Ground.GgsProg
import Derived.Ground.MpProg
import Derived.Lib.BytesEntry
import Derived.Shelf.Bits.Mul64
import Derived.Shelf.GgSortFunc.Compose
import Derived.Shelf.GgSortFunc.Insertion
import Derived.Shelf.GgSortFunc.InsertionK
import Derived.Shelf.GgSortFunc.LotD
import Derived.Shelf.GgSortFunc.Small
import Derived.Shelf.GgSortFunc.SmallK
import Derived.Shelf.GgSortFunc.Tiny
import Derived.Shelf.LaysM
import Derived.Shelf.Pu.ErrVarParseUint
import Derived.Shelf.Pu.ParseUintPublic10
import Derived.Shelf.SlSortFunc.Xorshift
import Derived.Shelf.SlSortFuncK.ComposeK
import Derived.Shelf.SlSortFuncK.HeapSortK
import Derived.Shelf.SlSortFuncK.LotDK
import Derived.Shelf.SlSortFuncK.PartialInsertionK
import Derived.Shelf.SlSortFuncK.PartitionK
import Derived.Shelf.SlSortFuncK.PdqK
import Derived.Shelf.SlSortFuncK.PivotK
import Derived.Shelf.SlSortFuncK.SiftDownK
import Derived.Shelf.SlSortFuncK.WholeK
import Derived.Shelf.Small.Bits
import Derived.Shelf.Small.Strs
import Derived.Shelf.Small.Utf8
import Derived.Shelf.Small.Wraps
import Derived.Shelf.Strconv.AppendInt10
import Derived.Shelf.Strconv.AppendUint10
import Derived.Shelf.Strconv.Itoa0
import Derived.Shelf.Strconv.Itoa1
import Derived.Shelf.Strconv.Itoa2
import Derived.Shelf.Strconv.Lower
import Derived.Shelf.Strconv.ParseUint10
import Derived.Shelf.Strconv.ParseUint10At
import Derived.Shelf.Strconv.ParseUint10b16
import Derived.Shelf.Strconv.ParseUint10b32
import Derived.Shelf.Strconv.ParseUint10b64
import Derived.Shelf.Strconv.ParseUint10b8
import Derived.Shelf.Strconv.ParseUintEmpty
import Derived.Shelf.Strings.AsciiSet
import Derived.Shelf.Strings.Cut
import Derived.Shelf.Strings.Prefix
import Derived.Shelf.Strings.Runes
import Derived.Shelf.Strings.Search1
import Derived.Shelf.Strings.Search2
import Derived.Shelf.Strings.Shaped
import Derived.Shelf.Strings.SlTrimAscii
import Derived.Shelf.Strings.Trim
import Derived.Shelf.Unicode.Decode
import Derived.Shelf.Unicode.DecodeSlow
import Derived.Test.YtiilbonamnegaaaGreatDoorZr
import Derived.Test.YtiilbonamnegaaaGreatDoorProg
import Derived.Test.YtiilbonamnegaaaGreatDoorZs
import Derived.Test.YtiilbonamnegaaaGreatDoorZt
namespace Go.Proofs
open Go.Shelf
def Tryz.lays283_ren:Go.Shelf.Ren:=⟨fun |283=>181 |n=>n,fun |3=>3 |9=>9 |4=>4 |n=>n,fun |n=>n⟩
theorem Tryz.lays283:Go.Proofs.Lays.n283 Tryz.prog Tryz.lays283_ren:={
 mixed:=by kernel_rfl
 f283:=Tryz.func181.trans (congrArg some (by kernel_rfl))
 t3:=Tryz.underlying3
 a3:=Tryz.isAgg3
 z3:=Tryz.sizeOf3
 v3:=Tryz.zeroValue3
 t4:=Tryz.underlying4
 a4:=Tryz.isAgg4
 z4:=Tryz.sizeOf4
 v4:=Tryz.zeroValue4
 t9:=Tryz.underlying9
 a9:=Tryz.isAgg9
 z9:=Tryz.sizeOf9
 v9:=Tryz.zeroValue9 }
open Go.Lib in
theorem Tryz.internal_strconv_small(i:Nat)(h:i<100)(w:World):
  Calls Tryz.prog 181 #[.int .i64 i] w fun e w'=>e = .returned (.string ⟨(Lib.decDigits i).toArray⟩)∧w'=w:=Any.internal_strconv_small Tryz.lays283 i h w
def Tryz.laysPu14_ren:Go.Shelf.Ren:=⟨fun |14=>111 |16=>149 |17=>150 |19=>219 |20=>220 |21=>221 |22=>222 |23=>223 |24=>224 |25=>261 |27=>263 |26=>262 |28=>281 |29=>287 |30=>181 |31=>182 |32=>183 |33=>184 |35=>172 |34=>234 |36=>235 |37=>236 |38=>237 |39=>265 |40=>266 |n=>n,fun |9=>9 |3=>3 |22=>34 |24=>174 |25=>175 |4=>4 |34=>287 |5=>5 |36=>84 |37=>23 |0=>0 |39=>288 |21=>21 |44=>319 |47=>332 |50=>335 |48=>333 |2=>2 |52=>256 |55=>258 |59=>300 |60=>161 |20=>20 |61=>301 |65=>336 |66=>337 |67=>172 |n=>n,fun |0=>6 |1=>7 |2=>5 |3=>8 |4=>9 |n=>n⟩
theorem Tryz.laysPu14:Go.Proofs.LaysPu.n14 Tryz.prog Tryz.laysPu14_ren:={
 mixed:=by kernel_rfl
 f14:=Tryz.func111.trans (congrArg some (by kernel_rfl))
 f16:=Tryz.func149.trans (congrArg some (by kernel_rfl))
 f17:=Tryz.func150.trans (congrArg some (by kernel_rfl))
 f19:=Tryz.func219.trans (congrArg some (by kernel_rfl))
 f20:=Tryz.func220.trans (congrArg some (by kernel_rfl))
 f21:=Tryz.func221.trans (congrArg some (by kernel_rfl))
 f22:=Tryz.func222.trans (congrArg some (by kernel_rfl))
 f23:=Tryz.func223.trans (congrArg some (by kernel_rfl))
 f24:=Tryz.func224.trans (congrArg some (by kernel_rfl))
 f25:=Tryz.func261.trans (congrArg some (by kernel_rfl))
 f26:=Tryz.func262.trans (congrArg some (by kernel_rfl))
 f27:=Tryz.func263.trans (congrArg some (by kernel_rfl))
 f28:=Tryz.func281.trans (congrArg some (by kernel_rfl))
 f29:=Tryz.func287.trans (congrArg some (by kernel_rfl))
 f30:=Tryz.func181.trans (congrArg some (by kernel_rfl))
 f31:=Tryz.func182.trans (congrArg some (by kernel_rfl))
 f32:=Tryz.func183.trans (congrArg some (by kernel_rfl))
 f33:=Tryz.func184.trans (congrArg some (by kernel_rfl))
 f34:=Tryz.func234.trans (congrArg some (by kernel_rfl))
 f35:=Tryz.func172.trans (congrArg some (by kernel_rfl))
 f36:=Tryz.func235.trans (congrArg some (by kernel_rfl))
 f37:=Tryz.func236.trans (congrArg some (by kernel_rfl))
 f38:=Tryz.func237.trans (congrArg some (by kernel_rfl))
 f39:=Tryz.func265.trans (congrArg some (by kernel_rfl))
 f40:=Tryz.func266.trans (congrArg some (by kernel_rfl))
 t0:=Tryz.underlying0
 a0:=Tryz.isAgg0
 z0:=Tryz.sizeOf0
 v0:=Tryz.zeroValue0
 i0:=by kernel_rfl
 t2:=Tryz.underlying2
 a2:=Tryz.isAgg2
 z2:=Tryz.sizeOf2
 v2:=Tryz.zeroValue2
 i2:=by kernel_rfl
 t3:=Tryz.underlying3
 a3:=Tryz.isAgg3
 z3:=Tryz.sizeOf3
 v3:=Tryz.zeroValue3
 i3:=by kernel_rfl
 t4:=Tryz.underlying4
 a4:=Tryz.isAgg4
 z4:=Tryz.sizeOf4
 v4:=Tryz.zeroValue4
 i4:=by kernel_rfl
 t5:=Tryz.underlying5
 a5:=Tryz.isAgg5
 z5:=Tryz.sizeOf5
 v5:=Tryz.zeroValue5
 i5:=by kernel_rfl
 t9:=Tryz.underlying9
 a9:=Tryz.isAgg9
 z9:=Tryz.sizeOf9
 v9:=Tryz.zeroValue9
 i9:=by kernel_rfl
 t20:=Tryz.underlying20
 a20:=Tryz.isAgg20
 z20:=Tryz.sizeOf20
 v20:=Tryz.zeroValue20
 i20:=by kernel_rfl
 t21:=Tryz.underlying21
 a21:=Tryz.isAgg21
 z21:=Tryz.sizeOf21
 v21:=Tryz.zeroValue21
 i21:=by kernel_rfl
 t22:=Tryz.underlying34
 a22:=Tryz.isAgg34
 z22:=Tryz.sizeOf34
 v22:=Tryz.zeroValue34
 i22:=by kernel_rfl
 t24:=Tryz.underlying174
 a24:=Tryz.isAgg174
 z24:=Tryz.sizeOf174
 v24:=Tryz.zeroValue174
 i24:=by kernel_rfl
 t25:=Tryz.underlying175
 a25:=Tryz.isAgg175
 z25:=Tryz.sizeOf175
 v25:=Tryz.zeroValue175
 i25:=by kernel_rfl
 t34:=Tryz.underlying287
 a34:=Tryz.isAgg287
 z34:=Tryz.sizeOf287
 v34:=Tryz.zeroValue287
 i34:=by kernel_rfl
 c34:=by kernel_rfl
 t36:=Tryz.underlying84
 a36:=Tryz.isAgg84
 z36:=Tryz.sizeOf84
 v36:=Tryz.zeroValue84
 i36:=by kernel_rfl
 t37:=Tryz.underlying23
 a37:=Tryz.isAgg23
 z37:=Tryz.sizeOf23
 v37:=Tryz.zeroValue23
 i37:=by kernel_rfl
 t39:=Tryz.underlying288
 a39:=Tryz.isAgg288
 z39:=Tryz.sizeOf288
 v39:=Tryz.zeroValue288
 i39:=by kernel_rfl
 t44:=Tryz.underlying319
 a44:=Tryz.isAgg319
 z44:=Tryz.sizeOf319
 v44:=Tryz.zeroValue319
 i44:=by kernel_rfl
 t47:=Tryz.underlying332
 a47:=Tryz.isAgg332
 z47:=Tryz.sizeOf332
 v47:=Tryz.zeroValue332
 i47:=by kernel_rfl
 t48:=Tryz.underlying333
 a48:=Tryz.isAgg333
 z48:=Tryz.sizeOf333
 v48:=Tryz.zeroValue333
 i48:=by kernel_rfl
 t50:=Tryz.underlying335
 a50:=Tryz.isAgg335
 z50:=Tryz.sizeOf335
 v50:=Tryz.zeroValue335
 i50:=by kernel_rfl
 t52:=Tryz.underlying256
 a52:=Tryz.isAgg256
 z52:=Tryz.sizeOf256
 v52:=Tryz.zeroValue256
 i52:=by kernel_rfl
 t55:=Tryz.underlying258
 a55:=Tryz.isAgg258
 z55:=Tryz.sizeOf258
 v55:=Tryz.zeroValue258
 i55:=by kernel_rfl
 t59:=Tryz.underlying300
 a59:=Tryz.isAgg300
 z59:=Tryz.sizeOf300
 v59:=Tryz.zeroValue300
 i59:=by kernel_rfl
 t60:=Tryz.underlying161
 a60:=Tryz.isAgg161
 z60:=Tryz.sizeOf161
 v60:=Tryz.zeroValue161
 i60:=by kernel_rfl
 t61:=Tryz.underlying301
 a61:=Tryz.isAgg301
 z61:=Tryz.sizeOf301
 t65:=Tryz.underlying336
 a65:=Tryz.isAgg336
 z65:=Tryz.sizeOf336
 v65:=Tryz.zeroValue336
 i65:=by kernel_rfl
 t66:=Tryz.underlying337
 a66:=Tryz.isAgg337
 z66:=Tryz.sizeOf337
 v66:=Tryz.zeroValue337
 i66:=by kernel_rfl
 t67:=Tryz.underlying172
 a67:=Tryz.isAgg172
 z67:=Tryz.sizeOf172
 v67:=Tryz.zeroValue172
 i67:=by kernel_rfl
 g0:=by kernel_rfl
 m0:=by kernel_rfl
 g1:=by kernel_rfl
 m1:=by kernel_rfl
 g2:=by kernel_rfl
 m2:=by kernel_rfl
 g3:=by kernel_rfl
 m3:=by kernel_rfl
 g4:=by kernel_rfl
 m4:=by kernel_rfl }
open Go.RowKit in
theorem Tryz.strconv_ParseUint_10_at64_ok(s:ByteArray)(hmax:s.size≤9223372036854775806)(u:Nat)(h:Lib.parseUintB 64 s.data.toList = .ok u)(w:World):
  Calls Tryz.prog 111 #[.string s,.int .i64 10,.int .i64 64] w fun e w'=>e = .returned (.tuple #[.int .u64 u,.nilIface])∧(w'=w∨w'=Lib.bytesWorld w 5 s):=Any.strconv_ParseUint_10_at64_ok Tryz.laysPu14 s hmax u h w
def Tryz.laysGg6_ren:Go.Shelf.Ren:=⟨fun |6=>89 |10=>127 |11=>128 |12=>129 |13=>130 |14=>131 |24=>171 |25=>172 |26=>173 |27=>174 |28=>175 |29=>176 |30=>177 |31=>178 |32=>179 |33=>180 |34=>229 |35=>230 |36=>231 |37=>232 |38=>233 |39=>264 |n=>n,fun |20=>20 |26=>145 |35=>198 |0=>0 |37=>200 |3=>3 |41=>84 |44=>206 |49=>161 |51=>34 |4=>4 |54=>251 |53=>250 |58=>137 |5=>5 |9=>9 |60=>295 |64=>133 |66=>321 |67=>322 |17=>17 |32=>195 |33=>196 |82=>355 |12=>12 |75=>349 |76=>350 |77=>351 |78=>332 |79=>352 |80=>353 |n=>n,fun |n=>n⟩
theorem Tryz.laysGg6:Go.Proofs.LaysGg.n6 Tryz.prog Tryz.laysGg6_ren:={
 mixed:=by kernel_rfl
 f6:=Tryz.func89.trans (congrArg some (by kernel_rfl))
 f10:=Tryz.func127.trans (congrArg some (by kernel_rfl))
 f11:=Tryz.func128.trans (congrArg some (by kernel_rfl))
 f12:=Tryz.func129.trans (congrArg some (by kernel_rfl))
 f13:=Tryz.func130.trans (congrArg some (by kernel_rfl))
 f14:=Tryz.func131.trans (congrArg some (by kernel_rfl))
 f24:=Tryz.func171.trans (congrArg some (by kernel_rfl))
 f25:=Tryz.func172.trans (congrArg some (by kernel_rfl))
 f26:=Tryz.func173.trans (congrArg some (by kernel_rfl))
 f27:=Tryz.func174.trans (congrArg some (by kernel_rfl))
 f28:=Tryz.func175.trans (congrArg some (by kernel_rfl))
 f29:=Tryz.func176.trans (congrArg some (by kernel_rfl))
 f30:=Tryz.func177.trans (congrArg some (by kernel_rfl))
 f31:=Tryz.func178.trans (congrArg some (by kernel_rfl))
 f32:=Tryz.func179.trans (congrArg some (by kernel_rfl))
 f33:=Tryz.func180.trans (congrArg some (by kernel_rfl))
 f34:=Tryz.func229.trans (congrArg some (by kernel_rfl))
 f35:=Tryz.func230.trans (congrArg some (by kernel_rfl))
 f36:=Tryz.func231.trans (congrArg some (by kernel_rfl))
 f37:=Tryz.func232.trans (congrArg some (by kernel_rfl))
 f38:=Tryz.func233.trans (congrArg some (by kernel_rfl))
 f39:=Tryz.func264.trans (congrArg some (by kernel_rfl))
 t0:=Tryz.underlying0
 a0:=Tryz.isAgg0
 z0:=Tryz.sizeOf0
 v0:=Tryz.zeroValue0
 i0:=by kernel_rfl
 t3:=Tryz.underlying3
 a3:=Tryz.isAgg3
 z3:=Tryz.sizeOf3
 v3:=Tryz.zeroValue3
 i3:=by kernel_rfl
 t4:=Tryz.underlying4
 a4:=Tryz.isAgg4
 z4:=Tryz.sizeOf4
 v4:=Tryz.zeroValue4
 i4:=by kernel_rfl
 t5:=Tryz.underlying5
 a5:=Tryz.isAgg5
 z5:=Tryz.sizeOf5
 v5:=Tryz.zeroValue5
 i5:=by kernel_rfl
 t9:=Tryz.underlying9
 a9:=Tryz.isAgg9
 z9:=Tryz.sizeOf9
 v9:=Tryz.zeroValue9
 i9:=by kernel_rfl
 t12:=Tryz.underlying12
 a12:=Tryz.isAgg12
 z12:=Tryz.sizeOf12
 v12:=Tryz.zeroValue12
 i12:=by kernel_rfl
 t17:=Tryz.underlying17
 a17:=Tryz.isAgg17
 z17:=Tryz.sizeOf17
 v17:=Tryz.zeroValue17
 i17:=by kernel_rfl
 t20:=Tryz.underlying20
 a20:=Tryz.isAgg20
 z20:=Tryz.sizeOf20
 v20:=Tryz.zeroValue20
 i20:=by kernel_rfl
 t26:=Tryz.underlying145
 a26:=Tryz.isAgg145
 z26:=Tryz.sizeOf145
 v26:=Tryz.zeroValue145
 i26:=by kernel_rfl
 t32:=Tryz.underlying195
 a32:=Tryz.isAgg195
 z32:=Tryz.sizeOf195
 v32:=Tryz.zeroValue195
 i32:=by kernel_rfl
 t33:=Tryz.underlying196
 a33:=Tryz.isAgg196
 z33:=Tryz.sizeOf196
 v33:=Tryz.zeroValue196
 i33:=by kernel_rfl
 t35:=Tryz.underlying198
 a35:=Tryz.isAgg198
 z35:=Tryz.sizeOf198
 v35:=Tryz.zeroValue198
 i35:=by kernel_rfl
 t37:=Tryz.underlying200
 a37:=Tryz.isAgg200
 z37:=Tryz.sizeOf200
 v37:=Tryz.zeroValue200
 i37:=by kernel_rfl
 t41:=Tryz.underlying84
 a41:=Tryz.isAgg84
 z41:=Tryz.sizeOf84
 v41:=Tryz.zeroValue84
 i41:=by kernel_rfl
 t44:=Tryz.underlying206
 a44:=Tryz.isAgg206
 z44:=Tryz.sizeOf206
 v44:=Tryz.zeroValue206
 i44:=by kernel_rfl
 t49:=Tryz.underlying161
 a49:=Tryz.isAgg161
 z49:=Tryz.sizeOf161
 v49:=Tryz.zeroValue161
 i49:=by kernel_rfl
 t51:=Tryz.underlying34
 a51:=Tryz.isAgg34
 z51:=Tryz.sizeOf34
 v51:=Tryz.zeroValue34
 i51:=by kernel_rfl
 t53:=Tryz.underlying250
 a53:=Tryz.isAgg250
 z53:=Tryz.sizeOf250
 v53:=Tryz.zeroValue250
 i53:=by kernel_rfl
 t54:=Tryz.underlying251
 a54:=Tryz.isAgg251
 z54:=Tryz.sizeOf251
 v54:=Tryz.zeroValue251
 i54:=by kernel_rfl
 t58:=Tryz.underlying137
 a58:=Tryz.isAgg137
 z58:=Tryz.sizeOf137
 v58:=Tryz.zeroValue137
 i58:=by kernel_rfl
 t60:=Tryz.underlying295
 a60:=Tryz.isAgg295
 z60:=Tryz.sizeOf295
 v60:=Tryz.zeroValue295
 i60:=by kernel_rfl
 t64:=Tryz.underlying133
 a64:=Tryz.isAgg133
 z64:=Tryz.sizeOf133
 v64:=Tryz.zeroValue133
 i64:=by kernel_rfl
 t66:=Tryz.underlying321
 a66:=Tryz.isAgg321
 z66:=Tryz.sizeOf321
 v66:=Tryz.zeroValue321
 i66:=by kernel_rfl
 t67:=Tryz.underlying322
 a67:=Tryz.isAgg322
 z67:=Tryz.sizeOf322
 v67:=Tryz.zeroValue322
 i67:=by kernel_rfl
 t75:=Tryz.underlying349
 a75:=Tryz.isAgg349
 z75:=Tryz.sizeOf349
 v75:=Tryz.zeroValue349
 i75:=by kernel_rfl
 t76:=Tryz.underlying350
 a76:=Tryz.isAgg350
 z76:=Tryz.sizeOf350
 v76:=Tryz.zeroValue350
 i76:=by kernel_rfl
 t77:=Tryz.underlying351
 a77:=Tryz.isAgg351
 z77:=Tryz.sizeOf351
 v77:=Tryz.zeroValue351
 i77:=by kernel_rfl
 t78:=Tryz.underlying332
 a78:=Tryz.isAgg332
 z78:=Tryz.sizeOf332
 v78:=Tryz.zeroValue332
 i78:=by kernel_rfl
 t79:=Tryz.underlying352
 a79:=Tryz.isAgg352
 z79:=Tryz.sizeOf352
 v79:=Tryz.zeroValue352
 i79:=by kernel_rfl
 t80:=Tryz.underlying353
 a80:=Tryz.isAgg353
 z80:=Tryz.sizeOf353
 v80:=Tryz.zeroValue353
 i80:=by kernel_rfl
 t82:=Tryz.underlying355
 a82:=Tryz.isAgg355
 z82:=Tryz.sizeOf355
 v82:=Tryz.zeroValue355
 i82:=by kernel_rfl }
end Go.Proofs
