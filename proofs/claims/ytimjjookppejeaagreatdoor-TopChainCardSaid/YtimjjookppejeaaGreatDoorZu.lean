/- A part of the proof of TopChain. No condition. -/
import Derived.Ground.GgsProg
import Derived.Ground.MpProg
import Derived.Ground.SlbNamesProg
import Derived.Lib.BytesEntry
import Derived.Shelf.Bits.Mul64
import Derived.Shelf.Bytes.SlJoin
import Derived.Shelf.Bytes.SlSearch0
import Derived.Shelf.Bytes.Small
import Derived.Shelf.GgSortFunc.Compose
import Derived.Shelf.GgSortFunc.Insertion
import Derived.Shelf.GgSortFunc.InsertionK
import Derived.Shelf.GgSortFunc.LotD
import Derived.Shelf.GgSortFunc.Small
import Derived.Shelf.GgSortFunc.SmallK
import Derived.Shelf.GgSortFunc.Tiny
import Derived.Shelf.LaysM
import Derived.Shelf.Pu.ErrVarParseUint
import Derived.Shelf.Pu.ParseUintPublic10
import Derived.Shelf.SlSortFunc.Xorshift
import Derived.Shelf.SlSortFuncK.ComposeK
import Derived.Shelf.SlSortFuncK.HeapSortK
import Derived.Shelf.SlSortFuncK.LotDK
import Derived.Shelf.SlSortFuncK.PartialInsertionK
import Derived.Shelf.SlSortFuncK.PartitionK
import Derived.Shelf.SlSortFuncK.PdqK
import Derived.Shelf.SlSortFuncK.PivotK
import Derived.Shelf.SlSortFuncK.SiftDownK
import Derived.Shelf.SlSortFuncK.WholeK
import Derived.Shelf.Small.Bits
import Derived.Shelf.Small.Strs
import Derived.Shelf.Small.Utf8
import Derived.Shelf.Small.Wraps
import Derived.Shelf.Strconv.AppendInt10
import Derived.Shelf.Strconv.AppendUint10
import Derived.Shelf.Strconv.Itoa0
import Derived.Shelf.Strconv.Itoa1
import Derived.Shelf.Strconv.Itoa2
import Derived.Shelf.Strconv.Itoa3
import Derived.Shelf.Strconv.Lower
import Derived.Shelf.Strconv.ParseUint10
import Derived.Shelf.Strconv.ParseUint10At
import Derived.Shelf.Strconv.ParseUint10b16
import Derived.Shelf.Strconv.ParseUint10b32
import Derived.Shelf.Strconv.ParseUint10b64
import Derived.Shelf.Strconv.ParseUint10b8
import Derived.Shelf.Strconv.ParseUintEmpty
import Derived.Shelf.Strings.AsciiSet
import Derived.Shelf.Strings.Cut
import Derived.Shelf.Strings.Prefix
import Derived.Shelf.Strings.Runes
import Derived.Shelf.Strings.Search1
import Derived.Shelf.Strings.Search2
import Derived.Shelf.Strings.Shaped
import Derived.Shelf.Strings.SlTrimAscii
import Derived.Shelf.Strings.Trim
import Derived.Shelf.Unicode.Decode
import Derived.Shelf.Unicode.DecodeAny
import Derived.Shelf.Unicode.DecodeLast
import Derived.Shelf.Unicode.DecodeSlow
import Derived.Test.YtimjjookppejeaaGreatDoorZr
import Derived.Test.YtimjjookppejeaaGreatDoorProg
import Derived.Test.YtimjjookppejeaaGreatDoorZs
import Derived.Test.YtimjjookppejeaaGreatDoorZt
namespace Go.Proofs
open Go.Shelf
def Tryz.lays283_ren:Go.Shelf.Ren:=⟨fun |283=>258 |n=>n,fun |3=>3 |9=>9 |4=>4 |n=>n,fun |n=>n⟩
theorem Tryz.lays283:Go.Proofs.Lays.n283 Tryz.prog Tryz.lays283_ren:={
 mixed:=by kernel_rfl
 f283:=Tryz.func258.trans (congrArg some (by kernel_rfl))
 t3:=Tryz.underlying3
 a3:=Tryz.isAgg3
 z3:=Tryz.sizeOf3
 v3:=Tryz.zeroValue3
 t4:=Tryz.underlying4
 a4:=Tryz.isAgg4
 z4:=Tryz.sizeOf4
 v4:=Tryz.zeroValue4
 t9:=Tryz.underlying9
 a9:=Tryz.isAgg9
 z9:=Tryz.sizeOf9
 v9:=Tryz.zeroValue9 }
open Go.Lib in
theorem Tryz.internal_strconv_small(i:Nat)(h:i<100)(w:World):
  Calls Tryz.prog 258 #[.int .i64 i] w fun e w'=>e = .returned (.string ⟨(Lib.decDigits i).toArray⟩)∧w'=w:=Any.internal_strconv_small Tryz.lays283 i h w
def Tryz.laysPu14_ren:Go.Shelf.Ren:=⟨fun |14=>157 |16=>212 |17=>213 |19=>272 |20=>273 |21=>274 |22=>275 |23=>276 |24=>277 |25=>303 |27=>305 |26=>304 |28=>320 |29=>325 |30=>258 |31=>259 |32=>260 |33=>261 |35=>199 |34=>292 |36=>293 |37=>294 |38=>295 |39=>311 |40=>312 |n=>n,fun |9=>9 |3=>3 |22=>42 |24=>242 |25=>243 |4=>4 |34=>353 |5=>5 |36=>72 |37=>26 |0=>0 |39=>354 |21=>21 |44=>375 |47=>386 |50=>389 |48=>387 |2=>2 |52=>341 |55=>343 |59=>364 |60=>193 |20=>20 |61=>365 |65=>66 |66=>390 |67=>240 |n=>n,fun |0=>6 |1=>7 |2=>5 |3=>8 |4=>9 |n=>n⟩
theorem Tryz.laysPu14:Go.Proofs.LaysPu.n14 Tryz.prog Tryz.laysPu14_ren:={
 mixed:=by kernel_rfl
 f14:=Tryz.func157.trans (congrArg some (by kernel_rfl))
 f16:=Tryz.func212.trans (congrArg some (by kernel_rfl))
 f17:=Tryz.func213.trans (congrArg some (by kernel_rfl))
 f19:=Tryz.func272.trans (congrArg some (by kernel_rfl))
 f20:=Tryz.func273.trans (congrArg some (by kernel_rfl))
 f21:=Tryz.func274.trans (congrArg some (by kernel_rfl))
 f22:=Tryz.func275.trans (congrArg some (by kernel_rfl))
 f23:=Tryz.func276.trans (congrArg some (by kernel_rfl))
 f24:=Tryz.func277.trans (congrArg some (by kernel_rfl))
 f25:=Tryz.func303.trans (congrArg some (by kernel_rfl))
 f26:=Tryz.func304.trans (congrArg some (by kernel_rfl))
 f27:=Tryz.func305.trans (congrArg some (by kernel_rfl))
 f28:=Tryz.func320.trans (congrArg some (by kernel_rfl))
 f29:=Tryz.func325.trans (congrArg some (by kernel_rfl))
 f30:=Tryz.func258.trans (congrArg some (by kernel_rfl))
 f31:=Tryz.func259.trans (congrArg some (by kernel_rfl))
 f32:=Tryz.func260.trans (congrArg some (by kernel_rfl))
 f33:=Tryz.func261.trans (congrArg some (by kernel_rfl))
 f34:=Tryz.func292.trans (congrArg some (by kernel_rfl))
 f35:=Tryz.func199.trans (congrArg some (by kernel_rfl))
 f36:=Tryz.func293.trans (congrArg some (by kernel_rfl))
 f37:=Tryz.func294.trans (congrArg some (by kernel_rfl))
 f38:=Tryz.func295.trans (congrArg some (by kernel_rfl))
 f39:=Tryz.func311.trans (congrArg some (by kernel_rfl))
 f40:=Tryz.func312.trans (congrArg some (by kernel_rfl))
 t0:=Tryz.underlying0
 a0:=Tryz.isAgg0
 z0:=Tryz.sizeOf0
 v0:=Tryz.zeroValue0
 i0:=by kernel_rfl
 t2:=Tryz.underlying2
 a2:=Tryz.isAgg2
 z2:=Tryz.sizeOf2
 v2:=Tryz.zeroValue2
 i2:=by kernel_rfl
 t3:=Tryz.underlying3
 a3:=Tryz.isAgg3
 z3:=Tryz.sizeOf3
 v3:=Tryz.zeroValue3
 i3:=by kernel_rfl
 t4:=Tryz.underlying4
 a4:=Tryz.isAgg4
 z4:=Tryz.sizeOf4
 v4:=Tryz.zeroValue4
 i4:=by kernel_rfl
 t5:=Tryz.underlying5
 a5:=Tryz.isAgg5
 z5:=Tryz.sizeOf5
 v5:=Tryz.zeroValue5
 i5:=by kernel_rfl
 t9:=Tryz.underlying9
 a9:=Tryz.isAgg9
 z9:=Tryz.sizeOf9
 v9:=Tryz.zeroValue9
 i9:=by kernel_rfl
 t20:=Tryz.underlying20
 a20:=Tryz.isAgg20
 z20:=Tryz.sizeOf20
 v20:=Tryz.zeroValue20
 i20:=by kernel_rfl
 t21:=Tryz.underlying21
 a21:=Tryz.isAgg21
 z21:=Tryz.sizeOf21
 v21:=Tryz.zeroValue21
 i21:=by kernel_rfl
 t22:=Tryz.underlying42
 a22:=Tryz.isAgg42
 z22:=Tryz.sizeOf42
 v22:=Tryz.zeroValue42
 i22:=by kernel_rfl
 t24:=Tryz.underlying242
 a24:=Tryz.isAgg242
 z24:=Tryz.sizeOf242
 v24:=Tryz.zeroValue242
 i24:=by kernel_rfl
 t25:=Tryz.underlying243
 a25:=Tryz.isAgg243
 z25:=Tryz.sizeOf243
 v25:=Tryz.zeroValue243
 i25:=by kernel_rfl
 t34:=Tryz.underlying353
 a34:=Tryz.isAgg353
 z34:=Tryz.sizeOf353
 v34:=Tryz.zeroValue353
 i34:=by kernel_rfl
 c34:=by kernel_rfl
 t36:=Tryz.underlying72
 a36:=Tryz.isAgg72
 z36:=Tryz.sizeOf72
 v36:=Tryz.zeroValue72
 i36:=by kernel_rfl
 t37:=Tryz.underlying26
 a37:=Tryz.isAgg26
 z37:=Tryz.sizeOf26
 v37:=Tryz.zeroValue26
 i37:=by kernel_rfl
 t39:=Tryz.underlying354
 a39:=Tryz.isAgg354
 z39:=Tryz.sizeOf354
 v39:=Tryz.zeroValue354
 i39:=by kernel_rfl
 t44:=Tryz.underlying375
 a44:=Tryz.isAgg375
 z44:=Tryz.sizeOf375
 v44:=Tryz.zeroValue375
 i44:=by kernel_rfl
 t47:=Tryz.underlying386
 a47:=Tryz.isAgg386
 z47:=Tryz.sizeOf386
 v47:=Tryz.zeroValue386
 i47:=by kernel_rfl
 t48:=Tryz.underlying387
 a48:=Tryz.isAgg387
 z48:=Tryz.sizeOf387
 v48:=Tryz.zeroValue387
 i48:=by kernel_rfl
 t50:=Tryz.underlying389
 a50:=Tryz.isAgg389
 z50:=Tryz.sizeOf389
 v50:=Tryz.zeroValue389
 i50:=by kernel_rfl
 t52:=Tryz.underlying341
 a52:=Tryz.isAgg341
 z52:=Tryz.sizeOf341
 v52:=Tryz.zeroValue341
 i52:=by kernel_rfl
 t55:=Tryz.underlying343
 a55:=Tryz.isAgg343
 z55:=Tryz.sizeOf343
 v55:=Tryz.zeroValue343
 i55:=by kernel_rfl
 t59:=Tryz.underlying364
 a59:=Tryz.isAgg364
 z59:=Tryz.sizeOf364
 v59:=Tryz.zeroValue364
 i59:=by kernel_rfl
 t60:=Tryz.underlying193
 a60:=Tryz.isAgg193
 z60:=Tryz.sizeOf193
 v60:=Tryz.zeroValue193
 i60:=by kernel_rfl
 t61:=Tryz.underlying365
 a61:=Tryz.isAgg365
 z61:=Tryz.sizeOf365
 t65:=Tryz.underlying66
 a65:=Tryz.isAgg66
 z65:=Tryz.sizeOf66
 v65:=Tryz.zeroValue66
 i65:=by kernel_rfl
 t66:=Tryz.underlying390
 a66:=Tryz.isAgg390
 z66:=Tryz.sizeOf390
 v66:=Tryz.zeroValue390
 i66:=by kernel_rfl
 t67:=Tryz.underlying240
 a67:=Tryz.isAgg240
 z67:=Tryz.sizeOf240
 v67:=Tryz.zeroValue240
 i67:=by kernel_rfl
 g0:=by kernel_rfl
 m0:=by kernel_rfl
 g1:=by kernel_rfl
 m1:=by kernel_rfl
 g2:=by kernel_rfl
 m2:=by kernel_rfl
 g3:=by kernel_rfl
 m3:=by kernel_rfl
 g4:=by kernel_rfl
 m4:=by kernel_rfl }
open Go.RowKit in
theorem Tryz.strconv_ParseUint_10_at64_ok(s:ByteArray)(hmax:s.size≤9223372036854775806)(u:Nat)(h:Lib.parseUintB 64 s.data.toList = .ok u)(w:World):
  Calls Tryz.prog 157 #[.string s,.int .i64 10,.int .i64 64] w fun e w'=>e = .returned (.tuple #[.int .u64 u,.nilIface])∧(w'=w∨w'=Lib.bytesWorld w 5 s):=Any.strconv_ParseUint_10_at64_ok Tryz.laysPu14 s hmax u h w
def Tryz.laysGg6_ren:Go.Shelf.Ren:=⟨fun |6=>143 |10=>201 |11=>202 |12=>203 |13=>140 |14=>204 |24=>198 |25=>199 |26=>248 |27=>249 |28=>250 |29=>251 |30=>252 |31=>253 |32=>254 |33=>255 |34=>287 |35=>288 |36=>289 |37=>290 |38=>291 |39=>310 |n=>n,fun |20=>20 |26=>228 |35=>295 |0=>0 |37=>297 |3=>3 |41=>72 |44=>302 |49=>193 |51=>42 |4=>4 |54=>335 |53=>334 |58=>270 |5=>5 |9=>9 |60=>360 |64=>266 |66=>383 |67=>358 |17=>17 |32=>292 |33=>293 |82=>406 |12=>12 |75=>400 |76=>401 |77=>402 |78=>386 |79=>403 |80=>404 |n=>n,fun |n=>n⟩
theorem Tryz.laysGg6:Go.Proofs.LaysGg.n6 Tryz.prog Tryz.laysGg6_ren:={
 mixed:=by kernel_rfl
 f6:=Tryz.func143.trans (congrArg some (by kernel_rfl))
 f10:=Tryz.func201.trans (congrArg some (by kernel_rfl))
 f11:=Tryz.func202.trans (congrArg some (by kernel_rfl))
 f12:=Tryz.func203.trans (congrArg some (by kernel_rfl))
 f13:=Tryz.func140.trans (congrArg some (by kernel_rfl))
 f14:=Tryz.func204.trans (congrArg some (by kernel_rfl))
 f24:=Tryz.func198.trans (congrArg some (by kernel_rfl))
 f25:=Tryz.func199.trans (congrArg some (by kernel_rfl))
 f26:=Tryz.func248.trans (congrArg some (by kernel_rfl))
 f27:=Tryz.func249.trans (congrArg some (by kernel_rfl))
 f28:=Tryz.func250.trans (congrArg some (by kernel_rfl))
 f29:=Tryz.func251.trans (congrArg some (by kernel_rfl))
 f30:=Tryz.func252.trans (congrArg some (by kernel_rfl))
 f31:=Tryz.func253.trans (congrArg some (by kernel_rfl))
 f32:=Tryz.func254.trans (congrArg some (by kernel_rfl))
 f33:=Tryz.func255.trans (congrArg some (by kernel_rfl))
 f34:=Tryz.func287.trans (congrArg some (by kernel_rfl))
 f35:=Tryz.func288.trans (congrArg some (by kernel_rfl))
 f36:=Tryz.func289.trans (congrArg some (by kernel_rfl))
 f37:=Tryz.func290.trans (congrArg some (by kernel_rfl))
 f38:=Tryz.func291.trans (congrArg some (by kernel_rfl))
 f39:=Tryz.func310.trans (congrArg some (by kernel_rfl))
 t0:=Tryz.underlying0
 a0:=Tryz.isAgg0
 z0:=Tryz.sizeOf0
 v0:=Tryz.zeroValue0
 i0:=by kernel_rfl
 t3:=Tryz.underlying3
 a3:=Tryz.isAgg3
 z3:=Tryz.sizeOf3
 v3:=Tryz.zeroValue3
 i3:=by kernel_rfl
 t4:=Tryz.underlying4
 a4:=Tryz.isAgg4
 z4:=Tryz.sizeOf4
 v4:=Tryz.zeroValue4
 i4:=by kernel_rfl
 t5:=Tryz.underlying5
 a5:=Tryz.isAgg5
 z5:=Tryz.sizeOf5
 v5:=Tryz.zeroValue5
 i5:=by kernel_rfl
 t9:=Tryz.underlying9
 a9:=Tryz.isAgg9
 z9:=Tryz.sizeOf9
 v9:=Tryz.zeroValue9
 i9:=by kernel_rfl
 t12:=Tryz.underlying12
 a12:=Tryz.isAgg12
 z12:=Tryz.sizeOf12
 v12:=Tryz.zeroValue12
 i12:=by kernel_rfl
 t17:=Tryz.underlying17
 a17:=Tryz.isAgg17
 z17:=Tryz.sizeOf17
 v17:=Tryz.zeroValue17
 i17:=by kernel_rfl
 t20:=Tryz.underlying20
 a20:=Tryz.isAgg20
 z20:=Tryz.sizeOf20
 v20:=Tryz.zeroValue20
 i20:=by kernel_rfl
 t26:=Tryz.underlying228
 a26:=Tryz.isAgg228
 z26:=Tryz.sizeOf228
 v26:=Tryz.zeroValue228
 i26:=by kernel_rfl
 t32:=Tryz.underlying292
 a32:=Tryz.isAgg292
 z32:=Tryz.sizeOf292
 v32:=Tryz.zeroValue292
 i32:=by kernel_rfl
 t33:=Tryz.underlying293
 a33:=Tryz.isAgg293
 z33:=Tryz.sizeOf293
 v33:=Tryz.zeroValue293
 i33:=by kernel_rfl
 t35:=Tryz.underlying295
 a35:=Tryz.isAgg295
 z35:=Tryz.sizeOf295
 v35:=Tryz.zeroValue295
 i35:=by kernel_rfl
 t37:=Tryz.underlying297
 a37:=Tryz.isAgg297
 z37:=Tryz.sizeOf297
 v37:=Tryz.zeroValue297
 i37:=by kernel_rfl
 t41:=Tryz.underlying72
 a41:=Tryz.isAgg72
 z41:=Tryz.sizeOf72
 v41:=Tryz.zeroValue72
 i41:=by kernel_rfl
 t44:=Tryz.underlying302
 a44:=Tryz.isAgg302
 z44:=Tryz.sizeOf302
 v44:=Tryz.zeroValue302
 i44:=by kernel_rfl
 t49:=Tryz.underlying193
 a49:=Tryz.isAgg193
 z49:=Tryz.sizeOf193
 v49:=Tryz.zeroValue193
 i49:=by kernel_rfl
 t51:=Tryz.underlying42
 a51:=Tryz.isAgg42
 z51:=Tryz.sizeOf42
 v51:=Tryz.zeroValue42
 i51:=by kernel_rfl
 t53:=Tryz.underlying334
 a53:=Tryz.isAgg334
 z53:=Tryz.sizeOf334
 v53:=Tryz.zeroValue334
 i53:=by kernel_rfl
 t54:=Tryz.underlying335
 a54:=Tryz.isAgg335
 z54:=Tryz.sizeOf335
 v54:=Tryz.zeroValue335
 i54:=by kernel_rfl
 t58:=Tryz.underlying270
 a58:=Tryz.isAgg270
 z58:=Tryz.sizeOf270
 v58:=Tryz.zeroValue270
 i58:=by kernel_rfl
 t60:=Tryz.underlying360
 a60:=Tryz.isAgg360
 z60:=Tryz.sizeOf360
 v60:=Tryz.zeroValue360
 i60:=by kernel_rfl
 t64:=Tryz.underlying266
 a64:=Tryz.isAgg266
 z64:=Tryz.sizeOf266
 v64:=Tryz.zeroValue266
 i64:=by kernel_rfl
 t66:=Tryz.underlying383
 a66:=Tryz.isAgg383
 z66:=Tryz.sizeOf383
 v66:=Tryz.zeroValue383
 i66:=by kernel_rfl
 t67:=Tryz.underlying358
 a67:=Tryz.isAgg358
 z67:=Tryz.sizeOf358
 v67:=Tryz.zeroValue358
 i67:=by kernel_rfl
 t75:=Tryz.underlying400
 a75:=Tryz.isAgg400
 z75:=Tryz.sizeOf400
 v75:=Tryz.zeroValue400
 i75:=by kernel_rfl
 t76:=Tryz.underlying401
 a76:=Tryz.isAgg401
 z76:=Tryz.sizeOf401
 v76:=Tryz.zeroValue401
 i76:=by kernel_rfl
 t77:=Tryz.underlying402
 a77:=Tryz.isAgg402
 z77:=Tryz.sizeOf402
 v77:=Tryz.zeroValue402
 i77:=by kernel_rfl
 t78:=Tryz.underlying386
 a78:=Tryz.isAgg386
 z78:=Tryz.sizeOf386
 v78:=Tryz.zeroValue386
 i78:=by kernel_rfl
 t79:=Tryz.underlying403
 a79:=Tryz.isAgg403
 z79:=Tryz.sizeOf403
 v79:=Tryz.zeroValue403
 i79:=by kernel_rfl
 t80:=Tryz.underlying404
 a80:=Tryz.isAgg404
 z80:=Tryz.sizeOf404
 v80:=Tryz.zeroValue404
 i80:=by kernel_rfl
 t82:=Tryz.underlying406
 a82:=Tryz.isAgg406
 z82:=Tryz.sizeOf406
 v82:=Tryz.zeroValue406
 i82:=by kernel_rfl }
def Tryz.lays264_ren:Go.Shelf.Ren:=⟨fun |264=>163 |n=>n,fun |53=>42 |46=>72 |n=>n,fun |n=>n⟩
theorem Tryz.lays264:Go.Proofs.Lays.n264 Tryz.prog Tryz.lays264_ren:={
 mixed:=by kernel_rfl
 f264:=Tryz.func163.trans (congrArg some (by kernel_rfl))
 t46:=Tryz.underlying72
 a46:=Tryz.isAgg72
 z46:=Tryz.sizeOf72
 v46:=Tryz.zeroValue72
 t53:=Tryz.underlying42
 a53:=Tryz.isAgg42
 z53:=Tryz.sizeOf42
 v53:=Tryz.zeroValue42 }
open Go.RowKit Go.Lib in
theorem Tryz.bits_Mul64(x y:Nat)(hx:x<18446744073709551616)(hy:y<18446744073709551616)(w:World):
  Calls Tryz.prog 163 #[.int .u64 x,.int .u64 y] w fun e w'=>e = .returned (.tuple #[.int .u64 ((x*y/18446744073709551616:Nat):Int),.int .u64 ((x*y%18446744073709551616:Nat):Int)])∧w'=w:=Any.bits_Mul64 Tryz.lays264 x y hx hy w
def Tryz.laysSlJ14_ren:Go.Shelf.Ren:=⟨fun |14=>176 |15=>225 |n=>n,fun |26=>37 |22=>26 |3=>3 |4=>4 |0=>0 |9=>9 |20=>20 |5=>5 |n=>n,fun |n=>n⟩
theorem Tryz.laysSlJ14:Go.Proofs.SlLaysJ.n14 Tryz.prog Tryz.laysSlJ14_ren:={
 mixed:=by kernel_rfl
 f14:=Tryz.func176.trans (congrArg some (by kernel_rfl))
 f15:=Tryz.func225.trans (congrArg some (by kernel_rfl))
 t0:=Tryz.underlying0
 a0:=Tryz.isAgg0
 z0:=Tryz.sizeOf0
 v0:=Tryz.zeroValue0
 t3:=Tryz.underlying3
 a3:=Tryz.isAgg3
 z3:=Tryz.sizeOf3
 v3:=Tryz.zeroValue3
 t4:=Tryz.underlying4
 a4:=Tryz.isAgg4
 z4:=Tryz.sizeOf4
 v4:=Tryz.zeroValue4
 t9:=Tryz.underlying9
 a9:=Tryz.isAgg9
 z9:=Tryz.sizeOf9
 v9:=Tryz.zeroValue9
 t20:=Tryz.underlying20
 a20:=Tryz.isAgg20
 z20:=Tryz.sizeOf20
 v20:=Tryz.zeroValue20
 t22:=Tryz.underlying26
 a22:=Tryz.isAgg26
 z22:=Tryz.sizeOf26
 v22:=Tryz.zeroValue26
 t26:=Tryz.underlying37
 a26:=Tryz.isAgg37
 z26:=Tryz.sizeOf37
 v26:=Tryz.zeroValue37
 t5:=Tryz.underlying5
 z5:=Tryz.sizeOf5
 i5:=by kernel_rfl }
open Go.RowKit Go.Lib in
theorem Tryz.bytes_Join_many(b o n c:Nat)(vs:List Value)(ls:List (List UInt8))(sv:Value)(sep:List UInt8)(w:World)(hn:ls.length=n)(h2:2≤n)(hP:Lib.PartsAt w ⟨b,o,none⟩ vs ls)(hcap:n≤c)(hS:Lib.HoldsBytes w sv sep)(hn47:n≤140737488355328)(hlen:Lib.lens ls+sep.length*(n-1)≤140737488355328):
  Calls Tryz.prog 176 #[.slice (some ⟨b,o,none⟩) n c,sv] w fun e w'=>∃v',e = .returned v'∧Lib.FreshBytes w.heap.size w' v' (Lib.join ls sep)∧Below w.heap.size w w':=Any.bytes_Join_many Tryz.laysSlJ14 b o n c vs ls sv sep w hn h2 hP hcap hS hn47 hlen
end Go.Proofs
