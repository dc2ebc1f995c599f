import Derived.Ground.GgsProg
import Derived.Ground.MpProg
import Derived.Lib.BytesEntry
import Derived.Shelf.GgSortFunc.Compose
import Derived.Shelf.GgSortFunc.Insertion
import Derived.Shelf.GgSortFunc.InsertionK
import Derived.Shelf.GgSortFunc.LotD
import Derived.Shelf.GgSortFunc.Small
import Derived.Shelf.GgSortFunc.SmallK
import Derived.Shelf.GgSortFunc.Tiny
import Derived.Shelf.LaysM
import Derived.Shelf.Pu.ErrVarParseUint
import Derived.Shelf.Pu.ParseUintPublic10
import Derived.Shelf.SlSortFunc.Xorshift
import Derived.Shelf.SlSortFuncK.ComposeK
import Derived.Shelf.SlSortFuncK.HeapSortK
import Derived.Shelf.SlSortFuncK.LotDK
import Derived.Shelf.SlSortFuncK.PartialInsertionK
import Derived.Shelf.SlSortFuncK.PartitionK
import Derived.Shelf.SlSortFuncK.PdqK
import Derived.Shelf.SlSortFuncK.PivotK
import Derived.Shelf.SlSortFuncK.SiftDownK
import Derived.Shelf.SlSortFuncK.WholeK
import Derived.Shelf.Small.Bits
import Derived.Shelf.Small.Strs
import Derived.Shelf.Small.Utf8
import Derived.Shelf.Small.Wraps
import Derived.Shelf.Strconv.AppendInt10
import Derived.Shelf.Strconv.AppendUint10
import Derived.Shelf.Strconv.Itoa0
import Derived.Shelf.Strconv.Itoa1
import Derived.Shelf.Strconv.Itoa2
import Derived.Shelf.Strconv.Lower
import Derived.Shelf.Strconv.ParseUint10
import Derived.Shelf.Strconv.ParseUint10At
import Derived.Shelf.Strconv.ParseUint10b16
import Derived.Shelf.Strconv.ParseUint10b32
import Derived.Shelf.Strconv.ParseUint10b64
import Derived.Shelf.Strconv.ParseUint10b8
import Derived.Shelf.Strconv.ParseUintEmpty
import Derived.Shelf.Strings.AsciiSet
import Derived.Shelf.Strings.Cut
import Derived.Shelf.Strings.Prefix
import Derived.Shelf.Strings.Runes
import Derived.Shelf.Strings.Search1
import Derived.Shelf.Strings.Search2
import Derived.Shelf.Strings.Shaped
import Derived.Shelf.Strings.SlTrimAscii
import Derived.Shelf.Strings.Trim
import Derived.Shelf.Unicode.Decode
import Derived.Shelf.Unicode.DecodeSlow
import Derived.Test.YthejfljhiaeoeaaGreatDoorZr
import Derived.Test.YthejfljhiaeoeaaGreatDoorProg
import Derived.Test.YthejfljhiaeoeaaGreatDoorZi
import Derived.Test.YthejfljhiaeoeaaGreatDoorZt
namespace Go.Proofs
open Go.Shelf
def Tryz.lays283_ren:Go.Shelf.Ren:=⟨fun |283=>191 |n=>n,fun |3=>3 |9=>9 |4=>4 |n=>n,fun |n=>n⟩
theorem Tryz.lays283:Go.Proofs.Lays.n283 Tryz.prog Tryz.lays283_ren:={
 mixed:=by kernel_rfl
 f283:=Tryz.func191.trans (congrArg some (by kernel_rfl))
 t3:=Tryz.underlying3
 a3:=Tryz.isAgg3
 z3:=Tryz.sizeOf3
 v3:=Tryz.zeroValue3
 t4:=Tryz.underlying4
 a4:=Tryz.isAgg4
 z4:=Tryz.sizeOf4
 v4:=Tryz.zeroValue4
 t9:=Tryz.underlying9
 a9:=Tryz.isAgg9
 z9:=Tryz.sizeOf9
 v9:=Tryz.zeroValue9 }
open Go.Lib in
theorem Tryz.internal_strconv_small(i:Nat)(h:i<100)(w:World):
  Calls Tryz.prog 191 #[.int .i64 i] w fun e w'=>e = .returned (.string ⟨(Lib.decDigits i).toArray⟩)∧w'=w:=Any.internal_strconv_small Tryz.lays283 i h w
def Tryz.laysPu14_ren:Go.Shelf.Ren:=⟨fun |14=>132 |16=>162 |17=>163 |19=>205 |20=>206 |21=>207 |22=>208 |23=>209 |24=>210 |25=>231 |27=>233 |26=>232 |28=>246 |29=>252 |30=>191 |31=>192 |32=>193 |33=>194 |35=>179 |34=>220 |36=>221 |37=>222 |38=>223 |39=>237 |40=>238 |n=>n,fun |9=>9 |3=>3 |22=>33 |24=>193 |25=>194 |4=>4 |34=>276 |5=>5 |36=>82 |37=>25 |0=>0 |39=>277 |21=>21 |44=>301 |47=>307 |50=>310 |48=>308 |2=>2 |52=>264 |55=>266 |59=>290 |60=>225 |20=>20 |61=>291 |65=>315 |66=>316 |67=>191 |n=>n,fun |0=>6 |1=>7 |2=>5 |3=>8 |4=>9 |n=>n⟩
theorem Tryz.laysPu14:Go.Proofs.LaysPu.n14 Tryz.prog Tryz.laysPu14_ren:={
 mixed:=by kernel_rfl
 f14:=Tryz.func132.trans (congrArg some (by kernel_rfl))
 f16:=Tryz.func162.trans (congrArg some (by kernel_rfl))
 f17:=Tryz.func163.trans (congrArg some (by kernel_rfl))
 f19:=Tryz.func205.trans (congrArg some (by kernel_rfl))
 f20:=Tryz.func206.trans (congrArg some (by kernel_rfl))
 f21:=Tryz.func207.trans (congrArg some (by kernel_rfl))
 f22:=Tryz.func208.trans (congrArg some (by kernel_rfl))
 f23:=Tryz.func209.trans (congrArg some (by kernel_rfl))
 f24:=Tryz.func210.trans (congrArg some (by kernel_rfl))
 f25:=Tryz.func231.trans (congrArg some (by kernel_rfl))
 f26:=Tryz.func232.trans (congrArg some (by kernel_rfl))
 f27:=Tryz.func233.trans (congrArg some (by kernel_rfl))
 f28:=Tryz.func246.trans (congrArg some (by kernel_rfl))
 f29:=Tryz.func252.trans (congrArg some (by kernel_rfl))
 f30:=Tryz.func191.trans (congrArg some (by kernel_rfl))
 f31:=Tryz.func192.trans (congrArg some (by kernel_rfl))
 f32:=Tryz.func193.trans (congrArg some (by kernel_rfl))
 f33:=Tryz.func194.trans (congrArg some (by kernel_rfl))
 f34:=Tryz.func220.trans (congrArg some (by kernel_rfl))
 f35:=Tryz.func179.trans (congrArg some (by kernel_rfl))
 f36:=Tryz.func221.trans (congrArg some (by kernel_rfl))
 f37:=Tryz.func222.trans (congrArg some (by kernel_rfl))
 f38:=Tryz.func223.trans (congrArg some (by kernel_rfl))
 f39:=Tryz.func237.trans (congrArg some (by kernel_rfl))
 f40:=Tryz.func238.trans (congrArg some (by kernel_rfl))
 t0:=Tryz.underlying0
 a0:=Tryz.isAgg0
 z0:=Tryz.sizeOf0
 v0:=Tryz.zeroValue0
 i0:=by kernel_rfl
 t2:=Tryz.underlying2
 a2:=Tryz.isAgg2
 z2:=Tryz.sizeOf2
 v2:=Tryz.zeroValue2
 i2:=by kernel_rfl
 t3:=Tryz.underlying3
 a3:=Tryz.isAgg3
 z3:=Tryz.sizeOf3
 v3:=Tryz.zeroValue3
 i3:=by kernel_rfl
 t4:=Tryz.underlying4
 a4:=Tryz.isAgg4
 z4:=Tryz.sizeOf4
 v4:=Tryz.zeroValue4
 i4:=by kernel_rfl
 t5:=Tryz.underlying5
 a5:=Tryz.isAgg5
 z5:=Tryz.sizeOf5
 v5:=Tryz.zeroValue5
 i5:=by kernel_rfl
 t9:=Tryz.underlying9
 a9:=Tryz.isAgg9
 z9:=Tryz.sizeOf9
 v9:=Tryz.zeroValue9
 i9:=by kernel_rfl
 t20:=Tryz.underlying20
 a20:=Tryz.isAgg20
 z20:=Tryz.sizeOf20
 v20:=Tryz.zeroValue20
 i20:=by kernel_rfl
 t21:=Tryz.underlying21
 a21:=Tryz.isAgg21
 z21:=Tryz.sizeOf21
 v21:=Tryz.zeroValue21
 i21:=by kernel_rfl
 t22:=Tryz.underlying33
 a22:=Tryz.isAgg33
 z22:=Tryz.sizeOf33
 v22:=Tryz.zeroValue33
 i22:=by kernel_rfl
 t24:=Tryz.underlying193
 a24:=Tryz.isAgg193
 z24:=Tryz.sizeOf193
 v24:=Tryz.zeroValue193
 i24:=by kernel_rfl
 t25:=Tryz.underlying194
 a25:=Tryz.isAgg194
 z25:=Tryz.sizeOf194
 v25:=Tryz.zeroValue194
 i25:=by kernel_rfl
 t34:=Tryz.underlying276
 a34:=Tryz.isAgg276
 z34:=Tryz.sizeOf276
 v34:=Tryz.zeroValue276
 i34:=by kernel_rfl
 c34:=by kernel_rfl
 t36:=Tryz.underlying82
 a36:=Tryz.isAgg82
 z36:=Tryz.sizeOf82
 v36:=Tryz.zeroValue82
 i36:=by kernel_rfl
 t37:=Tryz.underlying25
 a37:=Tryz.isAgg25
 z37:=Tryz.sizeOf25
 v37:=Tryz.zeroValue25
 i37:=by kernel_rfl
 t39:=Tryz.underlying277
 a39:=Tryz.isAgg277
 z39:=Tryz.sizeOf277
 v39:=Tryz.zeroValue277
 i39:=by kernel_rfl
 t44:=Tryz.underlying301
 a44:=Tryz.isAgg301
 z44:=Tryz.sizeOf301
 v44:=Tryz.zeroValue301
 i44:=by kernel_rfl
 t47:=Tryz.underlying307
 a47:=Tryz.isAgg307
 z47:=Tryz.sizeOf307
 v47:=Tryz.zeroValue307
 i47:=by kernel_rfl
 t48:=Tryz.underlying308
 a48:=Tryz.isAgg308
 z48:=Tryz.sizeOf308
 v48:=Tryz.zeroValue308
 i48:=by kernel_rfl
 t50:=Tryz.underlying310
 a50:=Tryz.isAgg310
 z50:=Tryz.sizeOf310
 v50:=Tryz.zeroValue310
 i50:=by kernel_rfl
 t52:=Tryz.underlying264
 a52:=Tryz.isAgg264
 z52:=Tryz.sizeOf264
 v52:=Tryz.zeroValue264
 i52:=by kernel_rfl
 t55:=Tryz.underlying266
 a55:=Tryz.isAgg266
 z55:=Tryz.sizeOf266
 v55:=Tryz.zeroValue266
 i55:=by kernel_rfl
 t59:=Tryz.underlying290
 a59:=Tryz.isAgg290
 z59:=Tryz.sizeOf290
 v59:=Tryz.zeroValue290
 i59:=by kernel_rfl
 t60:=Tryz.underlying225
 a60:=Tryz.isAgg225
 z60:=Tryz.sizeOf225
 v60:=Tryz.zeroValue225
 i60:=by kernel_rfl
 t61:=Tryz.underlying291
 a61:=Tryz.isAgg291
 z61:=Tryz.sizeOf291
 t65:=Tryz.underlying315
 a65:=Tryz.isAgg315
 z65:=Tryz.sizeOf315
 v65:=Tryz.zeroValue315
 i65:=by kernel_rfl
 t66:=Tryz.underlying316
 a66:=Tryz.isAgg316
 z66:=Tryz.sizeOf316
 v66:=Tryz.zeroValue316
 i66:=by kernel_rfl
 t67:=Tryz.underlying191
 a67:=Tryz.isAgg191
 z67:=Tryz.sizeOf191
 v67:=Tryz.zeroValue191
 i67:=by kernel_rfl
 g0:=by kernel_rfl
 m0:=by kernel_rfl
 g1:=by kernel_rfl
 m1:=by kernel_rfl
 g2:=by kernel_rfl
 m2:=by kernel_rfl
 g3:=by kernel_rfl
 m3:=by kernel_rfl
 g4:=by kernel_rfl
 m4:=by kernel_rfl }
open Go.RowKit in
theorem Tryz.strconv_ParseUint_10_at64_ok(s:ByteArray)(hmax:s.size≤9223372036854775806)(u:Nat)(h:Lib.parseUintB 64 s.data.toList = .ok u)(w:World):
  Calls Tryz.prog 132 #[.string s,.int .i64 10,.int .i64 64] w fun e w'=>e = .returned (.tuple #[.int .u64 u,.nilIface])∧(w'=w∨w'=Lib.bytesWorld w 5 s):=Any.strconv_ParseUint_10_at64_ok Tryz.laysPu14 s hmax u h w
def Tryz.laysGg6_ren:Go.Shelf.Ren:=⟨fun |6=>115 |10=>143 |11=>144 |12=>145 |13=>146 |14=>147 |24=>178 |25=>179 |26=>180 |27=>181 |28=>182 |29=>183 |30=>184 |31=>185 |32=>186 |33=>187 |34=>212 |35=>213 |36=>214 |37=>215 |38=>216 |39=>234 |n=>n,fun |20=>20 |26=>176 |35=>212 |0=>0 |37=>214 |3=>3 |41=>82 |44=>220 |49=>225 |51=>33 |4=>4 |54=>255 |53=>254 |58=>259 |5=>5 |9=>9 |60=>281 |64=>284 |66=>303 |67=>304 |17=>17 |32=>209 |33=>210 |82=>333 |12=>12 |75=>327 |76=>328 |77=>329 |78=>307 |79=>330 |80=>331 |n=>n,fun |n=>n⟩
theorem Tryz.laysGg6:Go.Proofs.LaysGg.n6 Tryz.prog Tryz.laysGg6_ren:={
 mixed:=by kernel_rfl
 f6:=Tryz.func115.trans (congrArg some (by kernel_rfl))
 f10:=Tryz.func143.trans (congrArg some (by kernel_rfl))
 f11:=Tryz.func144.trans (congrArg some (by kernel_rfl))
 f12:=Tryz.func145.trans (congrArg some (by kernel_rfl))
 f13:=Tryz.func146.trans (congrArg some (by kernel_rfl))
 f14:=Tryz.func147.trans (congrArg some (by kernel_rfl))
 f24:=Tryz.func178.trans (congrArg some (by kernel_rfl))
 f25:=Tryz.func179.trans (congrArg some (by kernel_rfl))
 f26:=Tryz.func180.trans (congrArg some (by kernel_rfl))
 f27:=Tryz.func181.trans (congrArg some (by kernel_rfl))
 f28:=Tryz.func182.trans (congrArg some (by kernel_rfl))
 f29:=Tryz.func183.trans (congrArg some (by kernel_rfl))
 f30:=Tryz.func184.trans (congrArg some (by kernel_rfl))
 f31:=Tryz.func185.trans (congrArg some (by kernel_rfl))
 f32:=Tryz.func186.trans (congrArg some (by kernel_rfl))
 f33:=Tryz.func187.trans (congrArg some (by kernel_rfl))
 f34:=Tryz.func212.trans (congrArg some (by kernel_rfl))
 f35:=Tryz.func213.trans (congrArg some (by kernel_rfl))
 f36:=Tryz.func214.trans (congrArg some (by kernel_rfl))
 f37:=Tryz.func215.trans (congrArg some (by kernel_rfl))
 f38:=Tryz.func216.trans (congrArg some (by kernel_rfl))
 f39:=Tryz.func234.trans (congrArg some (by kernel_rfl))
 t0:=Tryz.underlying0
 a0:=Tryz.isAgg0
 z0:=Tryz.sizeOf0
 v0:=Tryz.zeroValue0
 i0:=by kernel_rfl
 t3:=Tryz.underlying3
 a3:=Tryz.isAgg3
 z3:=Tryz.sizeOf3
 v3:=Tryz.zeroValue3
 i3:=by kernel_rfl
 t4:=Tryz.underlying4
 a4:=Tryz.isAgg4
 z4:=Tryz.sizeOf4
 v4:=Tryz.zeroValue4
 i4:=by kernel_rfl
 t5:=Tryz.underlying5
 a5:=Tryz.isAgg5
 z5:=Tryz.sizeOf5
 v5:=Tryz.zeroValue5
 i5:=by kernel_rfl
 t9:=Tryz.underlying9
 a9:=Tryz.isAgg9
 z9:=Tryz.sizeOf9
 v9:=Tryz.zeroValue9
 i9:=by kernel_rfl
 t12:=Tryz.underlying12
 a12:=Tryz.isAgg12
 z12:=Tryz.sizeOf12
 v12:=Tryz.zeroValue12
 i12:=by kernel_rfl
 t17:=Tryz.underlying17
 a17:=Tryz.isAgg17
 z17:=Tryz.sizeOf17
 v17:=Tryz.zeroValue17
 i17:=by kernel_rfl
 t20:=Tryz.underlying20
 a20:=Tryz.isAgg20
 z20:=Tryz.sizeOf20
 v20:=Tryz.zeroValue20
 i20:=by kernel_rfl
 t26:=Tryz.underlying176
 a26:=Tryz.isAgg176
 z26:=Tryz.sizeOf176
 v26:=Tryz.zeroValue176
 i26:=by kernel_rfl
 t32:=Tryz.underlying209
 a32:=Tryz.isAgg209
 z32:=Tryz.sizeOf209
 v32:=Tryz.zeroValue209
 i32:=by kernel_rfl
 t33:=Tryz.underlying210
 a33:=Tryz.isAgg210
 z33:=Tryz.sizeOf210
 v33:=Tryz.zeroValue210
 i33:=by kernel_rfl
 t35:=Tryz.underlying212
 a35:=Tryz.isAgg212
 z35:=Tryz.sizeOf212
 v35:=Tryz.zeroValue212
 i35:=by kernel_rfl
 t37:=Tryz.underlying214
 a37:=Tryz.isAgg214
 z37:=Tryz.sizeOf214
 v37:=Tryz.zeroValue214
 i37:=by kernel_rfl
 t41:=Tryz.underlying82
 a41:=Tryz.isAgg82
 z41:=Tryz.sizeOf82
 v41:=Tryz.zeroValue82
 i41:=by kernel_rfl
 t44:=Tryz.underlying220
 a44:=Tryz.isAgg220
 z44:=Tryz.sizeOf220
 v44:=Tryz.zeroValue220
 i44:=by kernel_rfl
 t49:=Tryz.underlying225
 a49:=Tryz.isAgg225
 z49:=Tryz.sizeOf225
 v49:=Tryz.zeroValue225
 i49:=by kernel_rfl
 t51:=Tryz.underlying33
 a51:=Tryz.isAgg33
 z51:=Tryz.sizeOf33
 v51:=Tryz.zeroValue33
 i51:=by kernel_rfl
 t53:=Tryz.underlying254
 a53:=Tryz.isAgg254
 z53:=Tryz.sizeOf254
 v53:=Tryz.zeroValue254
 i53:=by kernel_rfl
 t54:=Tryz.underlying255
 a54:=Tryz.isAgg255
 z54:=Tryz.sizeOf255
 v54:=Tryz.zeroValue255
 i54:=by kernel_rfl
 t58:=Tryz.underlying259
 a58:=Tryz.isAgg259
 z58:=Tryz.sizeOf259
 v58:=Tryz.zeroValue259
 i58:=by kernel_rfl
 t60:=Tryz.underlying281
 a60:=Tryz.isAgg281
 z60:=Tryz.sizeOf281
 v60:=Tryz.zeroValue281
 i60:=by kernel_rfl
 t64:=Tryz.underlying284
 a64:=Tryz.isAgg284
 z64:=Tryz.sizeOf284
 v64:=Tryz.zeroValue284
 i64:=by kernel_rfl
 t66:=Tryz.underlying303
 a66:=Tryz.isAgg303
 z66:=Tryz.sizeOf303
 v66:=Tryz.zeroValue303
 i66:=by kernel_rfl
 t67:=Tryz.underlying304
 a67:=Tryz.isAgg304
 z67:=Tryz.sizeOf304
 v67:=Tryz.zeroValue304
 i67:=by kernel_rfl
 t75:=Tryz.underlying327
 a75:=Tryz.isAgg327
 z75:=Tryz.sizeOf327
 v75:=Tryz.zeroValue327
 i75:=by kernel_rfl
 t76:=Tryz.underlying328
 a76:=Tryz.isAgg328
 z76:=Tryz.sizeOf328
 v76:=Tryz.zeroValue328
 i76:=by kernel_rfl
 t77:=Tryz.underlying329
 a77:=Tryz.isAgg329
 z77:=Tryz.sizeOf329
 v77:=Tryz.zeroValue329
 i77:=by kernel_rfl
 t78:=Tryz.underlying307
 a78:=Tryz.isAgg307
 z78:=Tryz.sizeOf307
 v78:=Tryz.zeroValue307
 i78:=by kernel_rfl
 t79:=Tryz.underlying330
 a79:=Tryz.isAgg330
 z79:=Tryz.sizeOf330
 v79:=Tryz.zeroValue330
 i79:=by kernel_rfl
 t80:=Tryz.underlying331
 a80:=Tryz.isAgg331
 z80:=Tryz.sizeOf331
 v80:=Tryz.zeroValue331
 i80:=by kernel_rfl
 t82:=Tryz.underlying333
 a82:=Tryz.isAgg333
 z82:=Tryz.sizeOf333
 v82:=Tryz.zeroValue333
 i82:=by kernel_rfl }
end Go.Proofs
