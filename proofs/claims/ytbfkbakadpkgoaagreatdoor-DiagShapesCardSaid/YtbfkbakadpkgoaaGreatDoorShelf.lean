/-
  Contracts of the library, laid on this program: one application each. No condition.
-/
import Derived.Ground.MpProg
import Derived.Lib.BytesEntry
import Derived.Shelf.LaysM
import Derived.Shelf.Pu.ErrVarParseUint
import Derived.Shelf.Pu.ParseUintPublic10
import Derived.Shelf.Small.Strs
import Derived.Shelf.Small.Utf8
import Derived.Shelf.Small.Wraps
import Derived.Shelf.Strconv.AppendInt10
import Derived.Shelf.Strconv.AppendUint10
import Derived.Shelf.Strconv.Itoa0
import Derived.Shelf.Strconv.Itoa1
import Derived.Shelf.Strconv.Itoa2
import Derived.Shelf.Strconv.Lower
import Derived.Shelf.Strconv.ParseUint10
import Derived.Shelf.Strconv.ParseUint10At
import Derived.Shelf.Strconv.ParseUint10b16
import Derived.Shelf.Strconv.ParseUint10b32
import Derived.Shelf.Strconv.ParseUint10b64
import Derived.Shelf.Strconv.ParseUint10b8
import Derived.Shelf.Strconv.ParseUintEmpty
import Derived.Shelf.Strings.AsciiSet
import Derived.Shelf.Strings.Cut
import Derived.Shelf.Strings.Prefix
import Derived.Shelf.Strings.Runes
import Derived.Shelf.Strings.Search1
import Derived.Shelf.Strings.Search2
import Derived.Shelf.Strings.Shaped
import Derived.Shelf.Strings.SlTrimAscii
import Derived.Shelf.Strings.Trim
import Derived.Shelf.Unicode.Decode
import Derived.Shelf.Unicode.DecodeSlow
import Derived.Test.YtbfkbakadpkgoaaGreatDoorFlt
import Derived.Test.YtbfkbakadpkgoaaGreatDoorProg
import Derived.Test.YtbfkbakadpkgoaaGreatDoorPuH
namespace Go.Proofs
open Go.Shelf
def Tryz.lays160_ren : Go.Shelf.Ren := ⟨fun | 160 => 69 | 232 => 89 | 231 => 88 | 227 => 90 | 234 => 92 | 233 => 91 | 236 => 94 | 235 => 93 | 228 => 114 | 271 => 117 | 151 => 116 | 197 => 115 | 120 => 127 | 152 => 126 | 260 => 125 | 137 => 87 | 119 => 132 | 224 => 129 | 225 => 128 | 217 => 113 | 266 => 124 | n => n, fun | 9 => 9 | 4 => 4 | 3 => 3 | 5 => 5 | 117 => 126 | 116 => 125 | 0 => 0 | 124 => 129 | 21 => 21 | 105 => 148 | 46 => 65 | 119 => 118 | 139 => 121 | 138 => 120 | n => n, fun | 3 => 1 | 4 => 2 | n => n⟩
theorem Tryz.lays160 : Go.Proofs.Lays.n160 Tryz.prog Tryz.lays160_ren := {
 mixed := by kernel_rfl
 f119 := Tryz.func132.trans (congrArg some (by kernel_rfl))
 f120 := Tryz.func127.trans (congrArg some (by kernel_rfl))
 f137 := Tryz.func87.trans (congrArg some (by kernel_rfl))
 f151 := Tryz.func116.trans (congrArg some (by kernel_rfl))
 f152 := Tryz.func126.trans (congrArg some (by kernel_rfl))
 f160 := Tryz.func69.trans (congrArg some (by kernel_rfl))
 f197 := Tryz.func115.trans (congrArg some (by kernel_rfl))
 f217 := Tryz.func113.trans (congrArg some (by kernel_rfl))
 f224 := Tryz.func129.trans (congrArg some (by kernel_rfl))
 f225 := Tryz.func128.trans (congrArg some (by kernel_rfl))
 f227 := Tryz.func90.trans (congrArg some (by kernel_rfl))
 f228 := Tryz.func114.trans (congrArg some (by kernel_rfl))
 f231 := Tryz.func88.trans (congrArg some (by kernel_rfl))
 f232 := Tryz.func89.trans (congrArg some (by kernel_rfl))
 f233 := Tryz.func91.trans (congrArg some (by kernel_rfl))
 f234 := Tryz.func92.trans (congrArg some (by kernel_rfl))
 f235 := Tryz.func93.trans (congrArg some (by kernel_rfl))
 f236 := Tryz.func94.trans (congrArg some (by kernel_rfl))
 f260 := Tryz.func125.trans (congrArg some (by kernel_rfl))
 f266 := Tryz.func124.trans (congrArg some (by kernel_rfl))
 f271 := Tryz.func117.trans (congrArg some (by kernel_rfl))
 t0 := Tryz.underlying0
 a0 := Tryz.isAgg0
 z0 := Tryz.sizeOf0
 v0 := Tryz.zeroValue0
 t3 := Tryz.underlying3
 a3 := Tryz.isAgg3
 z3 := Tryz.sizeOf3
 v3 := Tryz.zeroValue3
 t4 := Tryz.underlying4
 a4 := Tryz.isAgg4
 z4 := Tryz.sizeOf4
 v4 := Tryz.zeroValue4
 t5 := Tryz.underlying5
 a5 := Tryz.isAgg5
 z5 := Tryz.sizeOf5
 v5 := Tryz.zeroValue5
 t9 := Tryz.underlying9
 a9 := Tryz.isAgg9
 z9 := Tryz.sizeOf9
 v9 := Tryz.zeroValue9
 t21 := Tryz.underlying21
 a21 := Tryz.isAgg21
 z21 := Tryz.sizeOf21
 v21 := Tryz.zeroValue21
 t46 := Tryz.underlying65
 a46 := Tryz.isAgg65
 z46 := Tryz.sizeOf65
 v46 := Tryz.zeroValue65
 t105 := Tryz.underlying148
 a105 := Tryz.isAgg148
 z105 := Tryz.sizeOf148
 v105 := Tryz.zeroValue148
 t116 := Tryz.underlying125
 a116 := Tryz.isAgg125
 z116 := Tryz.sizeOf125
 t117 := Tryz.underlying126
 a117 := Tryz.isAgg126
 z117 := Tryz.sizeOf126
 v117 := Tryz.zeroValue126
 t119 := Tryz.underlying118
 a119 := Tryz.isAgg118
 z119 := Tryz.sizeOf118
 t124 := Tryz.underlying129
 a124 := Tryz.isAgg129
 z124 := Tryz.sizeOf129
 v124 := Tryz.zeroValue129
 t138 := Tryz.underlying120
 a138 := Tryz.isAgg120
 z138 := Tryz.sizeOf120
 v138 := Tryz.zeroValue120
 t139 := Tryz.underlying121
 a139 := Tryz.isAgg121
 z139 := Tryz.sizeOf121
 v139 := Tryz.zeroValue121
 g3 := by kernel_rfl
 g4 := by kernel_rfl }
def Tryz.lays137_ren : Go.Shelf.Ren := ⟨fun | 137 => 87 | 217 => 113 | 266 => 124 | n => n, fun | 9 => 9 | 5 => 5 | 3 => 3 | n => n, fun | n => n⟩
theorem Tryz.lays137 : Go.Proofs.Lays.n137 Tryz.prog Tryz.lays137_ren := {
 mixed := by kernel_rfl
 f137 := Tryz.func87.trans (congrArg some (by kernel_rfl))
 f217 := Tryz.func113.trans (congrArg some (by kernel_rfl))
 f266 := Tryz.func124.trans (congrArg some (by kernel_rfl))
 t3 := Tryz.underlying3
 a3 := Tryz.isAgg3
 z3 := Tryz.sizeOf3
 v3 := Tryz.zeroValue3
 t5 := Tryz.underlying5
 a5 := Tryz.isAgg5
 z5 := Tryz.sizeOf5
 v5 := Tryz.zeroValue5
 t9 := Tryz.underlying9
 a9 := Tryz.isAgg9
 z9 := Tryz.sizeOf9
 v9 := Tryz.zeroValue9 }
open Go.RowKit in
theorem Tryz.strings_IndexByte (s : ByteArray) (c : Int) (w : World) :
  Calls Tryz.prog 87 #[.string s, .int .u8 c] w fun e w' => e = .returned (.int .i64 (Lib.indexByte s.data.toList c.toNat.toUInt8)) ∧ w' = w := Any.strings_IndexByte Tryz.lays137 s c w
def Tryz.lays283_ren : Go.Shelf.Ren := ⟨fun | 283 => 81 | n => n, fun | 3 => 3 | 9 => 9 | 4 => 4 | n => n, fun | n => n⟩
theorem Tryz.lays283 : Go.Proofs.Lays.n283 Tryz.prog Tryz.lays283_ren := {
 mixed := by kernel_rfl
 f283 := Tryz.func81.trans (congrArg some (by kernel_rfl))
 t3 := Tryz.underlying3
 a3 := Tryz.isAgg3
 z3 := Tryz.sizeOf3
 v3 := Tryz.zeroValue3
 t4 := Tryz.underlying4
 a4 := Tryz.isAgg4
 z4 := Tryz.sizeOf4
 v4 := Tryz.zeroValue4
 t9 := Tryz.underlying9
 a9 := Tryz.isAgg9
 z9 := Tryz.sizeOf9
 v9 := Tryz.zeroValue9 }
open Go.Lib in
theorem Tryz.internal_strconv_small (i : Nat) (h : i < 100) (w : World) :
  Calls Tryz.prog 81 #[.int .i64 i] w fun e w' => e = .returned (.string ⟨(Lib.decDigits i).toArray⟩) ∧ w' = w := Any.internal_strconv_small Tryz.lays283 i h w
def Tryz.laysM284_ren : Go.Shelf.Ren := ⟨fun | 284 => 82 | 129 => 108 | 317 => 107 | 318 => 109 | n => n, fun | 53 => 22 | 3 => 3 | 212 => 142 | 0 => 0 | 4 => 4 | 46 => 65 | 5 => 5 | 9 => 9 | n => n, fun | 17 => 4 | n => n⟩
theorem Tryz.laysM284 : Go.Proofs.LaysM.n284 Tryz.prog Tryz.laysM284_ren := {
 mixed := by kernel_rfl
 f129 := Tryz.func108.trans (congrArg some (by kernel_rfl))
 f284 := Tryz.func82.trans (congrArg some (by kernel_rfl))
 f317 := Tryz.func107.trans (congrArg some (by kernel_rfl))
 f318 := Tryz.func109.trans (congrArg some (by kernel_rfl))
 t0 := Tryz.underlying0
 a0 := Tryz.isAgg0
 z0 := Tryz.sizeOf0
 v0 := Tryz.zeroValue0
 t3 := Tryz.underlying3
 a3 := Tryz.isAgg3
 z3 := Tryz.sizeOf3
 v3 := Tryz.zeroValue3
 t4 := Tryz.underlying4
 a4 := Tryz.isAgg4
 z4 := Tryz.sizeOf4
 v4 := Tryz.zeroValue4
 t5 := Tryz.underlying5
 a5 := Tryz.isAgg5
 z5 := Tryz.sizeOf5
 v5 := Tryz.zeroValue5
 t9 := Tryz.underlying9
 a9 := Tryz.isAgg9
 z9 := Tryz.sizeOf9
 v9 := Tryz.zeroValue9
 t46 := Tryz.underlying65
 a46 := Tryz.isAgg65
 z46 := Tryz.sizeOf65
 v46 := Tryz.zeroValue65
 t53 := Tryz.underlying22
 a53 := Tryz.isAgg22
 z53 := Tryz.sizeOf22
 v53 := Tryz.zeroValue22
 t212 := Tryz.underlying142
 a212 := Tryz.isAgg142
 z212 := Tryz.sizeOf142
 v212 := Tryz.zeroValue142
 g17 := by kernel_rfl
 i0 := by kernel_rfl
 i3 := by kernel_rfl
 i4 := by kernel_rfl
 i5 := by kernel_rfl
 i9 := by kernel_rfl
 i46 := by kernel_rfl
 i53 := by kernel_rfl
 i212 := by kernel_rfl
 m17 := by kernel_rfl }
open Go.Lib in
theorem Tryz.internal_strconv_numDigits (u : Nat) (h1 : 1 ≤ u) (h2 : u < 18446744073709551616) (w : World) (htab : Lib.TabIs Tryz.prog w "internal/strconv.uint64pow10" .u64 Lib.pow10Tab) :
  Calls Tryz.prog 82 #[.int .u64 u] w fun e w' => e = .returned (.int .i64 (Lib.nDigits u)) ∧ w' = w := Any.internal_strconv_numDigits Tryz.laysM284 u h1 h2 w htab
def Tryz.lays285_ren : Go.Shelf.Ren := ⟨fun | 285 => 83 | n => n, fun | 37 => 23 | 53 => 22 | 3 => 3 | 4 => 4 | 51 => 136 | 9 => 9 | 5 => 5 | 0 => 0 | n => n, fun | n => n⟩
theorem Tryz.lays285 : Go.Proofs.Lays.n285 Tryz.prog Tryz.lays285_ren := {
 mixed := by kernel_rfl
 f285 := Tryz.func83.trans (congrArg some (by kernel_rfl))
 t0 := Tryz.underlying0
 a0 := Tryz.isAgg0
 z0 := Tryz.sizeOf0
 v0 := Tryz.zeroValue0
 t3 := Tryz.underlying3
 a3 := Tryz.isAgg3
 z3 := Tryz.sizeOf3
 v3 := Tryz.zeroValue3
 t4 := Tryz.underlying4
 a4 := Tryz.isAgg4
 z4 := Tryz.sizeOf4
 v4 := Tryz.zeroValue4
 t5 := Tryz.underlying5
 a5 := Tryz.isAgg5
 z5 := Tryz.sizeOf5
 v5 := Tryz.zeroValue5
 t9 := Tryz.underlying9
 a9 := Tryz.isAgg9
 z9 := Tryz.sizeOf9
 v9 := Tryz.zeroValue9
 t37 := Tryz.underlying23
 a37 := Tryz.isAgg23
 z37 := Tryz.sizeOf23
 v37 := Tryz.zeroValue23
 t51 := Tryz.underlying136
 a51 := Tryz.isAgg136
 z51 := Tryz.sizeOf136
 v51 := Tryz.zeroValue136
 t53 := Tryz.underlying22
 a53 := Tryz.isAgg22
 z53 := Tryz.sizeOf22
 v53 := Tryz.zeroValue22 }
open Go.RowKit Go.Sort Go.Lib in
theorem Tryz.internal_strconv_formatBase10 (blk off cap : Nat) (u : Nat) (d : Array UInt8) (w : World) (hH : Holds (fun (b : UInt8) => Value.int .u8 (b.toNat : Int)) w blk off d) (hu : u < 10 ^ d.size) (hu64 : u < 18446744073709551616) (hsz : d.size < 4611686018427387904) :
  Calls Tryz.prog 83 #[.slice (some ⟨blk, off, none⟩) d.size cap, .int .u64 u] w fun e w' =>
   e = .returned (.tuple #[]) ∧ ∃ (n v' : Nat) (dk : Array UInt8), w' = (putRow (fun (b : UInt8) => Value.int .u8 (b.toNat : Int)) w blk off dk).drewN n ∧ FmtInv d.size u 0 v' dk := Any.internal_strconv_formatBase10 Tryz.lays285 blk off cap u d w hH hu hu64 hsz
def Tryz.laysPu14_ren : Go.Shelf.Ren := ⟨fun | 14 => 53 | 16 => 71 | 17 => 72 | 19 => 96 | 20 => 97 | 21 => 98 | 22 => 99 | 23 => 100 | 24 => 101 | 25 => 119 | 27 => 121 | 26 => 120 | 28 => 131 | 29 => 134 | 30 => 81 | 31 => 82 | 32 => 83 | 33 => 84 | 35 => 108 | 34 => 107 | 36 => 109 | 37 => 110 | 38 => 111 | 39 => 122 | 40 => 123 | n => n, fun | 9 => 9 | 3 => 3 | 22 => 22 | 24 => 84 | 25 => 85 | 4 => 4 | 34 => 130 | 5 => 5 | 36 => 65 | 37 => 23 | 0 => 0 | 39 => 131 | 21 => 21 | 44 => 154 | 47 => 158 | 50 => 161 | 48 => 159 | 2 => 2 | 52 => 112 | 55 => 115 | 59 => 142 | 60 => 136 | 20 => 20 | 61 => 143 | 65 => 162 | 66 => 163 | 67 => 82 | n => n, fun | 0 => 5 | 1 => 6 | 2 => 4 | 3 => 8 | 4 => 9 | n => n⟩
theorem Tryz.laysPu14 : Go.Proofs.LaysPu.n14 Tryz.prog Tryz.laysPu14_ren := {
 mixed := by kernel_rfl
 f14 := Tryz.func53.trans (congrArg some (by kernel_rfl))
 f16 := Tryz.func71.trans (congrArg some (by kernel_rfl))
 f17 := Tryz.func72.trans (congrArg some (by kernel_rfl))
 f19 := Tryz.func96.trans (congrArg some (by kernel_rfl))
 f20 := Tryz.func97.trans (congrArg some (by kernel_rfl))
 f21 := Tryz.func98.trans (congrArg some (by kernel_rfl))
 f22 := Tryz.func99.trans (congrArg some (by kernel_rfl))
 f23 := Tryz.func100.trans (congrArg some (by kernel_rfl))
 f24 := Tryz.func101.trans (congrArg some (by kernel_rfl))
 f25 := Tryz.func119.trans (congrArg some (by kernel_rfl))
 f26 := Tryz.func120.trans (congrArg some (by kernel_rfl))
 f27 := Tryz.func121.trans (congrArg some (by kernel_rfl))
 f28 := Tryz.func131.trans (congrArg some (by kernel_rfl))
 f29 := Tryz.func134.trans (congrArg some (by kernel_rfl))
 f30 := Tryz.func81.trans (congrArg some (by kernel_rfl))
 f31 := Tryz.func82.trans (congrArg some (by kernel_rfl))
 f32 := Tryz.func83.trans (congrArg some (by kernel_rfl))
 f33 := Tryz.func84.trans (congrArg some (by kernel_rfl))
 f34 := Tryz.func107.trans (congrArg some (by kernel_rfl))
 f35 := Tryz.func108.trans (congrArg some (by kernel_rfl))
 f36 := Tryz.func109.trans (congrArg some (by kernel_rfl))
 f37 := Tryz.func110.trans (congrArg some (by kernel_rfl))
 f38 := Tryz.func111.trans (congrArg some (by kernel_rfl))
 f39 := Tryz.func122.trans (congrArg some (by kernel_rfl))
 f40 := Tryz.func123.trans (congrArg some (by kernel_rfl))
 t0 := Tryz.underlying0
 a0 := Tryz.isAgg0
 z0 := Tryz.sizeOf0
 v0 := Tryz.zeroValue0
 i0 := by kernel_rfl
 t2 := Tryz.underlying2
 a2 := Tryz.isAgg2
 z2 := Tryz.sizeOf2
 v2 := Tryz.zeroValue2
 i2 := by kernel_rfl
 t3 := Tryz.underlying3
 a3 := Tryz.isAgg3
 z3 := Tryz.sizeOf3
 v3 := Tryz.zeroValue3
 i3 := by kernel_rfl
 t4 := Tryz.underlying4
 a4 := Tryz.isAgg4
 z4 := Tryz.sizeOf4
 v4 := Tryz.zeroValue4
 i4 := by kernel_rfl
 t5 := Tryz.underlying5
 a5 := Tryz.isAgg5
 z5 := Tryz.sizeOf5
 v5 := Tryz.zeroValue5
 i5 := by kernel_rfl
 t9 := Tryz.underlying9
 a9 := Tryz.isAgg9
 z9 := Tryz.sizeOf9
 v9 := Tryz.zeroValue9
 i9 := by kernel_rfl
 t20 := Tryz.underlying20
 a20 := Tryz.isAgg20
 z20 := Tryz.sizeOf20
 v20 := Tryz.zeroValue20
 i20 := by kernel_rfl
 t21 := Tryz.underlying21
 a21 := Tryz.isAgg21
 z21 := Tryz.sizeOf21
 v21 := Tryz.zeroValue21
 i21 := by kernel_rfl
 t22 := Tryz.underlying22
 a22 := Tryz.isAgg22
 z22 := Tryz.sizeOf22
 v22 := Tryz.zeroValue22
 i22 := by kernel_rfl
 t24 := Tryz.underlying84
 a24 := Tryz.isAgg84
 z24 := Tryz.sizeOf84
 v24 := Tryz.zeroValue84
 i24 := by kernel_rfl
 t25 := Tryz.underlying85
 a25 := Tryz.isAgg85
 z25 := Tryz.sizeOf85
 v25 := Tryz.zeroValue85
 i25 := by kernel_rfl
 t34 := Tryz.underlying130
 a34 := Tryz.isAgg130
 z34 := Tryz.sizeOf130
 v34 := Tryz.zeroValue130
 i34 := by kernel_rfl
 c34 := by kernel_rfl
 t36 := Tryz.underlying65
 a36 := Tryz.isAgg65
 z36 := Tryz.sizeOf65
 v36 := Tryz.zeroValue65
 i36 := by kernel_rfl
 t37 := Tryz.underlying23
 a37 := Tryz.isAgg23
 z37 := Tryz.sizeOf23
 v37 := Tryz.zeroValue23
 i37 := by kernel_rfl
 t39 := Tryz.underlying131
 a39 := Tryz.isAgg131
 z39 := Tryz.sizeOf131
 v39 := Tryz.zeroValue131
 i39 := by kernel_rfl
 t44 := Tryz.underlying154
 a44 := Tryz.isAgg154
 z44 := Tryz.sizeOf154
 v44 := Tryz.zeroValue154
 i44 := by kernel_rfl
 t47 := Tryz.underlying158
 a47 := Tryz.isAgg158
 z47 := Tryz.sizeOf158
 v47 := Tryz.zeroValue158
 i47 := by kernel_rfl
 t48 := Tryz.underlying159
 a48 := Tryz.isAgg159
 z48 := Tryz.sizeOf159
 v48 := Tryz.zeroValue159
 i48 := by kernel_rfl
 t50 := Tryz.underlying161
 a50 := Tryz.isAgg161
 z50 := Tryz.sizeOf161
 v50 := Tryz.zeroValue161
 i50 := by kernel_rfl
 t52 := Tryz.underlying112
 a52 := Tryz.isAgg112
 z52 := Tryz.sizeOf112
 v52 := Tryz.zeroValue112
 i52 := by kernel_rfl
 t55 := Tryz.underlying115
 a55 := Tryz.isAgg115
 z55 := Tryz.sizeOf115
 v55 := Tryz.zeroValue115
 i55 := by kernel_rfl
 t59 := Tryz.underlying142
 a59 := Tryz.isAgg142
 z59 := Tryz.sizeOf142
 v59 := Tryz.zeroValue142
 i59 := by kernel_rfl
 t60 := Tryz.underlying136
 a60 := Tryz.isAgg136
 z60 := Tryz.sizeOf136
 v60 := Tryz.zeroValue136
 i60 := by kernel_rfl
 t61 := Tryz.underlying143
 a61 := Tryz.isAgg143
 z61 := Tryz.sizeOf143
 t65 := Tryz.underlying162
 a65 := Tryz.isAgg162
 z65 := Tryz.sizeOf162
 v65 := Tryz.zeroValue162
 i65 := by kernel_rfl
 t66 := Tryz.underlying163
 a66 := Tryz.isAgg163
 z66 := Tryz.sizeOf163
 v66 := Tryz.zeroValue163
 i66 := by kernel_rfl
 t67 := Tryz.underlying82
 a67 := Tryz.isAgg82
 z67 := Tryz.sizeOf82
 v67 := Tryz.zeroValue82
 i67 := by kernel_rfl
 g0 := by kernel_rfl
 m0 := by kernel_rfl
 g1 := by kernel_rfl
 m1 := by kernel_rfl
 g2 := by kernel_rfl
 m2 := by kernel_rfl
 g3 := by kernel_rfl
 m3 := by kernel_rfl
 g4 := by kernel_rfl
 m4 := by kernel_rfl }
open Go.RowKit in
theorem Tryz.strconv_ParseUint_10_at64_ok (s : ByteArray) (hmax : s.size ≤ 9223372036854775806) (u : Nat) (h : Lib.parseUintB 64 s.data.toList = .ok u) (w : World) :
  Calls Tryz.prog 53 #[.string s, .int .i64 10, .int .i64 64] w fun e w' => e = .returned (.tuple #[.int .u64 u, .nilIface]) ∧ (w' = w ∨ w' = Lib.bytesWorld w 5 s) := Any.strconv_ParseUint_10_at64_ok Tryz.laysPu14 s hmax u h w
open Go.RowKit in
theorem Tryz.strconv_ParseUint_10_at64_syntax (s : ByteArray) (hlim : s.size ≤ 281474976710656) (h : Lib.parseUintB 64 s.data.toList = .syntax) (ev : Value) (w : World) (hv : w.cell? ⟨5, 0, none⟩ = some ev) (hev : ev = .nilIface ∨ ∃ te pe, ev = .iface te pe) :
  Calls Tryz.prog 53 #[.string s, .int .i64 10, .int .i64 64] w fun e w' => ∃ N, e = .returned (.tuple #[.int .u64 0, .iface 131 (.pointer (some ⟨N, 0, none⟩))]) ∧ w.heap.size ≤ N ∧ w'.heap[N]? = some (.cells #[.string ⟨#[80, 97, 114, 115, 101, 85, 105, 110, 116]⟩, .string s, ev] 154 (0, 0)) ∧ Below w.heap.size w w' := Any.strconv_ParseUint_10_at64_syntax Tryz.laysPu14 s hlim h ev w hv hev
open Go.RowKit in
theorem Tryz.strconv_ParseUint_10_at64_range (s : ByteArray) (hlim : s.size ≤ 281474976710656) (h : Lib.parseUintB 64 s.data.toList = .range) (ev : Value) (w : World) (hv : w.cell? ⟨6, 0, none⟩ = some ev) (hev : ev = .nilIface ∨ ∃ te pe, ev = .iface te pe) :
  Calls Tryz.prog 53 #[.string s, .int .i64 10, .int .i64 64] w fun e w' => ∃ N, e = .returned (.tuple #[.int .u64 18446744073709551615, .iface 131 (.pointer (some ⟨N, 0, none⟩))]) ∧ w.heap.size ≤ N ∧ w'.heap[N]? = some (.cells #[.string ⟨#[80, 97, 114, 115, 101, 85, 105, 110, 116]⟩, .string s, ev] 154 (0, 0)) ∧ Below w.heap.size w w' := Any.strconv_ParseUint_10_at64_range Tryz.laysPu14 s hlim h ev w hv hev
def Tryz.lays219_ren : Go.Shelf.Ren := ⟨fun | 219 => 118 | 217 => 113 | 225 => 128 | 224 => 129 | 267 => 130 | 266 => 124 | 314 => 133 | n => n, fun | 9 => 9 | 3 => 3 | 4 => 4 | 5 => 5 | 46 => 65 | 146 => 165 | 51 => 136 | n => n, fun | 1 => 7 | n => n⟩
theorem Tryz.lays219 : Go.Proofs.Lays.n219 Tryz.prog Tryz.lays219_ren := {
 mixed := by kernel_rfl
 f217 := Tryz.func113.trans (congrArg some (by kernel_rfl))
 f219 := Tryz.func118.trans (congrArg some (by kernel_rfl))
 f224 := Tryz.func129.trans (congrArg some (by kernel_rfl))
 f225 := Tryz.func128.trans (congrArg some (by kernel_rfl))
 f266 := Tryz.func124.trans (congrArg some (by kernel_rfl))
 f267 := Tryz.func130.trans (congrArg some (by kernel_rfl))
 f314 := Tryz.func133.trans (congrArg some (by kernel_rfl))
 t3 := Tryz.underlying3
 a3 := Tryz.isAgg3
 z3 := Tryz.sizeOf3
 v3 := Tryz.zeroValue3
 t4 := Tryz.underlying4
 a4 := Tryz.isAgg4
 z4 := Tryz.sizeOf4
 v4 := Tryz.zeroValue4
 t5 := Tryz.underlying5
 a5 := Tryz.isAgg5
 z5 := Tryz.sizeOf5
 v5 := Tryz.zeroValue5
 t9 := Tryz.underlying9
 a9 := Tryz.isAgg9
 z9 := Tryz.sizeOf9
 v9 := Tryz.zeroValue9
 t46 := Tryz.underlying65
 a46 := Tryz.isAgg65
 z46 := Tryz.sizeOf65
 v46 := Tryz.zeroValue65
 t51 := Tryz.underlying136
 a51 := Tryz.isAgg136
 z51 := Tryz.sizeOf136
 v51 := Tryz.zeroValue136
 t146 := Tryz.underlying165
 a146 := Tryz.isAgg165
 z146 := Tryz.sizeOf165
 v146 := Tryz.zeroValue165
 g1 := by kernel_rfl }
open Go.RowKit Go.Lib in
theorem Tryz.stringslite_Index_one (s : ByteArray) (c : UInt8) (w : World) :
  Calls Tryz.prog 118 #[.string s, .string ⟨#[c]⟩] w fun e w' => e = .returned (.int .i64 (Lib.indexByte s.data.toList c)) ∧ w' = w := Any.stringslite_Index_one Tryz.lays219 s c w
end Go.Proofs
