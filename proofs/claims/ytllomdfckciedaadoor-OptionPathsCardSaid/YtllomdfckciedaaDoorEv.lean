import Derived.Test.YtllomdfckciedaaDoorYEn
import Derived.Test.YtllomdfckciedaaDoorProg
namespace Go.Proofs.YtllomdfckciedaaDoor
open Go.Gk Go.RowKit
def codeOf (f : Func) : Code := match f.body with | some c => c | none => .skip
def P_api_Option : PT := .st (.pr (.int .i64) (.sl (.int .u8)))
abbrev S_api_Option := Int × List UInt8
def P_api_Message : PT := .st (.pr (.int .i64) (.pr (.int .i64) (.pr (.int .i64) (.pr (.sl (.int .u8)) (.pr (.sl P_api_Option) (.sl (.int .u8)))))))
abbrev S_api_Message := Int × Int × Int × List UInt8 × List S_api_Option × List UInt8
def P_coresecmake_Deck : PT := .st (.pr (.sl (.int .i64)) (.int .i64))
abbrev S_coresecmake_Deck := List Int × Int
def te3 : TE Tryd.prog := ⟨3, (.int .i64), ⟨fun _ => ⟨fun w => (by kernel_rfl), fun w => (by kernel_rfl)⟩, fun h => (by cases h), fun w => (by kernel_rfl), (show Tryd.prog.underlying 3 = some (.int .i64) by kernel_rfl)⟩⟩
def te5 : TE Tryd.prog := ⟨5, (.int .u8), ⟨fun _ => ⟨fun w => (by kernel_rfl), fun w => (by kernel_rfl)⟩, fun h => (by cases h), fun w => (by kernel_rfl), (show Tryd.prog.underlying 5 = some (.int .u8) by kernel_rfl)⟩⟩
def te9 : TE Tryd.prog := ⟨9, .str, ⟨fun _ => ⟨fun w => (by kernel_rfl), fun w => (by kernel_rfl)⟩, fun h => (by cases h), fun w => (by kernel_rfl), (show Tryd.prog.underlying 9 = some .string by kernel_rfl)⟩⟩
def te22 : TE Tryd.prog := ⟨22, (.sl (.int .i64)), ⟨fun _ => ⟨fun w => (by kernel_rfl), fun w => (by kernel_rfl)⟩, fun h => (by cases h), fun w => (by kernel_rfl), trivial⟩⟩
def te24 : TE Tryd.prog := ⟨24, (.sl (.int .u8)), ⟨fun _ => ⟨fun w => (by kernel_rfl), fun w => (by kernel_rfl)⟩, fun h => (by cases h), fun w => (by kernel_rfl), trivial⟩⟩
def te25 : TE Tryd.prog := ⟨25, (.sl P_api_Option), ⟨fun _ => ⟨fun w => (by kernel_rfl), fun w => (by kernel_rfl)⟩, fun h => (by cases h), fun w => (by kernel_rfl), trivial⟩⟩
def te27 : TE Tryd.prog := ⟨27, P_api_Message, ⟨fun h => (by cases h), fun _ => ⟨fun w => (by kernel_rfl), fun w => (by kernel_rfl)⟩, fun w => (by kernel_rfl), trivial⟩⟩
def te33 : TE Tryd.prog := ⟨33, (.int .i64), ⟨fun _ => ⟨fun w => (by kernel_rfl), fun w => (by kernel_rfl)⟩, fun h => (by cases h), fun w => (by kernel_rfl), (show Tryd.prog.underlying 33 = some (.int .i64) by kernel_rfl)⟩⟩
def te74 : TE Tryd.prog := ⟨74, P_api_Option, ⟨fun h => (by cases h), fun _ => ⟨fun w => (by kernel_rfl), fun w => (by kernel_rfl)⟩, fun w => (by kernel_rfl), trivial⟩⟩
def te97 : TE Tryd.prog := ⟨97, P_coresecmake_Deck, ⟨fun h => (by cases h), fun _ => ⟨fun w => (by kernel_rfl), fun w => (by kernel_rfl)⟩, fun w => (by kernel_rfl), trivial⟩⟩
def se22 : SE Tryd.prog := ⟨22, 3, (.int .i64), 8, ⟨(by kernel_rfl), info_of (by kernel_rfl), (by kernel_rfl), (by decide)⟩, fun w => (by kernel_rfl), rfl⟩
def se24 : SE Tryd.prog := ⟨24, 5, (.int .u8), 1, ⟨(by kernel_rfl), info_of (by kernel_rfl), (by kernel_rfl), (by decide)⟩, fun w => (by kernel_rfl), rfl⟩
def se25 : SE Tryd.prog := ⟨25, 74, P_api_Option, 32, ⟨(by kernel_rfl), info_of (by kernel_rfl), (by kernel_rfl), (by decide)⟩, fun w => (by kernel_rfl), rfl⟩
def se32 : SE Tryd.prog := ⟨32, 9, .str, 16, ⟨(by kernel_rfl), info_of (by kernel_rfl), (by kernel_rfl), (by decide)⟩, fun w => (by kernel_rfl), rfl⟩
def se40 : SE Tryd.prog := ⟨40, 24, (.sl (.int .u8)), 24, ⟨(by kernel_rfl), info_of (by kernel_rfl), (by kernel_rfl), (by decide)⟩, fun w => (by kernel_rfl), rfl⟩
def fe27_0 : FE Tryd.prog := ⟨27, 0, 0, fun w a => by kernel_rfl⟩
def fe27_1 : FE Tryd.prog := ⟨27, 1, 1, fun w a => by kernel_rfl⟩
def fe27_2 : FE Tryd.prog := ⟨27, 2, 2, fun w a => by kernel_rfl⟩
def fe27_3 : FE Tryd.prog := ⟨27, 3, 3, fun w a => by kernel_rfl⟩
def fe27_4 : FE Tryd.prog := ⟨27, 4, 4, fun w a => by kernel_rfl⟩
def fe27_5 : FE Tryd.prog := ⟨27, 5, 5, fun w a => by kernel_rfl⟩
def fe74_0 : FE Tryd.prog := ⟨74, 0, 0, fun w a => by kernel_rfl⟩
def fe74_1 : FE Tryd.prog := ⟨74, 1, 1, fun w a => by kernel_rfl⟩
def fe97_0 : FE Tryd.prog := ⟨97, 0, 0, fun w a => by kernel_rfl⟩
def fe97_1 : FE Tryd.prog := ⟨97, 1, 1, fun w a => by kernel_rfl⟩
def be27 : BE Tryd.prog := ⟨27, P_api_Message, [(0, (.int .i64)), (1, (.int .i64)), (2, (.int .i64)), (3, (.sl (.int .u8))), (4, (.sl P_api_Option)), (5, (.sl (.int .u8)))], fun vs => by kernel_rfl⟩
def be74 : BE Tryd.prog := ⟨74, P_api_Option, [(0, (.int .i64)), (1, (.sl (.int .u8)))], fun vs => by kernel_rfl⟩
def be97 : BE Tryd.prog := ⟨97, P_coresecmake_Deck, [(0, (.sl (.int .i64))), (1, (.int .i64))], fun vs => by kernel_rfl⟩
def mes : List (ME Tryd.prog) := []
def tes : List (TE Tryd.prog) := [te3, te5, te9, te22, te24, te25, te27, te33, te74, te97]
def ses : List (SE Tryd.prog) := [se22, se24, se25, se32, se40]
def fes : List (FE Tryd.prog) := [fe27_0, fe27_1, fe27_2, fe27_3, fe27_4, fe27_5, fe74_0, fe74_1, fe97_0, fe97_1]
def bes : List (BE Tryd.prog) := [be27, be74, be97]
def fds : List (FD Tryd.prog) := []
def qes : List (QE Tryd.prog) := []
def ges : List (GE Tryd.prog) := []
theorem kMix : Tryd.prog.follows .mixedOrders = true := by kernel_rfl
end Go.Proofs.YtllomdfckciedaaDoor
