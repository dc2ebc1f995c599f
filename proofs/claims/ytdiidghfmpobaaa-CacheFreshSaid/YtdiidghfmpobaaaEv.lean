import Derived.Test.YtdiidghfmpobaaaYEn
import Derived.Test.YtdiidghfmpobaaaProg
namespace Go.Proofs.Ytdiidghfmpobaaa
open Go.Gk Go.RowKit
def codeOf (f : Func) : Code := match f.body with | some c => c | none => .skip
def P_api_Option : PT := .st (.pr (.int .i64) (.sl (.int .u8)))
abbrev S_api_Option := Int × List UInt8
def P_api_Message : PT := .st (.pr (.int .i64) (.pr (.int .i64) (.pr (.int .i64) (.pr (.sl (.int .u8)) (.pr (.sl P_api_Option) (.sl (.int .u8)))))))
abbrev S_api_Message := Int × Int × Int × List UInt8 × List S_api_Option × List UInt8
def P_api_Cached : PT := .st (.pr (.sl (.int .u8)) (.pr P_api_Message (.pr (.int .i64) (.int .i64))))
abbrev S_api_Cached := List UInt8 × S_api_Message × Int × Int
def P_api_Block : PT := .st (.pr (.int .i64) (.pr .bool (.int .i64)))
abbrev S_api_Block := Int × Bool × Int
def P_coresecmake_Deck : PT := .st (.pr (.sl (.int .i64)) (.int .i64))
abbrev S_coresecmake_Deck := List Int × Int
def P_coreseclaw20_entry : PT := .st (.pr P_api_Message (.pr (.int .i64) (.int .i64)))
abbrev S_coreseclaw20_entry := S_api_Message × Int × Int
def te3 : TE Try.prog := ⟨3, (.int .i64), ⟨fun _ => ⟨fun w => (by kernel_rfl), fun w => (by kernel_rfl)⟩, fun h => (by cases h), fun w => (by kernel_rfl), (show Try.prog.underlying 3 = some (.int .i64) by kernel_rfl)⟩⟩
def te4 : TE Try.prog := ⟨4, .bool, ⟨fun _ => ⟨fun w => (by kernel_rfl), fun w => (by kernel_rfl)⟩, fun h => (by cases h), fun w => (by kernel_rfl), (show Try.prog.underlying 4 = some .bool by kernel_rfl)⟩⟩
def te5 : TE Try.prog := ⟨5, (.int .u8), ⟨fun _ => ⟨fun w => (by kernel_rfl), fun w => (by kernel_rfl)⟩, fun h => (by cases h), fun w => (by kernel_rfl), (show Try.prog.underlying 5 = some (.int .u8) by kernel_rfl)⟩⟩
def te9 : TE Try.prog := ⟨9, .str, ⟨fun _ => ⟨fun w => (by kernel_rfl), fun w => (by kernel_rfl)⟩, fun h => (by cases h), fun w => (by kernel_rfl), (show Try.prog.underlying 9 = some .string by kernel_rfl)⟩⟩
def te23 : TE Try.prog := ⟨23, (.sl (.int .u8)), ⟨fun _ => ⟨fun w => (by kernel_rfl), fun w => (by kernel_rfl)⟩, fun h => (by cases h), fun w => (by kernel_rfl), trivial⟩⟩
def te24 : TE Try.prog := ⟨24, (.sl P_api_Option), ⟨fun _ => ⟨fun w => (by kernel_rfl), fun w => (by kernel_rfl)⟩, fun h => (by cases h), fun w => (by kernel_rfl), trivial⟩⟩
def te26 : TE Try.prog := ⟨26, P_api_Message, ⟨fun h => (by cases h), fun _ => ⟨fun w => (by kernel_rfl), fun w => (by kernel_rfl)⟩, fun w => (by kernel_rfl), trivial⟩⟩
def te27 : TE Try.prog := ⟨27, (.sl (.int .i64)), ⟨fun _ => ⟨fun w => (by kernel_rfl), fun w => (by kernel_rfl)⟩, fun h => (by cases h), fun w => (by kernel_rfl), trivial⟩⟩
def te38 : TE Try.prog := ⟨38, P_api_Cached, ⟨fun h => (by cases h), fun _ => ⟨fun w => (by kernel_rfl), fun w => (by kernel_rfl)⟩, fun w => (by kernel_rfl), trivial⟩⟩
def te44 : TE Try.prog := ⟨44, (.int .i64), ⟨fun _ => ⟨fun w => (by kernel_rfl), fun w => (by kernel_rfl)⟩, fun h => (by cases h), fun w => (by kernel_rfl), (show Try.prog.underlying 44 = some (.int .i64) by kernel_rfl)⟩⟩
def te64 : TE Try.prog := ⟨64, P_coreseclaw20_entry, ⟨fun h => (by cases h), fun _ => ⟨fun w => (by kernel_rfl), fun w => (by kernel_rfl)⟩, fun w => (by kernel_rfl), trivial⟩⟩
def te68 : TE Try.prog := ⟨68, P_coresecmake_Deck, ⟨fun h => (by cases h), fun _ => ⟨fun w => (by kernel_rfl), fun w => (by kernel_rfl)⟩, fun w => (by kernel_rfl), trivial⟩⟩
def te74 : TE Try.prog := ⟨74, P_api_Block, ⟨fun h => (by cases h), fun _ => ⟨fun w => (by kernel_rfl), fun w => (by kernel_rfl)⟩, fun w => (by kernel_rfl), trivial⟩⟩
def te79 : TE Try.prog := ⟨79, P_api_Option, ⟨fun h => (by cases h), fun _ => ⟨fun w => (by kernel_rfl), fun w => (by kernel_rfl)⟩, fun w => (by kernel_rfl), trivial⟩⟩
def se22 : SE Try.prog := ⟨22, 38, P_api_Cached, 136, ⟨(by kernel_rfl), info_of (by kernel_rfl), (by kernel_rfl), (by decide)⟩, fun w => (by kernel_rfl), rfl⟩
def se23 : SE Try.prog := ⟨23, 5, (.int .u8), 1, ⟨(by kernel_rfl), info_of (by kernel_rfl), (by kernel_rfl), (by decide)⟩, fun w => (by kernel_rfl), rfl⟩
def se24 : SE Try.prog := ⟨24, 79, P_api_Option, 32, ⟨(by kernel_rfl), info_of (by kernel_rfl), (by kernel_rfl), (by decide)⟩, fun w => (by kernel_rfl), rfl⟩
def se27 : SE Try.prog := ⟨27, 3, (.int .i64), 8, ⟨(by kernel_rfl), info_of (by kernel_rfl), (by kernel_rfl), (by decide)⟩, fun w => (by kernel_rfl), rfl⟩
def se39 : SE Try.prog := ⟨39, 26, P_api_Message, 96, ⟨(by kernel_rfl), info_of (by kernel_rfl), (by kernel_rfl), (by decide)⟩, fun w => (by kernel_rfl), rfl⟩
def se49 : SE Try.prog := ⟨49, 23, (.sl (.int .u8)), 24, ⟨(by kernel_rfl), info_of (by kernel_rfl), (by kernel_rfl), (by decide)⟩, fun w => (by kernel_rfl), rfl⟩
def fe26_0 : FE Try.prog := ⟨26, 0, 0, fun w a => by kernel_rfl⟩
def fe26_1 : FE Try.prog := ⟨26, 1, 1, fun w a => by kernel_rfl⟩
def fe26_2 : FE Try.prog := ⟨26, 2, 2, fun w a => by kernel_rfl⟩
def fe26_3 : FE Try.prog := ⟨26, 3, 3, fun w a => by kernel_rfl⟩
def fe26_4 : FE Try.prog := ⟨26, 4, 4, fun w a => by kernel_rfl⟩
def fe26_5 : FE Try.prog := ⟨26, 5, 5, fun w a => by kernel_rfl⟩
def fe38_0 : FE Try.prog := ⟨38, 0, 0, fun w a => by kernel_rfl⟩
def fe38_1 : FE Try.prog := ⟨38, 1, 1, fun w a => by kernel_rfl⟩
def fe38_2 : FE Try.prog := ⟨38, 2, 7, fun w a => by kernel_rfl⟩
def fe38_3 : FE Try.prog := ⟨38, 3, 8, fun w a => by kernel_rfl⟩
def fe64_0 : FE Try.prog := ⟨64, 0, 0, fun w a => by kernel_rfl⟩
def fe64_1 : FE Try.prog := ⟨64, 1, 6, fun w a => by kernel_rfl⟩
def fe64_2 : FE Try.prog := ⟨64, 2, 7, fun w a => by kernel_rfl⟩
def fe68_0 : FE Try.prog := ⟨68, 0, 0, fun w a => by kernel_rfl⟩
def fe68_1 : FE Try.prog := ⟨68, 1, 1, fun w a => by kernel_rfl⟩
def fe74_0 : FE Try.prog := ⟨74, 0, 0, fun w a => by kernel_rfl⟩
def fe74_1 : FE Try.prog := ⟨74, 1, 1, fun w a => by kernel_rfl⟩
def fe74_2 : FE Try.prog := ⟨74, 2, 2, fun w a => by kernel_rfl⟩
def fe79_0 : FE Try.prog := ⟨79, 0, 0, fun w a => by kernel_rfl⟩
def fe79_1 : FE Try.prog := ⟨79, 1, 1, fun w a => by kernel_rfl⟩
def be26 : BE Try.prog := ⟨26, P_api_Message, [(0, (.int .i64)), (1, (.int .i64)), (2, (.int .i64)), (3, (.sl (.int .u8))), (4, (.sl P_api_Option)), (5, (.sl (.int .u8)))], fun vs => by kernel_rfl⟩
def be38 : BE Try.prog := ⟨38, P_api_Cached, [(0, (.sl (.int .u8))), (1, P_api_Message), (7, (.int .i64)), (8, (.int .i64))], fun vs => by kernel_rfl⟩
def be64 : BE Try.prog := ⟨64, P_coreseclaw20_entry, [(0, P_api_Message), (6, (.int .i64)), (7, (.int .i64))], fun vs => by kernel_rfl⟩
def be68 : BE Try.prog := ⟨68, P_coresecmake_Deck, [(0, (.sl (.int .i64))), (1, (.int .i64))], fun vs => by kernel_rfl⟩
def be74 : BE Try.prog := ⟨74, P_api_Block, [(0, (.int .i64)), (1, .bool), (2, (.int .i64))], fun vs => by kernel_rfl⟩
def be79 : BE Try.prog := ⟨79, P_api_Option, [(0, (.int .i64)), (1, (.sl (.int .u8)))], fun vs => by kernel_rfl⟩
def fd64_0 : FD Try.prog := ⟨64, 0, 26, 0, fun w cs => by kernel_rfl⟩
def me61 : ME Try.prog := ⟨61, 5, 64, P_coreseclaw20_entry, (by kernel_rfl), (by kernel_rfl), fun w => (by kernel_rfl)⟩
def mes : List (ME Try.prog) := [me61]
def tes : List (TE Try.prog) := [te3, te4, te5, te9, te23, te24, te26, te27, te38, te44, te64, te68, te74, te79]
def ses : List (SE Try.prog) := [se22, se23, se24, se27, se39, se49]
def fes : List (FE Try.prog) := [fe26_0, fe26_1, fe26_2, fe26_3, fe26_4, fe26_5, fe38_0, fe38_1, fe38_2, fe38_3, fe64_0, fe64_1, fe64_2, fe68_0, fe68_1, fe74_0, fe74_1, fe74_2, fe79_0, fe79_1]
def bes : List (BE Try.prog) := [be26, be38, be64, be68, be74, be79]
def fds : List (FD Try.prog) := [fd64_0]
def qes : List (QE Try.prog) := []
def ges : List (GE Try.prog) := []
theorem kMix : Try.prog.follows .mixedOrders = true := by kernel_rfl
end Go.Proofs.Ytdiidghfmpobaaa
