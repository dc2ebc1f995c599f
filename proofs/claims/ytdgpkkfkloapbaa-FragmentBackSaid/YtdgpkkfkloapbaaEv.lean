import Derived.Test.YtdgpkkfkloapbaaYEn
import Derived.Test.YtdgpkkfkloapbaaProg
namespace Go.Proofs.Ytdgpkkfkloapbaa
open Go.Gk Go.RowKit
def codeOf (f : Func) : Code := match f.body with | some c => c | none => .skip
def P_coresecmake_Deck : PT := .st (.pr (.sl (.int .i64)) (.int .i64))
abbrev S_coresecmake_Deck := List Int × Int
def P_api_Option : PT := .st (.pr (.int .i64) (.sl (.int .u8)))
abbrev S_api_Option := Int × List UInt8
def P_api_Message : PT := .st (.pr (.int .i64) (.pr (.int .i64) (.pr (.int .i64) (.pr (.sl (.int .u8)) (.pr (.sl P_api_Option) (.sl (.int .u8)))))))
abbrev S_api_Message := Int × Int × Int × List UInt8 × List S_api_Option × List UInt8
def P_api_Block : PT := .st (.pr (.int .i64) (.pr .bool (.int .i64)))
abbrev S_api_Block := Int × Bool × Int
def P_api_Partial : PT := .st (.pr (.int .i64) (.pr (.sl (.int .u8)) (.pr (.sl (.int .u8)) (.int .i64))))
abbrev S_api_Partial := Int × List UInt8 × List UInt8 × Int
def te3 : TE Try.prog := ⟨3, (.int .i64), ⟨fun _ => ⟨fun w => (by kernel_rfl), fun w => (by kernel_rfl)⟩, fun h => (by cases h), fun w => (by kernel_rfl), (show Try.prog.underlying 3 = some (.int .i64) by kernel_rfl)⟩⟩
def te4 : TE Try.prog := ⟨4, .bool, ⟨fun _ => ⟨fun w => (by kernel_rfl), fun w => (by kernel_rfl)⟩, fun h => (by cases h), fun w => (by kernel_rfl), (show Try.prog.underlying 4 = some .bool by kernel_rfl)⟩⟩
def te5 : TE Try.prog := ⟨5, (.int .u8), ⟨fun _ => ⟨fun w => (by kernel_rfl), fun w => (by kernel_rfl)⟩, fun h => (by cases h), fun w => (by kernel_rfl), (show Try.prog.underlying 5 = some (.int .u8) by kernel_rfl)⟩⟩
def te9 : TE Try.prog := ⟨9, .str, ⟨fun _ => ⟨fun w => (by kernel_rfl), fun w => (by kernel_rfl)⟩, fun h => (by cases h), fun w => (by kernel_rfl), (show Try.prog.underlying 9 = some .string by kernel_rfl)⟩⟩
def te22 : TE Try.prog := ⟨22, (.sl (.int .u8)), ⟨fun _ => ⟨fun w => (by kernel_rfl), fun w => (by kernel_rfl)⟩, fun h => (by cases h), fun w => (by kernel_rfl), trivial⟩⟩
def te23 : TE Try.prog := ⟨23, (.sl P_api_Option), ⟨fun _ => ⟨fun w => (by kernel_rfl), fun w => (by kernel_rfl)⟩, fun h => (by cases h), fun w => (by kernel_rfl), trivial⟩⟩
def te25 : TE Try.prog := ⟨25, P_api_Message, ⟨fun h => (by cases h), fun _ => ⟨fun w => (by kernel_rfl), fun w => (by kernel_rfl)⟩, fun w => (by kernel_rfl), trivial⟩⟩
def te26 : TE Try.prog := ⟨26, (.sl (.int .i64)), ⟨fun _ => ⟨fun w => (by kernel_rfl), fun w => (by kernel_rfl)⟩, fun h => (by cases h), fun w => (by kernel_rfl), trivial⟩⟩
def te39 : TE Try.prog := ⟨39, (.int .i64), ⟨fun _ => ⟨fun w => (by kernel_rfl), fun w => (by kernel_rfl)⟩, fun h => (by cases h), fun w => (by kernel_rfl), (show Try.prog.underlying 39 = some (.int .i64) by kernel_rfl)⟩⟩
def te54 : TE Try.prog := ⟨54, P_api_Partial, ⟨fun h => (by cases h), fun _ => ⟨fun w => (by kernel_rfl), fun w => (by kernel_rfl)⟩, fun w => (by kernel_rfl), trivial⟩⟩
def te63 : TE Try.prog := ⟨63, P_api_Option, ⟨fun h => (by cases h), fun _ => ⟨fun w => (by kernel_rfl), fun w => (by kernel_rfl)⟩, fun w => (by kernel_rfl), trivial⟩⟩
def te66 : TE Try.prog := ⟨66, P_coresecmake_Deck, ⟨fun h => (by cases h), fun _ => ⟨fun w => (by kernel_rfl), fun w => (by kernel_rfl)⟩, fun w => (by kernel_rfl), trivial⟩⟩
def te72 : TE Try.prog := ⟨72, P_api_Block, ⟨fun h => (by cases h), fun _ => ⟨fun w => (by kernel_rfl), fun w => (by kernel_rfl)⟩, fun w => (by kernel_rfl), trivial⟩⟩
def te73 : TE Try.prog := ⟨73, (.int .u64), ⟨fun _ => ⟨fun w => (by kernel_rfl), fun w => (by kernel_rfl)⟩, fun h => (by cases h), fun w => (by kernel_rfl), (show Try.prog.underlying 73 = some (.int .u64) by kernel_rfl)⟩⟩
def te74 : TE Try.prog := ⟨74, (.int .u64), ⟨fun _ => ⟨fun w => (by kernel_rfl), fun w => (by kernel_rfl)⟩, fun h => (by cases h), fun w => (by kernel_rfl), (show Try.prog.underlying 74 = some (.int .u64) by kernel_rfl)⟩⟩
def se22 : SE Try.prog := ⟨22, 5, (.int .u8), 1, ⟨(by kernel_rfl), info_of (by kernel_rfl), (by kernel_rfl), (by decide)⟩, fun w => (by kernel_rfl), rfl⟩
def se23 : SE Try.prog := ⟨23, 63, P_api_Option, 32, ⟨(by kernel_rfl), info_of (by kernel_rfl), (by kernel_rfl), (by decide)⟩, fun w => (by kernel_rfl), rfl⟩
def se26 : SE Try.prog := ⟨26, 3, (.int .i64), 8, ⟨(by kernel_rfl), info_of (by kernel_rfl), (by kernel_rfl), (by decide)⟩, fun w => (by kernel_rfl), rfl⟩
def se29 : SE Try.prog := ⟨29, 22, (.sl (.int .u8)), 24, ⟨(by kernel_rfl), info_of (by kernel_rfl), (by kernel_rfl), (by decide)⟩, fun w => (by kernel_rfl), rfl⟩
def se50 : SE Try.prog := ⟨50, 54, P_api_Partial, 64, ⟨(by kernel_rfl), info_of (by kernel_rfl), (by kernel_rfl), (by decide)⟩, fun w => (by kernel_rfl), rfl⟩
def fe25_0 : FE Try.prog := ⟨25, 0, 0, fun w a => by kernel_rfl⟩
def fe25_1 : FE Try.prog := ⟨25, 1, 1, fun w a => by kernel_rfl⟩
def fe25_2 : FE Try.prog := ⟨25, 2, 2, fun w a => by kernel_rfl⟩
def fe25_3 : FE Try.prog := ⟨25, 3, 3, fun w a => by kernel_rfl⟩
def fe25_4 : FE Try.prog := ⟨25, 4, 4, fun w a => by kernel_rfl⟩
def fe25_5 : FE Try.prog := ⟨25, 5, 5, fun w a => by kernel_rfl⟩
def fe54_0 : FE Try.prog := ⟨54, 0, 0, fun w a => by kernel_rfl⟩
def fe54_1 : FE Try.prog := ⟨54, 1, 1, fun w a => by kernel_rfl⟩
def fe54_2 : FE Try.prog := ⟨54, 2, 2, fun w a => by kernel_rfl⟩
def fe54_3 : FE Try.prog := ⟨54, 3, 3, fun w a => by kernel_rfl⟩
def fe63_0 : FE Try.prog := ⟨63, 0, 0, fun w a => by kernel_rfl⟩
def fe63_1 : FE Try.prog := ⟨63, 1, 1, fun w a => by kernel_rfl⟩
def fe66_0 : FE Try.prog := ⟨66, 0, 0, fun w a => by kernel_rfl⟩
def fe66_1 : FE Try.prog := ⟨66, 1, 1, fun w a => by kernel_rfl⟩
def fe72_0 : FE Try.prog := ⟨72, 0, 0, fun w a => by kernel_rfl⟩
def fe72_1 : FE Try.prog := ⟨72, 1, 1, fun w a => by kernel_rfl⟩
def fe72_2 : FE Try.prog := ⟨72, 2, 2, fun w a => by kernel_rfl⟩
def be25 : BE Try.prog := ⟨25, P_api_Message, [(0, (.int .i64)), (1, (.int .i64)), (2, (.int .i64)), (3, (.sl (.int .u8))), (4, (.sl P_api_Option)), (5, (.sl (.int .u8)))], fun vs => by kernel_rfl⟩
def be54 : BE Try.prog := ⟨54, P_api_Partial, [(0, (.int .i64)), (1, (.sl (.int .u8))), (2, (.sl (.int .u8))), (3, (.int .i64))], fun vs => by kernel_rfl⟩
def be63 : BE Try.prog := ⟨63, P_api_Option, [(0, (.int .i64)), (1, (.sl (.int .u8)))], fun vs => by kernel_rfl⟩
def be66 : BE Try.prog := ⟨66, P_coresecmake_Deck, [(0, (.sl (.int .i64))), (1, (.int .i64))], fun vs => by kernel_rfl⟩
def be72 : BE Try.prog := ⟨72, P_api_Block, [(0, (.int .i64)), (1, .bool), (2, (.int .i64))], fun vs => by kernel_rfl⟩
def fd25_4 : FD Try.prog := ⟨25, 4, 23, 4, fun w cs => by kernel_rfl⟩
def tes : List (TE Try.prog) := [te3, te4, te5, te9, te22, te23, te25, te26, te39, te54, te63, te66, te72, te73, te74]
def ses : List (SE Try.prog) := [se22, se23, se26, se29, se50]
def fes : List (FE Try.prog) := [fe25_0, fe25_1, fe25_2, fe25_3, fe25_4, fe25_5, fe54_0, fe54_1, fe54_2, fe54_3, fe63_0, fe63_1, fe66_0, fe66_1, fe72_0, fe72_1, fe72_2]
def bes : List (BE Try.prog) := [be25, be54, be63, be66, be72]
def fds : List (FD Try.prog) := [fd25_4]
theorem kMix : Try.prog.follows .mixedOrders = true := by kernel_rfl
end Go.Proofs.Ytdgpkkfkloapbaa
