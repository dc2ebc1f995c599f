import Derived.Test.YtcbkmlfkfhfliaaDoorYEn
import Derived.Test.YtcbkmlfkfhfliaaDoorProg
namespace Go.Proofs.YtcbkmlfkfhfliaaDoor
open Go.Gk Go.RowKit
def codeOf (f : Func) : Code := match f.body with | some c => c | none => .skip
def P_coresecmake_Deck : PT := .st (.pr (.sl (.int .i64)) (.int .i64))
abbrev S_coresecmake_Deck := List Int × Int
def P_api_Option : PT := .st (.pr (.int .i64) (.sl (.int .u8)))
abbrev S_api_Option := Int × List UInt8
def P_api_Message : PT := .st (.pr (.int .i64) (.pr (.int .i64) (.pr (.int .i64) (.pr (.sl (.int .u8)) (.pr (.sl P_api_Option) (.sl (.int .u8)))))))
abbrev S_api_Message := Int × Int × Int × List UInt8 × List S_api_Option × List UInt8
def P_api_Cached : PT := .st (.pr (.sl (.int .u8)) (.pr P_api_Message (.pr (.int .i64) (.int .i64))))
abbrev S_api_Cached := List UInt8 × S_api_Message × Int × Int
def P_api_Hop : PT := .st (.pr (.int .i64) (.pr (.sl (.int .u8)) (.pr (.sl (.int .u8)) (.pr (.sl (.int .u8)) .bool))))
abbrev S_api_Hop := Int × List UInt8 × List UInt8 × List UInt8 × Bool
def P_api_Proxy : PT := .st (.pr (.int .i64) (.pr (.sl P_api_Hop) (.pr (.sl P_api_Cached) (.int .i64))))
abbrev S_api_Proxy := Int × List S_api_Hop × List S_api_Cached × Int
def P_relay_Sent : PT := .st (.pr (.int .i64) P_api_Message)
abbrev S_relay_Sent := Int × S_api_Message
def te3 : TE Tryd.prog := ⟨3, (.int .i64), ⟨fun _ => ⟨fun w => (by kernel_rfl), fun w => (by kernel_rfl)⟩, fun h => (by cases h), fun w => (by kernel_rfl), (show Tryd.prog.underlying 3 = some (.int .i64) by kernel_rfl)⟩⟩
def te4 : TE Tryd.prog := ⟨4, .bool, ⟨fun _ => ⟨fun w => (by kernel_rfl), fun w => (by kernel_rfl)⟩, fun h => (by cases h), fun w => (by kernel_rfl), (show Tryd.prog.underlying 4 = some .bool by kernel_rfl)⟩⟩
def te5 : TE Tryd.prog := ⟨5, (.int .u8), ⟨fun _ => ⟨fun w => (by kernel_rfl), fun w => (by kernel_rfl)⟩, fun h => (by cases h), fun w => (by kernel_rfl), (show Tryd.prog.underlying 5 = some (.int .u8) by kernel_rfl)⟩⟩
def te9 : TE Tryd.prog := ⟨9, .str, ⟨fun _ => ⟨fun w => (by kernel_rfl), fun w => (by kernel_rfl)⟩, fun h => (by cases h), fun w => (by kernel_rfl), (show Tryd.prog.underlying 9 = some .string by kernel_rfl)⟩⟩
def te22 : TE Tryd.prog := ⟨22, (.sl (.int .i64)), ⟨fun _ => ⟨fun w => (by kernel_rfl), fun w => (by kernel_rfl)⟩, fun h => (by cases h), fun w => (by kernel_rfl), trivial⟩⟩
def te25 : TE Tryd.prog := ⟨25, (.sl P_api_Hop), ⟨fun _ => ⟨fun w => (by kernel_rfl), fun w => (by kernel_rfl)⟩, fun h => (by cases h), fun w => (by kernel_rfl), trivial⟩⟩
def te26 : TE Tryd.prog := ⟨26, (.sl P_api_Cached), ⟨fun _ => ⟨fun w => (by kernel_rfl), fun w => (by kernel_rfl)⟩, fun h => (by cases h), fun w => (by kernel_rfl), trivial⟩⟩
def te28 : TE Tryd.prog := ⟨28, P_api_Proxy, ⟨fun h => (by cases h), fun _ => ⟨fun w => (by kernel_rfl), fun w => (by kernel_rfl)⟩, fun w => (by kernel_rfl), trivial⟩⟩
def te31 : TE Tryd.prog := ⟨31, (.sl (.int .u8)), ⟨fun _ => ⟨fun w => (by kernel_rfl), fun w => (by kernel_rfl)⟩, fun h => (by cases h), fun w => (by kernel_rfl), trivial⟩⟩
def te34 : TE Tryd.prog := ⟨34, (.int .i64), ⟨fun _ => ⟨fun w => (by kernel_rfl), fun w => (by kernel_rfl)⟩, fun h => (by cases h), fun w => (by kernel_rfl), (show Tryd.prog.underlying 34 = some (.int .i64) by kernel_rfl)⟩⟩
def te37 : TE Tryd.prog := ⟨37, (.sl P_api_Option), ⟨fun _ => ⟨fun w => (by kernel_rfl), fun w => (by kernel_rfl)⟩, fun h => (by cases h), fun w => (by kernel_rfl), trivial⟩⟩
def te39 : TE Tryd.prog := ⟨39, P_api_Message, ⟨fun h => (by cases h), fun _ => ⟨fun w => (by kernel_rfl), fun w => (by kernel_rfl)⟩, fun w => (by kernel_rfl), trivial⟩⟩
def te51 : TE Tryd.prog := ⟨51, P_coresecmake_Deck, ⟨fun h => (by cases h), fun _ => ⟨fun w => (by kernel_rfl), fun w => (by kernel_rfl)⟩, fun w => (by kernel_rfl), trivial⟩⟩
def te64 : TE Tryd.prog := ⟨64, (.int .u64), ⟨fun _ => ⟨fun w => (by kernel_rfl), fun w => (by kernel_rfl)⟩, fun h => (by cases h), fun w => (by kernel_rfl), (show Tryd.prog.underlying 64 = some (.int .u64) by kernel_rfl)⟩⟩
def te68 : TE Tryd.prog := ⟨68, P_api_Hop, ⟨fun h => (by cases h), fun _ => ⟨fun w => (by kernel_rfl), fun w => (by kernel_rfl)⟩, fun w => (by kernel_rfl), trivial⟩⟩
def te72 : TE Tryd.prog := ⟨72, P_api_Option, ⟨fun h => (by cases h), fun _ => ⟨fun w => (by kernel_rfl), fun w => (by kernel_rfl)⟩, fun w => (by kernel_rfl), trivial⟩⟩
def te81 : TE Tryd.prog := ⟨81, P_api_Cached, ⟨fun h => (by cases h), fun _ => ⟨fun w => (by kernel_rfl), fun w => (by kernel_rfl)⟩, fun w => (by kernel_rfl), trivial⟩⟩
def se22 : SE Tryd.prog := ⟨22, 3, (.int .i64), 8, ⟨(by kernel_rfl), info_of (by kernel_rfl), (by kernel_rfl), (by decide)⟩, fun w => (by kernel_rfl), rfl⟩
def se25 : SE Tryd.prog := ⟨25, 68, P_api_Hop, 88, ⟨(by kernel_rfl), info_of (by kernel_rfl), (by kernel_rfl), (by decide)⟩, fun w => (by kernel_rfl), rfl⟩
def se26 : SE Tryd.prog := ⟨26, 81, P_api_Cached, 136, ⟨(by kernel_rfl), info_of (by kernel_rfl), (by kernel_rfl), (by decide)⟩, fun w => (by kernel_rfl), rfl⟩
def se29 : SE Tryd.prog := ⟨29, 31, (.sl (.int .u8)), 24, ⟨(by kernel_rfl), info_of (by kernel_rfl), (by kernel_rfl), (by decide)⟩, fun w => (by kernel_rfl), rfl⟩
def se31 : SE Tryd.prog := ⟨31, 5, (.int .u8), 1, ⟨(by kernel_rfl), info_of (by kernel_rfl), (by kernel_rfl), (by decide)⟩, fun w => (by kernel_rfl), rfl⟩
def se32 : SE Tryd.prog := ⟨32, 39, P_api_Message, 96, ⟨(by kernel_rfl), info_of (by kernel_rfl), (by kernel_rfl), (by decide)⟩, fun w => (by kernel_rfl), rfl⟩
def se33 : SE Tryd.prog := ⟨33, 46, P_relay_Sent, 104, ⟨(by kernel_rfl), info_of (by kernel_rfl), (by kernel_rfl), (by decide)⟩, fun w => (by kernel_rfl), rfl⟩
def se37 : SE Tryd.prog := ⟨37, 72, P_api_Option, 32, ⟨(by kernel_rfl), info_of (by kernel_rfl), (by kernel_rfl), (by decide)⟩, fun w => (by kernel_rfl), rfl⟩
def fe28_0 : FE Tryd.prog := ⟨28, 0, 0, fun w a => by kernel_rfl⟩
def fe28_1 : FE Tryd.prog := ⟨28, 1, 1, fun w a => by kernel_rfl⟩
def fe28_2 : FE Tryd.prog := ⟨28, 2, 2, fun w a => by kernel_rfl⟩
def fe28_3 : FE Tryd.prog := ⟨28, 3, 3, fun w a => by kernel_rfl⟩
def fe39_0 : FE Tryd.prog := ⟨39, 0, 0, fun w a => by kernel_rfl⟩
def fe39_1 : FE Tryd.prog := ⟨39, 1, 1, fun w a => by kernel_rfl⟩
def fe39_2 : FE Tryd.prog := ⟨39, 2, 2, fun w a => by kernel_rfl⟩
def fe39_3 : FE Tryd.prog := ⟨39, 3, 3, fun w a => by kernel_rfl⟩
def fe39_4 : FE Tryd.prog := ⟨39, 4, 4, fun w a => by kernel_rfl⟩
def fe39_5 : FE Tryd.prog := ⟨39, 5, 5, fun w a => by kernel_rfl⟩
def fe46_0 : FE Tryd.prog := ⟨46, 0, 0, fun w a => by kernel_rfl⟩
def fe46_1 : FE Tryd.prog := ⟨46, 1, 1, fun w a => by kernel_rfl⟩
def fe51_0 : FE Tryd.prog := ⟨51, 0, 0, fun w a => by kernel_rfl⟩
def fe51_1 : FE Tryd.prog := ⟨51, 1, 1, fun w a => by kernel_rfl⟩
def fe68_0 : FE Tryd.prog := ⟨68, 0, 0, fun w a => by kernel_rfl⟩
def fe68_1 : FE Tryd.prog := ⟨68, 1, 1, fun w a => by kernel_rfl⟩
def fe68_2 : FE Tryd.prog := ⟨68, 2, 2, fun w a => by kernel_rfl⟩
def fe68_3 : FE Tryd.prog := ⟨68, 3, 3, fun w a => by kernel_rfl⟩
def fe68_4 : FE Tryd.prog := ⟨68, 4, 4, fun w a => by kernel_rfl⟩
def fe72_0 : FE Tryd.prog := ⟨72, 0, 0, fun w a => by kernel_rfl⟩
def fe72_1 : FE Tryd.prog := ⟨72, 1, 1, fun w a => by kernel_rfl⟩
def fe81_0 : FE Tryd.prog := ⟨81, 0, 0, fun w a => by kernel_rfl⟩
def fe81_1 : FE Tryd.prog := ⟨81, 1, 1, fun w a => by kernel_rfl⟩
def fe81_2 : FE Tryd.prog := ⟨81, 2, 7, fun w a => by kernel_rfl⟩
def fe81_3 : FE Tryd.prog := ⟨81, 3, 8, fun w a => by kernel_rfl⟩
def be28 : BE Tryd.prog := ⟨28, P_api_Proxy, [(0, (.int .i64)), (1, (.sl P_api_Hop)), (2, (.sl P_api_Cached)), (3, (.int .i64))], fun vs => by kernel_rfl⟩
def be39 : BE Tryd.prog := ⟨39, P_api_Message, [(0, (.int .i64)), (1, (.int .i64)), (2, (.int .i64)), (3, (.sl (.int .u8))), (4, (.sl P_api_Option)), (5, (.sl (.int .u8)))], fun vs => by kernel_rfl⟩
def be46 : BE Tryd.prog := ⟨46, P_relay_Sent, [(0, (.int .i64)), (1, P_api_Message)], fun vs => by kernel_rfl⟩
def be51 : BE Tryd.prog := ⟨51, P_coresecmake_Deck, [(0, (.sl (.int .i64))), (1, (.int .i64))], fun vs => by kernel_rfl⟩
def be68 : BE Tryd.prog := ⟨68, P_api_Hop, [(0, (.int .i64)), (1, (.sl (.int .u8))), (2, (.sl (.int .u8))), (3, (.sl (.int .u8))), (4, .bool)], fun vs => by kernel_rfl⟩
def be72 : BE Tryd.prog := ⟨72, P_api_Option, [(0, (.int .i64)), (1, (.sl (.int .u8)))], fun vs => by kernel_rfl⟩
def mes : List (ME Tryd.prog) := []
def tes : List (TE Tryd.prog) := [te3, te4, te5, te9, te22, te25, te26, te28, te31, te34, te37, te39, te51, te64, te68, te72, te81]
def ses : List (SE Tryd.prog) := [se22, se25, se26, se29, se31, se32, se33, se37]
def fes : List (FE Tryd.prog) := [fe28_0, fe28_1, fe28_2, fe28_3, fe39_0, fe39_1, fe39_2, fe39_3, fe39_4, fe39_5, fe46_0, fe46_1, fe51_0, fe51_1, fe68_0, fe68_1, fe68_2, fe68_3, fe68_4, fe72_0, fe72_1, fe81_0, fe81_1, fe81_2, fe81_3]
def bes : List (BE Tryd.prog) := [be28, be39, be46, be51, be68, be72]
def fds : List (FD Tryd.prog) := []
def qes : List (QE Tryd.prog) := []
def ges : List (GE Tryd.prog) := []
theorem kMix : Tryd.prog.follows .mixedOrders = true := by kernel_rfl
end Go.Proofs.YtcbkmlfkfhfliaaDoor
