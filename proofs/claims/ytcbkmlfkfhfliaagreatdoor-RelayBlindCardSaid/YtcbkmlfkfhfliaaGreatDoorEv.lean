import Derived.Test.YtcbkmlfkfhfliaaGreatDoorYEn
import Derived.Test.YtcbkmlfkfhfliaaGreatDoorProg
namespace Go.Proofs.YtcbkmlfkfhfliaaGreatDoor
open Go.Gk Go.RowKit
def codeOf (f : Func) : Code := match f.body with | some c => c | none => .skip
def P_api_Option : PT := .st (.pr (.int .i64) (.sl (.int .u8)))
abbrev S_api_Option := Int × List UInt8
def P_api_Message : PT := .st (.pr (.int .i64) (.pr (.int .i64) (.pr (.int .i64) (.pr (.sl (.int .u8)) (.pr (.sl P_api_Option) (.sl (.int .u8)))))))
abbrev S_api_Message := Int × Int × Int × List UInt8 × List S_api_Option × List UInt8
def P_api_Hop : PT := .st (.pr (.int .i64) (.pr (.sl (.int .u8)) (.pr (.sl (.int .u8)) (.pr (.sl (.int .u8)) .bool))))
abbrev S_api_Hop := Int × List UInt8 × List UInt8 × List UInt8 × Bool
def P_api_Cached : PT := .st (.pr (.sl (.int .u8)) (.pr P_api_Message (.pr (.int .i64) (.int .i64))))
abbrev S_api_Cached := List UInt8 × S_api_Message × Int × Int
def P_api_Proxy : PT := .st (.pr (.int .i64) (.pr (.sl P_api_Hop) (.pr (.sl P_api_Cached) (.int .i64))))
abbrev S_api_Proxy := Int × List S_api_Hop × List S_api_Cached × Int
def P_cbor_checker : PT := .st (.pr (.int .i64) (.int .i64))
abbrev S_cbor_checker := Int × Int
def P_api_Block : PT := .st (.pr (.int .i64) (.pr .bool (.int .i64)))
abbrev S_api_Block := Int × Bool × Int
def P_relay_Sent : PT := .st (.pr (.int .i64) P_api_Message)
abbrev S_relay_Sent := Int × S_api_Message
def P_coresecmake_Deck : PT := .st (.pr (.sl (.int .i64)) (.int .i64))
abbrev S_coresecmake_Deck := List Int × Int
def P_coresecref34_Sent : PT := .st (.pr (.int .i64) P_api_Message)
abbrev S_coresecref34_Sent := Int × S_api_Message
def te3 : TE Tryz.prog := ⟨3, (.int .i64), ⟨fun _ => ⟨fun w => (by kernel_rfl), fun w => (by kernel_rfl)⟩, fun h => (by cases h), fun w => (by kernel_rfl), (show Tryz.prog.underlying 3 = some (.int .i64) by kernel_rfl)⟩⟩
def te4 : TE Tryz.prog := ⟨4, .bool, ⟨fun _ => ⟨fun w => (by kernel_rfl), fun w => (by kernel_rfl)⟩, fun h => (by cases h), fun w => (by kernel_rfl), (show Tryz.prog.underlying 4 = some .bool by kernel_rfl)⟩⟩
def te5 : TE Tryz.prog := ⟨5, (.int .u8), ⟨fun _ => ⟨fun w => (by kernel_rfl), fun w => (by kernel_rfl)⟩, fun h => (by cases h), fun w => (by kernel_rfl), (show Tryz.prog.underlying 5 = some (.int .u8) by kernel_rfl)⟩⟩
def te9 : TE Tryz.prog := ⟨9, .str, ⟨fun _ => ⟨fun w => (by kernel_rfl), fun w => (by kernel_rfl)⟩, fun h => (by cases h), fun w => (by kernel_rfl), (show Tryz.prog.underlying 9 = some .string by kernel_rfl)⟩⟩
def te22 : TE Tryz.prog := ⟨22, (.sl P_api_Hop), ⟨fun _ => ⟨fun w => (by kernel_rfl), fun w => (by kernel_rfl)⟩, fun h => (by cases h), fun w => (by kernel_rfl), trivial⟩⟩
def te23 : TE Tryz.prog := ⟨23, (.sl P_api_Cached), ⟨fun _ => ⟨fun w => (by kernel_rfl), fun w => (by kernel_rfl)⟩, fun h => (by cases h), fun w => (by kernel_rfl), trivial⟩⟩
def te25 : TE Tryz.prog := ⟨25, P_api_Proxy, ⟨fun h => (by cases h), fun _ => ⟨fun w => (by kernel_rfl), fun w => (by kernel_rfl)⟩, fun w => (by kernel_rfl), trivial⟩⟩
def te26 : TE Tryz.prog := ⟨26, (.sl (.int .u8)), ⟨fun _ => ⟨fun w => (by kernel_rfl), fun w => (by kernel_rfl)⟩, fun h => (by cases h), fun w => (by kernel_rfl), trivial⟩⟩
def te27 : TE Tryz.prog := ⟨27, (.sl P_api_Option), ⟨fun _ => ⟨fun w => (by kernel_rfl), fun w => (by kernel_rfl)⟩, fun h => (by cases h), fun w => (by kernel_rfl), trivial⟩⟩
def te29 : TE Tryz.prog := ⟨29, P_api_Message, ⟨fun h => (by cases h), fun _ => ⟨fun w => (by kernel_rfl), fun w => (by kernel_rfl)⟩, fun w => (by kernel_rfl), trivial⟩⟩
def te30 : TE Tryz.prog := ⟨30, (.sl (.int .i64)), ⟨fun _ => ⟨fun w => (by kernel_rfl), fun w => (by kernel_rfl)⟩, fun h => (by cases h), fun w => (by kernel_rfl), trivial⟩⟩
def te46 : TE Tryz.prog := ⟨46, (.int .i64), ⟨fun _ => ⟨fun w => (by kernel_rfl), fun w => (by kernel_rfl)⟩, fun h => (by cases h), fun w => (by kernel_rfl), (show Tryz.prog.underlying 46 = some (.int .i64) by kernel_rfl)⟩⟩
def te69 : TE Tryz.prog := ⟨69, P_api_Hop, ⟨fun h => (by cases h), fun _ => ⟨fun w => (by kernel_rfl), fun w => (by kernel_rfl)⟩, fun w => (by kernel_rfl), trivial⟩⟩
def te72 : TE Tryz.prog := ⟨72, P_api_Cached, ⟨fun h => (by cases h), fun _ => ⟨fun w => (by kernel_rfl), fun w => (by kernel_rfl)⟩, fun w => (by kernel_rfl), trivial⟩⟩
def te75 : TE Tryz.prog := ⟨75, P_api_Option, ⟨fun h => (by cases h), fun _ => ⟨fun w => (by kernel_rfl), fun w => (by kernel_rfl)⟩, fun w => (by kernel_rfl), trivial⟩⟩
def te77 : TE Tryz.prog := ⟨77, P_coresecmake_Deck, ⟨fun h => (by cases h), fun _ => ⟨fun w => (by kernel_rfl), fun w => (by kernel_rfl)⟩, fun w => (by kernel_rfl), trivial⟩⟩
def te96 : TE Tryz.prog := ⟨96, (.int .u64), ⟨fun _ => ⟨fun w => (by kernel_rfl), fun w => (by kernel_rfl)⟩, fun h => (by cases h), fun w => (by kernel_rfl), (show Tryz.prog.underlying 96 = some (.int .u64) by kernel_rfl)⟩⟩
def te103 : TE Tryz.prog := ⟨103, P_api_Block, ⟨fun h => (by cases h), fun _ => ⟨fun w => (by kernel_rfl), fun w => (by kernel_rfl)⟩, fun w => (by kernel_rfl), trivial⟩⟩
def te114 : TE Tryz.prog := ⟨114, (.int .u64), ⟨fun _ => ⟨fun w => (by kernel_rfl), fun w => (by kernel_rfl)⟩, fun h => (by cases h), fun w => (by kernel_rfl), (show Tryz.prog.underlying 114 = some (.int .u64) by kernel_rfl)⟩⟩
def te115 : TE Tryz.prog := ⟨115, (.sl .tree), ⟨fun _ => ⟨fun w => (by kernel_rfl), fun w => (by kernel_rfl)⟩, fun h => (by cases h), fun w => (by kernel_rfl), trivial⟩⟩
def te117 : TE Tryz.prog := ⟨117, .tree, ⟨fun h => (by cases h), fun _ => ⟨fun w => (by kernel_rfl), fun w => (by kernel_rfl)⟩, fun w => (by kernel_rfl), trivial⟩⟩
def te145 : TE Tryz.prog := ⟨145, P_cbor_checker, ⟨fun h => (by cases h), fun _ => ⟨fun w => (by kernel_rfl), fun w => (by kernel_rfl)⟩, fun w => (by kernel_rfl), trivial⟩⟩
def se22 : SE Tryz.prog := ⟨22, 69, P_api_Hop, 88, ⟨(by kernel_rfl), info_of (by kernel_rfl), (by kernel_rfl), (by decide)⟩, fun w => (by kernel_rfl), rfl⟩
def se23 : SE Tryz.prog := ⟨23, 72, P_api_Cached, 136, ⟨(by kernel_rfl), info_of (by kernel_rfl), (by kernel_rfl), (by decide)⟩, fun w => (by kernel_rfl), rfl⟩
def se26 : SE Tryz.prog := ⟨26, 5, (.int .u8), 1, ⟨(by kernel_rfl), info_of (by kernel_rfl), (by kernel_rfl), (by decide)⟩, fun w => (by kernel_rfl), rfl⟩
def se27 : SE Tryz.prog := ⟨27, 75, P_api_Option, 32, ⟨(by kernel_rfl), info_of (by kernel_rfl), (by kernel_rfl), (by decide)⟩, fun w => (by kernel_rfl), rfl⟩
def se30 : SE Tryz.prog := ⟨30, 3, (.int .i64), 8, ⟨(by kernel_rfl), info_of (by kernel_rfl), (by kernel_rfl), (by decide)⟩, fun w => (by kernel_rfl), rfl⟩
def se38 : SE Tryz.prog := ⟨38, 25, P_api_Proxy, 64, ⟨(by kernel_rfl), info_of (by kernel_rfl), (by kernel_rfl), (by decide)⟩, fun w => (by kernel_rfl), rfl⟩
def se43 : SE Tryz.prog := ⟨43, 29, P_api_Message, 96, ⟨(by kernel_rfl), info_of (by kernel_rfl), (by kernel_rfl), (by decide)⟩, fun w => (by kernel_rfl), rfl⟩
def se44 : SE Tryz.prog := ⟨44, 30, (.sl (.int .i64)), 24, ⟨(by kernel_rfl), info_of (by kernel_rfl), (by kernel_rfl), (by decide)⟩, fun w => (by kernel_rfl), rfl⟩
def se45 : SE Tryz.prog := ⟨45, 64, P_relay_Sent, 104, ⟨(by kernel_rfl), info_of (by kernel_rfl), (by kernel_rfl), (by decide)⟩, fun w => (by kernel_rfl), rfl⟩
def se49 : SE Tryz.prog := ⟨49, 100, P_coresecref34_Sent, 104, ⟨(by kernel_rfl), info_of (by kernel_rfl), (by kernel_rfl), (by decide)⟩, fun w => (by kernel_rfl), rfl⟩
def se62 : SE Tryz.prog := ⟨62, 26, (.sl (.int .u8)), 24, ⟨(by kernel_rfl), info_of (by kernel_rfl), (by kernel_rfl), (by decide)⟩, fun w => (by kernel_rfl), rfl⟩
def se115 : SE Tryz.prog := ⟨115, 117, .tree, 64, ⟨(by kernel_rfl), info_of (by kernel_rfl), (by kernel_rfl), (by decide)⟩, fun w => (by kernel_rfl), rfl⟩
def fe25_0 : FE Tryz.prog := ⟨25, 0, 0, fun w a => by kernel_rfl⟩
def fe25_1 : FE Tryz.prog := ⟨25, 1, 1, fun w a => by kernel_rfl⟩
def fe25_2 : FE Tryz.prog := ⟨25, 2, 2, fun w a => by kernel_rfl⟩
def fe25_3 : FE Tryz.prog := ⟨25, 3, 3, fun w a => by kernel_rfl⟩
def fe29_0 : FE Tryz.prog := ⟨29, 0, 0, fun w a => by kernel_rfl⟩
def fe29_1 : FE Tryz.prog := ⟨29, 1, 1, fun w a => by kernel_rfl⟩
def fe29_2 : FE Tryz.prog := ⟨29, 2, 2, fun w a => by kernel_rfl⟩
def fe29_3 : FE Tryz.prog := ⟨29, 3, 3, fun w a => by kernel_rfl⟩
def fe29_4 : FE Tryz.prog := ⟨29, 4, 4, fun w a => by kernel_rfl⟩
def fe29_5 : FE Tryz.prog := ⟨29, 5, 5, fun w a => by kernel_rfl⟩
def fe64_0 : FE Tryz.prog := ⟨64, 0, 0, fun w a => by kernel_rfl⟩
def fe64_1 : FE Tryz.prog := ⟨64, 1, 1, fun w a => by kernel_rfl⟩
def fe69_0 : FE Tryz.prog := ⟨69, 0, 0, fun w a => by kernel_rfl⟩
def fe69_1 : FE Tryz.prog := ⟨69, 1, 1, fun w a => by kernel_rfl⟩
def fe69_2 : FE Tryz.prog := ⟨69, 2, 2, fun w a => by kernel_rfl⟩
def fe69_3 : FE Tryz.prog := ⟨69, 3, 3, fun w a => by kernel_rfl⟩
def fe69_4 : FE Tryz.prog := ⟨69, 4, 4, fun w a => by kernel_rfl⟩
def fe72_0 : FE Tryz.prog := ⟨72, 0, 0, fun w a => by kernel_rfl⟩
def fe72_1 : FE Tryz.prog := ⟨72, 1, 1, fun w a => by kernel_rfl⟩
def fe72_2 : FE Tryz.prog := ⟨72, 2, 7, fun w a => by kernel_rfl⟩
def fe72_3 : FE Tryz.prog := ⟨72, 3, 8, fun w a => by kernel_rfl⟩
def fe75_0 : FE Tryz.prog := ⟨75, 0, 0, fun w a => by kernel_rfl⟩
def fe75_1 : FE Tryz.prog := ⟨75, 1, 1, fun w a => by kernel_rfl⟩
def fe77_0 : FE Tryz.prog := ⟨77, 0, 0, fun w a => by kernel_rfl⟩
def fe77_1 : FE Tryz.prog := ⟨77, 1, 1, fun w a => by kernel_rfl⟩
def fe100_0 : FE Tryz.prog := ⟨100, 0, 0, fun w a => by kernel_rfl⟩
def fe100_1 : FE Tryz.prog := ⟨100, 1, 1, fun w a => by kernel_rfl⟩
def fe103_0 : FE Tryz.prog := ⟨103, 0, 0, fun w a => by kernel_rfl⟩
def fe103_1 : FE Tryz.prog := ⟨103, 1, 1, fun w a => by kernel_rfl⟩
def fe103_2 : FE Tryz.prog := ⟨103, 2, 2, fun w a => by kernel_rfl⟩
def fe117_0 : FE Tryz.prog := ⟨117, 0, 0, fun w a => by kernel_rfl⟩
def fe117_1 : FE Tryz.prog := ⟨117, 1, 1, fun w a => by kernel_rfl⟩
def fe117_2 : FE Tryz.prog := ⟨117, 2, 2, fun w a => by kernel_rfl⟩
def fe117_3 : FE Tryz.prog := ⟨117, 3, 3, fun w a => by kernel_rfl⟩
def fe145_0 : FE Tryz.prog := ⟨145, 0, 0, fun w a => by kernel_rfl⟩
def fe145_1 : FE Tryz.prog := ⟨145, 1, 1, fun w a => by kernel_rfl⟩
def be25 : BE Tryz.prog := ⟨25, P_api_Proxy, [(0, (.int .i64)), (1, (.sl P_api_Hop)), (2, (.sl P_api_Cached)), (3, (.int .i64))], fun vs => by kernel_rfl⟩
def be29 : BE Tryz.prog := ⟨29, P_api_Message, [(0, (.int .i64)), (1, (.int .i64)), (2, (.int .i64)), (3, (.sl (.int .u8))), (4, (.sl P_api_Option)), (5, (.sl (.int .u8)))], fun vs => by kernel_rfl⟩
def be64 : BE Tryz.prog := ⟨64, P_relay_Sent, [(0, (.int .i64)), (1, P_api_Message)], fun vs => by kernel_rfl⟩
def be69 : BE Tryz.prog := ⟨69, P_api_Hop, [(0, (.int .i64)), (1, (.sl (.int .u8))), (2, (.sl (.int .u8))), (3, (.sl (.int .u8))), (4, .bool)], fun vs => by kernel_rfl⟩
def be72 : BE Tryz.prog := ⟨72, P_api_Cached, [(0, (.sl (.int .u8))), (1, P_api_Message), (7, (.int .i64)), (8, (.int .i64))], fun vs => by kernel_rfl⟩
def be75 : BE Tryz.prog := ⟨75, P_api_Option, [(0, (.int .i64)), (1, (.sl (.int .u8)))], fun vs => by kernel_rfl⟩
def be77 : BE Tryz.prog := ⟨77, P_coresecmake_Deck, [(0, (.sl (.int .i64))), (1, (.int .i64))], fun vs => by kernel_rfl⟩
def be100 : BE Tryz.prog := ⟨100, P_coresecref34_Sent, [(0, (.int .i64)), (1, P_api_Message)], fun vs => by kernel_rfl⟩
def be103 : BE Tryz.prog := ⟨103, P_api_Block, [(0, (.int .i64)), (1, .bool), (2, (.int .i64))], fun vs => by kernel_rfl⟩
def be117 : BE Tryz.prog := ⟨117, .tree, [(0, (.int .i64)), (1, (.int .u64)), (2, (.sl (.int .u8))), (3, (.sl .tree))], fun vs => by kernel_rfl⟩
def fd25_1 : FD Tryz.prog := ⟨25, 1, 22, 1, fun w cs => by kernel_rfl⟩
def mes : List (ME Tryz.prog) := []
def tes : List (TE Tryz.prog) := [te3, te4, te5, te9, te22, te23, te25, te26, te27, te29, te30, te46, te69, te72, te75, te77, te96, te103, te114, te115, te117, te145]
def ses : List (SE Tryz.prog) := [se22, se23, se26, se27, se30, se38, se43, se44, se45, se49, se62, se115]
def fes : List (FE Tryz.prog) := [fe25_0, fe25_1, fe25_2, fe25_3, fe29_0, fe29_1, fe29_2, fe29_3, fe29_4, fe29_5, fe64_0, fe64_1, fe69_0, fe69_1, fe69_2, fe69_3, fe69_4, fe72_0, fe72_1, fe72_2, fe72_3, fe75_0, fe75_1, fe77_0, fe77_1, fe100_0, fe100_1, fe103_0, fe103_1, fe103_2, fe117_0, fe117_1, fe117_2, fe117_3, fe145_0, fe145_1]
def bes : List (BE Tryz.prog) := [be25, be29, be64, be69, be72, be75, be77, be100, be103, be117]
def fds : List (FD Tryz.prog) := [fd25_1]
def qes : List (QE Tryz.prog) := []
def ges : List (GE Tryz.prog) := []
theorem kMix : Tryz.prog.follows .mixedOrders = true := by kernel_rfl
end Go.Proofs.YtcbkmlfkfhfliaaGreatDoor
