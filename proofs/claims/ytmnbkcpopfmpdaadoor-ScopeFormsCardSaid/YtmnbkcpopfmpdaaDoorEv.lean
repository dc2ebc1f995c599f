import Derived.Test.YtmnbkcpopfmpdaaDoorYEn
import Derived.Test.YtmnbkcpopfmpdaaDoorProg
namespace Go.Proofs.YtmnbkcpopfmpdaaDoor
open Go.Gk Go.RowKit
def codeOf (f : Func) : Code := match f.body with | some c => c | none => .skip
def P_api_Permit : PT := .st (.pr .str (.pr .bool (.int .i64)))
abbrev S_api_Permit := List UInt8 × Bool × Int
def P_coresecmake_Deck : PT := .st (.pr (.sl (.int .i64)) (.int .i64))
abbrev S_coresecmake_Deck := List Int × Int
def te3 : TE Tryd.prog := ⟨3, (.int .i64), ⟨fun _ => ⟨fun w => (by kernel_rfl), fun w => (by kernel_rfl)⟩, fun h => (by cases h), fun w => (by kernel_rfl), (show Tryd.prog.underlying 3 = some (.int .i64) by kernel_rfl)⟩⟩
def te4 : TE Tryd.prog := ⟨4, .bool, ⟨fun _ => ⟨fun w => (by kernel_rfl), fun w => (by kernel_rfl)⟩, fun h => (by cases h), fun w => (by kernel_rfl), (show Tryd.prog.underlying 4 = some .bool by kernel_rfl)⟩⟩
def te5 : TE Tryd.prog := ⟨5, (.int .u8), ⟨fun _ => ⟨fun w => (by kernel_rfl), fun w => (by kernel_rfl)⟩, fun h => (by cases h), fun w => (by kernel_rfl), (show Tryd.prog.underlying 5 = some (.int .u8) by kernel_rfl)⟩⟩
def te9 : TE Tryd.prog := ⟨9, .str, ⟨fun _ => ⟨fun w => (by kernel_rfl), fun w => (by kernel_rfl)⟩, fun h => (by cases h), fun w => (by kernel_rfl), (show Tryd.prog.underlying 9 = some .string by kernel_rfl)⟩⟩
def te22 : TE Tryd.prog := ⟨22, (.sl P_api_Permit), ⟨fun _ => ⟨fun w => (by kernel_rfl), fun w => (by kernel_rfl)⟩, fun h => (by cases h), fun w => (by kernel_rfl), trivial⟩⟩
def te23 : TE Tryd.prog := ⟨23, (.sl (.int .i64)), ⟨fun _ => ⟨fun w => (by kernel_rfl), fun w => (by kernel_rfl)⟩, fun h => (by cases h), fun w => (by kernel_rfl), trivial⟩⟩
def te29 : TE Tryd.prog := ⟨29, (.sl (.sl P_api_Permit)), ⟨fun _ => ⟨fun w => (by kernel_rfl), fun w => (by kernel_rfl)⟩, fun h => (by cases h), fun w => (by kernel_rfl), trivial⟩⟩
def te38 : TE Tryd.prog := ⟨38, (.int .i64), ⟨fun _ => ⟨fun w => (by kernel_rfl), fun w => (by kernel_rfl)⟩, fun h => (by cases h), fun w => (by kernel_rfl), (show Tryd.prog.underlying 38 = some (.int .i64) by kernel_rfl)⟩⟩
def te49 : TE Tryd.prog := ⟨49, P_api_Permit, ⟨fun h => (by cases h), fun _ => ⟨fun w => (by kernel_rfl), fun w => (by kernel_rfl)⟩, fun w => (by kernel_rfl), trivial⟩⟩
def te53 : TE Tryd.prog := ⟨53, P_coresecmake_Deck, ⟨fun h => (by cases h), fun _ => ⟨fun w => (by kernel_rfl), fun w => (by kernel_rfl)⟩, fun w => (by kernel_rfl), trivial⟩⟩
def te56 : TE Tryd.prog := ⟨56, (.int .u64), ⟨fun _ => ⟨fun w => (by kernel_rfl), fun w => (by kernel_rfl)⟩, fun h => (by cases h), fun w => (by kernel_rfl), (show Tryd.prog.underlying 56 = some (.int .u64) by kernel_rfl)⟩⟩
def se22 : SE Tryd.prog := ⟨22, 49, P_api_Permit, 32, ⟨(by kernel_rfl), info_of (by kernel_rfl), (by kernel_rfl), (by decide)⟩, fun w => (by kernel_rfl), rfl⟩
def se23 : SE Tryd.prog := ⟨23, 3, (.int .i64), 8, ⟨(by kernel_rfl), info_of (by kernel_rfl), (by kernel_rfl), (by decide)⟩, fun w => (by kernel_rfl), rfl⟩
def se29 : SE Tryd.prog := ⟨29, 22, (.sl P_api_Permit), 24, ⟨(by kernel_rfl), info_of (by kernel_rfl), (by kernel_rfl), (by decide)⟩, fun w => (by kernel_rfl), rfl⟩
def se30 : SE Tryd.prog := ⟨30, 9, .str, 16, ⟨(by kernel_rfl), info_of (by kernel_rfl), (by kernel_rfl), (by decide)⟩, fun w => (by kernel_rfl), rfl⟩
def se36 : SE Tryd.prog := ⟨36, 5, (.int .u8), 1, ⟨(by kernel_rfl), info_of (by kernel_rfl), (by kernel_rfl), (by decide)⟩, fun w => (by kernel_rfl), rfl⟩
def se45 : SE Tryd.prog := ⟨45, 29, (.sl (.sl P_api_Permit)), 24, ⟨(by kernel_rfl), info_of (by kernel_rfl), (by kernel_rfl), (by decide)⟩, fun w => (by kernel_rfl), rfl⟩
def fe49_0 : FE Tryd.prog := ⟨49, 0, 0, fun w a => by kernel_rfl⟩
def fe49_1 : FE Tryd.prog := ⟨49, 1, 1, fun w a => by kernel_rfl⟩
def fe49_2 : FE Tryd.prog := ⟨49, 2, 2, fun w a => by kernel_rfl⟩
def fe53_0 : FE Tryd.prog := ⟨53, 0, 0, fun w a => by kernel_rfl⟩
def fe53_1 : FE Tryd.prog := ⟨53, 1, 1, fun w a => by kernel_rfl⟩
def be49 : BE Tryd.prog := ⟨49, P_api_Permit, [(0, .str), (1, .bool), (2, (.int .i64))], fun vs => by kernel_rfl⟩
def be53 : BE Tryd.prog := ⟨53, P_coresecmake_Deck, [(0, (.sl (.int .i64))), (1, (.int .i64))], fun vs => by kernel_rfl⟩
def qe49 : QE Tryd.prog := ⟨49, (.pr .str (.pr .bool (.int .i64))), by kernel_rfl, by kernel_rfl, by kernel_rfl, by kernel_rfl⟩
def mes : List (ME Tryd.prog) := []
def tes : List (TE Tryd.prog) := [te3, te4, te5, te9, te22, te23, te29, te38, te49, te53, te56]
def ses : List (SE Tryd.prog) := [se22, se23, se29, se30, se36, se45]
def fes : List (FE Tryd.prog) := [fe49_0, fe49_1, fe49_2, fe53_0, fe53_1]
def bes : List (BE Tryd.prog) := [be49, be53]
def fds : List (FD Tryd.prog) := []
def qes : List (QE Tryd.prog) := [qe49]
def ges : List (GE Tryd.prog) := []
theorem kMix : Tryd.prog.follows .mixedOrders = true := by kernel_rfl
end Go.Proofs.YtmnbkcpopfmpdaaDoor
