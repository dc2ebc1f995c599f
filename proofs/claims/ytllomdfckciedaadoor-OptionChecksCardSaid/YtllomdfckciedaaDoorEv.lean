import Derived.Test.YtllomdfckciedaaDoorYEn
import Derived.Test.YtllomdfckciedaaDoorProg
namespace Go.Proofs.YtllomdfckciedaaDoor
open Go.Gk Go.RowKit
def codeOf (f : Func) : Code := match f.body with | some c => c | none => .skip
def P_api_Rule : PT := .st (.pr (.int .i64) (.pr (.int .i64) (.pr (.int .i64) .bool)))
abbrev S_api_Rule := Int × Int × Int × Bool
def P_api_Option : PT := .st (.pr (.int .i64) (.sl (.int .u8)))
abbrev S_api_Option := Int × List UInt8
def P_api_Message : PT := .st (.pr (.int .i64) (.pr (.int .i64) (.pr (.int .i64) (.pr (.sl (.int .u8)) (.pr (.sl P_api_Option) (.sl (.int .u8)))))))
abbrev S_api_Message := Int × Int × Int × List UInt8 × List S_api_Option × List UInt8
def P_coresecmake_Deck : PT := .st (.pr (.sl (.int .i64)) (.int .i64))
abbrev S_coresecmake_Deck := List Int × Int
def P_cbor_checker : PT := .st (.pr (.int .i64) (.int .i64))
abbrev S_cbor_checker := Int × Int
def P_utf8_acceptRange : PT := .st (.pr (.int .u8) (.int .u8))
abbrev S_utf8_acceptRange := UInt8 × UInt8
def te3 : TE Tryd.prog := ⟨3, (.int .i64), ⟨fun _ => ⟨fun w => (by kernel_rfl), fun w => (by kernel_rfl)⟩, fun h => (by cases h), fun w => (by kernel_rfl), (show Tryd.prog.underlying 3 = some (.int .i64) by kernel_rfl)⟩⟩
def te4 : TE Tryd.prog := ⟨4, .bool, ⟨fun _ => ⟨fun w => (by kernel_rfl), fun w => (by kernel_rfl)⟩, fun h => (by cases h), fun w => (by kernel_rfl), (show Tryd.prog.underlying 4 = some .bool by kernel_rfl)⟩⟩
def te5 : TE Tryd.prog := ⟨5, (.int .u8), ⟨fun _ => ⟨fun w => (by kernel_rfl), fun w => (by kernel_rfl)⟩, fun h => (by cases h), fun w => (by kernel_rfl), (show Tryd.prog.underlying 5 = some (.int .u8) by kernel_rfl)⟩⟩
def te9 : TE Tryd.prog := ⟨9, .str, ⟨fun _ => ⟨fun w => (by kernel_rfl), fun w => (by kernel_rfl)⟩, fun h => (by cases h), fun w => (by kernel_rfl), (show Tryd.prog.underlying 9 = some .string by kernel_rfl)⟩⟩
def te12 : TE Tryd.prog := ⟨12, (.int .u64), ⟨fun _ => ⟨fun w => (by kernel_rfl), fun w => (by kernel_rfl)⟩, fun h => (by cases h), fun w => (by kernel_rfl), (show Tryd.prog.underlying 12 = some (.int .u64) by kernel_rfl)⟩⟩
def te22 : TE Tryd.prog := ⟨22, (.sl (.int .i64)), ⟨fun _ => ⟨fun w => (by kernel_rfl), fun w => (by kernel_rfl)⟩, fun h => (by cases h), fun w => (by kernel_rfl), trivial⟩⟩
def te24 : TE Tryd.prog := ⟨24, (.sl (.int .u8)), ⟨fun _ => ⟨fun w => (by kernel_rfl), fun w => (by kernel_rfl)⟩, fun h => (by cases h), fun w => (by kernel_rfl), trivial⟩⟩
def te25 : TE Tryd.prog := ⟨25, (.sl P_api_Option), ⟨fun _ => ⟨fun w => (by kernel_rfl), fun w => (by kernel_rfl)⟩, fun h => (by cases h), fun w => (by kernel_rfl), trivial⟩⟩
def te27 : TE Tryd.prog := ⟨27, P_api_Message, ⟨fun h => (by cases h), fun _ => ⟨fun w => (by kernel_rfl), fun w => (by kernel_rfl)⟩, fun w => (by kernel_rfl), trivial⟩⟩
def te33 : TE Tryd.prog := ⟨33, (.int .i64), ⟨fun _ => ⟨fun w => (by kernel_rfl), fun w => (by kernel_rfl)⟩, fun h => (by cases h), fun w => (by kernel_rfl), (show Tryd.prog.underlying 33 = some (.int .i64) by kernel_rfl)⟩⟩
def te53 : TE Tryd.prog := ⟨53, P_api_Rule, ⟨fun h => (by cases h), fun _ => ⟨fun w => (by kernel_rfl), fun w => (by kernel_rfl)⟩, fun w => (by kernel_rfl), trivial⟩⟩
def te69 : TE Tryd.prog := ⟨69, (.int .u64), ⟨fun _ => ⟨fun w => (by kernel_rfl), fun w => (by kernel_rfl)⟩, fun h => (by cases h), fun w => (by kernel_rfl), (show Tryd.prog.underlying 69 = some (.int .u64) by kernel_rfl)⟩⟩
def te74 : TE Tryd.prog := ⟨74, P_api_Option, ⟨fun h => (by cases h), fun _ => ⟨fun w => (by kernel_rfl), fun w => (by kernel_rfl)⟩, fun w => (by kernel_rfl), trivial⟩⟩
def te82 : TE Tryd.prog := ⟨82, (.int .u64), ⟨fun _ => ⟨fun w => (by kernel_rfl), fun w => (by kernel_rfl)⟩, fun h => (by cases h), fun w => (by kernel_rfl), (show Tryd.prog.underlying 82 = some (.int .u64) by kernel_rfl)⟩⟩
def te88 : TE Tryd.prog := ⟨88, (.sl .tree), ⟨fun _ => ⟨fun w => (by kernel_rfl), fun w => (by kernel_rfl)⟩, fun h => (by cases h), fun w => (by kernel_rfl), trivial⟩⟩
def te90 : TE Tryd.prog := ⟨90, .tree, ⟨fun h => (by cases h), fun _ => ⟨fun w => (by kernel_rfl), fun w => (by kernel_rfl)⟩, fun w => (by kernel_rfl), trivial⟩⟩
def te97 : TE Tryd.prog := ⟨97, P_coresecmake_Deck, ⟨fun h => (by cases h), fun _ => ⟨fun w => (by kernel_rfl), fun w => (by kernel_rfl)⟩, fun w => (by kernel_rfl), trivial⟩⟩
def te119 : TE Tryd.prog := ⟨119, P_utf8_acceptRange, ⟨fun h => (by cases h), fun _ => ⟨fun w => (by kernel_rfl), fun w => (by kernel_rfl)⟩, fun w => (by kernel_rfl), trivial⟩⟩
def te122 : TE Tryd.prog := ⟨122, P_cbor_checker, ⟨fun h => (by cases h), fun _ => ⟨fun w => (by kernel_rfl), fun w => (by kernel_rfl)⟩, fun w => (by kernel_rfl), trivial⟩⟩
def se22 : SE Tryd.prog := ⟨22, 3, (.int .i64), 8, ⟨(by kernel_rfl), info_of (by kernel_rfl), (by kernel_rfl), (by decide)⟩, fun w => (by kernel_rfl), rfl⟩
def se24 : SE Tryd.prog := ⟨24, 5, (.int .u8), 1, ⟨(by kernel_rfl), info_of (by kernel_rfl), (by kernel_rfl), (by decide)⟩, fun w => (by kernel_rfl), rfl⟩
def se25 : SE Tryd.prog := ⟨25, 74, P_api_Option, 32, ⟨(by kernel_rfl), info_of (by kernel_rfl), (by kernel_rfl), (by decide)⟩, fun w => (by kernel_rfl), rfl⟩
def se32 : SE Tryd.prog := ⟨32, 9, .str, 16, ⟨(by kernel_rfl), info_of (by kernel_rfl), (by kernel_rfl), (by decide)⟩, fun w => (by kernel_rfl), rfl⟩
def se40 : SE Tryd.prog := ⟨40, 24, (.sl (.int .u8)), 24, ⟨(by kernel_rfl), info_of (by kernel_rfl), (by kernel_rfl), (by decide)⟩, fun w => (by kernel_rfl), rfl⟩
def se88 : SE Tryd.prog := ⟨88, 90, .tree, 64, ⟨(by kernel_rfl), info_of (by kernel_rfl), (by kernel_rfl), (by decide)⟩, fun w => (by kernel_rfl), rfl⟩
def fe27_0 : FE Tryd.prog := ⟨27, 0, 0, fun w a => by kernel_rfl⟩
def fe27_1 : FE Tryd.prog := ⟨27, 1, 1, fun w a => by kernel_rfl⟩
def fe27_2 : FE Tryd.prog := ⟨27, 2, 2, fun w a => by kernel_rfl⟩
def fe27_3 : FE Tryd.prog := ⟨27, 3, 3, fun w a => by kernel_rfl⟩
def fe27_4 : FE Tryd.prog := ⟨27, 4, 4, fun w a => by kernel_rfl⟩
def fe27_5 : FE Tryd.prog := ⟨27, 5, 5, fun w a => by kernel_rfl⟩
def fe53_0 : FE Tryd.prog := ⟨53, 0, 0, fun w a => by kernel_rfl⟩
def fe53_1 : FE Tryd.prog := ⟨53, 1, 1, fun w a => by kernel_rfl⟩
def fe53_2 : FE Tryd.prog := ⟨53, 2, 2, fun w a => by kernel_rfl⟩
def fe53_3 : FE Tryd.prog := ⟨53, 3, 3, fun w a => by kernel_rfl⟩
def fe74_0 : FE Tryd.prog := ⟨74, 0, 0, fun w a => by kernel_rfl⟩
def fe74_1 : FE Tryd.prog := ⟨74, 1, 1, fun w a => by kernel_rfl⟩
def fe90_0 : FE Tryd.prog := ⟨90, 0, 0, fun w a => by kernel_rfl⟩
def fe90_1 : FE Tryd.prog := ⟨90, 1, 1, fun w a => by kernel_rfl⟩
def fe90_2 : FE Tryd.prog := ⟨90, 2, 2, fun w a => by kernel_rfl⟩
def fe90_3 : FE Tryd.prog := ⟨90, 3, 3, fun w a => by kernel_rfl⟩
def fe97_0 : FE Tryd.prog := ⟨97, 0, 0, fun w a => by kernel_rfl⟩
def fe97_1 : FE Tryd.prog := ⟨97, 1, 1, fun w a => by kernel_rfl⟩
def fe119_0 : FE Tryd.prog := ⟨119, 0, 0, fun w a => by kernel_rfl⟩
def fe119_1 : FE Tryd.prog := ⟨119, 1, 1, fun w a => by kernel_rfl⟩
def fe122_0 : FE Tryd.prog := ⟨122, 0, 0, fun w a => by kernel_rfl⟩
def fe122_1 : FE Tryd.prog := ⟨122, 1, 1, fun w a => by kernel_rfl⟩
def be27 : BE Tryd.prog := ⟨27, P_api_Message, [(0, (.int .i64)), (1, (.int .i64)), (2, (.int .i64)), (3, (.sl (.int .u8))), (4, (.sl P_api_Option)), (5, (.sl (.int .u8)))], fun vs => by kernel_rfl⟩
def be53 : BE Tryd.prog := ⟨53, P_api_Rule, [(0, (.int .i64)), (1, (.int .i64)), (2, (.int .i64)), (3, .bool)], fun vs => by kernel_rfl⟩
def be74 : BE Tryd.prog := ⟨74, P_api_Option, [(0, (.int .i64)), (1, (.sl (.int .u8)))], fun vs => by kernel_rfl⟩
def be90 : BE Tryd.prog := ⟨90, .tree, [(0, (.int .i64)), (1, (.int .u64)), (2, (.sl (.int .u8))), (3, (.sl .tree))], fun vs => by kernel_rfl⟩
def be97 : BE Tryd.prog := ⟨97, P_coresecmake_Deck, [(0, (.sl (.int .i64))), (1, (.int .i64))], fun vs => by kernel_rfl⟩
def qe53 : QE Tryd.prog := ⟨53, (.pr (.int .i64) (.pr (.int .i64) (.pr (.int .i64) .bool))), by kernel_rfl, by kernel_rfl, by kernel_rfl, by kernel_rfl⟩
def tes : List (TE Tryd.prog) := [te3, te4, te5, te9, te12, te22, te24, te25, te27, te33, te53, te69, te74, te82, te88, te90, te97, te119, te122]
def ses : List (SE Tryd.prog) := [se22, se24, se25, se32, se40, se88]
def fes : List (FE Tryd.prog) := [fe27_0, fe27_1, fe27_2, fe27_3, fe27_4, fe27_5, fe53_0, fe53_1, fe53_2, fe53_3, fe74_0, fe74_1, fe90_0, fe90_1, fe90_2, fe90_3, fe97_0, fe97_1, fe119_0, fe119_1, fe122_0, fe122_1]
def bes : List (BE Tryd.prog) := [be27, be53, be74, be90, be97]
def fds : List (FD Tryd.prog) := []
def qes : List (QE Tryd.prog) := [qe53]
theorem glob_0_ex : ∃ l : List UInt8, l = (List.range 256).map (fun c => UInt8.ofNat (Lib.firstT c)) := ⟨_, rfl⟩
noncomputable def glob_0 : List UInt8 := Classical.choose glob_0_ex
theorem glob_0_eq : glob_0 = (List.range 256).map (fun c => UInt8.ofNat (Lib.firstT c)) := Classical.choose_spec glob_0_ex
theorem glob_0_len : glob_0.length = 256 := by rw [glob_0_eq, List.length_map, List.length_range]
theorem glob_1_ex : ∃ l : List (UInt8 × UInt8), l = (List.range 16).map (fun c => (UInt8.ofNat (Lib.accLo c), UInt8.ofNat (Lib.accHi c))) := ⟨_, rfl⟩
noncomputable def glob_1 : List (UInt8 × UInt8) := Classical.choose glob_1_ex
theorem glob_1_eq : glob_1 = (List.range 16).map (fun c => (UInt8.ofNat (Lib.accLo c), UInt8.ofNat (Lib.accHi c))) := Classical.choose_spec glob_1_ex
theorem glob_1_len : glob_1.length = 16 := by rw [glob_1_eq, List.length_map, List.length_range]
theorem tab_le : ∀ c : Fin 256, Lib.firstT c.1 < 256 := by decide +kernel
theorem acc_le : ∀ c : Fin 16, Lib.accLo c.1 < 256 ∧ Lib.accHi c.1 < 256 := by decide +kernel
theorem glob_get {α β : Type} {f : α → β} {l : List α} {i : Nat} {x : β} (h : (l.map f)[i]? = some x) : ∃ y, l[i]? = some y ∧ f y = x := by
  rw [List.getElem?_map] at h; exact Option.map_eq_some_iff.1 h
noncomputable def ge0 : GE Tryd.prog where
  id := 117
  gl := 0
  pt := .int .u8
  xs := glob_0
  el := 5
  und := by
    have h : List.length (α := den (.int .u8)) glob_0 = 256 := glob_0_len
    exact h ▸ (show Tryd.prog.underlying 117 = some (.array 256 5) by kernel_rfl)
  sz := fun w => show (Go.sizeOf 5).run Tryd.prog w = .ok 1 w by kernel_rfl
  hg := by decide
  cells := fun w0 hF i x hx => by
    have hx : glob_0[i]? = some x := hx
    rw [glob_0_eq] at hx
    obtain ⟨c, hc, rfl⟩ := glob_get hx
    obtain ⟨hlt, rfl⟩ := List.getElem?_eq_some_iff.1 hc
    rw [List.getElem_range] at *
    rw [List.length_range] at hlt
    have hv := tab_le ⟨i, hlt⟩
    have hv : Lib.firstT i < 256 := hv
    refine ⟨[.int .u8 ((UInt8.ofNat (Lib.firstT i)).toNat : Int)], fun _ _ => rfl, fun j u hj => ?_⟩
    match j, hj with
    | 0, hj =>
      cases hj
      have := hF.2.1 i hlt
      rw [show i * csz (.int .u8) + 0 = i by show i * 1 + 0 = i; omega, this, UInt8.toNat_ofNat', Nat.mod_eq_of_lt (show Lib.firstT i < 2 ^ 8 from hv)]
noncomputable def ge1 : GE Tryd.prog where
  id := 120
  gl := 1
  pt := P_utf8_acceptRange
  xs := glob_1
  el := 119
  und := by
    have h : List.length (α := den P_utf8_acceptRange) glob_1 = 16 := glob_1_len
    exact h ▸ (show Tryd.prog.underlying 120 = some (.array 16 119) by kernel_rfl)
  sz := fun w => show (Go.sizeOf 119).run Tryd.prog w = .ok 2 w by kernel_rfl
  hg := by decide
  cells := fun w0 hF i x hx => by
    have hx : glob_1[i]? = some x := hx
    rw [glob_1_eq] at hx
    obtain ⟨c, hc, rfl⟩ := glob_get hx
    obtain ⟨hlt, rfl⟩ := List.getElem?_eq_some_iff.1 hc
    rw [List.getElem_range] at *
    rw [List.length_range] at hlt
    obtain ⟨v1, v2⟩ := acc_le ⟨i, hlt⟩
    have v1 : Lib.accLo i < 256 := v1
    have v2 : Lib.accHi i < 256 := v2
    refine ⟨[.int .u8 ((UInt8.ofNat (Lib.accLo i)).toNat : Int), .int .u8 ((UInt8.ofNat (Lib.accHi i)).toNat : Int)], fun _ _ => ⟨[_], [_], rfl, rfl, rfl⟩, fun j u hj => ?_⟩
    obtain ⟨h1, h2⟩ := hF.2.2 i hlt
    match j, hj with
    | 0, hj =>
      cases hj
      rw [show i * csz P_utf8_acceptRange + 0 = 2 * i by show i * 2 + 0 = 2 * i; omega, h1, UInt8.toNat_ofNat', Nat.mod_eq_of_lt (show Lib.accLo i < 2 ^ 8 from v1)]
    | 1, hj =>
      cases hj
      rw [show i * csz P_utf8_acceptRange + 1 = 2 * i + 1 by show i * 2 + 1 = 2 * i + 1; omega, h2, UInt8.toNat_ofNat', Nat.mod_eq_of_lt (show Lib.accHi i < 2 ^ 8 from v2)]
noncomputable def ges : List (GE Tryd.prog) := [ge0, ge1]

theorem kMix : Tryd.prog.follows .mixedOrders = true := by kernel_rfl
end Go.Proofs.YtllomdfckciedaaDoor
