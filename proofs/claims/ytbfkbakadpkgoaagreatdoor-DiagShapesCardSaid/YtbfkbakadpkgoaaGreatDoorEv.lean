import Derived.Test.YtbfkbakadpkgoaaGreatDoorYEn
import Derived.Test.YtbfkbakadpkgoaaGreatDoorProg
namespace Go.Proofs.YtbfkbakadpkgoaaGreatDoor
open Go.Gk Go.RowKit
def codeOf (f : Func) : Code := match f.body with | some c => c | none => .skip
def isIfc : Option TypeDesc → Bool
 | some (.interface _) => true
 | _ => false
theorem ifc_of {o : Option TypeDesc} (h : isIfc o = true) : ∃ ms, o = some (.interface ms) := by
 unfold isIfc at h
 split at h
 ·exact ⟨_, rfl⟩
 ·cases h
def P_coresecmake_Deck : PT := .st (.pr (.sl (.int .i64)) (.int .i64))
abbrev S_coresecmake_Deck := List Int × Int
def P_cbor_checker : PT := .st (.pr (.int .i64) (.int .i64))
abbrev S_cbor_checker := Int × Int
def P_diag_parser : PT := .st (.pr .str (.pr (.int .i64) .bool))
abbrev S_diag_parser := List UInt8 × Int × Bool
def P_coresecref03_parser : PT := .st (.pr .str (.pr (.int .i64) .bool))
abbrev S_coresecref03_parser := List UInt8 × Int × Bool
def P_utf8_acceptRange : PT := .st (.pr (.int .u8) (.int .u8))
abbrev S_utf8_acceptRange := UInt8 × UInt8
def te3 : TE Tryz.prog := ⟨3, (.int .i64), ⟨fun _ => ⟨fun w => (by kernel_rfl), fun w => (by kernel_rfl)⟩, fun h => (by cases h), fun w => (by kernel_rfl), (show Tryz.prog.underlying 3 = some (.int .i64) by kernel_rfl)⟩⟩
def te4 : TE Tryz.prog := ⟨4, .bool, ⟨fun _ => ⟨fun w => (by kernel_rfl), fun w => (by kernel_rfl)⟩, fun h => (by cases h), fun w => (by kernel_rfl), (show Tryz.prog.underlying 4 = some .bool by kernel_rfl)⟩⟩
def te5 : TE Tryz.prog := ⟨5, (.int .u8), ⟨fun _ => ⟨fun w => (by kernel_rfl), fun w => (by kernel_rfl)⟩, fun h => (by cases h), fun w => (by kernel_rfl), (show Tryz.prog.underlying 5 = some (.int .u8) by kernel_rfl)⟩⟩
def te9 : TE Tryz.prog := ⟨9, .str, ⟨fun _ => ⟨fun w => (by kernel_rfl), fun w => (by kernel_rfl)⟩, fun h => (by cases h), fun w => (by kernel_rfl), (show Tryz.prog.underlying 9 = some .string by kernel_rfl)⟩⟩
def te12 : TE Tryz.prog := ⟨12, (.int .u64), ⟨fun _ => ⟨fun w => (by kernel_rfl), fun w => (by kernel_rfl)⟩, fun h => (by cases h), fun w => (by kernel_rfl), (show Tryz.prog.underlying 12 = some (.int .u64) by kernel_rfl)⟩⟩
def te22 : TE Tryz.prog := ⟨22, (.int .u64), ⟨fun _ => ⟨fun w => (by kernel_rfl), fun w => (by kernel_rfl)⟩, fun h => (by cases h), fun w => (by kernel_rfl), (show Tryz.prog.underlying 22 = some (.int .u64) by kernel_rfl)⟩⟩
def te23 : TE Tryz.prog := ⟨23, (.sl (.int .u8)), ⟨fun _ => ⟨fun w => (by kernel_rfl), fun w => (by kernel_rfl)⟩, fun h => (by cases h), fun w => (by kernel_rfl), trivial⟩⟩
def te24 : TE Tryz.prog := ⟨24, (.sl .tree), ⟨fun _ => ⟨fun w => (by kernel_rfl), fun w => (by kernel_rfl)⟩, fun h => (by cases h), fun w => (by kernel_rfl), trivial⟩⟩
def te26 : TE Tryz.prog := ⟨26, .tree, ⟨fun h => (by cases h), fun _ => ⟨fun w => (by kernel_rfl), fun w => (by kernel_rfl)⟩, fun w => (by kernel_rfl), trivial⟩⟩
def te27 : TE Tryz.prog := ⟨27, (.sl (.int .i64)), ⟨fun _ => ⟨fun w => (by kernel_rfl), fun w => (by kernel_rfl)⟩, fun h => (by cases h), fun w => (by kernel_rfl), trivial⟩⟩
def te31 : TE Tryz.prog := ⟨31, (.int .i64), ⟨fun _ => ⟨fun w => (by kernel_rfl), fun w => (by kernel_rfl)⟩, fun h => (by cases h), fun w => (by kernel_rfl), (show Tryz.prog.underlying 31 = some (.int .i64) by kernel_rfl)⟩⟩
def te45 : TE Tryz.prog := ⟨45, P_coresecmake_Deck, ⟨fun h => (by cases h), fun _ => ⟨fun w => (by kernel_rfl), fun w => (by kernel_rfl)⟩, fun w => (by kernel_rfl), trivial⟩⟩
def te59 : TE Tryz.prog := ⟨59, P_diag_parser, ⟨fun h => (by cases h), fun _ => ⟨fun w => (by kernel_rfl), fun w => (by kernel_rfl)⟩, fun w => (by kernel_rfl), trivial⟩⟩
def te62 : TE Tryz.prog := ⟨62, P_coresecref03_parser, ⟨fun h => (by cases h), fun _ => ⟨fun w => (by kernel_rfl), fun w => (by kernel_rfl)⟩, fun w => (by kernel_rfl), trivial⟩⟩
def te65 : TE Tryz.prog := ⟨65, (.int .u64), ⟨fun _ => ⟨fun w => (by kernel_rfl), fun w => (by kernel_rfl)⟩, fun h => (by cases h), fun w => (by kernel_rfl), (show Tryz.prog.underlying 65 = some (.int .u64) by kernel_rfl)⟩⟩
def te69 : TE Tryz.prog := ⟨69, P_cbor_checker, ⟨fun h => (by cases h), fun _ => ⟨fun w => (by kernel_rfl), fun w => (by kernel_rfl)⟩, fun w => (by kernel_rfl), trivial⟩⟩
def te84 : TE Tryz.prog := ⟨84, .err, ⟨fun _ => ⟨fun w => (by kernel_rfl), fun w => (by kernel_rfl)⟩, fun h => (by cases h), fun w => (by kernel_rfl), (ifc_of (show isIfc (Tryz.prog.underlying 84) = true by kernel_rfl))⟩⟩
def te107 : TE Tryz.prog := ⟨107, .fl, ⟨fun _ => ⟨fun w => (by kernel_rfl), fun w => (by kernel_rfl)⟩, fun h => (by cases h), fun w => (by kernel_rfl), trivial⟩⟩
def te120 : TE Tryz.prog := ⟨120, P_utf8_acceptRange, ⟨fun h => (by cases h), fun _ => ⟨fun w => (by kernel_rfl), fun w => (by kernel_rfl)⟩, fun w => (by kernel_rfl), trivial⟩⟩
def te136 : TE Tryz.prog := ⟨136, (.int .u32), ⟨fun _ => ⟨fun w => (by kernel_rfl), fun w => (by kernel_rfl)⟩, fun h => (by cases h), fun w => (by kernel_rfl), (show Tryz.prog.underlying 136 = some (.int .u32) by kernel_rfl)⟩⟩
def te138 : TE Tryz.prog := ⟨138, (.int .u16), ⟨fun _ => ⟨fun w => (by kernel_rfl), fun w => (by kernel_rfl)⟩, fun h => (by cases h), fun w => (by kernel_rfl), (show Tryz.prog.underlying 138 = some (.int .u16) by kernel_rfl)⟩⟩
def se23 : SE Tryz.prog := ⟨23, 5, (.int .u8), 1, ⟨(by kernel_rfl), info_of (by kernel_rfl), (by kernel_rfl), (by decide)⟩, fun w => (by kernel_rfl), rfl⟩
def se24 : SE Tryz.prog := ⟨24, 26, .tree, 64, ⟨(by kernel_rfl), info_of (by kernel_rfl), (by kernel_rfl), (by decide)⟩, fun w => (by kernel_rfl), rfl⟩
def se27 : SE Tryz.prog := ⟨27, 3, (.int .i64), 8, ⟨(by kernel_rfl), info_of (by kernel_rfl), (by kernel_rfl), (by decide)⟩, fun w => (by kernel_rfl), rfl⟩
def se37 : SE Tryz.prog := ⟨37, 9, .str, 16, ⟨(by kernel_rfl), info_of (by kernel_rfl), (by kernel_rfl), (by decide)⟩, fun w => (by kernel_rfl), rfl⟩
def se53 : SE Tryz.prog := ⟨53, 22, (.int .u64), 8, ⟨(by kernel_rfl), info_of (by kernel_rfl), (by kernel_rfl), (by decide)⟩, fun w => (by kernel_rfl), rfl⟩
def fe26_0 : FE Tryz.prog := ⟨26, 0, 0, fun w a => by kernel_rfl⟩
def fe26_1 : FE Tryz.prog := ⟨26, 1, 1, fun w a => by kernel_rfl⟩
def fe26_2 : FE Tryz.prog := ⟨26, 2, 2, fun w a => by kernel_rfl⟩
def fe26_3 : FE Tryz.prog := ⟨26, 3, 3, fun w a => by kernel_rfl⟩
def fe45_0 : FE Tryz.prog := ⟨45, 0, 0, fun w a => by kernel_rfl⟩
def fe45_1 : FE Tryz.prog := ⟨45, 1, 1, fun w a => by kernel_rfl⟩
def fe59_0 : FE Tryz.prog := ⟨59, 0, 0, fun w a => by kernel_rfl⟩
def fe59_1 : FE Tryz.prog := ⟨59, 1, 1, fun w a => by kernel_rfl⟩
def fe59_2 : FE Tryz.prog := ⟨59, 2, 2, fun w a => by kernel_rfl⟩
def fe62_0 : FE Tryz.prog := ⟨62, 0, 0, fun w a => by kernel_rfl⟩
def fe62_1 : FE Tryz.prog := ⟨62, 1, 1, fun w a => by kernel_rfl⟩
def fe62_2 : FE Tryz.prog := ⟨62, 2, 2, fun w a => by kernel_rfl⟩
def fe69_0 : FE Tryz.prog := ⟨69, 0, 0, fun w a => by kernel_rfl⟩
def fe69_1 : FE Tryz.prog := ⟨69, 1, 1, fun w a => by kernel_rfl⟩
def fe120_0 : FE Tryz.prog := ⟨120, 0, 0, fun w a => by kernel_rfl⟩
def fe120_1 : FE Tryz.prog := ⟨120, 1, 1, fun w a => by kernel_rfl⟩
def be26 : BE Tryz.prog := ⟨26, .tree, [(0, (.int .i64)), (1, (.int .u64)), (2, (.sl (.int .u8))), (3, (.sl .tree))], fun vs => by kernel_rfl⟩
def be45 : BE Tryz.prog := ⟨45, P_coresecmake_Deck, [(0, (.sl (.int .i64))), (1, (.int .i64))], fun vs => by kernel_rfl⟩
def be59 : BE Tryz.prog := ⟨59, P_diag_parser, [(0, .str), (1, (.int .i64)), (2, .bool)], fun vs => by kernel_rfl⟩
def be62 : BE Tryz.prog := ⟨62, P_coresecref03_parser, [(0, .str), (1, (.int .i64)), (2, .bool)], fun vs => by kernel_rfl⟩
def mes : List (ME Tryz.prog) := []
def tes : List (TE Tryz.prog) := [te3, te4, te5, te9, te12, te22, te23, te24, te26, te27, te31, te45, te59, te62, te65, te69, te84, te107, te120, te136, te138]
def ses : List (SE Tryz.prog) := [se23, se24, se27, se37, se53]
def fes : List (FE Tryz.prog) := [fe26_0, fe26_1, fe26_2, fe26_3, fe45_0, fe45_1, fe59_0, fe59_1, fe59_2, fe62_0, fe62_1, fe62_2, fe69_0, fe69_1, fe120_0, fe120_1]
def bes : List (BE Tryz.prog) := [be26, be45, be59, be62]
def fds : List (FD Tryz.prog) := []
def qes : List (QE Tryz.prog) := []
theorem glob_0_ex : ∃ l : List UInt8, l = (List.range 256).map (fun c => UInt8.ofNat (Lib.firstT c)) := ⟨_, rfl⟩
noncomputable def glob_0 : List UInt8 := Classical.choose glob_0_ex
theorem glob_0_eq : glob_0 = (List.range 256).map (fun c => UInt8.ofNat (Lib.firstT c)) := Classical.choose_spec glob_0_ex
theorem glob_0_len : glob_0.length = 256 := by rw [glob_0_eq, List.length_map, List.length_range]
theorem glob_1_ex : ∃ l : List (UInt8 × UInt8), l = (List.range 16).map (fun c => (UInt8.ofNat (Lib.accLo c), UInt8.ofNat (Lib.accHi c))) := ⟨_, rfl⟩
noncomputable def glob_1 : List (UInt8 × UInt8) := Classical.choose glob_1_ex
theorem glob_1_eq : glob_1 = (List.range 16).map (fun c => (UInt8.ofNat (Lib.accLo c), UInt8.ofNat (Lib.accHi c))) := Classical.choose_spec glob_1_ex
theorem glob_1_len : glob_1.length = 16 := by rw [glob_1_eq, List.length_map, List.length_range]
theorem tab_le : ∀ c : Fin 256, Lib.firstT c.1 < 256 := by decide +kernel
theorem acc_le : ∀ c : Fin 16, Lib.accLo c.1 < 256 ∧ Lib.accHi c.1 < 256 := by decide +kernel
theorem glob_get {α β : Type} {f : α → β} {l : List α} {i : Nat} {x : β} (h : (l.map f)[i]? = some x) : ∃ y, l[i]? = some y ∧ f y = x := by
 rw [List.getElem?_map] at h; exact Option.map_eq_some_iff.1 h
noncomputable def ge1 : GE Tryz.prog where
 id := 118
 gl := 1
 pt := .int .u8
 xs := glob_0
 el := 5
 und := by
  have h : List.length (α := den (.int .u8)) glob_0 = 256 := glob_0_len
  exact h ▸ (show Tryz.prog.underlying 118 = some (.array 256 5) by kernel_rfl)
 sz := fun w => show (Go.sizeOf 5).run Tryz.prog w = .ok 1 w by kernel_rfl
 hg := by decide
 ag := false
 agk := fun h => by cases h
 cells := fun w0 hF i x hx => by
  have hx : glob_0[i]? = some x := hx
  rw [glob_0_eq] at hx
  obtain ⟨c, hc, rfl⟩ := glob_get hx
  obtain ⟨hlt, rfl⟩ := List.getElem?_eq_some_iff.1 hc
  rw [List.getElem_range] at *
  rw [List.length_range] at hlt
  have hv := tab_le ⟨i, hlt⟩
  have hv : Lib.firstT i < 256 := hv
  refine ⟨[.int .u8 ((UInt8.ofNat (Lib.firstT i)).toNat : Int)], fun _ _ => rfl, fun j u hj => ?_⟩
  match j, hj with
  | 0, hj =>
   cases hj
   have := hF.2.1.1 i hlt
   rw [show i * csz (.int .u8) + 0 = i by show i * 1 + 0 = i; omega, this, UInt8.toNat_ofNat', Nat.mod_eq_of_lt (show Lib.firstT i < 2 ^ 8 from hv)]
noncomputable def ge2 : GE Tryz.prog where
 id := 121
 gl := 2
 pt := P_utf8_acceptRange
 xs := glob_1
 el := 120
 und := by
  have h : List.length (α := den P_utf8_acceptRange) glob_1 = 16 := glob_1_len
  exact h ▸ (show Tryz.prog.underlying 121 = some (.array 16 120) by kernel_rfl)
 sz := fun w => show (Go.sizeOf 120).run Tryz.prog w = .ok 2 w by kernel_rfl
 hg := by decide
 ag := false
 agk := fun h => by cases h
 cells := fun w0 hF i x hx => by
  have hx : glob_1[i]? = some x := hx
  rw [glob_1_eq] at hx
  obtain ⟨c, hc, rfl⟩ := glob_get hx
  obtain ⟨hlt, rfl⟩ := List.getElem?_eq_some_iff.1 hc
  rw [List.getElem_range] at *
  rw [List.length_range] at hlt
  obtain ⟨v1, v2⟩ := acc_le ⟨i, hlt⟩
  have v1 : Lib.accLo i < 256 := v1
  have v2 : Lib.accHi i < 256 := v2
  refine ⟨[.int .u8 ((UInt8.ofNat (Lib.accLo i)).toNat : Int), .int .u8 ((UInt8.ofNat (Lib.accHi i)).toNat : Int)], fun _ _ => ⟨[_], [_], rfl, rfl, rfl⟩, fun j u hj => ?_⟩
  obtain ⟨h1, h2⟩ := hF.2.1.2 i hlt
  match j, hj with
  | 0, hj =>
   cases hj
   rw [show i * csz P_utf8_acceptRange + 0 = 2 * i by show i * 2 + 0 = 2 * i; omega, h1, UInt8.toNat_ofNat', Nat.mod_eq_of_lt (show Lib.accLo i < 2 ^ 8 from v1)]
  | 1, hj =>
   cases hj
   rw [show i * csz P_utf8_acceptRange + 1 = 2 * i + 1 by show i * 2 + 1 = 2 * i + 1; omega, h2, UInt8.toNat_ofNat', Nat.mod_eq_of_lt (show Lib.accHi i < 2 ^ 8 from v2)]
def ge0 : GE Tryz.prog where
 id := 73
 gl := 0
 pt := .str
 xs := [[102, 97, 108, 115, 101], [116, 114, 117, 101], [110, 117, 108, 108], [117, 110, 100, 101, 102, 105, 110, 101, 100]]
 el := 9
 und := show Tryz.prog.underlying 73 = some (.array 4 9) by kernel_rfl
 sz := fun w => show (Go.sizeOf 9).run Tryz.prog w = .ok 1 w by kernel_rfl
 hg := by decide
 ag := true
 agk := fun _ => ⟨⟨fun w => by kernel_rfl, fun w => by kernel_rfl⟩, rfl, rfl, ⟨fun w => by kernel_rfl, fun w => by kernel_rfl⟩⟩
 cells := fun w0 hF i x hx => by
  obtain ⟨h0, h1, h2, h3⟩ := hF.2.2.1
  match i, hx with
  | 0, hx =>
   cases hx
   refine ⟨[strV [102, 97, 108, 115, 101]], fun _ _ => rfl, fun j u hj => ?_⟩
   match j, hj with
   | 0, hj => cases hj; exact h0
  | 1, hx =>
   cases hx
   refine ⟨[strV [116, 114, 117, 101]], fun _ _ => rfl, fun j u hj => ?_⟩
   match j, hj with
   | 0, hj => cases hj; exact h1
  | 2, hx =>
   cases hx
   refine ⟨[strV [110, 117, 108, 108]], fun _ _ => rfl, fun j u hj => ?_⟩
   match j, hj with
   | 0, hj => cases hj; exact h2
  | 3, hx =>
   cases hx
   refine ⟨[strV [117, 110, 100, 101, 102, 105, 110, 101, 100]], fun _ _ => rfl, fun j u hj => ?_⟩
   match j, hj with
   | 0, hj => cases hj; exact h3
noncomputable def ges : List (GE Tryz.prog) := [ge0, ge1, ge2]
def xe75 : XE Tryz.prog := ⟨75, .int .u64, .fl, fun n => n, fun x v lab w h => by
 obtain rfl := Dat.int (k := .u64) h
 refine ⟨.float .f64 (UInt64.toNat x), ?_, ⟨_, rfl, rfl⟩⟩
 have : ∀ n : Int, (callFunc 75 #[.int .u64 n]).run Tryz.prog w = .ok (.value (.float .f64 n.toNat)) w := fun n => by kernel_rfl
 have h2 := this (toI .u64 x)
 rw [h2]
 rfl⟩
def xes : List (XE Tryz.prog) := [xe75]
theorem kMix : Tryz.prog.follows .mixedOrders = true := by kernel_rfl
end Go.Proofs.YtbfkbakadpkgoaaGreatDoor
