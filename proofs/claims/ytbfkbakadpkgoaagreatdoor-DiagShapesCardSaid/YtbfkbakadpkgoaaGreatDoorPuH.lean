/-
  strconv.ParseUint at base 16 and 64 bits: what it answers at every string. Walked like the shelf's base 10.
-/
import Derived.Shelf.Pu.ParseUintPublic10
import Derived.Shelf.Pu.ParseUint10b64
namespace Go.Gk
open Go Go.Proofs Go.Shelf Go.RowKit
section
def hexv (c : UInt8) : Nat := if 48 ≤ c.toNat ∧ c.toNat ≤ 57 then c.toNat - 48 else if 97 ≤ (c ||| 32).toNat ∧ (c ||| 32).toNat ≤ 122 then (c ||| 32).toNat - 87 else 99
def parseHex (acc : Nat) : List UInt8 → Lib.NumEnd Nat
 | [] => .ok acc
 | c :: r => if 16 ≤ hexv c then .syntax else if 1152921504606846976 ≤ acc then .range else parseHex (acc * 16 + hexv c) r
def parseHexA (l : List UInt8) : Lib.NumEnd Nat := if l = [] then .syntax else parseHex 0 l
theorem parseHex_lt : ∀ (l : List UInt8) (acc u : Nat), acc < 18446744073709551616 → parseHex acc l = .ok u → u < 18446744073709551616
 | [], acc, u, ha, h => by
  simp only [parseHex] at h
  injection h with h
  omega
 | c :: r, acc, u, ha, h => by
  unfold parseHex at h
  split at h
  ·cases h
  ·split at h
   ·cases h
   ·exact parseHex_lt r _ u (by omega) h
set_option maxRecDepth 100000 in
theorem or32 (c : UInt8) : bits .or .u8 (c.toNat : Int) 32 = ((c ||| 32).toNat : Int) := by
 have : ∀ n : Nat, n < 256 → bits .or .u8 (n : Int) 32 = ((UInt8.ofNat n ||| 32).toNat : Int) := by decide
 have h := this c.toNat c.toNat_lt
 rw [UInt8.ofNat_toNat] at h
 exact h
variable {P : Program} {ρ : Ren}
set_option maxHeartbeats 32000000 in
set_option maxRecDepth 100000 in
theorem parse16_ne (L : LaysPu.n16 P ρ) (t : ByteArray) (hne : t.size ≠ 0) (hmax : t.size ≤ 9223372036854775806) (w : World) :
  Calls P (ρ.f 16) #[.string t, .int .i64 16, .int .i64 64] w fun e w' => e = .returned (Lib.uintTuple (ρ.t 34) (parseHex 0 t.data.toList)) ∧ w' = Lib.bytesWorld w (ρ.t 5) t := by
 have mixed := L.mixed
 have t9 := L.t9; have a9 := L.a9; have z9 := L.z9; have v9 := L.v9
 have t3 := L.t3; have a3 := L.a3; have z3 := L.z3; have v3 := L.v3
 have t22 := L.t22; have a22 := L.a22; have z22 := L.z22; have v22 := L.v22
 have t24 := L.t24; have a24 := L.a24; have z24 := L.z24; have v24 := L.v24
 have t4 := L.t4; have a4 := L.a4; have z4 := L.z4; have v4 := L.v4
 have t34 := L.t34; have a34 := L.a34; have z34 := L.z34; have v34 := L.v34
 have t5 := L.t5; have a5 := L.a5; have z5 := L.z5; have v5 := L.v5
 have t36 := L.t36; have a36 := L.a36; have z36 := L.z36; have v36 := L.v36
 have t37 := L.t37; have a37 := L.a37; have z37 := L.z37; have v37 := L.v37
 have t0 := L.t0; have a0 := L.a0; have z0 := L.z0; have v0 := L.v0
 have e19 : ∀ args w, (callFunc (ρ.f 19) args).run P w = .ok (.enter (ρ.f 19) args) w := enters_of L.f19 (by kernel_rfl) rfl
 have hemp : t.toList.isEmpty = false := by
  rw [← decide_eq_emptyBytes]
  exact decide_eq_false (fun h => hne (by rw [h]; rfl))
 have hcv := Lib.run_convert_string_bytes (P := P) w (ρ.t 9) (ρ.t 37) (ρ.t 5) t (u := .string) L.t9 L.t37 L.t5
 have hB : ∀ j, j < t.size → (Lib.bytesWorld w (ρ.t 5) t).cell? ⟨w.heap.size, j, none⟩ = some (.int .u8 (t.data.toList.getD j 0).toNat) := fun j hj => Lib.bytesWorld_cell w (ρ.t 5) t j hj
 obtain ⟨W1, hW1⟩ : ∃ W1, W1 = Lib.bytesWorld w (ρ.t 5) t := ⟨_, rfl⟩
 rw [← hW1] at hcv hB ⊢
 clear hW1
 obtain ⟨bs, hL⟩ : ∃ bs, bs = t.data.toList := ⟨_, rfl⟩
 have hLn : bs.length = t.size := by rw [hL, Lib.size_eq]
 rw [← hL] at hB ⊢
 clear hL
 have hmv : IntKind.u64.wrap (IntKind.u64.wrap 18446744073709551616 - 1) = 18446744073709551615 := by
  rw [IntKind.wrap_u64, IntKind.wrap_u64]
  decide
 go_enter L.f16, BodyPu.n16_ntmps ρ
 go_wp2
 go_loop [12, 13, 101] (fun vu vn vi => ∃ (k acc : Nat) (a : Int), vu = .bool false ∧ vn = .int .u64 a ∧ vi = .int .i64 k ∧ k ≤ t.size ∧ Hid (a = (acc : Int) ∧ acc < 18446744073709551616 ∧ parseHex 0 bs = parseHex acc (bs.drop k)))
  (fun _ _ vi => t.size - (intOf vi).toNat)
 case atStart => exact ⟨0, 0, 0, rfl, rfl, rfl, by omega, rfl, by omega, rfl⟩
 case round =>
  obtain ⟨k, acc, a, rfl, rfl, rfl, hk, hh⟩ := hrel
  obtain ⟨ha, hacc, hdec⟩ := hh.out
  clear hh
  have a0 : 0 ≤ a := by omega
  have a1 : a < 18446744073709551616 := by omega
  by_cases hkn : k < t.size
  ·have hc := hB k hkn
   have hdrop : bs.drop k = bs[k]'(by omega) :: bs.drop (k + 1) := List.drop_eq_getElem_cons (by omega)
   have hget : bs.getD k 0 = bs[k]'(by omega) := by simp [List.getD, List.getElem?_eq_getElem (show k < bs.length by omega)]
   rw [hdrop] at hdec
   rw [hget] at hc
   generalize bs[k]'(by omega) = c at hc hdec
   have hc256 : c.toNat < 256 := c.toNat_lt
   clear hB hdrop hget
   by_cases hdig : 48 ≤ c.toNat ∧ c.toNat ≤ 57
   ·obtain ⟨hd0, hd1⟩ := hdig
    have hx : hexv c = c.toNat - 48 := by simp [hexv, hd0, hd1]
    by_cases hcut : 1152921504606846976 ≤ acc
    ·have hF : parseHex acc (c :: bs.drop (k + 1)) = .range := by
       rw [parseHex, hx, if_neg (by omega), if_pos hcut]
     rw [hF] at hdec
     have icut : 1152921504606846976 ≤ a := by omega
     clear hcut hacc hF ha hx
     go_wp2
     go_ret2
     exact ⟨rfl, rfl⟩
    ·have hF : parseHex acc (c :: bs.drop (k + 1)) = parseHex (acc * 16 + (c.toNat - 48)) (bs.drop (k + 1)) := by
      rw [parseHex, hx, if_neg (by omega), if_neg hcut]
     have HN : Hid (a * 16 + ((c.toNat : Int) - 48) = ((acc * 16 + (c.toNat - 48) : Nat) : Int) ∧ acc * 16 + (c.toNat - 48) < 18446744073709551616 ∧ parseHex 0 bs = parseHex (acc * 16 + (c.toNat - 48)) (bs.drop (k + 1))) := Lib.hid ⟨by omega, by omega, hdec.trans hF⟩
     have icut : a < 1152921504606846976 := by omega
     have iov : a * 16 + ((c.toNat : Int) - 48) < 18446744073709551616 := by omega
     clear hcut hacc hF hdec ha hx
     go_wp2
     refine ⟨⟨k + 1, acc * 16 + (c.toNat - 48), a * 16 + ((c.toNat : Int) - 48), rfl, (by first | rfl | (congr 1; omega)), (by first | rfl | (congr 1; omega)), by omega, HN⟩, by simp [intOf]; omega⟩
   ·have hv := or32 c
    have hvl : (c ||| 32).toNat < 256 := (c ||| 32).toNat_lt
    have hxe : hexv c = if 97 ≤ (c ||| 32).toNat ∧ (c ||| 32).toNat ≤ 122 then (c ||| 32).toNat - 87 else 99 := by
     unfold hexv
     rw [if_neg hdig]
    by_cases hl : 97 ≤ (c ||| 32).toNat ∧ (c ||| 32).toNat ≤ 102
    ·obtain ⟨hl0, hl1⟩ := hl
     have hx : hexv c = (c ||| 32).toNat - 87 := by rw [hxe, if_pos ⟨hl0, by omega⟩]
     have h95 : c.toNat ≠ 95 := by
      intro e
      have : c = 95 := by apply UInt8.toNat_inj.1; exact e
      subst this
      revert hl0 hl1
      decide
     clear hxe
     generalize (c ||| 32).toNat = q at hv hvl hl0 hl1 hx
     by_cases hcut : 1152921504606846976 ≤ acc
     ·have hF : parseHex acc (c :: bs.drop (k + 1)) = .range := by
       rw [parseHex, hx, if_neg (by omega), if_pos hcut]
      rw [hF] at hdec
      have icut : 1152921504606846976 ≤ a := by omega
      clear hcut hacc hF ha hx
      go_wp2_with (go_at_fn (ρ.f 19); refine (AnyPu.internal_strconv_lower { L with } _ _).mono ?_; rintro e w' ⟨rfl, rfl⟩; try rw [hv])
      all_goals go_ret2
      all_goals first | exact ⟨rfl, rfl⟩ | exact ⟨by rw [hdec]; rfl, rfl⟩
     ·have hF : parseHex acc (c :: bs.drop (k + 1)) = parseHex (acc * 16 + (q - 87)) (bs.drop (k + 1)) := by
       rw [parseHex, hx, if_neg (by omega), if_neg hcut]
      have HN : Hid (a * 16 + ((q : Int) - 97 + 10) = ((acc * 16 + (q - 87) : Nat) : Int) ∧ acc * 16 + (q - 87) < 18446744073709551616 ∧ parseHex 0 bs = parseHex (acc * 16 + (q - 87)) (bs.drop (k + 1))) := Lib.hid ⟨by omega, by omega, hdec.trans hF⟩
      have icut : a < 1152921504606846976 := by omega
      have iov : a * 16 + ((q : Int) - 97 + 10) < 18446744073709551616 := by omega
      clear hcut hacc hF hdec ha hx
      go_wp2_with (go_at_fn (ρ.f 19); refine (AnyPu.internal_strconv_lower { L with } _ _).mono ?_; rintro e w' ⟨rfl, rfl⟩; try rw [hv])
      all_goals refine ⟨⟨k + 1, acc * 16 + (q - 87), a * 16 + ((q : Int) - 97 + 10), rfl, (by first | rfl | (congr 1; omega)), (by first | rfl | (congr 1; omega)), by omega, HN⟩, by simp [intOf]; omega⟩
    ·have hx : 16 ≤ hexv c := by
      rw [hxe]
      split <;> omega
     have hF : parseHex acc (c :: bs.drop (k + 1)) = .syntax := by simp [parseHex, hx]
     rw [hF] at hdec
     clear hacc hF ha hx hxe
     generalize (c ||| 32).toNat = q at hv hvl hl
     by_cases hl0 : 97 ≤ q
     ·have hl1 : 102 < q := by omega
      clear hl
      have h95 : c.toNat ≠ 95 ∨ c.toNat = 95 := by omega
      go_wp2_with (go_at_fn (ρ.f 19); refine (AnyPu.internal_strconv_lower { L with } _ _).mono ?_; rintro e w' ⟨rfl, rfl⟩; try rw [hv])
      all_goals go_ret2
      all_goals first | exact ⟨rfl, rfl⟩ | exact ⟨by rw [hdec]; rfl, rfl⟩
     ·have hl1 : q < 97 := by omega
      clear hl
      go_wp2_with (go_at_fn (ρ.f 19); refine (AnyPu.internal_strconv_lower { L with } _ _).mono ?_; rintro e w' ⟨rfl, rfl⟩; try rw [hv])
      all_goals go_ret2
      all_goals first | exact ⟨rfl, rfl⟩ | exact ⟨by rw [hdec]; rfl, rfl⟩
  ·have hkk : k = t.size := by omega
   subst hkk
   have hF : parseHex acc (bs.drop t.size) = .ok acc := by rw [List.drop_eq_nil_of_le (by omega)]; rfl
   rw [hF] at hdec
   subst ha
   clear hacc hF a0 a1
   go_wp2
   go_ret2
   exact ⟨rfl, rfl⟩
theorem parse16_in (L : LaysPu.n16 P ρ) (t : ByteArray) (hmax : t.size ≤ 9223372036854775806) (w : World) :
  Calls P (ρ.f 16) #[.string t, .int .i64 16, .int .i64 64] w fun e w' => e = .returned (Lib.uintTuple (ρ.t 34) (parseHexA t.data.toList)) ∧ (w' = w ∨ w' = Lib.bytesWorld w (ρ.t 5) t) := by
 by_cases h0 : t.size = 0
 ·have ht : t = ⟨#[]⟩ := by
   apply ByteArray.ext
   exact Array.eq_empty_of_size_eq_zero h0
  subst ht
  exact (AnyPu.internal_strconv_ParseUint_empty { L with } 16 64 w).mono fun e w' ⟨he, hw⟩ => ⟨he, Or.inl hw⟩
 ·have hne : t.data.toList ≠ [] := fun h => h0 (by rw [Lib.size_eq, h]; rfl)
  refine (parse16_ne { L with } t h0 hmax w).mono fun e w' ⟨he, hw⟩ => ⟨?_, Or.inr hw⟩
  rw [he, parseHexA, if_neg hne]
set_option maxHeartbeats 4000000 in
set_option maxRecDepth 100000 in
theorem parse16_ok (L : LaysPu.n14 P ρ) (s : ByteArray) (hmax : s.size ≤ 9223372036854775806) (u : Nat) (h : parseHexA s.data.toList = .ok u) (w : World) :
  Calls P (ρ.f 14) #[.string s, .int .i64 16, .int .i64 64] w fun e w' => e = .returned (.tuple #[.int .u64 u, .nilIface]) ∧ Below w.heap.size w w' := by
 have mixed := L.mixed
 have t9 := L.t9; have a9 := L.a9; have z9 := L.z9; have v9 := L.v9
 have t3 := L.t3; have a3 := L.a3; have z3 := L.z3; have v3 := L.v3
 have t22 := L.t22; have a22 := L.a22; have z22 := L.z22; have v22 := L.v22
 have t24 := L.t24; have a24 := L.a24; have z24 := L.z24; have v24 := L.v24
 have t25 := L.t25; have a25 := L.a25; have z25 := L.z25; have v25 := L.v25
 have t4 := L.t4; have a4 := L.a4; have z4 := L.z4; have v4 := L.v4
 have e16 : ∀ args w, (callFunc (ρ.f 16) args).run P w = .ok (.enter (ρ.f 16) args) w := enters_of L.f16 (by kernel_rfl) rfl
 have hI := parse16_in { L with } s hmax w
 rw [h] at hI
 have hI : Calls P (ρ.f 16) #[.string s, .int .i64 16, .int .i64 64] w fun e w' => e = .returned (.tuple #[.int .u64 u, .nilIface]) ∧ Below w.heap.size w w' := hI.mono fun e w' ⟨h1, h2⟩ => ⟨h1, by
  rcases h2 with rfl | rfl
  ·exact Below.refl _ _
  ·exact Lib.bytesWorld_below _ _ _⟩
 clear h
 go_enter L.f14, BodyPu.n14_ntmps ρ
 go_wp2_with (go_at_fn (ρ.f 16); refine hI.mono ?_; rintro e W1 ⟨rfl, hW⟩)
 go_wp2
 go_ret2
 exact ⟨rfl, hW⟩
set_option maxHeartbeats 4000000 in
set_option maxRecDepth 100000 in
theorem parse16_syntax (L : LaysPu.n14 P ρ) (s : ByteArray) (hlim : s.size ≤ 281474976710656) (h : parseHexA s.data.toList = .syntax) (ev : Value) (w : World) (hv : w.cell? ⟨(ρ.g 0), 0, none⟩ = some ev) (hev : ev = .nilIface ∨ ∃ te pe, ev = .iface te pe) :
  Calls P (ρ.f 14) #[.string s, .int .i64 16, .int .i64 64] w fun e w' => ∃ N, e = .returned (.tuple #[.int .u64 0, .iface (ρ.t 39) (.pointer (some ⟨N, 0, none⟩))]) ∧ Below w.heap.size w w' := by
 have mixed := L.mixed
 have t9 := L.t9; have a9 := L.a9; have z9 := L.z9; have v9 := L.v9
 have t3 := L.t3; have a3 := L.a3; have z3 := L.z3; have v3 := L.v3
 have t22 := L.t22; have a22 := L.a22; have z22 := L.z22; have v22 := L.v22
 have t24 := L.t24; have a24 := L.a24; have z24 := L.z24; have v24 := L.v24
 have t25 := L.t25; have a25 := L.a25; have z25 := L.z25; have v25 := L.v25
 have t4 := L.t4; have a4 := L.a4; have z4 := L.z4; have v4 := L.v4
 have e16 : ∀ args w, (callFunc (ρ.f 16) args).run P w = .ok (.enter (ρ.f 16) args) w := enters_of L.f16 (by kernel_rfl) rfl
 have e17 : ∀ args w, (callFunc (ρ.f 17) args).run P w = .ok (.enter (ρ.f 17) args) w := enters_of L.f17 (by kernel_rfl) rfl
 have hG : (ρ.g 0) < w.heap.size := Lib.lt_of_cell hv
 have hI := parse16_in { L with } s (by omega) w
 rw [h] at hI
 have hI : Calls P (ρ.f 16) #[.string s, .int .i64 16, .int .i64 64] w fun e w' => e = .returned (.tuple #[.int .u64 0, .iface (ρ.t 34) (.int .i64 2)]) ∧ (w' = w ∨ w' = Lib.bytesWorld w (ρ.t 5) s) := hI
 clear h
 go_enter L.f14, BodyPu.n14_ntmps ρ
 go_wp2_with (go_at_fn (ρ.f 16); refine hI.mono ?_)
 rintro e W1 ⟨rfl, hW⟩
 have hb1 : Below w.heap.size w W1 := by
  rcases hW with rfl | rfl
  ·exact Below.refl _ _
  ·exact Lib.bytesWorld_below _ _ _
 have hv1 : W1.cell? ⟨(ρ.g 0), 0, none⟩ = some ev := (hb1.cell (show (⟨(ρ.g 0), 0, none⟩ : Addr).block < w.heap.size from hG)).trans hv
 clear hW
 go_wp2_with (go_at_fn (ρ.f 17); refine (AnyPu.strconv_toError_syntax { L with } ⟨#[80, 97, 114, 115, 101, 85, 105, 110, 116]⟩ s 16 64 ev _ hlim ?_ hev).mono ?_)
 ·exact hv1
 rintro e W2 ⟨N, rfl, h1, h2, h3⟩
 go_wp2
 go_ret2
 exact ⟨N, rfl, hb1.trans (h3.mono hb1.size)⟩
set_option maxHeartbeats 4000000 in
set_option maxRecDepth 100000 in
theorem parse16_range (L : LaysPu.n14 P ρ) (s : ByteArray) (hlim : s.size ≤ 281474976710656) (h : parseHexA s.data.toList = .range) (ev : Value) (w : World) (hv : w.cell? ⟨(ρ.g 1), 0, none⟩ = some ev) (hev : ev = .nilIface ∨ ∃ te pe, ev = .iface te pe) :
  Calls P (ρ.f 14) #[.string s, .int .i64 16, .int .i64 64] w fun e w' => ∃ N, e = .returned (.tuple #[.int .u64 18446744073709551615, .iface (ρ.t 39) (.pointer (some ⟨N, 0, none⟩))]) ∧ Below w.heap.size w w' := by
 have mixed := L.mixed
 have t9 := L.t9; have a9 := L.a9; have z9 := L.z9; have v9 := L.v9
 have t3 := L.t3; have a3 := L.a3; have z3 := L.z3; have v3 := L.v3
 have t22 := L.t22; have a22 := L.a22; have z22 := L.z22; have v22 := L.v22
 have t24 := L.t24; have a24 := L.a24; have z24 := L.z24; have v24 := L.v24
 have t25 := L.t25; have a25 := L.a25; have z25 := L.z25; have v25 := L.v25
 have t4 := L.t4; have a4 := L.a4; have z4 := L.z4; have v4 := L.v4
 have e16 : ∀ args w, (callFunc (ρ.f 16) args).run P w = .ok (.enter (ρ.f 16) args) w := enters_of L.f16 (by kernel_rfl) rfl
 have e17 : ∀ args w, (callFunc (ρ.f 17) args).run P w = .ok (.enter (ρ.f 17) args) w := enters_of L.f17 (by kernel_rfl) rfl
 have hG : (ρ.g 1) < w.heap.size := Lib.lt_of_cell hv
 have hI := parse16_in { L with } s (by omega) w
 rw [h] at hI
 have hI : Calls P (ρ.f 16) #[.string s, .int .i64 16, .int .i64 64] w fun e w' => e = .returned (.tuple #[.int .u64 18446744073709551615, .iface (ρ.t 34) (.int .i64 1)]) ∧ (w' = w ∨ w' = Lib.bytesWorld w (ρ.t 5) s) := hI
 clear h
 go_enter L.f14, BodyPu.n14_ntmps ρ
 go_wp2_with (go_at_fn (ρ.f 16); refine hI.mono ?_)
 rintro e W1 ⟨rfl, hW⟩
 have hb1 : Below w.heap.size w W1 := by
  rcases hW with rfl | rfl
  ·exact Below.refl _ _
  ·exact Lib.bytesWorld_below _ _ _
 have hv1 : W1.cell? ⟨(ρ.g 1), 0, none⟩ = some ev := (hb1.cell (show (⟨(ρ.g 1), 0, none⟩ : Addr).block < w.heap.size from hG)).trans hv
 clear hW
 go_wp2_with (go_at_fn (ρ.f 17); refine (AnyPu.strconv_toError_range { L with } ⟨#[80, 97, 114, 115, 101, 85, 105, 110, 116]⟩ s 16 64 ev _ hlim ?_ hev).mono ?_)
 ·exact hv1
 rintro e W2 ⟨N, rfl, h1, h2, h3⟩
 go_wp2
 go_ret2
 exact ⟨N, rfl, hb1.trans (h3.mono hb1.size)⟩
end
end Go.Gk
