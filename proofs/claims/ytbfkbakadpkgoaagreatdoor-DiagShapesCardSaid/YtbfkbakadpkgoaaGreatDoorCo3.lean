/-
  The functions compute their models: what the evaluator gives is the model, by the kernel. No condition.
-/
import Derived.Test.YtbfkbakadpkgoaaGreatDoorCo2
namespace Go.Proofs.YtbfkbakadpkgoaaGreatDoor
open Go.Gk Go.RowKit
noncomputable section
set_option maxRecDepth 100000
def t_diag_parser_skip : Tab Tryz.prog := ⟨tes, ses, fes, bes, [con_strings_CutPrefix], [], fds, [], qes, ges, mes, [], xes⟩
def h_diag_parser_skip : Hint := (.s .n (.s .n (.j ⟨[.b 0 59 P_diag_parser], [0, 6]⟩ false (.s .n (.c .n .n)) (.s .n .n))))
def con_diag_parser_skip : Con Tryz.prog := ⟨46, [.p 59 P_diag_parser, .d .str], [.d .bool], ⟨Tryz.f46, Tryz.func46, by kernel_rfl, by kernel_rfl⟩, m_diag_parser_skip, fun a r h => mkM_ok (T := t_diag_parser_skip) (N := 22) (own := []) (rng := []) (c := (codeOf Tryz.f46)) (h := h_diag_parser_skip) (qs := [.tmp 4]) kMix Tryz.func46 (by kernel_rfl) (by kernel_rfl) (by kernel_rfl) (by kernel_rfl) a r (Eq.trans (by kernel_rfl) h)⟩
def con_internal_stringslite_Index : Con Tryz.prog := ⟨118, [.d .str, .d .str], [.d (.int .i64)], ⟨Tryz.f118, Tryz.func118, by kernel_rfl, by kernel_rfl⟩, m_internal_stringslite_Index, by
 intro a r h k kp gp lab w vs t _ _ hk hargs
 match vs, hargs with
 | [v1, v2], hargs =>
  obtain ⟨h1, h2, _⟩ := hargs
  obtain rfl := Dat.str h1
  obtain ⟨a0, a1, _⟩ := a
  match a1, h, h2 with
  | [c], h, h2 =>
   obtain rfl := Dat.str h2
   have h : some (Lib.indexByte a0 c) = some r := h
   cases h
   refine (Tryz.stringslite_Index_one ⟨List.toArray (α := UInt8) a0⟩ c w).mono ?_
   rintro e w' ⟨rfl, rfl⟩
   exact ⟨lab, [_], rfl, Stp.refl t, Dat.ofInt (k := .i64) _, trivial⟩
  | [], h, _ => cases h
  | _ :: _ :: _, h, _ => cases h⟩
def t_internal_stringslite_Cut : Tab Tryz.prog := ⟨tes, ses, fes, bes, [con_internal_stringslite_Index], [], fds, [], qes, ges, mes, [], xes⟩
def h_internal_stringslite_Cut : Hint := (.s .n (.s (.s .n (.s .n (.c (.s .n .n) .n))) (.s .n .n)))
def con_internal_stringslite_Cut : Con Tryz.prog := ⟨95, [.d .str, .d .str], [.d .str, .d .str, .d .bool], ⟨Tryz.f95, Tryz.func95, by kernel_rfl, by kernel_rfl⟩, m_internal_stringslite_Cut, fun a r h => mkM_ok (T := t_internal_stringslite_Cut) (N := 23) (own := []) (rng := []) (c := (codeOf Tryz.f95)) (h := h_internal_stringslite_Cut) (qs := [.tmp 4, .tmp 5, .tmp 6]) kMix Tryz.func95 (by kernel_rfl) (by kernel_rfl) (by kernel_rfl) (by kernel_rfl) a r (Eq.trans (by kernel_rfl) h)⟩
def t_strings_Cut : Tab Tryz.prog := ⟨tes, ses, fes, bes, [con_internal_stringslite_Cut], [], fds, [], qes, ges, mes, [], xes⟩
def h_strings_Cut : Hint := (.s .n (.s .n .n))
def con_strings_Cut : Con Tryz.prog := ⟨70, [.d .str, .d .str], [.d .str, .d .str, .d .bool], ⟨Tryz.f70, Tryz.func70, by kernel_rfl, by kernel_rfl⟩, m_strings_Cut, fun a r h => mkM_ok (T := t_strings_Cut) (N := 13) (own := []) (rng := []) (c := (codeOf Tryz.f70)) (h := h_strings_Cut) (qs := [.tmp 4, .tmp 5, .tmp 6]) kMix Tryz.func70 (by kernel_rfl) (by kernel_rfl) (by kernel_rfl) (by kernel_rfl) a r (Eq.trans (by kernel_rfl) h)⟩
theorem c_strings_Trim (a0 a1 r : List UInt8) (h : m_strings_Trim a0 a1 = some r) (w : World) : Calls Tryz.prog 69 [strV a0, strV a1].toArray w fun e w' => e = .returned (strV r) ∧ Below w.heap.size w w' := by
 unfold m_strings_Trim at h
 cases hb : (decide (a0.length ≤ 4294967280) && decide (a1.length ≤ 4294967280) && a1.all (fun b => decide (b.toNat < 128))) with
 | false => rw [hb] at h; cases h
 | true =>
  rw [hb] at h
  simp only [Bool.and_eq_true, decide_eq_true_eq] at hb
  obtain ⟨⟨g1, g2⟩, g3⟩ := hb
  cases h
  exact Any.strings_Trim_laid Tryz.lays160 (by kernel_rfl) ⟨a0.toArray⟩ ⟨a1.toArray⟩ w (by show a0.toArray.size ≤ _; rw [List.size_toArray]; omega) (by show a1.toArray.size < _; rw [List.size_toArray]; omega) (ascii_of_all g3)
def con_strings_Trim : Con Tryz.prog := ⟨69, [.d .str, .d .str], [.d .str], ⟨Tryz.f69, Tryz.func69, by kernel_rfl, by kernel_rfl⟩, m_strings_Trim, by
 intro a r h k kp gp lab w vs t _ _ hk hargs
 match vs, hargs with
 | [v1, v2], hargs =>
  obtain ⟨h1, h2, _⟩ := hargs
  obtain rfl := Dat.str h1
  obtain rfl := Dat.str h2
  refine (c_strings_Trim a.1 a.2.1 r h w).mono ?_
  rintro e w' ⟨rfl, hB⟩
  have hste : Ste lab 0 w lab w' := ⟨hB.os, hB.tape, hB.output, hB.size, fun b hb _ => hB.block b hb, fun _ _ => rfl, fun b hb => t b (Nat.le_trans hB.size hb)⟩
  exact ⟨lab, [_], rfl, hste.stp (.inr rfl), Dat.ofStr _, trivial⟩⟩
def t_diag_parser_digits : Tab Tryz.prog := ⟨tes, ses, fes, bes, [con_strings_Cut, con_strings_Trim], [], fds, [], qes, ges, mes, [], xes⟩
def h_diag_parser_digits : Hint := (.s .n (.s .n (.j ⟨[.b 0 59 P_diag_parser], [0, 3, 4]⟩ false .n (.s .n (.s .n .n)))))
def con_diag_parser_digits : Con Tryz.prog := ⟨52, [.p 59 P_diag_parser], [.d .str], ⟨Tryz.f52, Tryz.func52, by kernel_rfl, by kernel_rfl⟩, m_diag_parser_digits, fun a r h => mkM_ok (T := t_diag_parser_digits) (N := 36) (own := []) (rng := []) (c := (codeOf Tryz.f52)) (h := h_diag_parser_digits) (qs := [.tmp 2]) kMix Tryz.func52 (by kernel_rfl) (by kernel_rfl) (by kernel_rfl) (by kernel_rfl) a r (Eq.trans (by kernel_rfl) h)⟩
theorem c_strings_IndexByte (s : List UInt8) (c : UInt8) (w : World) : Calls Tryz.prog 87 [strV s, .int .u8 (c.toNat : Int)].toArray w fun e w' => e = .returned (.int .i64 (Lib.indexByte s c)) ∧ w' = w := by
 have h := Tryz.strings_IndexByte ⟨s.toArray⟩ (c.toNat : Int) w
 have e : ((c.toNat : Int)).toNat.toUInt8 = c := by simp
 rw [e] at h
 exact h
def con_strings_IndexByte : Con Tryz.prog := ⟨87, [.d .str, .d (.int .u8)], [.d (.int .i64)], ⟨Tryz.f87, Tryz.func87, by kernel_rfl, by kernel_rfl⟩, m_strings_IndexByte, by
 intro a r h k kp gp lab w vs t _ _ hk hargs
 match vs, hargs with
 | [v1, v2], hargs =>
  obtain ⟨h1, h2, _⟩ := hargs
  obtain rfl := Dat.str h1
  obtain rfl := Dat.int (k := .u8) h2
  have h : some (Lib.indexByte a.1 a.2.1) = some r := h
  cases h
  refine (c_strings_IndexByte a.1 a.2.1 w).mono ?_
  rintro e w' ⟨rfl, rfl⟩
  exact ⟨lab, [_], rfl, Stp.refl t, Dat.ofInt (k := .i64) _, trivial⟩⟩
def t_diag_nibble : Tab Tryz.prog := ⟨tes, ses, fes, bes, [con_strings_IndexByte], [], fds, [], qes, ges, mes, [], xes⟩
def h_diag_nibble : Hint := (.s .n (.s .n .n))
def con_diag_nibble : Con Tryz.prog := ⟨68, [.d (.int .u8)], [.d (.int .u8)], ⟨Tryz.f68, Tryz.func68, by kernel_rfl, by kernel_rfl⟩, m_diag_nibble, fun a r h => mkM_ok (T := t_diag_nibble) (N := 7) (own := []) (rng := []) (c := (codeOf Tryz.f68)) (h := h_diag_nibble) (qs := [.tmp 2]) kMix Tryz.func68 (by kernel_rfl) (by kernel_rfl) (by kernel_rfl) (by kernel_rfl) a r (Eq.trans (by kernel_rfl) h)⟩
def t_diag_parser_bytes : Tab Tryz.prog := ⟨tes, ses, fes, bes, [con_diag_parser_digits, con_diag_nibble], [], fds, [], qes, ges, mes, [], xes⟩
def h_diag_parser_bytes : Hint := (.s .n (.s .n (.s (.j ⟨[.d 17 .bool], [0, 3]⟩ false .n (.c (.s .n (.s .n .n)) .n)) (.s .n (.s (.s .n (.b (.l .g ⟨[.o 4 5 (.int .u8), .d 5 (.int .i64)], [0, 3]⟩ (.s (.s .n (.c .n .n)) (.s (.b .n) .n))))) (.s .n .n))))))
def con_diag_parser_bytes : Con Tryz.prog := ⟨47, [.p 59 P_diag_parser], [.d (.sl (.int .u8))], ⟨Tryz.f47, Tryz.func47, by kernel_rfl, by kernel_rfl⟩, m_diag_parser_bytes, fun a r h => mkM_ok (T := t_diag_parser_bytes) (N := 42) (own := [40]) (rng := []) (c := (codeOf Tryz.f47)) (h := h_diag_parser_bytes) (qs := [.tmp 2]) kMix Tryz.func47 (by kernel_rfl) (by kernel_rfl) (by kernel_rfl) (by kernel_rfl) a r (Eq.trans (by kernel_rfl) h)⟩
def t_diag_parser_text : Tab Tryz.prog := ⟨tes, ses, fes, bes, [con_diag_parser_skip, con_strings_Trim, con_diag_nibble], [], fds, [], qes, ges, mes, [], xes⟩
def h_diag_parser_text : Hint := (.s .n (.s .n (.j ⟨[.b 0 59 P_diag_parser], [0]⟩ true (.b (.l .g ⟨[.o 3 5 (.int .u8), .b 0 59 P_diag_parser], [0]⟩ (.s (.s .n (.c .n .n)) (.b (.s .n (.s .n (.b (.s .n (.c (.s .n .n) (.j ⟨[.d 31 .bool], [0, 3, 4]⟩ false .n (.c (.s .n (.s .n .n)) (.s .n (.c .n (.s .n (.c .n (.s .n (.c .n (.j ⟨[.d 60 .bool, .b 0 59 P_diag_parser], [0, 3]⟩ false .n (.c (.s .n (.j ⟨[.b 0 59 P_diag_parser], [0, 3, 4]⟩ false .n .n)) (.s .n (.s .n .n))))))))))))))))))))) (.s .n (.s .n .n)))))
def con_diag_parser_text : Con Tryz.prog := ⟨48, [.p 59 P_diag_parser], [.d (.sl (.int .u8))], ⟨Tryz.f48, Tryz.func48, by kernel_rfl, by kernel_rfl⟩, m_diag_parser_text, fun a r h => mkM_ok (T := t_diag_parser_text) (N := 124) (own := [47, 53, 59, 113]) (rng := []) (c := (codeOf Tryz.f48)) (h := h_diag_parser_text) (qs := [.tmp 2]) kMix Tryz.func48 (by kernel_rfl) (by kernel_rfl) (by kernel_rfl) (by kernel_rfl) a r (Eq.trans (by kernel_rfl) h)⟩
def t_diag_parser_need : Tab Tryz.prog := ⟨tes, ses, fes, bes, [con_diag_parser_skip], [], fds, [], qes, ges, mes, [], xes⟩
def h_diag_parser_need : Hint := .n
def con_diag_parser_need : Con Tryz.prog := ⟨51, [.p 59 P_diag_parser, .d .str], [], ⟨Tryz.f51, Tryz.func51, by kernel_rfl, by kernel_rfl⟩, m_diag_parser_need, fun a r h => mkM_ok (T := t_diag_parser_need) (N := 17) (own := []) (rng := []) (c := (codeOf Tryz.f51)) (h := h_diag_parser_need) (qs := []) kMix Tryz.func51 (by kernel_rfl) (by kernel_rfl) (by kernel_rfl) (by kernel_rfl) a r (Eq.trans (by kernel_rfl) h)⟩
theorem err_cells {lab : Lab} {w : World} (h : GL lab w) : (∃ tp p, w.cell? ⟨5, 0, none⟩ = some (.iface tp p)) ∧ ∃ tp p, w.cell? ⟨6, 0, none⟩ = some (.iface tp p) := by
 obtain ⟨w0, hf, hg⟩ := h
 obtain ⟨⟨t, p, h5⟩, ⟨t', p', h6⟩⟩ := hf.2.2.2.2
 have e5 := (hg 5 (by decide)).2.2
 have e6 := (hg 6 (by decide)).2.2
 exact ⟨⟨t, p, by rw [World.cell?_of_block e5]; exact h5⟩, ⟨t', p', by rw [World.cell?_of_block e6]; exact h6⟩⟩
theorem parseHexA_lt {l : List UInt8} {u : Nat} (h : Gk.parseHexA l = .ok u) : u < 18446744073709551616 := by
 unfold Gk.parseHexA at h
 split at h
 ·cases h
 ·exact Gk.parseHex_lt l 0 u (by omega) h
theorem parseUintB_lt {l : List UInt8} {u : Nat} (h : Lib.parseUintB 64 l = .ok u) : u < 18446744073709551616 := by
 unfold Lib.parseUintB at h
 split at h
 ·cases h
 ·rw [show (2 : Nat) ^ 64 - 1 = 18446744073709551615 by decide, Lib.parseUintM_64] at h
  exact Lib.parseUint10_lt l 0 u (by omega) h
def PuEnd (w : World) (r : UInt64 × Bool) (e : Ending) (w' : World) : Prop :=
 ∃ v, e = .returned (.tuple #[.int .u64 (r.1.toNat : Int), v]) ∧ ((r.2 = false ∧ v = .nilIface) ∨ (r.2 = true ∧ ∃ tp p, v = .iface tp p)) ∧ Below w.heap.size w w'
theorem c_strconv_ParseUint {lab : Lab} {w : World} (a0 : List UInt8) (a1 a2 : Int) (r : UInt64 × Bool) (h : m_strconv_ParseUint a0 a1 a2 = some r) (gl : GL lab w) :
  Calls Tryz.prog 53 [strV a0, .int .i64 a1, .int .i64 a2].toArray w (PuEnd w r) := by
 obtain ⟨⟨t5, p5, h5⟩, ⟨t6, p6, h6⟩⟩ := err_cells gl
 unfold m_strconv_ParseUint at h
 cases hb : (decide (a0.length ≤ 281474976710656) && a2 == 64) with
 | false => rw [hb] at h; cases h
 | true =>
  rw [hb] at h
  simp only [Bool.and_eq_true, decide_eq_true_eq, beq_iff_eq] at hb
  obtain ⟨hl, rfl⟩ := hb
  have hs : (⟨a0.toArray⟩ : ByteArray).size ≤ 281474976710656 := by show a0.toArray.size ≤ _; rw [List.size_toArray]; exact hl
  by_cases e1 : a1 = 10
  ·subst e1
   have h : some (puRes (Lib.parseUintB 64 a0)) = some r := h
   cases h
   rcases hp : Lib.parseUintB 64 a0 with u | _ | _
   ·skip
    refine (Tryz.strconv_ParseUint_10_at64_ok ⟨a0.toArray⟩ (by omega) u hp w).mono ?_
    rintro e w' ⟨rfl, hw⟩
    refine ⟨.nilIface, by simp only [puRes]; rw [UInt64.toNat_ofNat_of_lt' (parseUintB_lt hp)], .inl ⟨rfl, rfl⟩, ?_⟩
    rcases hw with rfl | rfl
    ·exact Below.refl _ _
    ·exact Lib.bytesWorld_below _ _ _
   ·skip
    refine (Tryz.strconv_ParseUint_10_at64_syntax ⟨a0.toArray⟩ hs hp _ w h5 (.inr ⟨_, _, rfl⟩)).mono ?_
    rintro e w' ⟨N, rfl, _, _, hB⟩
    exact ⟨_, rfl, .inr ⟨rfl, _, _, rfl⟩, hB⟩
   ·skip
    refine (Tryz.strconv_ParseUint_10_at64_range ⟨a0.toArray⟩ hs hp _ w h6 (.inr ⟨_, _, rfl⟩)).mono ?_
    rintro e w' ⟨N, rfl, _, _, hB⟩
    exact ⟨_, rfl, .inr ⟨rfl, _, _, rfl⟩, hB⟩
  ·have e2 : (a1 == 10) = false := by simpa using e1
   rw [e2] at h
   by_cases e3 : a1 = 16
   ·subst e3
    have h : some (puRes (Gk.parseHexA a0)) = some r := h
    cases h
    rcases hp : Gk.parseHexA a0 with u | _ | _
    ·skip
     refine (Gk.parse16_ok Tryz.laysPu14 ⟨a0.toArray⟩ (by omega) u hp w).mono ?_
     rintro e w' ⟨rfl, hw⟩
     exact ⟨.nilIface, by simp only [puRes]; rw [UInt64.toNat_ofNat_of_lt' (parseHexA_lt hp)], .inl ⟨rfl, rfl⟩, hw⟩
    ·skip
     refine (Gk.parse16_syntax Tryz.laysPu14 ⟨a0.toArray⟩ hs hp _ w h5 (.inr ⟨_, _, rfl⟩)).mono ?_
     rintro e w' ⟨N, rfl, hB⟩
     exact ⟨_, rfl, .inr ⟨rfl, _, _, rfl⟩, hB⟩
    ·skip
     refine (Gk.parse16_range Tryz.laysPu14 ⟨a0.toArray⟩ hs hp _ w h6 (.inr ⟨_, _, rfl⟩)).mono ?_
     rintro e w' ⟨N, rfl, hB⟩
     exact ⟨_, rfl, .inr ⟨rfl, _, _, rfl⟩, hB⟩
   ·have e4 : (a1 == 16) = false := by simpa using e3
    rw [e4] at h
    cases h
def con_strconv_ParseUint : Con Tryz.prog := ⟨53, [.d .str, .d (.int .i64), .d (.int .i64)], [.d (.int .u64), .d .err], ⟨Tryz.f53, Tryz.func53, by kernel_rfl, by kernel_rfl⟩, m_strconv_ParseUint, by
 intro a r h k kp gp lab w vs t gl _ hk hargs
 match vs, hargs with
 | [v1, v2, v3], hargs =>
  obtain ⟨h1, h2, h3, _⟩ := hargs
  obtain rfl := Dat.str h1
  obtain rfl := Dat.int (k := .i64) h2
  obtain rfl := Dat.int (k := .i64) h3
  refine (c_strconv_ParseUint a.1 a.2.1 a.2.2.1 r h gl).mono ?_
  rintro e w' ⟨v, rfl, hv, hB⟩
  have hste : Ste lab 0 w lab w' := ⟨hB.os, hB.tape, hB.output, hB.size, fun b hb _ => hB.block b hb, fun _ _ => rfl, fun b hb => t b (Nat.le_trans hB.size hb)⟩
  obtain ⟨r1, r2⟩ := r
  refine ⟨lab, [_, v], rfl, hste.stp (.inr rfl), Dat.ofInt (k := .u64) r1, ?_, trivial⟩
  rcases hv with ⟨e1, rfl⟩ | ⟨e1, tp, p, rfl⟩
  ·have e1 : r2 = false := e1
   subst e1
   exact ⟨[.nilIface], rfl, rfl⟩
  ·have e1 : r2 = true := e1
   subst e1
   exact ⟨[.iface tp p], ⟨tp, p, rfl⟩, rfl⟩⟩
def t_diag_parser_number : Tab Tryz.prog := ⟨tes, ses, fes, bes, [con_strconv_ParseUint], [], fds, [], qes, ges, mes, [], xes⟩
def h_diag_parser_number : Hint := (.s .n (.s .n (.j ⟨[.d 3 (.int .i64)], [0]⟩ false (.b (.l .g ⟨[.d 3 (.int .i64)], [0]⟩ (.s (.j ⟨[.d 30 .bool], [0, 3]⟩ false .n (.c .n .n)) (.b .n)))) (.s .n (.j ⟨[.b 0 59 P_diag_parser], [0, 3, 4]⟩ false .n (.s .n (.s .n .n)))))))
def con_diag_parser_number : Con Tryz.prog := ⟨50, [.p 59 P_diag_parser], [.d (.int .u64)], ⟨Tryz.f50, Tryz.func50, by kernel_rfl, by kernel_rfl⟩, m_diag_parser_number, fun a r h => mkM_ok (T := t_diag_parser_number) (N := 76) (own := []) (rng := []) (c := (codeOf Tryz.f50)) (h := h_diag_parser_number) (qs := [.tmp 2]) kMix Tryz.func50 (by kernel_rfl) (by kernel_rfl) (by kernel_rfl) (by kernel_rfl) a r (Eq.trans (by kernel_rfl) h)⟩
def cz_diag_parser_item (mf : cur [.p 59 P_diag_parser, .d (.int .i64)] (Option (tupR (([.d .tree] : List RK) ++ outs [.p 59 P_diag_parser, .d (.int .i64)])))) (okf : ∀ a r, app1 [.p 59 P_diag_parser, .d (.int .i64)] mf a = some r → OKc Tryz.prog 30 [.p 59 P_diag_parser, .d (.int .i64)] [.d .tree] a (toHL _ r)) : Con Tryz.prog := ⟨30, [.p 59 P_diag_parser, .d (.int .i64)], [.d .tree], ⟨Tryz.f30, Tryz.func30, by kernel_rfl, by kernel_rfl⟩, mf, okf⟩
def t_diag_parser_list (mf : cur [.p 59 P_diag_parser, .d (.int .i64)] (Option (tupR (([.d .tree] : List RK) ++ outs [.p 59 P_diag_parser, .d (.int .i64)])))) (okf : ∀ a r, app1 [.p 59 P_diag_parser, .d (.int .i64)] mf a = some r → OKc Tryz.prog 30 [.p 59 P_diag_parser, .d (.int .i64)] [.d .tree] a (toHL _ r)) : Tab Tryz.prog := ⟨tes, ses, fes, bes, [con_diag_parser_skip, con_diag_parser_need, cz_diag_parser_item mf okf], [], fds, [], qes, ges, mes, [], xes⟩
def h_diag_parser_list : Hint := (.s .n (.s .n (.j ⟨[.o 9 26 .tree, .b 0 59 P_diag_parser], [0]⟩ false (.b (.l .g ⟨[.o 9 26 .tree, .b 0 59 P_diag_parser], [0, 1, 2, 3]⟩ (.s (.j ⟨[.d 20 .bool, .b 0 59 P_diag_parser], [0, 1, 2, 3, 9]⟩ false .n (.c .n .n)) (.b (.j ⟨[.b 0 59 P_diag_parser], [0, 1, 2, 3, 9]⟩ false (.s .n (.c .n .n)) (.s .n (.s .n (.c (.s .n .n) .n)))))))) (.s .n .n))))
def cb_diag_parser_list (mf : cur [.p 59 P_diag_parser, .d (.int .i64)] (Option (tupR (([.d .tree] : List RK) ++ outs [.p 59 P_diag_parser, .d (.int .i64)])))) (okf : ∀ a r, app1 [.p 59 P_diag_parser, .d (.int .i64)] mf a = some r → OKc Tryz.prog 30 [.p 59 P_diag_parser, .d (.int .i64)] [.d .tree] a (toHL _ r)) : Con Tryz.prog := ⟨49, [.p 59 P_diag_parser, .d .str, .d .bool, .d (.int .i64)], [.d (.sl .tree)], ⟨Tryz.f49, Tryz.func49, by kernel_rfl, by kernel_rfl⟩, b_diag_parser_list mf, fun a r h => mkM_ok (T := t_diag_parser_list mf okf) (N := 42) (own := [31, 40]) (rng := []) (c := (codeOf Tryz.f49)) (h := h_diag_parser_list) (qs := [.tmp 8]) (ps := [.p 59 P_diag_parser, .d .str, .d .bool, .d (.int .i64)]) (rs := [.d (.sl .tree)]) kMix Tryz.func49 (by kernel_rfl) (by kernel_rfl) (by kernel_rfl) (by kernel_rfl) a r (Eq.trans (by kernel_rfl) h)⟩
def t_diag_parser_item (mf : cur [.p 59 P_diag_parser, .d (.int .i64)] (Option (tupR (([.d .tree] : List RK) ++ outs [.p 59 P_diag_parser, .d (.int .i64)])))) (okf : ∀ a r, app1 [.p 59 P_diag_parser, .d (.int .i64)] mf a = some r → OKc Tryz.prog 30 [.p 59 P_diag_parser, .d (.int .i64)] [.d .tree] a (toHL _ r)) : Tab Tryz.prog := ⟨tes, ses, fes, bes, [con_diag_parser_skip, con_diag_parser_bytes, con_diag_parser_text, cb_diag_parser_list mf okf, con_diag_parser_number, con_diag_parser_need, con_diag_parser_digits, con_strconv_ParseUint, cz_diag_parser_item mf okf], [], fds, [], qes, ges, mes, [], xes⟩
def h_diag_parser_item : Hint := (.s .n (.s .n (.s (.j ⟨[.d 35 .bool], [0, 1, 4]⟩ false .n (.c (.s .n (.s .n .n)) .n)) (.s (.b (.s .n (.c (.s .n .n) (.s .n (.c (.s .n .n) (.s .n (.c (.s .n .n) (.s .n (.c (.s .n .n) (.s .n (.c (.s .n (.s .n (.s .n .n))) (.s .n (.c (.s .n (.s .n (.j ⟨[.b 0 59 P_diag_parser], [0, 4, 7]⟩ false .n (.s .n .n)))) (.s .n (.c (.s (.s .n (.c (.s .n .n) .n)) (.s .n (.j ⟨[.b 0 59 P_diag_parser], [0, 4, 9]⟩ false .n (.s .n .n)))) .n))))))))))))))) (.s (.s .n (.b (.l .g ⟨[.d 128 (.int .i64), .b 0 59 P_diag_parser, .b 4 26 .tree], [0, 1, 4, 127]⟩ (.s .n (.s (.c .n .n) (.s (.b (.s .n (.s .n (.c (.s .n .n) .n)))) .n)))))) (.s .n (.s (.s .n (.c (.s .n .n) .n)) (.s .n (.s .n (.s .n .n))))))))))
theorem ob_diag_parser_item (mf : cur [.p 59 P_diag_parser, .d (.int .i64)] (Option (tupR (([.d .tree] : List RK) ++ outs [.p 59 P_diag_parser, .d (.int .i64)])))) (okf : ∀ a r, app1 [.p 59 P_diag_parser, .d (.int .i64)] mf a = some r → OKc Tryz.prog 30 [.p 59 P_diag_parser, .d (.int .i64)] [.d .tree] a (toHL _ r)) : ∀ a r, app1 [.p 59 P_diag_parser, .d (.int .i64)] (b_diag_parser_item mf) a = some r → OKc Tryz.prog 30 [.p 59 P_diag_parser, .d (.int .i64)] [.d .tree] a (toHL _ r) := fun a r h => mkM_ok (T := t_diag_parser_item mf okf) (N := 157) (own := []) (rng := []) (c := (codeOf Tryz.f30)) (h := h_diag_parser_item) (qs := [.cell 4 26]) (ps := [.p 59 P_diag_parser, .d (.int .i64)]) (rs := [.d .tree]) kMix Tryz.func30 (by kernel_rfl) (by kernel_rfl) (by kernel_rfl) (by kernel_rfl) a r (Eq.trans (by kernel_rfl) h)
theorem on_diag_parser_item : ∀ (n : Nat) a r, app1 [.p 59 P_diag_parser, .d (.int .i64)] (n_diag_parser_item n) a = some r → OKc Tryz.prog 30 [.p 59 P_diag_parser, .d (.int .i64)] [.d .tree] a (toHL _ r)
 | 0, a, r, h => by cases (show (none : Option _) = some r from h)
 | n + 1, a, r, h => ob_diag_parser_item (n_diag_parser_item n) (on_diag_parser_item n) a r h
def con_diag_parser_item : Con Tryz.prog := ⟨30, [.p 59 P_diag_parser, .d (.int .i64)], [.d .tree], ⟨Tryz.f30, Tryz.func30, by kernel_rfl, by kernel_rfl⟩, m_diag_parser_item, fun a r h => on_diag_parser_item 40 a r h⟩
def con_diag_parser_list : Con Tryz.prog := ⟨49, [.p 59 P_diag_parser, .d .str, .d .bool, .d (.int .i64)], [.d (.sl .tree)], ⟨Tryz.f49, Tryz.func49, by kernel_rfl, by kernel_rfl⟩, m_diag_parser_list, fun a r h => (cb_diag_parser_list (n_diag_parser_item 40) (on_diag_parser_item 40)).ok a r h⟩
def t_diag_Parse : Tab Tryz.prog := ⟨tes, ses, fes, bes, [con_diag_parser_item, con_cbor_Valid, con_diag_put], [], fds, [], qes, ges, mes, [], xes⟩
def h_diag_Parse : Hint := (.s .n (.s .n (.s .n (.s (.j ⟨[.d 20 .bool], [0, 2, 5]⟩ false .n (.c (.s .n .n) .n)) (.s (.s .n (.c (.s .n .n) .n)) (.s .n .n))))))
def con_diag_Parse : Con Tryz.prog := ⟨13, [.d .str], [.d .tree, .d (.int .i64)], ⟨Tryz.f13, Tryz.func13, by kernel_rfl, by kernel_rfl⟩, m_diag_Parse, fun a r h => mkM_ok (T := t_diag_Parse) (N := 29) (own := []) (rng := []) (c := (codeOf Tryz.f13)) (h := h_diag_Parse) (qs := [.cell 2 26, .tmp 3]) kMix Tryz.func13 (by kernel_rfl) (by kernel_rfl) (by kernel_rfl) (by kernel_rfl) a r (Eq.trans (by kernel_rfl) h)⟩
end
end Go.Proofs.YtbfkbakadpkgoaaGreatDoor
